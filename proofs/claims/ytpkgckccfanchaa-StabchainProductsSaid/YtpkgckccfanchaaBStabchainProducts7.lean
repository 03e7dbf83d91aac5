/- Part of the proof of StabchainProducts: merged and pruned by merge2.py. -/
import Derived.Test.YtpkgckccfanchaaBStabchainProducts3
import Derived.Test.YtpkgckccfanchaaBStabchainProducts6
import Derived.Test.YtpkgckccfanchaaBStabchainProducts5

namespace Go.Proofs.Ytpkgckccfanchaa.M
open Go.RowKit YtpkgckccfanchaaW.PrintWords YtpkgckccfanchaaW.PrintLast YtpkgckccfanchaaW.PrintMore
attribute [local go_sem] pzW pzX pzY pzZ pzS pzT pzU pzV
set_option linter.unusedVariables false
set_option linter.unusedSimpArgs false
def ra_Make.f (a0 : Bool) (l1 : List Int) : Option (Bool × List Int) := (ra_trim.f l1).bind fun t185 => (if a0 = true then (some (decide (0 < t185.length), t185)) else (some (false, t185)))
set_option maxHeartbeats 8000000 in
set_option maxRecDepth 100000 in
theorem ra_Make.calls (a0 : Bool) (A1 : Option Addr) (c1 : Nat) (l1 : List Int) (r1 : Bool) (r2 : List Int) (w : World) (hr1 : Kd.C (Kd.int .u32) w A1 l1.length l1) (hc1 : l1.length ≤ c1) (h : ra_Make.f a0 l1 = some (r1, r2)) :
    Calls Try.prog 67 #[.bool a0, .slice A1 l1.length c1] w fun e w' => ∃ v1_ : Value, e = .returned (.agg #[.bool r1, v1_]) ∧ Kd.R (Kd.int .u32) 98 w' w.heap.size (fun _ => True) v1_ r2 ∧ Below w.heap.size w w' := by
  have hu24 := Try.underlying24; have HR1 := Aside0.mk hr1; have HC1 := Aside0.mk hc1; clear hr1 hc1; have HB := Aside0.mk (Below.refl w.heap.size w); have H : ((ra_trim.f l1).bind fun t185 => (if a0 = true then (some (decide (0 < t185.length), t185)) else (some (false, t185)))) = some (r1, r2) := h; clear h; replace H := Option.bind_eq_some_iff.mp H; obtain ⟨t185, A30, H⟩ := H; replace H : (if a0 = true then (some (decide (0 < t185.length), t185)) else (some (false, t185))) = some (r1, r2) := H; have A3 := Aside0.mk A30; clear A30
  by_cases c4 : a0 = true
  · subst c4
    have H1 : (some (decide (0 < t185.length), t185)) = some (r1, r2) := by rw [if_pos rfl] at H; exact H
    clear H; have H := H1; clear H1
    simp only [Option.some.injEq, Prod.mk.injEq] at H
    obtain ⟨rfl, rfl⟩ := H
    go_enter Try.func67, Try.ntmps67
    go_wp2_with (first | ((with_reducible refine pzQ (N := 4) rfl ?_); (try (refine gate_guard (by rfl) ?_; dsimp only)); refine pzR ?hg (N := 4) ?hd (cs := #[.bool false, .slice none 0 0]) (t := 24) ?hr ?_; (case hd => rfl); (case hg => rfl); (case hr => first | (go_simp; done) | (go_simp; rfl)); intro gb184 hg w5 hbox hb; have n0_ := Aside0.mk (pzL (by repeat (first | (with_reducible first | exact HB.out | apply pzB | apply pzA | apply pzC) | exact HB.out)) hb); have n1_ := Aside0.mk (hbox); have n2_ := Aside0.mk ((by rw [hg]; exact (pzJ (by repeat (first | (with_reducible first | exact HB.out | apply pzB | apply pzA | apply pzC) | exact HB.out))) : w.heap.size ≤ gb184)); have n3_ := Aside0.mk ((by rw [hg]; exact (pzJ (by repeat (first | (with_reducible first | exact HB.out | apply pzB | apply pzA | apply pzC) | exact HB.out))) : w.heap.size ≤ gb184)); clear HB; have HB := n0_; have BK184 := n1_; have GW184 := n2_; have GE184 := n3_; clear n0_ n1_ n2_ n3_; clear hb hbox hg) | ((with_reducible refine pzP (f := 61) rfl ?_); refine pyH (some 7) rfl rfl Try.func61 (by kernel_rfl) rfl #[.slice A1 l1.length c1] rfl (by (try simp only [List.map_toArray, List.map_cons, List.map_nil]); first | done | rfl | (simp only [List.length_drop, List.length_take]; rfl)) ?_; (with_reducible refine (ra_trim.calls _ _ l1 t185 _ ?side1 ?side2 A3.out).mono ?_); (case side1 => repeat (first | exact (Kd.C_below HR1.out HB.out) | (with_reducible refine Kd.C_alloc ?_ _) | (with_reducible refine Kd.C_drewN ?_ _) | (with_reducible refine Kd.C_drew ?_))); (case side2 => exact HC1.out); rintro e w6 ⟨v186, rfl, ho0, hb⟩; refine ⟨_, rfl, ?_⟩; have n0_ := Aside0.mk (Kd.R_lower ho0 (pzJ (by repeat (first | (with_reducible first | exact HB.out | apply pzB | apply pzA | apply pzC | refine pzD ?_ GE184.out) | exact HB.out)))); have n1_ := Aside0.mk (pzI (g := gb184) (o := .cells #[.bool false, .slice none 0 0] 24 (0, 0)) (by (with_reducible repeat (first | refine pzF ?_ _ | refine pzG ?_ | refine pzE ?_ _)); exact BK184.out) hb); have n2_ := Aside0.mk (pzL (by repeat (first | (with_reducible first | exact HB.out | apply pzB | apply pzA | apply pzC | refine pzD ?_ GE184.out) | exact HB.out)) hb); clear BK184; clear HB; have HO187 := n0_; have BK184 := n1_; have HB := n2_; clear n0_ n1_ n2_; (try clear hb); (try clear hb2); (try clear hk); (try clear hi); (try clear ho0); obtain ⟨Ao7, co7, eo7⟩ := Kd.R_slice HO187.out; subst eo7; have hcz8_0 : w6.cell? ⟨gb184, 0, none⟩ = some (.bool false) := (pzH BK184.out 0).trans rfl; have hcz8_1 : w6.cell? ⟨gb184, 1, none⟩ = some (.slice none 0 0) := (pzH BK184.out 1).trans rfl; have hfz8_0 := pzK BK184.out 0; have hfz8_1 := pzK BK184.out 1))
    refine bodyPost_ret (results_cell_row rfl _ _ gb184 24 #[.bool (decide (0 < t185.length)), .slice Ao7 t185.length co7] (0, 0) _ rfl (by (with_reducible repeat (first | refine pzF ?_ _ | refine pzG ?_ | refine pzE ?_ _)); refine pyC (cs := #[.bool (decide (0 < t185.length)), .slice none 0 0]) ?_ 1 _ rfl; (with_reducible repeat (first | refine pzF ?_ _ | refine pzG ?_ | refine pzE ?_ _)); refine pyC (cs := #[.bool false, .slice none 0 0]) ?_ 0 _ rfl; (with_reducible repeat (first | refine pzF ?_ _ | refine pzG ?_ | refine pzE ?_ _)); exact BK184.out) Try.underlying24 rfl (by kernel_rfl)) rfl ?_
    exact ⟨_, by first | rfl | (simp [pzN, pzM] <;> rfl) | (simp [*, pzN, pzM] <;> rfl), by (with_reducible repeat (first | apply Kd.R_alloc | apply Kd.R_drewN | apply Kd.R_drew)); exact Kd.R_mono (Kd.R_far (p := ⟨gb184, 1, none⟩) (Kd.R_far (p := ⟨gb184, 0, none⟩) (Kd.R_types HO187.out BK184.out (by decide)) (fun _ hk => hk.2) (.bool (decide (0 < t185.length)))) (fun _ hk => hk.2) (.slice Ao7 t185.length co7)) (fun _ hk => trivial), by repeat (first | (with_reducible first | exact HB.out | apply pzB | apply pzA | apply pzC | refine pzD ?_ GE184.out) | exact HB.out)⟩
  · replace c4 := Bool.eq_false_iff.mpr c4
    subst c4
    have H1 : (some (false, t185)) = some (r1, r2) := by rw [if_neg (show ¬ (false = true) by decide)] at H; exact H
    clear H; have H := H1; clear H1
    simp only [Option.some.injEq, Prod.mk.injEq] at H
    obtain ⟨rfl, rfl⟩ := H
    go_enter Try.func67, Try.ntmps67
    go_wp2_with (first | ((with_reducible refine pzQ (N := 4) rfl ?_); (try (refine gate_guard (by rfl) ?_; dsimp only)); refine pzR ?hg (N := 4) ?hd (cs := #[.bool false, .slice none 0 0]) (t := 24) ?hr ?_; (case hd => rfl); (case hg => rfl); (case hr => first | (go_simp; done) | (go_simp; rfl)); intro gb184 hg w9 hbox hb; have n0_ := Aside0.mk (pzL (by repeat (first | (with_reducible first | exact HB.out | apply pzB | apply pzA | apply pzC) | exact HB.out)) hb); have n1_ := Aside0.mk (hbox); have n2_ := Aside0.mk ((by rw [hg]; exact (pzJ (by repeat (first | (with_reducible first | exact HB.out | apply pzB | apply pzA | apply pzC) | exact HB.out))) : w.heap.size ≤ gb184)); have n3_ := Aside0.mk ((by rw [hg]; exact (pzJ (by repeat (first | (with_reducible first | exact HB.out | apply pzB | apply pzA | apply pzC) | exact HB.out))) : w.heap.size ≤ gb184)); clear HB; have HB := n0_; have BK184 := n1_; have GW184 := n2_; have GE184 := n3_; clear n0_ n1_ n2_ n3_; clear hb hbox hg) | ((with_reducible refine pzP (f := 61) rfl ?_); refine pyH (some 7) rfl rfl Try.func61 (by kernel_rfl) rfl #[.slice A1 l1.length c1] rfl (by (try simp only [List.map_toArray, List.map_cons, List.map_nil]); first | done | rfl | (simp only [List.length_drop, List.length_take]; rfl)) ?_; (with_reducible refine (ra_trim.calls _ _ l1 t185 _ ?side1 ?side2 A3.out).mono ?_); (case side1 => repeat (first | exact (Kd.C_below HR1.out HB.out) | (with_reducible refine Kd.C_alloc ?_ _) | (with_reducible refine Kd.C_drewN ?_ _) | (with_reducible refine Kd.C_drew ?_))); (case side2 => exact HC1.out); rintro e w10 ⟨v186, rfl, ho0, hb⟩; refine ⟨_, rfl, ?_⟩; have n0_ := Aside0.mk (Kd.R_lower ho0 (pzJ (by repeat (first | (with_reducible first | exact HB.out | apply pzB | apply pzA | apply pzC | refine pzD ?_ GE184.out) | exact HB.out)))); have n1_ := Aside0.mk (pzI (g := gb184) (o := .cells #[.bool false, .slice none 0 0] 24 (0, 0)) (by (with_reducible repeat (first | refine pzF ?_ _ | refine pzG ?_ | refine pzE ?_ _)); exact BK184.out) hb); have n2_ := Aside0.mk (pzL (by repeat (first | (with_reducible first | exact HB.out | apply pzB | apply pzA | apply pzC | refine pzD ?_ GE184.out) | exact HB.out)) hb); clear BK184; clear HB; have HO187 := n0_; have BK184 := n1_; have HB := n2_; clear n0_ n1_ n2_; (try clear hb); (try clear hb2); (try clear hk); (try clear hi); (try clear ho0); obtain ⟨Ao11, co11, eo11⟩ := Kd.R_slice HO187.out; subst eo11; have hcz12_0 : w10.cell? ⟨gb184, 0, none⟩ = some (.bool false) := (pzH BK184.out 0).trans rfl; have hcz12_1 : w10.cell? ⟨gb184, 1, none⟩ = some (.slice none 0 0) := (pzH BK184.out 1).trans rfl; have hfz12_0 := pzK BK184.out 0; have hfz12_1 := pzK BK184.out 1))
    refine bodyPost_ret (results_cell_row rfl _ _ gb184 24 #[.bool false, .slice Ao11 t185.length co11] (0, 0) _ rfl (by (with_reducible repeat (first | refine pzF ?_ _ | refine pzG ?_ | refine pzE ?_ _)); refine pyC (cs := #[.bool false, .slice none 0 0]) ?_ 1 _ rfl; (with_reducible repeat (first | refine pzF ?_ _ | refine pzG ?_ | refine pzE ?_ _)); refine pyC (cs := #[.bool false, .slice none 0 0]) ?_ 0 _ rfl; (with_reducible repeat (first | refine pzF ?_ _ | refine pzG ?_ | refine pzE ?_ _)); exact BK184.out) Try.underlying24 rfl (by kernel_rfl)) rfl ?_
    exact ⟨_, by first | rfl | (simp [pzN, pzM] <;> rfl) | (simp [*, pzN, pzM] <;> rfl), by (with_reducible repeat (first | apply Kd.R_alloc | apply Kd.R_drewN | apply Kd.R_drew)); exact Kd.R_mono (Kd.R_far (p := ⟨gb184, 1, none⟩) (Kd.R_far (p := ⟨gb184, 0, none⟩) (Kd.R_types HO187.out BK184.out (by decide)) (fun _ hk => hk.2) (.bool false)) (fun _ hk => hk.2) (.slice Ao11 t185.length co11)) (fun _ hk => trivial), by repeat (first | (with_reducible first | exact HB.out | apply pzB | apply pzA | apply pzC | refine pzD ?_ GE184.out) | exact HB.out)⟩
end Go.Proofs.Ytpkgckccfanchaa.M

namespace Go.Proofs.Ytpkgckccfanchaa.M
open Go.RowKit YtpkgckccfanchaaW.PrintWords YtpkgckccfanchaaW.PrintLast YtpkgckccfanchaaW.PrintMore
attribute [local go_sem] pzW pzX pzY pzZ pzS pzT pzU pzV
set_option linter.unusedVariables false
set_option linter.unusedSimpArgs false
def ra_word.f (a0 : Bool) (a1 : Int) : Option (Bool × List Int) := (ra_Make.f a0 (([(a1) % 4294967296, (a1 / 4294967296) % 4294967296] : List Int))).bind fun bt192 => (some (bt192.1, bt192.2))
set_option maxHeartbeats 8000000 in
set_option maxRecDepth 100000 in
theorem ra_word.calls (a0 : Bool) (a1 : Int) (r1 : Bool) (r2 : List Int) (w : World) (h : ra_word.f a0 a1 = some (r1, r2)) :
    Calls Try.prog 51 #[.bool a0, .int .u64 a1] w fun e w' => ∃ v1_ : Value, e = .returned (.agg #[.bool r1, v1_]) ∧ Kd.R (Kd.int .u32) 98 w' w.heap.size (fun _ => True) v1_ r2 ∧ Below w.heap.size w w' := by
  have hu24 := Try.underlying24; have HB := Aside0.mk (Below.refl w.heap.size w); have H : ((ra_Make.f a0 (([(a1) % 4294967296, (a1 / 4294967296) % 4294967296] : List Int))).bind fun bt192 => (some (bt192.1, bt192.2))) = some (r1, r2) := h; clear h
  obtain ⟨y189, hy189⟩ : ∃ y_ : List Int, y_ = (([(a1) % 4294967296, (a1 / 4294967296) % 4294967296] : List Int)) := ⟨_, rfl⟩
  replace H : ((ra_Make.f a0 y189).bind fun bt192 => (some (bt192.1, bt192.2))) = some (r1, r2) := by first | (rw [hy189]; with_reducible exact H) | (have H2_ := (Option.bind_some _ _).symm.trans H; rw [hy189]; with_reducible exact H2_) | (have H2_ := (Option.bind_some _ _).symm.trans H; with_reducible exact H2_) | with_reducible exact H | (rw [hy189]; exact H) | exact H
  have Ny189 := Aside0.mk hy189; clear hy189; replace H := Option.bind_eq_some_iff.mp H; obtain ⟨⟨t192, t193⟩, A30, H⟩ := H; replace H : (some (t192, t193)) = some (r1, r2) := H; have A3 := Aside0.mk A30; clear A30
  simp only [Option.some.injEq, Prod.mk.injEq] at H
  obtain ⟨rfl, rfl⟩ := H
  go_enter Try.func51, Try.ntmps51
  go_wp2_with (first | ((with_reducible refine pzQ (N := 4) rfl ?_); refine pzR ?hg (N := 4) ?hd (cs := #[.bool false, .slice none 0 0]) (t := 24) ?hr ?_; (case hd => rfl); (case hg => rfl); (case hr => first | (go_simp; done) | (go_simp; rfl)); intro gb188 hg w4 hbox hb; have n0_ := Aside0.mk (pzL (by repeat (first | (with_reducible first | exact HB.out | apply pzB | apply pzA | apply pzC) | exact HB.out)) hb); have n1_ := Aside0.mk (hbox); have n2_ := Aside0.mk ((by rw [hg]; exact (pzJ (by repeat (first | (with_reducible first | exact HB.out | apply pzB | apply pzA | apply pzC) | exact HB.out))) : w.heap.size ≤ gb188)); have n3_ := Aside0.mk ((by rw [hg]; exact (pzJ (by repeat (first | (with_reducible first | exact HB.out | apply pzB | apply pzA | apply pzC) | exact HB.out))) : w.heap.size ≤ gb188)); clear HB; have HB := n0_; have BK188 := n1_; have GW188 := n2_; have GE188 := n3_; clear n0_ n1_ n2_ n3_; clear hb hbox hg) | ((with_reducible refine pzQ (N := 11) rfl ?_); refine Kd.R_lit (Kd.int .u32) _ 98 ?hg (N := 11) ?hd (xs := ([(a1) % 4294967296, (a1 / 4294967296) % 4294967296] : List Int)) (inner := [.int .u32 ((a1) % 4294967296), .int .u32 ((a1 / 4294967296) % 4294967296)]) (ok := fun _ => True) (okp := fun _ => True) ?hr ?hp (fun _ hk => hk) trivial (Below.refl _ _) (Nat.le_refl _) (by simp) ?_; (case hd => rfl); (case hg => rfl); (case hr => first | (go_simp; done) | (go_simp; rfl)); (case hp => exact (Reps.one (show Kd.M (Kd.int .u32) _ _ _ ((a1) % 4294967296) [.int .u32 ((a1) % 4294967296)] from rfl) (Reps.one (show Kd.M (Kd.int .u32) _ _ _ ((a1 / 4294967296) % 4294967296) [.int .u32 ((a1 / 4294967296) % 4294967296)] from rfl) (Reps.none _ _)))); intro v190 w5 ho6 hb hg_ hnew_; clear hg_ hnew_; (first | rw [← Ny189.out] at ho6 | (simp only [Int.reduceToNat] at ho6; rw [← Ny189.out] at ho6)); have n0_ := Aside0.mk (Kd.R_lower ho6 (pzJ (by repeat (first | (with_reducible first | exact HB.out | apply pzB | apply pzA | apply pzC | refine pzD ?_ GE188.out) | exact HB.out)))); have n1_ := Aside0.mk (pzI (g := gb188) (o := .cells #[.bool false, .slice none 0 0] 24 (0, 0)) (by (with_reducible repeat (first | refine pzF ?_ _ | refine pzG ?_ | refine pzE ?_ _)); exact BK188.out) hb); have n2_ := Aside0.mk (pzL (by repeat (first | (with_reducible first | exact HB.out | apply pzB | apply pzA | apply pzC | refine pzD ?_ GE188.out) | exact HB.out)) hb); clear BK188; clear HB; have HO191 := n0_; have BK188 := n1_; have HB := n2_; clear n0_ n1_ n2_; clear hb ho6; obtain ⟨Ao7, co7, eo7⟩ := Kd.R_slice HO191.out; subst eo7) | ((with_reducible refine pzP (f := 67) rfl ?_); refine pyH (some 12) rfl rfl Try.func67 (by kernel_rfl) rfl #[.bool a0, .slice Ao7 y189.length co7] rfl (by (try simp only [List.map_toArray, List.map_cons, List.map_nil]); first | done | rfl | (simp only [List.length_drop, List.length_take]; rfl)) ?_; (with_reducible refine (ra_Make.calls a0 _ _ y189 t192 t193 _ ?side1 ?side2 A3.out).mono ?_); (case side1 => repeat (first | exact (Kd.R_reads' HO191.out).2.2 | (with_reducible refine Kd.C_alloc ?_ _) | (with_reducible refine Kd.C_drewN ?_ _) | (with_reducible refine Kd.C_drew ?_))); (case side2 => exact (Kd.R_reads' HO191.out).2.1); rintro e w8 ⟨v194, rfl, ho0, hb⟩; refine ⟨_, rfl, ?_⟩; have n0_ := Aside0.mk (Kd.R_elder' (by (with_reducible repeat (first | apply Kd.R_alloc | apply Kd.R_drewN | apply Kd.R_drew)); exact HO191.out) (Kd.R_base ho0) hb); have n1_ := Aside0.mk (Kd.R_lower (Kd.R_new' ho0 (Kd.R_lt (by (with_reducible repeat (first | apply Kd.R_alloc | apply Kd.R_drewN | apply Kd.R_drew)); exact HO191.out))) (pzJ (by repeat (first | (with_reducible first | exact HB.out | apply pzB | apply pzA | apply pzC | refine pzD ?_ GE188.out) | exact HB.out)))); have n2_ := Aside0.mk (pzI (g := gb188) (o := .cells #[.bool false, .slice none 0 0] 24 (0, 0)) (by (with_reducible repeat (first | refine pzF ?_ _ | refine pzG ?_ | refine pzE ?_ _)); exact BK188.out) hb); have n3_ := Aside0.mk (pzL (by repeat (first | (with_reducible first | exact HB.out | apply pzB | apply pzA | apply pzC | refine pzD ?_ GE188.out) | exact HB.out)) hb); clear HO191; clear BK188; clear HB; have HO191 := n0_; have HO195 := n1_; have BK188 := n2_; have HB := n3_; clear n0_ n1_ n2_ n3_; (try clear hb); (try clear hb2); (try clear hk); (try clear hi); (try clear ho0); have hcz9_0 : w8.cell? ⟨gb188, 0, none⟩ = some (.bool false) := (pzH BK188.out 0).trans rfl; have hcz9_1 : w8.cell? ⟨gb188, 1, none⟩ = some (.slice none 0 0) := (pzH BK188.out 1).trans rfl; have hfz9_0 := pzK BK188.out 0; have hfz9_1 := pzK BK188.out 1; obtain ⟨Ao10, co10, eo10⟩ := Kd.R_slice HO195.out; subst eo10))
  refine bodyPost_ret (results_cell_row rfl _ _ gb188 24 #[.bool t192, .slice Ao10 t193.length co10] (0, 0) _ rfl (by (with_reducible repeat (first | refine pzF ?_ _ | refine pzG ?_ | refine pzE ?_ _)); refine pyC (cs := #[.bool t192, .slice none 0 0]) ?_ 1 _ rfl; (with_reducible repeat (first | refine pzF ?_ _ | refine pzG ?_ | refine pzE ?_ _)); refine pyC (cs := #[.bool false, .slice none 0 0]) ?_ 0 _ rfl; (with_reducible repeat (first | refine pzF ?_ _ | refine pzG ?_ | refine pzE ?_ _)); exact BK188.out) Try.underlying24 rfl (by kernel_rfl)) rfl ?_
  exact ⟨_, by first | rfl | (simp [pzN, pzM] <;> rfl) | (simp [*, pzN, pzM] <;> rfl), by (with_reducible repeat (first | apply Kd.R_alloc | apply Kd.R_drewN | apply Kd.R_drew)); exact Kd.R_mono (Kd.R_far (p := ⟨gb188, 1, none⟩) (Kd.R_far (p := ⟨gb188, 0, none⟩) (Kd.R_types HO195.out BK188.out (by decide)) (fun _ hk => hk.2) (.bool t192)) (fun _ hk => hk.2) (.slice Ao10 t193.length co10)) (fun _ hk => trivial), by repeat (first | (with_reducible first | exact HB.out | apply pzB | apply pzA | apply pzC | refine pzD ?_ GE188.out) | exact HB.out)⟩
end Go.Proofs.Ytpkgckccfanchaa.M

namespace Go.Proofs.Ytpkgckccfanchaa.M
open Go.RowKit YtpkgckccfanchaaW.PrintWords YtpkgckccfanchaaW.PrintLast YtpkgckccfanchaaW.PrintMore
attribute [local go_sem] pzW pzX pzY pzZ pzS pzT pzU pzV
set_option linter.unusedVariables false
set_option linter.unusedSimpArgs false
def ra_Small.f (a0 : Int) : Option (Bool × List Int) := if a0 < 0 then ((ra_word.f true (IntKind.u64.wrap (-(IntKind.u64.wrap (a0))))).bind fun bt197 => (some (bt197.1, bt197.2))) else ((ra_word.f false (IntKind.u64.wrap (a0))).bind fun bt201 => (some (bt201.1, bt201.2)))
set_option maxHeartbeats 8000000 in
set_option maxRecDepth 100000 in
theorem ra_Small.calls (a0 : Int) (r1 : Bool) (r2 : List Int) (w : World) (h : ra_Small.f a0 = some (r1, r2)) :
    Calls Try.prog 17 #[.int .i64 a0] w fun e w' => ∃ v1_ : Value, e = .returned (.agg #[.bool r1, v1_]) ∧ Kd.R (Kd.int .u32) 98 w' w.heap.size (fun _ => True) v1_ r2 ∧ Below w.heap.size w w' := by
  have hu24 := Try.underlying24; have HB := Aside0.mk (Below.refl w.heap.size w); have H : (if a0 < 0 then ((ra_word.f true (IntKind.u64.wrap (-(IntKind.u64.wrap (a0))))).bind fun bt197 => (some (bt197.1, bt197.2))) else ((ra_word.f false (IntKind.u64.wrap (a0))).bind fun bt201 => (some (bt201.1, bt201.2)))) = some (r1, r2) := h; clear h
  by_cases c2 : a0 < 0
  · rw [if_pos c2] at H
    have c2b0 : decide (a0 < 0) = true := decide_eq_true c2; clear c2; replace H := Option.bind_eq_some_iff.mp H; obtain ⟨⟨t197, t198⟩, A30, H⟩ := H; replace H : (some (t197, t198)) = some (r1, r2) := H; have A3 := Aside0.mk A30; clear A30
    simp only [Option.some.injEq, Prod.mk.injEq] at H
    obtain ⟨rfl, rfl⟩ := H
    go_enter Try.func17, Try.ntmps17
    go_wp2_with (first | ((with_reducible refine pzQ (N := 2) rfl ?_); refine pzR ?hg (N := 2) ?hd (cs := #[.bool false, .slice none 0 0]) (t := 24) ?hr ?_; (case hd => rfl); (case hg => rfl); (case hr => first | (go_simp; done) | (go_simp; rfl)); intro gb196 hg w4 hbox hb; have n0_ := Aside0.mk (pzL (by repeat (first | (with_reducible first | exact HB.out | apply pzB | apply pzA | apply pzC) | exact HB.out)) hb); have n1_ := Aside0.mk (hbox); have n2_ := Aside0.mk ((by rw [hg]; exact (pzJ (by repeat (first | (with_reducible first | exact HB.out | apply pzB | apply pzA | apply pzC) | exact HB.out))) : w.heap.size ≤ gb196)); have n3_ := Aside0.mk ((by rw [hg]; exact (pzJ (by repeat (first | (with_reducible first | exact HB.out | apply pzB | apply pzA | apply pzC) | exact HB.out))) : w.heap.size ≤ gb196)); clear HB; have HB := n0_; have BK196 := n1_; have GW196 := n2_; have GE196 := n3_; clear n0_ n1_ n2_ n3_; clear hb hbox hg) | ((with_reducible refine pzP (f := 51) rfl ?_); refine pyH (some 8) rfl rfl Try.func51 (by kernel_rfl) rfl #[.bool true, .int .u64 (IntKind.u64.wrap (-(IntKind.u64.wrap (a0))))] rfl (by (try simp only [List.map_toArray, List.map_cons, List.map_nil]); first | done | rfl | (simp only [List.length_drop, List.length_take]; rfl)) ?_; (with_reducible refine (ra_word.calls true (IntKind.u64.wrap (-(IntKind.u64.wrap (a0)))) t197 t198 _ A3.out).mono ?_); rintro e w5 ⟨v199, rfl, ho0, hb⟩; refine ⟨_, rfl, ?_⟩; have n0_ := Aside0.mk (Kd.R_lower ho0 (pzJ (by repeat (first | (with_reducible first | exact HB.out | apply pzB | apply pzA | apply pzC | refine pzD ?_ GE196.out) | exact HB.out)))); have n1_ := Aside0.mk (pzI (g := gb196) (o := .cells #[.bool false, .slice none 0 0] 24 (0, 0)) (by (with_reducible repeat (first | refine pzF ?_ _ | refine pzG ?_ | refine pzE ?_ _)); exact BK196.out) hb); have n2_ := Aside0.mk (pzL (by repeat (first | (with_reducible first | exact HB.out | apply pzB | apply pzA | apply pzC | refine pzD ?_ GE196.out) | exact HB.out)) hb); clear BK196; clear HB; have HO200 := n0_; have BK196 := n1_; have HB := n2_; clear n0_ n1_ n2_; (try clear hb); (try clear hb2); (try clear hk); (try clear hi); (try clear ho0); have hcz6_0 : w5.cell? ⟨gb196, 0, none⟩ = some (.bool false) := (pzH BK196.out 0).trans rfl; have hcz6_1 : w5.cell? ⟨gb196, 1, none⟩ = some (.slice none 0 0) := (pzH BK196.out 1).trans rfl; have hfz6_0 := pzK BK196.out 0; have hfz6_1 := pzK BK196.out 1; obtain ⟨Ao7, co7, eo7⟩ := Kd.R_slice HO200.out; subst eo7))
    refine bodyPost_ret (results_cell_row rfl _ _ gb196 24 #[.bool t197, .slice Ao7 t198.length co7] (0, 0) _ rfl (by (with_reducible repeat (first | refine pzF ?_ _ | refine pzG ?_ | refine pzE ?_ _)); refine pyC (cs := #[.bool t197, .slice none 0 0]) ?_ 1 _ rfl; (with_reducible repeat (first | refine pzF ?_ _ | refine pzG ?_ | refine pzE ?_ _)); refine pyC (cs := #[.bool false, .slice none 0 0]) ?_ 0 _ rfl; (with_reducible repeat (first | refine pzF ?_ _ | refine pzG ?_ | refine pzE ?_ _)); exact BK196.out) Try.underlying24 rfl (by kernel_rfl)) rfl ?_
    exact ⟨_, by first | rfl | (simp [pzN, pzM] <;> rfl) | (simp [*, pzN, pzM] <;> rfl), by (with_reducible repeat (first | apply Kd.R_alloc | apply Kd.R_drewN | apply Kd.R_drew)); exact Kd.R_mono (Kd.R_far (p := ⟨gb196, 1, none⟩) (Kd.R_far (p := ⟨gb196, 0, none⟩) (Kd.R_types HO200.out BK196.out (by decide)) (fun _ hk => hk.2) (.bool t197)) (fun _ hk => hk.2) (.slice Ao7 t198.length co7)) (fun _ hk => trivial), by repeat (first | (with_reducible first | exact HB.out | apply pzB | apply pzA | apply pzC | refine pzD ?_ GE196.out) | exact HB.out)⟩
  · rw [if_neg c2] at H
    have c2b0 : decide (a0 < 0) = false := decide_eq_false c2; clear c2; replace H := Option.bind_eq_some_iff.mp H; obtain ⟨⟨t201, t202⟩, A80, H⟩ := H; replace H : (some (t201, t202)) = some (r1, r2) := H; have A8 := Aside0.mk A80; clear A80
    simp only [Option.some.injEq, Prod.mk.injEq] at H
    obtain ⟨rfl, rfl⟩ := H
    go_enter Try.func17, Try.ntmps17
    go_wp2_with (first | ((with_reducible refine pzQ (N := 2) rfl ?_); refine pzR ?hg (N := 2) ?hd (cs := #[.bool false, .slice none 0 0]) (t := 24) ?hr ?_; (case hd => rfl); (case hg => rfl); (case hr => first | (go_simp; done) | (go_simp; rfl)); intro gb196 hg w9 hbox hb; have n0_ := Aside0.mk (pzL (by repeat (first | (with_reducible first | exact HB.out | apply pzB | apply pzA | apply pzC) | exact HB.out)) hb); have n1_ := Aside0.mk (hbox); have n2_ := Aside0.mk ((by rw [hg]; exact (pzJ (by repeat (first | (with_reducible first | exact HB.out | apply pzB | apply pzA | apply pzC) | exact HB.out))) : w.heap.size ≤ gb196)); have n3_ := Aside0.mk ((by rw [hg]; exact (pzJ (by repeat (first | (with_reducible first | exact HB.out | apply pzB | apply pzA | apply pzC) | exact HB.out))) : w.heap.size ≤ gb196)); clear HB; have HB := n0_; have BK196 := n1_; have GW196 := n2_; have GE196 := n3_; clear n0_ n1_ n2_ n3_; clear hb hbox hg) | ((with_reducible refine pzP (f := 51) rfl ?_); refine pyH (some 11) rfl rfl Try.func51 (by kernel_rfl) rfl #[.bool false, .int .u64 (IntKind.u64.wrap (a0))] rfl (by (try simp only [List.map_toArray, List.map_cons, List.map_nil]); first | done | rfl | (simp only [List.length_drop, List.length_take]; rfl)) ?_; (with_reducible refine (ra_word.calls false (IntKind.u64.wrap (a0)) t201 t202 _ A8.out).mono ?_); rintro e w10 ⟨v203, rfl, ho0, hb⟩; refine ⟨_, rfl, ?_⟩; have n0_ := Aside0.mk (Kd.R_lower ho0 (pzJ (by repeat (first | (with_reducible first | exact HB.out | apply pzB | apply pzA | apply pzC | refine pzD ?_ GE196.out) | exact HB.out)))); have n1_ := Aside0.mk (pzI (g := gb196) (o := .cells #[.bool false, .slice none 0 0] 24 (0, 0)) (by (with_reducible repeat (first | refine pzF ?_ _ | refine pzG ?_ | refine pzE ?_ _)); exact BK196.out) hb); have n2_ := Aside0.mk (pzL (by repeat (first | (with_reducible first | exact HB.out | apply pzB | apply pzA | apply pzC | refine pzD ?_ GE196.out) | exact HB.out)) hb); clear BK196; clear HB; have HO204 := n0_; have BK196 := n1_; have HB := n2_; clear n0_ n1_ n2_; (try clear hb); (try clear hb2); (try clear hk); (try clear hi); (try clear ho0); have hcz11_0 : w10.cell? ⟨gb196, 0, none⟩ = some (.bool false) := (pzH BK196.out 0).trans rfl; have hcz11_1 : w10.cell? ⟨gb196, 1, none⟩ = some (.slice none 0 0) := (pzH BK196.out 1).trans rfl; have hfz11_0 := pzK BK196.out 0; have hfz11_1 := pzK BK196.out 1; obtain ⟨Ao12, co12, eo12⟩ := Kd.R_slice HO204.out; subst eo12))
    refine bodyPost_ret (results_cell_row rfl _ _ gb196 24 #[.bool t201, .slice Ao12 t202.length co12] (0, 0) _ rfl (by (with_reducible repeat (first | refine pzF ?_ _ | refine pzG ?_ | refine pzE ?_ _)); refine pyC (cs := #[.bool t201, .slice none 0 0]) ?_ 1 _ rfl; (with_reducible repeat (first | refine pzF ?_ _ | refine pzG ?_ | refine pzE ?_ _)); refine pyC (cs := #[.bool false, .slice none 0 0]) ?_ 0 _ rfl; (with_reducible repeat (first | refine pzF ?_ _ | refine pzG ?_ | refine pzE ?_ _)); exact BK196.out) Try.underlying24 rfl (by kernel_rfl)) rfl ?_
    exact ⟨_, by first | rfl | (simp [pzN, pzM] <;> rfl) | (simp [*, pzN, pzM] <;> rfl), by (with_reducible repeat (first | apply Kd.R_alloc | apply Kd.R_drewN | apply Kd.R_drew)); exact Kd.R_mono (Kd.R_far (p := ⟨gb196, 1, none⟩) (Kd.R_far (p := ⟨gb196, 0, none⟩) (Kd.R_types HO204.out BK196.out (by decide)) (fun _ hk => hk.2) (.bool t201)) (fun _ hk => hk.2) (.slice Ao12 t202.length co12)) (fun _ hk => trivial), by repeat (first | (with_reducible first | exact HB.out | apply pzB | apply pzA | apply pzC | refine pzD ?_ GE196.out) | exact HB.out)⟩
end Go.Proofs.Ytpkgckccfanchaa.M

namespace Go.Proofs.Ytpkgckccfanchaa.M
open Go.RowKit YtpkgckccfanchaaW.PrintWords YtpkgckccfanchaaW.PrintLast YtpkgckccfanchaaW.PrintMore
attribute [local go_sem] pzW pzX pzY pzZ pzS pzT pzU pzV
set_option linter.unusedVariables false
set_option linter.unusedSimpArgs false
mutual
def ra_Mul.l0 : Nat → List Int → List Int → Int → Int → Bool → List Int → Bool → List Int → Option (Bool × List Int)
  | 0, _, _, _, _, _, _, _, _ => none
  | k + 1, x5, x20, x21, x22, x278000, x278001, x279000, x279001 => if x22 < x21 then (if 0 ≤ x22 then (if x22 < (x20.length : Int) then (ra_Mul.l1 k x5 x22 (rd x20 x22) 0 x20 x21 x22 x279001 (x279001.length : Int) 0 x278000 x278001 x279000 x279001) else (none)) else (none)) else ((ra_Make.f (x278000 != x279000) x5).bind fun bt283 => (some (bt283.1, bt283.2)))
def ra_Mul.l1 : Nat → List Int → Int → Int → Int → List Int → Int → Int → List Int → Int → Int → Bool → List Int → Bool → List Int → Option (Bool × List Int)
  | 0, _, _, _, _, _, _, _, _, _, _, _, _, _, _ => none
  | k + 1, x5, x6, x7, x8, x20, x21, x22, x28, x29, x30, x278000, x278001, x279000, x279001 => if x30 < x29 then (if 0 ≤ x30 then (if x30 < (x28.length : Int) then (if 0 ≤ (wrap64 (x6 + x30)) then (if (wrap64 (x6 + x30)) < (x5.length : Int) then (ra_Mul.l1 k (x5.set ((wrap64 (x6 + x30)) : Int).toNat ((IntKind.u64.wrap (x8 + (IntKind.u64.wrap ((IntKind.u64.wrap ((IntKind.u64.wrap (x7)) * (IntKind.u64.wrap (rd x28 x30)))) + (IntKind.u64.wrap (rd x5 (wrap64 (x6 + x30)))))))) % 4294967296)) x6 x7 ((IntKind.u64.wrap (x8 + (IntKind.u64.wrap ((IntKind.u64.wrap ((IntKind.u64.wrap (x7)) * (IntKind.u64.wrap (rd x28 x30)))) + (IntKind.u64.wrap (rd x5 (wrap64 (x6 + x30)))))))) / 4294967296) x20 x21 x22 x28 x29 (wrap64 (x30 + 1)) x278000 x278001 x279000 x279001) else (none)) else (none)) else (none)) else (none)) else (if 0 ≤ (wrap64 (x6 + (x279001.length : Int))) then (if (wrap64 (x6 + (x279001.length : Int))) < (x5.length : Int) then (ra_Mul.l0 k (x5.set ((wrap64 (x6 + (x279001.length : Int))) : Int).toNat ((x8) % 4294967296)) x20 x21 (wrap64 (x22 + 1)) x278000 x278001 x279000 x279001) else (none)) else (none))
end
def ra_Mul.f (k : Nat) (a0_0 : Bool) (l0_1 : List Int) (a1_0 : Bool) (l1_1 : List Int) : Option (Bool × List Int) := if 0 ≤ (wrap64 ((l0_1.length : Int) + (l1_1.length : Int))) then (if (wrap64 ((l0_1.length : Int) + (l1_1.length : Int)) : Int).toNat ≤ 70368744177664 then (ra_Mul.l0 k (List.replicate (wrap64 ((l0_1.length : Int) + (l1_1.length : Int)) : Int).toNat 0) l0_1 (l0_1.length : Int) 0 a0_0 l0_1 a1_0 l1_1) else (none)) else (none)
theorem ra_Mul.mono_l : ∀ k, (∀ y0 y1 y2 y3 y4 y5 y6 y7, LeO (ra_Mul.l0 k y0 y1 y2 y3 y4 y5 y6 y7) (ra_Mul.l0 (k + 1) y0 y1 y2 y3 y4 y5 y6 y7)) ∧ (∀ y0 y1 y2 y3 y4 y5 y6 y7 y8 y9 y10 y11 y12 y13, LeO (ra_Mul.l1 k y0 y1 y2 y3 y4 y5 y6 y7 y8 y9 y10 y11 y12 y13) (ra_Mul.l1 (k + 1) y0 y1 y2 y3 y4 y5 y6 y7 y8 y9 y10 y11 y12 y13))
  | 0 => ⟨fun _ _ _ _ _ _ _ _ r h => by simp [ra_Mul.l0] at h, fun _ _ _ _ _ _ _ _ _ _ _ _ _ _ r h => by simp [ra_Mul.l1] at h⟩
  | k + 1 => by
    obtain ⟨ih0, ih1⟩ := ra_Mul.mono_l k; refine ⟨?_, ?_⟩
    · intro y0 y1 y2 y3 y4 y5 y6 y7
      unfold ra_Mul.l0
      repeat' first
      | (with_reducible exact ih0 _ _ _ _ _ _ _ _)
      | (with_reducible exact ih1 _ _ _ _ _ _ _ _ _ _ _ _ _ _)
      | (with_reducible exact LeO.refl _)
      | (with_reducible exact LeO.none _)
      | (with_reducible refine LeO.ite ?_ ?_)
      | (with_reducible refine LeO.bind ?_ (fun _ => ?_))
      | exact ih0 _ _ _ _ _ _ _ _
      | exact ih1 _ _ _ _ _ _ _ _ _ _ _ _ _ _
      | exact LeO.none _
      | refine LeO.ite ?_ ?_
      | refine LeO.bind ?_ (fun _ => ?_)
    · intro y0 y1 y2 y3 y4 y5 y6 y7 y8 y9 y10 y11 y12 y13
      unfold ra_Mul.l1
      repeat' first
      | (with_reducible exact ih0 _ _ _ _ _ _ _ _)
      | (with_reducible exact ih1 _ _ _ _ _ _ _ _ _ _ _ _ _ _)
      | (with_reducible exact LeO.refl _)
      | (with_reducible exact LeO.none _)
      | (with_reducible refine LeO.ite ?_ ?_)
      | (with_reducible refine LeO.bind ?_ (fun _ => ?_))
      | exact ih0 _ _ _ _ _ _ _ _
      | exact ih1 _ _ _ _ _ _ _ _ _ _ _ _ _ _
      | exact LeO.none _
      | refine LeO.ite ?_ ?_
      | refine LeO.bind ?_ (fun _ => ?_)
theorem ra_Mul.mono : ∀ a0 a1 a2 a3 k, LeO (ra_Mul.f k a0 a1 a2 a3) (ra_Mul.f (k + 1) a0 a1 a2 a3) := by
  intro a0 a1 a2 a3 k; obtain ⟨ih0, ih1⟩ := ra_Mul.mono_l k
  unfold ra_Mul.f
  repeat' first
      | (with_reducible exact ih0 _ _ _ _ _ _ _ _)
      | (with_reducible exact ih1 _ _ _ _ _ _ _ _ _ _ _ _ _ _)
      | (with_reducible exact LeO.refl _)
      | (with_reducible exact LeO.none _)
      | (with_reducible refine LeO.ite ?_ ?_)
      | (with_reducible refine LeO.bind ?_ (fun _ => ?_))
      | exact ih0 _ _ _ _ _ _ _ _
      | exact ih1 _ _ _ _ _ _ _ _ _ _ _ _ _ _
      | exact LeO.none _
      | refine LeO.ite ?_ ?_
      | refine LeO.bind ?_ (fun _ => ?_)
set_option maxHeartbeats 8000000 in
set_option maxRecDepth 100000 in
theorem ra_Mul.calls (k : Nat) (a0_0 : Bool) (A0_1 : Option Addr) (c0_1 : Nat) (l0_1 : List Int) (a1_0 : Bool) (A1_1 : Option Addr) (c1_1 : Nat) (l1_1 : List Int) (r1 : Bool) (r2 : List Int) (w : World) (hr0_1 : Kd.C (Kd.int .u32) w A0_1 l0_1.length l0_1) (hc0_1 : l0_1.length ≤ c0_1) (hr1_1 : Kd.C (Kd.int .u32) w A1_1 l1_1.length l1_1) (hc1_1 : l1_1.length ≤ c1_1) (h : ra_Mul.f k a0_0 l0_1 a1_0 l1_1 = some (r1, r2)) :
    Calls Try.prog 33 #[.agg #[.bool a0_0, .slice A0_1 l0_1.length c0_1], .agg #[.bool a1_0, .slice A1_1 l1_1.length c1_1]] w fun e w' => ∃ v1_ : Value, e = .returned (.agg #[.bool r1, v1_]) ∧ Kd.R (Kd.int .u32) 98 w' w.heap.size (fun _ => True) v1_ r2 ∧ Below w.heap.size w w' := by
  have hu24 := Try.underlying24; have HR0_1 := Aside0.mk hr0_1; have HC0_1 := Aside0.mk hc0_1; clear hr0_1 hc0_1; have HR1_1 := Aside0.mk hr1_1; have HC1_1 := Aside0.mk hc1_1; clear hr1_1 hc1_1; have HB := Aside0.mk (Below.refl w.heap.size w); have H : (if 0 ≤ (wrap64 ((l0_1.length : Int) + (l1_1.length : Int))) then (if (wrap64 ((l0_1.length : Int) + (l1_1.length : Int)) : Int).toNat ≤ 70368744177664 then (ra_Mul.l0 k (List.replicate (wrap64 ((l0_1.length : Int) + (l1_1.length : Int)) : Int).toNat 0) l0_1 (l0_1.length : Int) 0 a0_0 l0_1 a1_0 l1_1) else (none)) else (none)) = some (r1, r2) := h; clear h
  obtain ⟨ji3, hji3⟩ : ∃ j_ : Int, (wrap64 ((l0_1.length : Int) + (l1_1.length : Int))) = j_ := ⟨_, rfl⟩
  replace H : (if 0 ≤ (ji3) then (if (ji3 : Int).toNat ≤ 70368744177664 then (ra_Mul.l0 k (List.replicate (ji3 : Int).toNat 0) l0_1 (l0_1.length : Int) 0 a0_0 l0_1 a1_0 l1_1) else (none)) else (none)) = some (r1, r2) := by first | (rw [hji3] at H; exact H) | (simp only [hji3] at H ⊢; exact H)
  have hji3w : (IntKind.i64.wrap ((l0_1.length : Int) + (l1_1.length : Int))) = ji3 := (i64_w _).trans hji3
  by_cases c4 : 0 ≤ (ji3)
  · rw [if_pos c4] at H
    have c4b0 := eq_true c4; have c4b1 : decide (0 ≤ (ji3)) = true := decide_eq_true c4; clear c4
    by_cases c5 : (ji3 : Int).toNat ≤ 70368744177664
    · rw [if_pos c5] at H
      have c5b0 := eq_true c5; have c5b1 : decide ((ji3 : Int).toNat ≤ 70368744177664) = true := decide_eq_true c5; clear c5
      obtain ⟨y280, hy280⟩ : ∃ y_ : List Int, y_ = (List.replicate (ji3 : Int).toNat 0) := ⟨_, rfl⟩
      replace H : (ra_Mul.l0 k y280 l0_1 (l0_1.length : Int) 0 a0_0 l0_1 a1_0 l1_1) = some (r1, r2) := by first | (rw [hy280]; with_reducible exact H) | (have H2_ := (Option.bind_some _ _).symm.trans H; rw [hy280]; with_reducible exact H2_) | (have H2_ := (Option.bind_some _ _).symm.trans H; with_reducible exact H2_) | with_reducible exact H | (rw [hy280]; exact H) | exact H
      have Ny280 := Aside0.mk hy280; clear hy280; have H' := Aside0.mk H; clear H
      go_enter Try.func33, Try.ntmps33
      go_wp2_with (first | ((with_reducible refine pzQ (N := 2) rfl ?_); refine pzR ?hg (N := 2) ?hd (cs := #[.bool a0_0, .slice A0_1 l0_1.length c0_1]) (t := 24) ?hr ?_; (case hd => rfl); (case hg => rfl); (case hr => first | (go_simp; done) | (go_simp; rfl)); intro gb277 hg w6 hbox hb; have n0_ := Aside0.mk (pzL (by repeat (first | (with_reducible first | exact HB.out | apply pzB | apply pzA | apply pzC) | exact HB.out)) hb); have n1_ := Aside0.mk (hbox); have n2_ := Aside0.mk ((by rw [hg]; exact (pzJ (by repeat (first | (with_reducible first | exact HB.out | apply pzB | apply pzA | apply pzC) | exact HB.out))) : w.heap.size ≤ gb277)); have n3_ := Aside0.mk ((by rw [hg]; exact (pzJ (by repeat (first | (with_reducible first | exact HB.out | apply pzB | apply pzA | apply pzC) | exact HB.out))) : w.heap.size ≤ gb277)); clear HB; have HB := n0_; have BK277 := n1_; have GW277 := n2_; have GE277 := n3_; clear n0_ n1_ n2_ n3_; clear hb hbox hg) | ((with_reducible refine pzQ (N := 3) rfl ?_); refine pzR ?hg (N := 3) ?hd (cs := #[.bool a1_0, .slice A1_1 l1_1.length c1_1]) (t := 24) ?hr ?_; (case hd => rfl); (case hg => rfl); (case hr => first | (go_simp; done) | (go_simp; rfl)); intro gb278 hg w7 hbox hb; have n0_ := Aside0.mk (pzI (g := gb277) (o := .cells #[.bool a0_0, .slice A0_1 l0_1.length c0_1] 24 (0, 0)) (by (with_reducible repeat (first | refine pzF ?_ _ | refine pzG ?_ | refine pzE ?_ _)); exact BK277.out) hb); have n1_ := Aside0.mk (pzL (by repeat (first | (with_reducible first | exact HB.out | apply pzB | apply pzA | apply pzC | refine pzD ?_ GE277.out) | exact HB.out)) hb); have n2_ := Aside0.mk (hbox); have n3_ := Aside0.mk ((by rw [hg]; exact (pzJ (by repeat (first | (with_reducible first | exact HB.out | apply pzB | apply pzA | apply pzC | refine pzD ?_ GE277.out) | exact HB.out))) : w.heap.size ≤ gb278)); have n4_ := Aside0.mk ((by rw [hg]; exact (pzJ (by repeat (first | (with_reducible first | exact HB.out | apply pzB | apply pzA | apply pzC | refine pzD ?_ GE277.out) | exact HB.out))) : w.heap.size ≤ gb278)); have n5_ := Aside0.mk ((by rw [hg]; exact Nat.ne_of_lt (pzO (g := gb277) (o := .cells #[.bool a0_0, .slice A0_1 l0_1.length c0_1] 24 (0, 0)) (by (with_reducible repeat (first | refine pzF ?_ _ | refine pzG ?_ | refine pzE ?_ _)); exact BK277.out)) : gb277 ≠ gb278)); have n6_ := Aside0.mk ((by rw [hg]; exact Nat.ne_of_gt (pzO (g := gb277) (o := .cells #[.bool a0_0, .slice A0_1 l0_1.length c0_1] 24 (0, 0)) (by (with_reducible repeat (first | refine pzF ?_ _ | refine pzG ?_ | refine pzE ?_ _)); exact BK277.out)) : gb278 ≠ gb277)); clear BK277; clear HB; have BK277 := n0_; have HB := n1_; have BK278 := n2_; have GW278 := n3_; have GE278 := n4_; have NB277_278 := n5_; have NB278_277 := n6_; clear n0_ n1_ n2_ n3_ n4_ n5_ n6_; clear hb hbox hg) | ((with_reducible refine pzQ (N := 4) rfl ?_); refine pzR ?hg (N := 4) ?hd (cs := #[.bool false, .slice none 0 0]) (t := 24) ?hr ?_; (case hd => rfl); (case hg => rfl); (case hr => first | (go_simp; done) | (go_simp; rfl)); intro gb279 hg w8 hbox hb; have n0_ := Aside0.mk (pzI (g := gb277) (o := .cells #[.bool a0_0, .slice A0_1 l0_1.length c0_1] 24 (0, 0)) (by (with_reducible repeat (first | refine pzF ?_ _ | refine pzG ?_ | refine pzE ?_ _)); exact BK277.out) hb); have n1_ := Aside0.mk (pzI (g := gb278) (o := .cells #[.bool a1_0, .slice A1_1 l1_1.length c1_1] 24 (0, 0)) (by (with_reducible repeat (first | refine pzF ?_ _ | refine pzG ?_ | refine pzE ?_ _)); exact BK278.out) hb); have n2_ := Aside0.mk (pzL (by repeat (first | (with_reducible first | exact HB.out | apply pzB | apply pzA | apply pzC | refine pzD ?_ GE277.out | refine pzD ?_ GE278.out) | exact HB.out)) hb); have n3_ := Aside0.mk (hbox); have n4_ := Aside0.mk ((by rw [hg]; exact (pzJ (by repeat (first | (with_reducible first | exact HB.out | apply pzB | apply pzA | apply pzC | refine pzD ?_ GE277.out | refine pzD ?_ GE278.out) | exact HB.out))) : w.heap.size ≤ gb279)); have n5_ := Aside0.mk ((by rw [hg]; exact (pzJ (by repeat (first | (with_reducible first | exact HB.out | apply pzB | apply pzA | apply pzC | refine pzD ?_ GE277.out | refine pzD ?_ GE278.out) | exact HB.out))) : w.heap.size ≤ gb279)); have n6_ := Aside0.mk ((by rw [hg]; exact Nat.ne_of_lt (pzO (g := gb277) (o := .cells #[.bool a0_0, .slice A0_1 l0_1.length c0_1] 24 (0, 0)) (by (with_reducible repeat (first | refine pzF ?_ _ | refine pzG ?_ | refine pzE ?_ _)); exact BK277.out)) : gb277 ≠ gb279)); have n7_ := Aside0.mk ((by rw [hg]; exact Nat.ne_of_gt (pzO (g := gb277) (o := .cells #[.bool a0_0, .slice A0_1 l0_1.length c0_1] 24 (0, 0)) (by (with_reducible repeat (first | refine pzF ?_ _ | refine pzG ?_ | refine pzE ?_ _)); exact BK277.out)) : gb279 ≠ gb277)); have n8_ := Aside0.mk ((by rw [hg]; exact Nat.ne_of_lt (pzO (g := gb278) (o := .cells #[.bool a1_0, .slice A1_1 l1_1.length c1_1] 24 (0, 0)) (by (with_reducible repeat (first | refine pzF ?_ _ | refine pzG ?_ | refine pzE ?_ _)); exact BK278.out)) : gb278 ≠ gb279)); have n9_ := Aside0.mk ((by rw [hg]; exact Nat.ne_of_gt (pzO (g := gb278) (o := .cells #[.bool a1_0, .slice A1_1 l1_1.length c1_1] 24 (0, 0)) (by (with_reducible repeat (first | refine pzF ?_ _ | refine pzG ?_ | refine pzE ?_ _)); exact BK278.out)) : gb279 ≠ gb278)); clear BK277; clear BK278; clear HB; have BK277 := n0_; have BK278 := n1_; have HB := n2_; have BK279 := n3_; have GW279 := n4_; have GE279 := n5_; have NB277_279 := n6_; have NB279_277 := n7_; have NB278_279 := n8_; have NB279_278 := n9_; clear n0_ n1_ n2_ n3_ n4_ n5_ n6_ n7_ n8_ n9_; clear hb hbox hg; have hnb9 := NB277_278.out; have hnc9 := NB278_277.out; have hnb10 := NB277_279.out; have hnc10 := NB279_277.out; have hcz11_0 : w8.cell? ⟨gb277, 0, none⟩ = some (.bool a0_0) := (pzH BK277.out 0).trans rfl; have hcz11_1 : w8.cell? ⟨gb277, 1, none⟩ = some (.slice A0_1 l0_1.length c0_1) := (pzH BK277.out 1).trans rfl; have hfz11_0 := pzK BK277.out 0; have hfz11_1 := pzK BK277.out 1; have hnb12 := NB278_279.out; have hnc12 := NB279_278.out; have hcz13_0 : w8.cell? ⟨gb278, 0, none⟩ = some (.bool a1_0) := (pzH BK278.out 0).trans rfl; have hcz13_1 : w8.cell? ⟨gb278, 1, none⟩ = some (.slice A1_1 l1_1.length c1_1) := (pzH BK278.out 1).trans rfl; have hfz13_0 := pzK BK278.out 0; have hfz13_1 := pzK BK278.out 1) | ((with_reducible refine pzQ (N := 18) rfl ?_); refine Kd.R_make (Kd.int .u32) _ 98 rfl (N := 18) rfl 22 _ _ rfl ji3 rfl rfl Try.underlying22 (.int .u32 0) 4 info98 rfl (by decide) (by omega) 0 (ok := fun _ => True) (okp := fun _ => True) rfl (fun _ hk => hk) trivial (of_decide_eq_true (by first | (with_reducible assumption) | assumption)) (Nat.le_trans (Nat.mul_le_mul_right _ (of_decide_eq_true (by first | (with_reducible assumption) | assumption) : ji3.toNat ≤ 70368744177664)) (by omega)) (Below.refl _ _) (Nat.le_refl _) ?_; intro v281 w14 ho15 hb hg_ hnew_; clear hg_ hnew_; (first | rw [← Ny280.out] at ho15 | (simp only [Int.reduceToNat] at ho15; rw [← Ny280.out] at ho15)); have n0_ := Aside0.mk (Kd.R_lower ho15 (pzJ (by repeat (first | (with_reducible first | exact HB.out | apply pzB | apply pzA | apply pzC | refine pzD ?_ GE277.out | refine pzD ?_ GE278.out | refine pzD ?_ GE279.out) | exact HB.out)))); have n1_ := Aside0.mk (pzI (g := gb277) (o := .cells #[.bool a0_0, .slice A0_1 l0_1.length c0_1] 24 (0, 0)) (by (with_reducible repeat (first | refine pzF ?_ _ | refine pzG ?_ | refine pzE ?_ _)); exact BK277.out) hb); have n2_ := Aside0.mk (pzI (g := gb278) (o := .cells #[.bool a1_0, .slice A1_1 l1_1.length c1_1] 24 (0, 0)) (by (with_reducible repeat (first | refine pzF ?_ _ | refine pzG ?_ | refine pzE ?_ _)); exact BK278.out) hb); have n3_ := Aside0.mk (pzI (g := gb279) (o := .cells #[.bool false, .slice none 0 0] 24 (0, 0)) (by (with_reducible repeat (first | refine pzF ?_ _ | refine pzG ?_ | refine pzE ?_ _)); exact BK279.out) hb); have n4_ := Aside0.mk (pzL (by repeat (first | (with_reducible first | exact HB.out | apply pzB | apply pzA | apply pzC | refine pzD ?_ GE277.out | refine pzD ?_ GE278.out | refine pzD ?_ GE279.out) | exact HB.out)) hb); clear BK277; clear BK278; clear BK279; clear HB; have HO282 := n0_; have BK277 := n1_; have BK278 := n2_; have BK279 := n3_; have HB := n4_; clear n0_ n1_ n2_ n3_ n4_; clear hb ho15; have hcz16_0 : w14.cell? ⟨gb277, 0, none⟩ = some (.bool a0_0) := (pzH BK277.out 0).trans rfl; have hcz16_1 : w14.cell? ⟨gb277, 1, none⟩ = some (.slice A0_1 l0_1.length c0_1) := (pzH BK277.out 1).trans rfl; have hfz16_0 := pzK BK277.out 0; have hfz16_1 := pzK BK277.out 1))
      go_loopg [22] k (fun kq v22 w' => ∃ (x5_1 : List Int) (x22_1 : Int), v22 = .int .i64 x22_1 ∧ Aside0 (ra_Mul.l0 kq x5_1 l0_1 (l0_1.length : Int) x22_1 a0_0 l0_1 a1_0 l1_1 = some (r1, r2)) ∧ Aside0 (kq ≤ k) ∧ Aside0 (Kd.R (Kd.int .u32) 98 w' w.heap.size (fun _ => True) v281 x5_1) ∧ Aside0 (w'.heap[gb277]? = some (.cells #[.bool a0_0, (.slice A0_1 l0_1.length c0_1)] 24 (0, 0))) ∧ Aside0 (w'.heap[gb278]? = some (.cells #[.bool a1_0, (.slice A1_1 l1_1.length c1_1)] 24 (0, 0))) ∧ Aside0 (w'.heap[gb279]? = some (.cells #[.bool false, (.slice none 0 0)] 24 (0, 0))) ∧ Aside0 (Below w.heap.size w w'))
      case atStart => exact ⟨(y280), (0), (by first | rfl | (simp; done) | (simp [*]; done)), H', ⟨Nat.le_refl _⟩, ⟨by (with_reducible repeat (first | apply Kd.R_alloc | apply Kd.R_drewN | apply Kd.R_drew)); exact HO282.out⟩, ⟨by (with_reducible repeat (first | refine pzF ?_ _ | refine pzG ?_ | refine pzE ?_ _)); exact BK277.out⟩, ⟨by (with_reducible repeat (first | refine pzF ?_ _ | refine pzG ?_ | refine pzE ?_ _)); exact BK278.out⟩, ⟨by (with_reducible repeat (first | refine pzF ?_ _ | refine pzG ?_ | refine pzE ?_ _)); exact BK279.out⟩, ⟨by repeat (first | (with_reducible first | exact HB.out | apply pzB | apply pzA | apply pzC | refine pzD ?_ GE277.out | refine pzD ?_ GE278.out | refine pzD ?_ GE279.out) | exact HB.out)⟩⟩
      case round =>
        clear H'
        try clear c1
        try clear p2
        try clear c3
        try clear c4
        try clear c4b0
        try clear c4b1
        try clear c5
        try clear c5b0
        try clear c5b1
        try clear p6
        try clear c9
        try clear c10
        try clear c12
        try clear hcz11_0
        try clear hcz11_1
        try clear hcz13_0
        try clear hcz13_1
        try clear hcz16_0
        try clear hcz16_1
        try clear hfz11_0
        try clear hfz11_1
        try clear hfz13_0
        try clear hfz13_1
        try clear hfz16_0
        try clear hfz16_1
        obtain ⟨x5_1, x22_1, rfl, HA, HK1, HO_5, BK277, BK278, BK279, HB⟩ := hrel; cases gk with
        | zero => exact absurd HA.out (by simp [ra_Mul.l0])
        | succ k1 =>
          have H := HA.out; clear HA
          simp only [ra_Mul.l0] at H
          by_cases c17 : x22_1 < (l0_1.length : Int)
          · rw [if_pos c17] at H
            have c17b0 : decide (x22_1 < (l0_1.length : Int)) = true := decide_eq_true c17; clear c17
            by_cases c18 : 0 ≤ x22_1
            · rw [if_pos c18] at H
              have c18b0 : decide (0 ≤ x22_1) = true := decide_eq_true c18; clear c18
              by_cases c19 : x22_1 < (l0_1.length : Int)
              · rw [if_pos c19] at H
                have c19b0 : decide (x22_1 < (l0_1.length : Int)) = true := decide_eq_true c19; clear c19; have H' := Aside0.mk H; clear H; have p287 : 0 ≤ (x22_1 : Int) := of_decide_eq_true (by first | (with_reducible assumption) | assumption); have q287 : x22_1 < (l0_1.length : Int) := of_decide_eq_true (by first | (with_reducible assumption) | assumption); obtain ⟨ad287, e287, hx287_0⟩ := Kd.at_int HR0_1.out x22_1 p287 q287; cases e287; replace hx287_0 := (HB.out.cell (World.block_lt_of_cell? w _ hx287_0)).trans hx287_0; replace p287 := eq_true p287; replace q287 := eq_true q287; have hnb20 := NB278_277.out; have hnc20 := NB277_278.out; have hnb21 := NB278_279.out; have hnc21 := NB279_278.out; have hcz22_0 : wr.cell? ⟨gb278, 0, none⟩ = some (.bool a1_0) := (pzH BK278.out 0).trans rfl; have hcz22_1 : wr.cell? ⟨gb278, 1, none⟩ = some (.slice A1_1 l1_1.length c1_1) := (pzH BK278.out 1).trans rfl; have hfz22_0 := pzK BK278.out 0; have hfz22_1 := pzK BK278.out 1
                go_wp2
                go_loopg [8, 30] k1 (fun kq v8 v30 w' => ∃ (x5_2 : List Int) (x8_2 : Int) (x30_2 : Int), v8 = .int .u64 x8_2 ∧ v30 = .int .i64 x30_2 ∧ Aside0 (ra_Mul.l1 kq x5_2 x22_1 (rd l0_1 x22_1) x8_2 l0_1 (l0_1.length : Int) x22_1 l1_1 (l1_1.length : Int) x30_2 a0_0 l0_1 a1_0 l1_1 = some (r1, r2)) ∧ Aside0 (kq ≤ k1) ∧ Aside0 (Kd.R (Kd.int .u32) 98 w' w.heap.size (fun _ => True) v281 x5_2) ∧ Aside0 (w'.heap[gb277]? = some (.cells #[.bool a0_0, (.slice (some ad287) l0_1.length c0_1)] 24 (0, 0))) ∧ Aside0 (w'.heap[gb278]? = some (.cells #[.bool a1_0, (.slice A1_1 l1_1.length c1_1)] 24 (0, 0))) ∧ Aside0 (w'.heap[gb279]? = some (.cells #[.bool false, (.slice none 0 0)] 24 (0, 0))) ∧ Aside0 (Below w.heap.size w w'))
                case atStart => exact ⟨(x5_1), (0), (0), (by first | rfl | (simp; done) | (simp [*]; done)), (by first | rfl | (simp; done) | (simp [*]; done)), H', ⟨Nat.le_refl _⟩, ⟨by (with_reducible repeat (first | apply Kd.R_alloc | apply Kd.R_drewN | apply Kd.R_drew)); exact HO_5.out⟩, ⟨by (with_reducible repeat (first | refine pzF ?_ _ | refine pzG ?_ | refine pzE ?_ _)); exact BK277.out⟩, ⟨by (with_reducible repeat (first | refine pzF ?_ _ | refine pzG ?_ | refine pzE ?_ _)); exact BK278.out⟩, ⟨by (with_reducible repeat (first | refine pzF ?_ _ | refine pzG ?_ | refine pzE ?_ _)); exact BK279.out⟩, ⟨by repeat (first | (with_reducible first | exact HB.out | apply pzB | apply pzA | apply pzC | refine pzD ?_ GE277.out | refine pzD ?_ GE278.out | refine pzD ?_ GE279.out) | exact HB.out)⟩⟩
                case round =>
                  clear H'
                  try clear c1
                  try clear c2
                  try clear p2
                  try clear q2
                  try clear hx2
                  try clear c3
                  try clear c4
                  try clear c4b0
                  try clear c4b1
                  try clear c5
                  try clear c5b0
                  try clear c5b1
                  try clear p6
                  try clear c9
                  try clear c10
                  try clear c12
                  try clear c17
                  try clear c17b0
                  try clear c18
                  try clear c18b0
                  try clear c19
                  try clear c19b0
                  try clear c20
                  try clear c21
                  try clear hcz11_0
                  try clear hcz11_1
                  try clear hcz13_0
                  try clear hcz13_1
                  try clear hcz16_0
                  try clear hcz16_1
                  try clear hcz22_0
                  try clear hcz22_1
                  try clear hfz11_0
                  try clear hfz11_1
                  try clear hfz13_0
                  try clear hfz13_1
                  try clear hfz16_0
                  try clear hfz16_1
                  try clear hfz22_0
                  try clear hfz22_1
                  try clear hx287_0
                  try clear p2
                  try clear p287
                  try clear p6
                  try clear q287
                  obtain ⟨x5_2, x8_2, x30_2, rfl, rfl, HA, HK2, HO_5, BK277, BK278, BK279, HB⟩ := hrel; cases gk with
                  | zero => exact absurd HA.out (by simp [ra_Mul.l1])
                  | succ k2 =>
                    have H := HA.out; clear HA
                    simp only [ra_Mul.l1] at H
                    by_cases c23 : x30_2 < (l1_1.length : Int)
                    · rw [if_pos c23] at H
                      have c23b0 : decide (x30_2 < (l1_1.length : Int)) = true := decide_eq_true c23; clear c23
                      by_cases c24 : 0 ≤ x30_2
                      · rw [if_pos c24] at H
                        have c24b0 : decide (0 ≤ x30_2) = true := decide_eq_true c24; clear c24
                        by_cases c25 : x30_2 < (l1_1.length : Int)
                        · rw [if_pos c25] at H
                          have c25b0 : decide (x30_2 < (l1_1.length : Int)) = true := decide_eq_true c25; clear c25
                          obtain ⟨ji26, hji26⟩ : ∃ j_ : Int, (wrap64 (x22_1 + x30_2)) = j_ := ⟨_, rfl⟩
                          replace H : (if 0 ≤ (ji26) then (if (ji26) < (x5_2.length : Int) then (ra_Mul.l1 k2 (x5_2.set ((ji26) : Int).toNat ((IntKind.u64.wrap (x8_2 + (IntKind.u64.wrap ((IntKind.u64.wrap ((IntKind.u64.wrap ((rd l0_1 x22_1))) * (IntKind.u64.wrap (rd l1_1 x30_2)))) + (IntKind.u64.wrap (rd x5_2 (ji26))))))) % 4294967296)) x22_1 (rd l0_1 x22_1) ((IntKind.u64.wrap (x8_2 + (IntKind.u64.wrap ((IntKind.u64.wrap ((IntKind.u64.wrap ((rd l0_1 x22_1))) * (IntKind.u64.wrap (rd l1_1 x30_2)))) + (IntKind.u64.wrap (rd x5_2 (ji26))))))) / 4294967296) l0_1 (l0_1.length : Int) x22_1 l1_1 (l1_1.length : Int) (wrap64 (x30_2 + 1)) a0_0 l0_1 a1_0 l1_1) else (none)) else (none)) = some (r1, r2) := by first | (rw [hji26] at H; exact H) | (simp only [hji26] at H ⊢; exact H)
                          have hji26w : (IntKind.i64.wrap (x22_1 + x30_2)) = ji26 := (i64_w _).trans hji26
                          by_cases c27 : 0 ≤ (ji26)
                          · rw [if_pos c27] at H
                            have c27b0 : decide (0 ≤ (ji26)) = true := decide_eq_true c27; clear c27
                            by_cases c28 : (ji26) < (x5_2.length : Int)
                            · rw [if_pos c28] at H
                              have c28b0 : decide ((ji26) < (x5_2.length : Int)) = true := decide_eq_true c28; clear c28
                              obtain ⟨y290, hy290⟩ : ∃ y_ : List Int, y_ = (x5_2.set ((ji26) : Int).toNat ((IntKind.u64.wrap (x8_2 + (IntKind.u64.wrap ((IntKind.u64.wrap ((IntKind.u64.wrap ((rd l0_1 x22_1))) * (IntKind.u64.wrap (rd l1_1 x30_2)))) + (IntKind.u64.wrap (rd x5_2 (ji26))))))) % 4294967296)) := ⟨_, rfl⟩
                              replace H : (ra_Mul.l1 k2 y290 x22_1 (rd l0_1 x22_1) ((IntKind.u64.wrap (x8_2 + (IntKind.u64.wrap ((IntKind.u64.wrap ((IntKind.u64.wrap ((rd l0_1 x22_1))) * (IntKind.u64.wrap (rd l1_1 x30_2)))) + (IntKind.u64.wrap (rd x5_2 (ji26))))))) / 4294967296) l0_1 (l0_1.length : Int) x22_1 l1_1 (l1_1.length : Int) (wrap64 (x30_2 + 1)) a0_0 l0_1 a1_0 l1_1) = some (r1, r2) := by first | (rw [hy290]; with_reducible exact H) | (have H2_ := (Option.bind_some _ _).symm.trans H; rw [hy290]; with_reducible exact H2_) | (have H2_ := (Option.bind_some _ _).symm.trans H; with_reducible exact H2_) | with_reducible exact H | (rw [hy290]; exact H) | exact H
                              have Ny290 := Aside0.mk hy290; clear hy290; have H' := Aside0.mk H; clear H; have p288 : 0 ≤ (x30_2 : Int) := of_decide_eq_true (by first | (with_reducible assumption) | assumption); have q288 : x30_2 < (l1_1.length : Int) := of_decide_eq_true (by first | (with_reducible assumption) | assumption); obtain ⟨ad288, e288, hx288_0⟩ := Kd.at_int HR1_1.out x30_2 p288 q288; cases e288; replace hx288_0 := (HB.out.cell (World.block_lt_of_cell? w _ hx288_0)).trans hx288_0; replace p288 := eq_true p288; replace q288 := eq_true q288; obtain ⟨Ao30, co30, eo30⟩ := Kd.R_slice HO_5.out; subst eo30; have p289 : 0 ≤ ((ji26) : Int) := of_decide_eq_true (by first | (with_reducible assumption) | assumption); have q289 : (ji26) < (x5_2.length : Int) := of_decide_eq_true (by first | (with_reducible assumption) | assumption); obtain ⟨ad289, e289, hx289_0⟩ := Kd.at_int (Kd.R_reads' HO_5.out).2.2 (ji26) p289 q289; cases e289; replace p289 := eq_true p289; replace q289 := eq_true q289; have p29 : 0 ≤ ((ji26) : Int) := of_decide_eq_true (by first | (with_reducible assumption) | assumption); have q29 : ((ji26) : Int) < ((x5_2.length : Int) : Int) := of_decide_eq_true (by first | (with_reducible assumption) | assumption); obtain ⟨go29, co29, eo29, gb29, gl29, cl29, HG29⟩ := Kd.R_form HO_5.out (by omega)
                              (first | cases eo29 | (injection eo29 with ea_ en_ ec_; (first | subst ea_ | (injection ea_ with ea_; subst ea_)); subst ec_; clear en_))
                              have GB29 := Aside0.mk gb29; have GG29 := Aside0.mk HG29; clear gb29 gl29 HG29
                              (first | simp only [add_plain] at hx289_0 | skip)
                              obtain ⟨hx29_0, hf29_0⟩ := Kd.R_celln 0 HO_5.out ((ji26) : Int) p29 q29; replace p29 := eq_true p29; replace q29 := eq_true q29; have HP31 := Kd.R_putg HO_5.out ((ji26) : Int) ((IntKind.u64.wrap (x8_2 + (IntKind.u64.wrap ((IntKind.u64.wrap ((IntKind.u64.wrap ((rd l0_1 x22_1))) * (IntKind.u64.wrap (rd l1_1 x30_2)))) + (IntKind.u64.wrap (rd x5_2 (ji26))))))) % 4294967296)
                              go_wp2_with (first | ((with_reducible refine gate_store (t := 98) (p := 56) rfl ?_); refine store_event (t := 98) (p := 56) (v := ?vo_w32) (w1 := (wr.setCell ⟨go29, ((ji26) : Int).toNat, none⟩ (.int .u32 ((IntKind.u64.wrap (x8_2 + (IntKind.u64.wrap ((IntKind.u64.wrap ((IntKind.u64.wrap ((rd l0_1 x22_1))) * (IntKind.u64.wrap (rd l1_1 x30_2)))) + (IntKind.u64.wrap (rd x5_2 (ji26))))))) % 4294967296)))) ?hg ?ho ?hn ?hr ?_; (case ho => rfl); (case hg => rfl); (case hn => rfl); (case hr => first | (go_simp; done) | (go_simp; rfl)); intro w32 hw; have hg : wr.grownBy w32 (some go29) := (by rw [hw]; exact HP31.2); have hp_ : Kd.R (Kd.int .u32) 98 w32 w.heap.size (fun _ => True) (.slice (some ⟨go29, 0, none⟩) x5_2.length co30) y290 := (by rw [hw, Ny290.out]; exact HP31.1); clear HP31; have n0_ := Aside0.mk (hp_); have n1_ := Aside0.mk (blk_grown (g := gb277) (o := .cells #[.bool a0_0, .slice (some ad287) l0_1.length c0_1] 24 (0, 0)) (by (with_reducible repeat (first | refine pzF ?_ _ | refine pzG ?_ | refine pzE ?_ _)); exact BK277.out) hg (Kd.R_ne HO_5.out BK277.out (by decide))); have n2_ := Aside0.mk (blk_grown (g := gb278) (o := .cells #[.bool a1_0, .slice (some ad288) l1_1.length c1_1] 24 (0, 0)) (by (with_reducible repeat (first | refine pzF ?_ _ | refine pzG ?_ | refine pzE ?_ _)); exact BK278.out) hg (Kd.R_ne HO_5.out BK278.out (by decide))); have n3_ := Aside0.mk (blk_grown (g := gb279) (o := .cells #[.bool false, .slice none 0 0] 24 (0, 0)) (by (with_reducible repeat (first | refine pzF ?_ _ | refine pzG ?_ | refine pzE ?_ _)); exact BK279.out) hg (Kd.R_ne HO_5.out BK279.out (by decide))); have n4_ := Aside0.mk ((by rw [hw]; exact pzD (HB.out) GB29.out : Below w.heap.size w w32)); clear HO_5; clear BK277; clear BK278; clear BK279; clear HB; have HO_5 := n0_; have BK277 := n1_; have BK278 := n2_; have BK279 := n3_; have HB := n4_; clear n0_ n1_ n2_ n3_ n4_; clear hg hw hp_))
                              go_roundg k2
                              case measure => have := HK1.out; have := HK2.out; omega
                              case rel => exact ⟨(y290), ((IntKind.u64.wrap (x8_2 + (IntKind.u64.wrap ((IntKind.u64.wrap ((IntKind.u64.wrap ((rd l0_1 x22_1))) * (IntKind.u64.wrap (rd l1_1 x30_2)))) + (IntKind.u64.wrap (rd x5_2 (ji26))))))) / 4294967296), (wrap64 (x30_2 + 1)), (by first | rfl | (simp; done) | (simp only [← hji26] <;> (first | rfl | simp)) | (simp [*]; done)), (by first | rfl | (simp; done) | (simp [*]; done)), H', ⟨by have := HK1.out; have := HK2.out; omega⟩, ⟨by (with_reducible repeat (first | apply Kd.R_alloc | apply Kd.R_drewN | apply Kd.R_drew)); exact HO_5.out⟩, ⟨by (with_reducible repeat (first | refine pzF ?_ _ | refine pzG ?_ | refine pzE ?_ _)); exact BK277.out⟩, ⟨by (with_reducible repeat (first | refine pzF ?_ _ | refine pzG ?_ | refine pzE ?_ _)); exact BK278.out⟩, ⟨by (with_reducible repeat (first | refine pzF ?_ _ | refine pzG ?_ | refine pzE ?_ _)); exact BK279.out⟩, ⟨by repeat (first | (with_reducible first | exact HB.out | apply pzB | apply pzA | apply pzC | refine pzD ?_ GE277.out | refine pzD ?_ GE278.out | refine pzD ?_ GE279.out) | exact HB.out)⟩⟩
                            · rw [if_neg c28] at H
                              exact absurd H (by simp)
                          · rw [if_neg c27] at H
                            exact absurd H (by simp)
                        · rw [if_neg c25] at H
                          exact absurd H (by simp)
                      · rw [if_neg c24] at H
                        exact absurd H (by simp)
                    · rw [if_neg c23] at H
                      have c23b0 : decide (x30_2 < (l1_1.length : Int)) = false := decide_eq_false c23; clear c23
                      obtain ⟨ji33, hji33⟩ : ∃ j_ : Int, (wrap64 (x22_1 + (l1_1.length : Int))) = j_ := ⟨_, rfl⟩
                      replace H : (if 0 ≤ (ji33) then (if (ji33) < (x5_2.length : Int) then (ra_Mul.l0 k2 (x5_2.set ((ji33) : Int).toNat ((x8_2) % 4294967296)) l0_1 (l0_1.length : Int) (wrap64 (x22_1 + 1)) a0_0 l0_1 a1_0 l1_1) else (none)) else (none)) = some (r1, r2) := by first | (rw [hji33] at H; exact H) | (simp only [hji33] at H ⊢; exact H)
                      have hji33w : (IntKind.i64.wrap (x22_1 + (l1_1.length : Int))) = ji33 := (i64_w _).trans hji33
                      by_cases c34 : 0 ≤ (ji33)
                      · rw [if_pos c34] at H
                        have c34b0 : decide (0 ≤ (ji33)) = true := decide_eq_true c34; clear c34
                        by_cases c35 : (ji33) < (x5_2.length : Int)
                        · rw [if_pos c35] at H
                          have c35b0 : decide ((ji33) < (x5_2.length : Int)) = true := decide_eq_true c35; clear c35
                          obtain ⟨y291, hy291⟩ : ∃ y_ : List Int, y_ = (x5_2.set ((ji33) : Int).toNat ((x8_2) % 4294967296)) := ⟨_, rfl⟩
                          replace H : (ra_Mul.l0 k2 y291 l0_1 (l0_1.length : Int) (wrap64 (x22_1 + 1)) a0_0 l0_1 a1_0 l1_1) = some (r1, r2) := by first | (rw [hy291]; with_reducible exact H) | (have H2_ := (Option.bind_some _ _).symm.trans H; rw [hy291]; with_reducible exact H2_) | (have H2_ := (Option.bind_some _ _).symm.trans H; with_reducible exact H2_) | with_reducible exact H | (rw [hy291]; exact H) | exact H
                          have Ny291 := Aside0.mk hy291; clear hy291; have H' := Aside0.mk H; clear H; have hnb37 := NB278_277.out; have hnc37 := NB277_278.out; have hnb38 := NB278_279.out; have hnc38 := NB279_278.out; have hcz39_0 : wr.cell? ⟨gb278, 0, none⟩ = some (.bool a1_0) := (pzH BK278.out 0).trans rfl; have hcz39_1 : wr.cell? ⟨gb278, 1, none⟩ = some (.slice A1_1 l1_1.length c1_1) := (pzH BK278.out 1).trans rfl; have hfz39_0 := pzK BK278.out 0; have hfz39_1 := pzK BK278.out 1; have p36 : 0 ≤ ((ji33) : Int) := of_decide_eq_true (by first | (with_reducible assumption) | assumption); have q36 : ((ji33) : Int) < ((x5_2.length : Int) : Int) := of_decide_eq_true (by first | (with_reducible assumption) | assumption); obtain ⟨go36, co36, eo36, gb36, gl36, cl36, HG36⟩ := Kd.R_form HO_5.out (by omega)
                          (first | cases eo36 | (injection eo36 with ea_ en_ ec_; (first | subst ea_ | (injection ea_ with ea_; subst ea_)); subst ec_; clear en_))
                          have GB36 := Aside0.mk gb36; have GG36 := Aside0.mk HG36; clear gb36 gl36 HG36; obtain ⟨hx36_0, hf36_0⟩ := Kd.R_celln 0 HO_5.out ((ji33) : Int) p36 q36; replace p36 := eq_true p36; replace q36 := eq_true q36; have HP40 := Kd.R_putg HO_5.out ((ji33) : Int) ((x8_2) % 4294967296)
                          go_wp2_with (first | ((with_reducible refine gate_store (t := 98) (p := 68) rfl ?_); refine store_event (t := 98) (p := 68) (v := ?vo_w41) (w1 := (wr.setCell ⟨go36, ((ji33) : Int).toNat, none⟩ (.int .u32 ((x8_2) % 4294967296)))) ?hg ?ho ?hn ?hr ?_; (case ho => rfl); (case hg => rfl); (case hn => rfl); (case hr => first | (go_simp; done) | (go_simp; rfl)); intro w41 hw; have hg : wr.grownBy w41 (some go36) := (by rw [hw]; exact HP40.2); have hp_ : Kd.R (Kd.int .u32) 98 w41 w.heap.size (fun _ => True) (.slice (some ⟨go36, 0, none⟩) x5_2.length co36) y291 := (by rw [hw, Ny291.out]; exact HP40.1); clear HP40; have n0_ := Aside0.mk (hp_); have n1_ := Aside0.mk (blk_grown (g := gb277) (o := .cells #[.bool a0_0, .slice (some ad287) l0_1.length c0_1] 24 (0, 0)) (by (with_reducible repeat (first | refine pzF ?_ _ | refine pzG ?_ | refine pzE ?_ _)); exact BK277.out) hg (Kd.R_ne HO_5.out BK277.out (by decide))); have n2_ := Aside0.mk (blk_grown (g := gb278) (o := .cells #[.bool a1_0, .slice A1_1 l1_1.length c1_1] 24 (0, 0)) (by (with_reducible repeat (first | refine pzF ?_ _ | refine pzG ?_ | refine pzE ?_ _)); exact BK278.out) hg (Kd.R_ne HO_5.out BK278.out (by decide))); have n3_ := Aside0.mk (blk_grown (g := gb279) (o := .cells #[.bool false, .slice none 0 0] 24 (0, 0)) (by (with_reducible repeat (first | refine pzF ?_ _ | refine pzG ?_ | refine pzE ?_ _)); exact BK279.out) hg (Kd.R_ne HO_5.out BK279.out (by decide))); have n4_ := Aside0.mk ((by rw [hw]; exact pzD (HB.out) GB36.out : Below w.heap.size w w41)); clear HO_5; clear BK277; clear BK278; clear BK279; clear HB; have HO_5 := n0_; have BK277 := n1_; have BK278 := n2_; have BK279 := n3_; have HB := n4_; clear n0_ n1_ n2_ n3_ n4_; clear hg hw hp_))
                          go_roundg k2
                          case measure => have := HK1.out; have := HK2.out; omega
                          case rel => exact ⟨(y291), (wrap64 (x22_1 + 1)), (by first | rfl | (simp; done) | (simp [*]; done)), H', ⟨by have := HK1.out; have := HK2.out; omega⟩, ⟨by (with_reducible repeat (first | apply Kd.R_alloc | apply Kd.R_drewN | apply Kd.R_drew)); exact HO_5.out⟩, ⟨by (with_reducible repeat (first | refine pzF ?_ _ | refine pzG ?_ | refine pzE ?_ _)); exact BK277.out⟩, ⟨by (with_reducible repeat (first | refine pzF ?_ _ | refine pzG ?_ | refine pzE ?_ _)); exact BK278.out⟩, ⟨by (with_reducible repeat (first | refine pzF ?_ _ | refine pzG ?_ | refine pzE ?_ _)); exact BK279.out⟩, ⟨by repeat (first | (with_reducible first | exact HB.out | apply pzB | apply pzA | apply pzC | refine pzD ?_ GE277.out | refine pzD ?_ GE278.out | refine pzD ?_ GE279.out) | exact HB.out)⟩⟩
                        · rw [if_neg c35] at H
                          exact absurd H (by simp)
                      · rw [if_neg c34] at H
                        exact absurd H (by simp)
              · rw [if_neg c19] at H
                exact absurd H (by simp)
            · rw [if_neg c18] at H
              exact absurd H (by simp)
          · rw [if_neg c17] at H
            have c17b0 : decide (x22_1 < (l0_1.length : Int)) = false := decide_eq_false c17; clear c17; replace H := Option.bind_eq_some_iff.mp H; obtain ⟨⟨t283, t284⟩, A420, H⟩ := H; replace H : (some (t283, t284)) = some (r1, r2) := H; have A42 := Aside0.mk A420; clear A420
            simp only [Option.some.injEq, Prod.mk.injEq] at H
            obtain ⟨rfl, rfl⟩ := H; have hnb43 := NB277_278.out; have hnc43 := NB278_277.out; have hnb44 := NB277_279.out; have hnc44 := NB279_277.out; have hcz45_0 : wr.cell? ⟨gb277, 0, none⟩ = some (.bool a0_0) := (pzH BK277.out 0).trans rfl; have hcz45_1 : wr.cell? ⟨gb277, 1, none⟩ = some (.slice A0_1 l0_1.length c0_1) := (pzH BK277.out 1).trans rfl; have hfz45_0 := pzK BK277.out 0; have hfz45_1 := pzK BK277.out 1; have hnb46 := NB278_279.out; have hnc46 := NB279_278.out; have hcz47_0 : wr.cell? ⟨gb278, 0, none⟩ = some (.bool a1_0) := (pzH BK278.out 0).trans rfl; have hcz47_1 : wr.cell? ⟨gb278, 1, none⟩ = some (.slice A1_1 l1_1.length c1_1) := (pzH BK278.out 1).trans rfl; have hfz47_0 := pzK BK278.out 0; have hfz47_1 := pzK BK278.out 1; obtain ⟨Ao48, co48, eo48⟩ := Kd.R_slice HO_5.out; subst eo48
            go_wp2_with (first | ((with_reducible refine pzP (f := 67) rfl ?_); refine pyH (some 76) rfl rfl Try.func67 (by kernel_rfl) rfl #[.bool (a0_0 != a1_0), .slice Ao48 x5_1.length co48] rfl (by (try simp only [List.map_toArray, List.map_cons, List.map_nil]); first | done | rfl | (simp only [List.length_drop, List.length_take]; rfl)) ?_; (with_reducible refine (ra_Make.calls (a0_0 != a1_0) _ _ x5_1 t283 t284 _ ?side1 ?side2 A42.out).mono ?_); (case side1 => repeat (first | exact (Kd.R_reads' HO_5.out).2.2 | (with_reducible refine Kd.C_alloc ?_ _) | (with_reducible refine Kd.C_drewN ?_ _) | (with_reducible refine Kd.C_drew ?_))); (case side2 => exact (Kd.R_reads' HO_5.out).2.1); rintro e w49 ⟨v285, rfl, ho0, hb⟩; refine ⟨_, rfl, ?_⟩; have n0_ := Aside0.mk (Kd.R_elder' (by (with_reducible repeat (first | apply Kd.R_alloc | apply Kd.R_drewN | apply Kd.R_drew)); exact HO_5.out) (Kd.R_base ho0) hb); have n1_ := Aside0.mk (Kd.R_lower (Kd.R_new' ho0 (Kd.R_lt (by (with_reducible repeat (first | apply Kd.R_alloc | apply Kd.R_drewN | apply Kd.R_drew)); exact HO_5.out))) (pzJ (by repeat (first | (with_reducible first | exact HB.out | apply pzB | apply pzA | apply pzC | refine pzD ?_ GE277.out | refine pzD ?_ GE278.out | refine pzD ?_ GE279.out) | exact HB.out)))); have n2_ := Aside0.mk (pzI (g := gb277) (o := .cells #[.bool a0_0, .slice A0_1 l0_1.length c0_1] 24 (0, 0)) (by (with_reducible repeat (first | refine pzF ?_ _ | refine pzG ?_ | refine pzE ?_ _)); exact BK277.out) hb); have n3_ := Aside0.mk (pzI (g := gb278) (o := .cells #[.bool a1_0, .slice A1_1 l1_1.length c1_1] 24 (0, 0)) (by (with_reducible repeat (first | refine pzF ?_ _ | refine pzG ?_ | refine pzE ?_ _)); exact BK278.out) hb); have n4_ := Aside0.mk (pzI (g := gb279) (o := .cells #[.bool false, .slice none 0 0] 24 (0, 0)) (by (with_reducible repeat (first | refine pzF ?_ _ | refine pzG ?_ | refine pzE ?_ _)); exact BK279.out) hb); have n5_ := Aside0.mk (pzL (by repeat (first | (with_reducible first | exact HB.out | apply pzB | apply pzA | apply pzC | refine pzD ?_ GE277.out | refine pzD ?_ GE278.out | refine pzD ?_ GE279.out) | exact HB.out)) hb); clear HO_5; clear BK277; clear BK278; clear BK279; clear HB; have HO_5 := n0_; have HO286 := n1_; have BK277 := n2_; have BK278 := n3_; have BK279 := n4_; have HB := n5_; clear n0_ n1_ n2_ n3_ n4_ n5_; (try clear hb); (try clear hb2); (try clear hk); (try clear hi); (try clear ho0); have hcz50_0 : w49.cell? ⟨gb279, 0, none⟩ = some (.bool false) := (pzH BK279.out 0).trans rfl; have hcz50_1 : w49.cell? ⟨gb279, 1, none⟩ = some (.slice none 0 0) := (pzH BK279.out 1).trans rfl; have hfz50_0 := pzK BK279.out 0; have hfz50_1 := pzK BK279.out 1; obtain ⟨Ao51, co51, eo51⟩ := Kd.R_slice HO286.out; subst eo51))
            refine bodyPost_ret (results_cell_row rfl _ _ gb279 24 #[.bool t283, .slice Ao51 t284.length co51] (0, 0) _ rfl (by (with_reducible repeat (first | refine pzF ?_ _ | refine pzG ?_ | refine pzE ?_ _)); refine pyC (cs := #[.bool t283, .slice none 0 0]) ?_ 1 _ rfl; (with_reducible repeat (first | refine pzF ?_ _ | refine pzG ?_ | refine pzE ?_ _)); refine pyC (cs := #[.bool false, .slice none 0 0]) ?_ 0 _ rfl; (with_reducible repeat (first | refine pzF ?_ _ | refine pzG ?_ | refine pzE ?_ _)); exact BK279.out) Try.underlying24 rfl (by kernel_rfl)) rfl ?_
            exact ⟨_, by first | rfl | (simp [pzN, pzM] <;> rfl) | (simp only [← hji3]; first | rfl | (simp [pzN, pzM] <;> rfl)) | (simp [*, pzN, pzM] <;> rfl), by (with_reducible repeat (first | apply Kd.R_alloc | apply Kd.R_drewN | apply Kd.R_drew)); exact Kd.R_mono (Kd.R_far (p := ⟨gb279, 1, none⟩) (Kd.R_far (p := ⟨gb279, 0, none⟩) (Kd.R_types HO286.out BK279.out (by decide)) (fun _ hk => hk.2) (.bool t283)) (fun _ hk => hk.2) (.slice Ao51 t284.length co51)) (fun _ hk => trivial), by repeat (first | (with_reducible first | exact HB.out | apply pzB | apply pzA | apply pzC | refine pzD ?_ GE277.out | refine pzD ?_ GE278.out | refine pzD ?_ GE279.out) | exact HB.out)⟩
    · rw [if_neg c5] at H
      exact absurd H (by simp)
  · rw [if_neg c4] at H
    exact absurd H (by simp)
end Go.Proofs.Ytpkgckccfanchaa.M

namespace Go.Proofs.Ytpkgckccfanchaa.M
open Go.RowKit YtpkgckccfanchaaW.PrintWords YtpkgckccfanchaaW.PrintLast YtpkgckccfanchaaW.PrintMore
attribute [local go_sem] pzW pzX pzY pzZ pzS pzT pzU pzV
set_option linter.unusedVariables false
set_option linter.unusedSimpArgs false
def ra_cmp.l0 : Nat → List Int → List Int → Int → Option (Int)
  | 0, _, _, _ => none
  | k + 1, x0, x1, x5 => if x5 ≥ 0 then (if 0 ≤ x5 then (if x5 < (x0.length : Int) then (if x5 < (x1.length : Int) then (if (rd x0 x5) = (rd x1 x5) then (ra_cmp.l0 k x0 x1 (wrap64 (x5 - 1))) else (if (rd x0 x5) < (rd x1 x5) then (some (-1)) else (some 1))) else (none)) else (none)) else (none)) else (some 0)
def ra_cmp.f (k : Nat) (l0 : List Int) (l1 : List Int) : Option (Int) := if (l0.length : Int) = (l1.length : Int) then (ra_cmp.l0 k l0 l1 (wrap64 ((l0.length : Int) - 1))) else (if (l0.length : Int) < (l1.length : Int) then (some (-1)) else (some 1))
theorem ra_cmp.mono_l : ∀ k, (∀ y0 y1 y2, LeO (ra_cmp.l0 k y0 y1 y2) (ra_cmp.l0 (k + 1) y0 y1 y2))
  | 0 => fun _ _ _ r h => by simp [ra_cmp.l0] at h
  | k + 1 => by
    have ih0 := ra_cmp.mono_l k
    · intro y0 y1 y2
      unfold ra_cmp.l0
      repeat' first
      | (with_reducible exact ih0 _ _ _)
      | (with_reducible exact LeO.refl _)
      | (with_reducible exact LeO.none _)
      | (with_reducible refine LeO.ite ?_ ?_)
      | (with_reducible refine LeO.bind ?_ (fun _ => ?_))
      | exact ih0 _ _ _
      | exact LeO.none _
      | refine LeO.ite ?_ ?_
      | refine LeO.bind ?_ (fun _ => ?_)
theorem ra_cmp.mono : ∀ a0 a1 k, LeO (ra_cmp.f k a0 a1) (ra_cmp.f (k + 1) a0 a1) := by
  intro a0 a1 k; have ih0 := ra_cmp.mono_l k
  unfold ra_cmp.f
  repeat' first
      | (with_reducible exact ih0 _ _ _)
      | (with_reducible exact LeO.refl _)
      | (with_reducible exact LeO.none _)
      | (with_reducible refine LeO.ite ?_ ?_)
      | (with_reducible refine LeO.bind ?_ (fun _ => ?_))
      | exact ih0 _ _ _
      | exact LeO.none _
      | refine LeO.ite ?_ ?_
      | refine LeO.bind ?_ (fun _ => ?_)
set_option maxHeartbeats 8000000 in
set_option maxRecDepth 100000 in
theorem ra_cmp.calls (k : Nat) (A0 : Option Addr) (c0 : Nat) (l0 : List Int) (A1 : Option Addr) (c1 : Nat) (l1 : List Int) (r : Int) (w : World) (hr0 : Kd.C (Kd.int .u32) w A0 l0.length l0) (hc0 : l0.length ≤ c0) (hr1 : Kd.C (Kd.int .u32) w A1 l1.length l1) (hc1 : l1.length ≤ c1) (h : ra_cmp.f k l0 l1 = some r) :
    Calls Try.prog 50 #[.slice A0 l0.length c0, .slice A1 l1.length c1] w fun e w' => e = .returned (.int .i64 r) ∧ Drawn0 w w' := by
  have HR0 := Aside0.mk hr0; have HC0 := Aside0.mk hc0; clear hr0 hc0; have HR1 := Aside0.mk hr1; have HC1 := Aside0.mk hc1; clear hr1 hc1; have H : (if (l0.length : Int) = (l1.length : Int) then (ra_cmp.l0 k l0 l1 (wrap64 ((l0.length : Int) - 1))) else (if (l0.length : Int) < (l1.length : Int) then (some (-1)) else (some 1))) = some r := h; clear h
  by_cases c3 : (l0.length : Int) = (l1.length : Int)
  · rw [if_pos c3] at H
    have c3b0 : ((l0.length : Int) == (l1.length : Int)) = true := beq_iff_eq.mpr c3; have c3b1 : ((l0.length : Int) != (l1.length : Int)) = false := bne_eq_false_iff_eq.mpr c3
    have c3b2 : (l0.length == l1.length) = true := by first | simpa using c3 | (simp at c3 ⊢; omega)
    clear c3; have H' := Aside0.mk H; clear H
    go_enter Try.func50, Try.ntmps50
    go_wp2
    repeat (go_quiet (fail); try go_wp2)
    go_loopg [5] k (fun kq v5 w' => ∃ (x5_1 : Int), v5 = .int .i64 x5_1 ∧ Aside0 (ra_cmp.l0 kq l0 l1 x5_1 = some r) ∧ Aside0 (kq ≤ k) ∧ Drawn0 w w')
    case atStart => exact ⟨(wrap64 ((l0.length : Int) - 1)), (by first | rfl | (simp; done) | (simp [*]; done)), H', ⟨Nat.le_refl _⟩, by repeat (first | exact Drawn0.refl _ | apply Drawn0.step)⟩
    case round =>
      clear H'
      try clear c1
      try clear p2
      try clear c3
      try clear c3b0
      try clear c3b1
      try clear c3b2
      obtain ⟨x5_1, rfl, HA, HK1, ⟨m1, rfl⟩⟩ := hrel; cases gk with
      | zero => exact absurd HA.out (by simp [ra_cmp.l0])
      | succ k1 =>
        have H := HA.out; clear HA
        simp only [ra_cmp.l0] at H
        by_cases c4 : x5_1 ≥ 0
        · rw [if_pos c4] at H
          have c4b0 : decide (0 ≤ x5_1) = true := decide_eq_true c4; clear c4
          by_cases c5 : 0 ≤ x5_1
          · rw [if_pos c5] at H
            have c5b0 : decide (0 ≤ x5_1) = true := decide_eq_true c5; clear c5
            by_cases c6 : x5_1 < (l0.length : Int)
            · rw [if_pos c6] at H
              have c6b0 : decide (x5_1 < (l0.length : Int)) = true := decide_eq_true c6; clear c6
              by_cases c7 : x5_1 < (l1.length : Int)
              · rw [if_pos c7] at H
                have c7b0 : decide (x5_1 < (l1.length : Int)) = true := decide_eq_true c7; clear c7
                by_cases c8 : (rd l0 x5_1) = (rd l1 x5_1)
                · rw [if_pos c8] at H
                  have c8b0 : ((rd l0 x5_1) == (rd l1 x5_1)) = true := beq_iff_eq.mpr c8; have c8b1 : ((rd l0 x5_1) != (rd l1 x5_1)) = false := bne_eq_false_iff_eq.mpr c8; clear c8; have H' := Aside0.mk H; clear H; have p177 : 0 ≤ (x5_1 : Int) := of_decide_eq_true (by first | (with_reducible assumption) | assumption); have q177 : x5_1 < (l0.length : Int) := of_decide_eq_true (by first | (with_reducible assumption) | assumption); obtain ⟨ad177, e177, hx177_0⟩ := Kd.at_int HR0.out x5_1 p177 q177; cases e177; replace p177 := eq_true p177; replace q177 := eq_true q177; have p178 : 0 ≤ (x5_1 : Int) := of_decide_eq_true (by first | (with_reducible assumption) | assumption); have q178 : x5_1 < (l1.length : Int) := of_decide_eq_true (by first | (with_reducible assumption) | assumption); obtain ⟨ad178, e178, hx178_0⟩ := Kd.at_int HR1.out x5_1 p178 q178; cases e178; replace p178 := eq_true p178; replace q178 := eq_true q178
                  go_wp2
                  repeat (go_quiet (fail); try go_wp2)
                  go_roundg k1
                  case measure => have := HK1.out; omega
                  case rel => exact ⟨(wrap64 (x5_1 - 1)), (by first | rfl | (simp; done) | (simp [*]; done)), H', ⟨by have := HK1.out; omega⟩, by repeat (first | exact Drawn0.refl _ | apply Drawn0.step)⟩
                · rw [if_neg c8] at H
                  have c8b0 : ((rd l0 x5_1) == (rd l1 x5_1)) = false := beq_eq_false_iff_ne.mpr c8; have c8b1 : ((rd l0 x5_1) != (rd l1 x5_1)) = true := bne_iff_ne.mpr c8
                  by_cases c9 : (rd l0 x5_1) < (rd l1 x5_1)
                  · rw [if_pos c9] at H
                    have c9b0 : decide ((rd l0 x5_1) < (rd l1 x5_1)) = true := decide_eq_true c9; clear c9; obtain rfl := Option.some.inj H; have p177 : 0 ≤ (x5_1 : Int) := of_decide_eq_true (by first | (with_reducible assumption) | assumption); have q177 : x5_1 < (l0.length : Int) := of_decide_eq_true (by first | (with_reducible assumption) | assumption); obtain ⟨ad177, e177, hx177_0⟩ := Kd.at_int HR0.out x5_1 p177 q177; cases e177; replace p177 := eq_true p177; replace q177 := eq_true q177; have p178 : 0 ≤ (x5_1 : Int) := of_decide_eq_true (by first | (with_reducible assumption) | assumption); have q178 : x5_1 < (l1.length : Int) := of_decide_eq_true (by first | (with_reducible assumption) | assumption); obtain ⟨ad178, e178, hx178_0⟩ := Kd.at_int HR1.out x5_1 p178 q178; cases e178; replace p178 := eq_true p178; replace q178 := eq_true q178; have p179 : 0 ≤ (x5_1 : Int) := of_decide_eq_true (by first | (with_reducible assumption) | assumption); have q179 : x5_1 < (l0.length : Int) := of_decide_eq_true (by first | (with_reducible assumption) | assumption); obtain ⟨ad179, e179, hx179_0⟩ := Kd.at_int HR0.out x5_1 p179 q179
                    obtain rfl : ad177 = ad179 := (by injection e179)
                    replace p179 := eq_true p179; replace q179 := eq_true q179; have p180 : 0 ≤ (x5_1 : Int) := of_decide_eq_true (by first | (with_reducible assumption) | assumption); have q180 : x5_1 < (l1.length : Int) := of_decide_eq_true (by first | (with_reducible assumption) | assumption); obtain ⟨ad180, e180, hx180_0⟩ := Kd.at_int HR1.out x5_1 p180 q180
                    obtain rfl : ad178 = ad180 := (by injection e180)
                    replace p180 := eq_true p180; replace q180 := eq_true q180
                    go_wp2
                    repeat (go_quiet (fail); try go_wp2)
                    go_ret
                    exact ⟨by first | rfl | (simp; done) | (simp [*]; done), by repeat (first | exact Drawn0.refl _ | apply Drawn0.step)⟩
                  · rw [if_neg c9] at H
                    have c9b0 : decide ((rd l0 x5_1) < (rd l1 x5_1)) = false := decide_eq_false c9; clear c9; obtain rfl := Option.some.inj H; have p177 : 0 ≤ (x5_1 : Int) := of_decide_eq_true (by first | (with_reducible assumption) | assumption); have q177 : x5_1 < (l0.length : Int) := of_decide_eq_true (by first | (with_reducible assumption) | assumption); obtain ⟨ad177, e177, hx177_0⟩ := Kd.at_int HR0.out x5_1 p177 q177; cases e177; replace p177 := eq_true p177; replace q177 := eq_true q177; have p178 : 0 ≤ (x5_1 : Int) := of_decide_eq_true (by first | (with_reducible assumption) | assumption); have q178 : x5_1 < (l1.length : Int) := of_decide_eq_true (by first | (with_reducible assumption) | assumption); obtain ⟨ad178, e178, hx178_0⟩ := Kd.at_int HR1.out x5_1 p178 q178; cases e178; replace p178 := eq_true p178; replace q178 := eq_true q178; have p179 : 0 ≤ (x5_1 : Int) := of_decide_eq_true (by first | (with_reducible assumption) | assumption); have q179 : x5_1 < (l0.length : Int) := of_decide_eq_true (by first | (with_reducible assumption) | assumption); obtain ⟨ad179, e179, hx179_0⟩ := Kd.at_int HR0.out x5_1 p179 q179
                    obtain rfl : ad177 = ad179 := (by injection e179)
                    replace p179 := eq_true p179; replace q179 := eq_true q179; have p180 : 0 ≤ (x5_1 : Int) := of_decide_eq_true (by first | (with_reducible assumption) | assumption); have q180 : x5_1 < (l1.length : Int) := of_decide_eq_true (by first | (with_reducible assumption) | assumption); obtain ⟨ad180, e180, hx180_0⟩ := Kd.at_int HR1.out x5_1 p180 q180
                    obtain rfl : ad178 = ad180 := (by injection e180)
                    replace p180 := eq_true p180; replace q180 := eq_true q180
                    go_wp2
                    repeat (go_quiet (fail); try go_wp2)
                    go_ret
                    exact ⟨by first | rfl | (simp; done) | (simp [*]; done), by repeat (first | exact Drawn0.refl _ | apply Drawn0.step)⟩
              · rw [if_neg c7] at H
                exact absurd H (by simp)
            · rw [if_neg c6] at H
              exact absurd H (by simp)
          · rw [if_neg c5] at H
            exact absurd H (by simp)
        · rw [if_neg c4] at H
          have c4b0 : decide (0 ≤ x5_1) = false := decide_eq_false c4; clear c4; obtain rfl := Option.some.inj H
          go_wp2
          repeat (go_quiet (fail); try go_wp2)
          go_ret
          exact ⟨by first | rfl | (simp; done) | (simp [*]; done), by repeat (first | exact Drawn0.refl _ | apply Drawn0.step)⟩
  · rw [if_neg c3] at H
    have c3b0 : ((l0.length : Int) == (l1.length : Int)) = false := beq_eq_false_iff_ne.mpr c3; have c3b1 : ((l0.length : Int) != (l1.length : Int)) = true := bne_iff_ne.mpr c3
    have c3b2 : (l0.length == l1.length) = false := by first | simpa using c3 | (simp at c3 ⊢; omega)
    by_cases c10 : (l0.length : Int) < (l1.length : Int)
    · rw [if_pos c10] at H
      have c10b0 : decide ((l0.length : Int) < (l1.length : Int)) = true := decide_eq_true c10; have c10b1 : decide (l0.length < l1.length) = true := decide_eq_true (Int.ofNat_lt.mp c10); clear c10; obtain rfl := Option.some.inj H
      go_enter Try.func50, Try.ntmps50
      go_wp2
      repeat (go_quiet (fail); try go_wp2)
      go_ret
      exact ⟨by first | rfl | (simp; done) | (simp [*]; done), by repeat (first | exact Drawn0.refl _ | apply Drawn0.step)⟩
    · rw [if_neg c10] at H
      have c10b0 : decide ((l0.length : Int) < (l1.length : Int)) = false := decide_eq_false c10; have c10b1 : decide (l0.length < l1.length) = false := decide_eq_false (fun h => c10 (Int.ofNat_lt.mpr h)); clear c10; obtain rfl := Option.some.inj H
      go_enter Try.func50, Try.ntmps50
      go_wp2
      repeat (go_quiet (fail); try go_wp2)
      go_ret
      exact ⟨by first | rfl | (simp; done) | (simp [*]; done), by repeat (first | exact Drawn0.refl _ | apply Drawn0.step)⟩
end Go.Proofs.Ytpkgckccfanchaa.M

namespace Go.Proofs.Ytpkgckccfanchaa.M
open Go.RowKit YtpkgckccfanchaaW.PrintWords YtpkgckccfanchaaW.PrintLast YtpkgckccfanchaaW.PrintMore
attribute [local go_sem] pzW pzX pzY pzZ pzS pzT pzU pzV
set_option linter.unusedVariables false
set_option linter.unusedSimpArgs false
def ra_Same.f (k : Nat) (a0_0 : Bool) (l0_1 : List Int) (a1_0 : Bool) (l1_1 : List Int) : Option (Bool) := if (a0_0 == a1_0) = true then (if (l0_1.length : Int) = (l1_1.length : Int) then ((ra_cmp.f k l0_1 l1_1).bind fun t183 => (some (t183 == 0))) else (some false)) else (some false)
theorem ra_Same.mono : ∀ a0 a1 a2 a3 k, LeO (ra_Same.f k a0 a1 a2 a3) (ra_Same.f (k + 1) a0 a1 a2 a3) := by
  intro a0 a1 a2 a3 k
  unfold ra_Same.f
  repeat' first
      | (with_reducible exact ra_cmp.mono _ _ _)
      | (with_reducible exact LeO.refl _)
      | (with_reducible exact LeO.none _)
      | (with_reducible refine LeO.ite ?_ ?_)
      | (with_reducible refine LeO.bind ?_ (fun _ => ?_))
      | exact ra_cmp.mono _ _ _
      | exact LeO.none _
      | refine LeO.ite ?_ ?_
      | refine LeO.bind ?_ (fun _ => ?_)
set_option maxHeartbeats 8000000 in
set_option maxRecDepth 100000 in
theorem ra_Same.calls (k : Nat) (a0_0 : Bool) (A0_1 : Option Addr) (c0_1 : Nat) (l0_1 : List Int) (a1_0 : Bool) (A1_1 : Option Addr) (c1_1 : Nat) (l1_1 : List Int) (r : Bool) (w : World) (hr0_1 : Kd.C (Kd.int .u32) w A0_1 l0_1.length l0_1) (hc0_1 : l0_1.length ≤ c0_1) (hr1_1 : Kd.C (Kd.int .u32) w A1_1 l1_1.length l1_1) (hc1_1 : l1_1.length ≤ c1_1) (h : ra_Same.f k a0_0 l0_1 a1_0 l1_1 = some r) :
    Calls Try.prog 16 #[.agg #[.bool a0_0, .slice A0_1 l0_1.length c0_1], .agg #[.bool a1_0, .slice A1_1 l1_1.length c1_1]] w fun e w' => e = .returned (.bool r) ∧ Below w.heap.size w w' := by
  have hu24 := Try.underlying24; have HR0_1 := Aside0.mk hr0_1; have HC0_1 := Aside0.mk hc0_1; clear hr0_1 hc0_1; have HR1_1 := Aside0.mk hr1_1; have HC1_1 := Aside0.mk hc1_1; clear hr1_1 hc1_1; have HB := Aside0.mk (Below.refl w.heap.size w); have H : (if (a0_0 == a1_0) = true then (if (l0_1.length : Int) = (l1_1.length : Int) then ((ra_cmp.f k l0_1 l1_1).bind fun t183 => (some (t183 == 0))) else (some false)) else (some false)) = some r := h; clear h
  by_cases c3 : (a0_0 == a1_0) = true
  · rw [if_pos c3] at H
    have c3b0 : (a0_0 == a1_0) = true := c3
    (try (have c3b1 : decide (a0_0 = a1_0) = true := by simpa using c3))
    (try (have c3b2 : (a0_0 == a1_0) = true := by simpa using c3))
    clear c3
    by_cases c4 : (l0_1.length : Int) = (l1_1.length : Int)
    · rw [if_pos c4] at H
      have c4b0 : ((l0_1.length : Int) == (l1_1.length : Int)) = true := beq_iff_eq.mpr c4; have c4b1 : ((l0_1.length : Int) != (l1_1.length : Int)) = false := bne_eq_false_iff_eq.mpr c4
      have c4b2 : (l0_1.length == l1_1.length) = true := by first | simpa using c4 | (simp at c4 ⊢; omega)
      clear c4; replace H := Option.bind_eq_some_iff.mp H; obtain ⟨t183, A50, H⟩ := H; replace H : (some (t183 == 0)) = some r := H; have A5 := Aside0.mk A50; clear A50; obtain rfl := Option.some.inj H
      go_enter Try.func16, Try.ntmps16
      go_wp2_with (first | ((with_reducible refine pzQ (N := 2) rfl ?_); (try (refine gate_guard (by rfl) ?_; dsimp only)); refine pzR ?hg (N := 2) ?hd (cs := #[.bool a0_0, .slice A0_1 l0_1.length c0_1]) (t := 24) ?hr ?_; (case hd => rfl); (case hg => rfl); (case hr => first | (go_simp; done) | (go_simp; rfl)); intro gb181 hg w6 hbox hb; have n0_ := Aside0.mk (pzL (by repeat (first | (with_reducible first | exact HB.out | apply pzB | apply pzA | apply pzC) | exact HB.out)) hb); have n1_ := Aside0.mk (hbox); have n2_ := Aside0.mk ((by rw [hg]; exact (pzJ (by repeat (first | (with_reducible first | exact HB.out | apply pzB | apply pzA | apply pzC) | exact HB.out))) : w.heap.size ≤ gb181)); have n3_ := Aside0.mk ((by rw [hg]; exact (pzJ (by repeat (first | (with_reducible first | exact HB.out | apply pzB | apply pzA | apply pzC) | exact HB.out))) : w.heap.size ≤ gb181)); clear HB; have HB := n0_; have BK181 := n1_; have GW181 := n2_; have GE181 := n3_; clear n0_ n1_ n2_ n3_; clear hb hbox hg) | ((with_reducible refine pzQ (N := 3) rfl ?_); (try (refine gate_guard (by rfl) ?_; dsimp only)); refine pzR ?hg (N := 3) ?hd (cs := #[.bool a1_0, .slice A1_1 l1_1.length c1_1]) (t := 24) ?hr ?_; (case hd => rfl); (case hg => rfl); (case hr => first | (go_simp; done) | (go_simp; rfl)); intro gb182 hg w7 hbox hb; have n0_ := Aside0.mk (pzI (g := gb181) (o := .cells #[.bool a0_0, .slice A0_1 l0_1.length c0_1] 24 (0, 0)) (by (with_reducible repeat (first | refine pzF ?_ _ | refine pzG ?_ | refine pzE ?_ _)); exact BK181.out) hb); have n1_ := Aside0.mk (pzL (by repeat (first | (with_reducible first | exact HB.out | apply pzB | apply pzA | apply pzC | refine pzD ?_ GE181.out) | exact HB.out)) hb); have n2_ := Aside0.mk (hbox); have n3_ := Aside0.mk ((by rw [hg]; exact (pzJ (by repeat (first | (with_reducible first | exact HB.out | apply pzB | apply pzA | apply pzC | refine pzD ?_ GE181.out) | exact HB.out))) : w.heap.size ≤ gb182)); have n4_ := Aside0.mk ((by rw [hg]; exact (pzJ (by repeat (first | (with_reducible first | exact HB.out | apply pzB | apply pzA | apply pzC | refine pzD ?_ GE181.out) | exact HB.out))) : w.heap.size ≤ gb182)); have n5_ := Aside0.mk ((by rw [hg]; exact Nat.ne_of_lt (pzO (g := gb181) (o := .cells #[.bool a0_0, .slice A0_1 l0_1.length c0_1] 24 (0, 0)) (by (with_reducible repeat (first | refine pzF ?_ _ | refine pzG ?_ | refine pzE ?_ _)); exact BK181.out)) : gb181 ≠ gb182)); have n6_ := Aside0.mk ((by rw [hg]; exact Nat.ne_of_gt (pzO (g := gb181) (o := .cells #[.bool a0_0, .slice A0_1 l0_1.length c0_1] 24 (0, 0)) (by (with_reducible repeat (first | refine pzF ?_ _ | refine pzG ?_ | refine pzE ?_ _)); exact BK181.out)) : gb182 ≠ gb181)); clear BK181; clear HB; have BK181 := n0_; have HB := n1_; have BK182 := n2_; have GW182 := n3_; have GE182 := n4_; have NB181_182 := n5_; have NB182_181 := n6_; clear n0_ n1_ n2_ n3_ n4_ n5_ n6_; clear hb hbox hg; have hnb8 := NB181_182.out; have hnc8 := NB182_181.out; have hcz9_0 : w7.cell? ⟨gb181, 0, none⟩ = some (.bool a0_0) := (pzH BK181.out 0).trans rfl; have hcz9_1 : w7.cell? ⟨gb181, 1, none⟩ = some (.slice A0_1 l0_1.length c0_1) := (pzH BK181.out 1).trans rfl; have hfz9_0 := pzK BK181.out 0; have hfz9_1 := pzK BK181.out 1; have hcz10_0 : w7.cell? ⟨gb182, 0, none⟩ = some (.bool a1_0) := (pzH BK182.out 0).trans rfl; have hcz10_1 : w7.cell? ⟨gb182, 1, none⟩ = some (.slice A1_1 l1_1.length c1_1) := (pzH BK182.out 1).trans rfl; have hfz10_0 := pzK BK182.out 0; have hfz10_1 := pzK BK182.out 1) | (go_at_call 50; (with_reducible refine (ra_cmp.calls k _ _ l0_1 _ _ l1_1 t183 _ ?side1 ?side2 ?side3 ?side4 A5.out).mono ?_); (case side1 => repeat (first | exact (Kd.C_below HR0_1.out HB.out) | (with_reducible refine Kd.C_alloc ?_ _) | (with_reducible refine Kd.C_drewN ?_ _) | (with_reducible refine Kd.C_drew ?_))); (case side2 => exact HC0_1.out); (case side3 => repeat (first | exact (Kd.C_below HR1_1.out HB.out) | (with_reducible refine Kd.C_alloc ?_ _) | (with_reducible refine Kd.C_drewN ?_ _) | (with_reducible refine Kd.C_drew ?_))); (case side4 => exact HC1_1.out); rintro e w' ⟨rfl, ⟨nd, rfl⟩⟩))
      go_ret
      exact ⟨by first | rfl | (simp [pzN, pzM] <;> rfl) | (simp [*, pzN, pzM] <;> rfl), by repeat (first | (with_reducible first | exact HB.out | apply pzB | apply pzA | apply pzC | refine pzD ?_ GE181.out | refine pzD ?_ GE182.out) | exact HB.out)⟩
    · rw [if_neg c4] at H
      have c4b0 : ((l0_1.length : Int) == (l1_1.length : Int)) = false := beq_eq_false_iff_ne.mpr c4; have c4b1 : ((l0_1.length : Int) != (l1_1.length : Int)) = true := bne_iff_ne.mpr c4
      have c4b2 : (l0_1.length == l1_1.length) = false := by first | simpa using c4 | (simp at c4 ⊢; omega)
      obtain rfl := Option.some.inj H
      go_enter Try.func16, Try.ntmps16
      go_wp2_with (first | ((with_reducible refine pzQ (N := 2) rfl ?_); (try (refine gate_guard (by rfl) ?_; dsimp only)); refine pzR ?hg (N := 2) ?hd (cs := #[.bool a0_0, .slice A0_1 l0_1.length c0_1]) (t := 24) ?hr ?_; (case hd => rfl); (case hg => rfl); (case hr => first | (go_simp; done) | (go_simp; rfl)); intro gb181 hg w11 hbox hb; have n0_ := Aside0.mk (pzL (by repeat (first | (with_reducible first | exact HB.out | apply pzB | apply pzA | apply pzC) | exact HB.out)) hb); have n1_ := Aside0.mk (hbox); have n2_ := Aside0.mk ((by rw [hg]; exact (pzJ (by repeat (first | (with_reducible first | exact HB.out | apply pzB | apply pzA | apply pzC) | exact HB.out))) : w.heap.size ≤ gb181)); have n3_ := Aside0.mk ((by rw [hg]; exact (pzJ (by repeat (first | (with_reducible first | exact HB.out | apply pzB | apply pzA | apply pzC) | exact HB.out))) : w.heap.size ≤ gb181)); clear HB; have HB := n0_; have BK181 := n1_; have GW181 := n2_; have GE181 := n3_; clear n0_ n1_ n2_ n3_; clear hb hbox hg) | ((with_reducible refine pzQ (N := 3) rfl ?_); (try (refine gate_guard (by rfl) ?_; dsimp only)); refine pzR ?hg (N := 3) ?hd (cs := #[.bool a1_0, .slice A1_1 l1_1.length c1_1]) (t := 24) ?hr ?_; (case hd => rfl); (case hg => rfl); (case hr => first | (go_simp; done) | (go_simp; rfl)); intro gb182 hg w12 hbox hb; have n0_ := Aside0.mk (pzI (g := gb181) (o := .cells #[.bool a0_0, .slice A0_1 l0_1.length c0_1] 24 (0, 0)) (by (with_reducible repeat (first | refine pzF ?_ _ | refine pzG ?_ | refine pzE ?_ _)); exact BK181.out) hb); have n1_ := Aside0.mk (pzL (by repeat (first | (with_reducible first | exact HB.out | apply pzB | apply pzA | apply pzC | refine pzD ?_ GE181.out) | exact HB.out)) hb); have n2_ := Aside0.mk (hbox); have n3_ := Aside0.mk ((by rw [hg]; exact (pzJ (by repeat (first | (with_reducible first | exact HB.out | apply pzB | apply pzA | apply pzC | refine pzD ?_ GE181.out) | exact HB.out))) : w.heap.size ≤ gb182)); have n4_ := Aside0.mk ((by rw [hg]; exact (pzJ (by repeat (first | (with_reducible first | exact HB.out | apply pzB | apply pzA | apply pzC | refine pzD ?_ GE181.out) | exact HB.out))) : w.heap.size ≤ gb182)); have n5_ := Aside0.mk ((by rw [hg]; exact Nat.ne_of_lt (pzO (g := gb181) (o := .cells #[.bool a0_0, .slice A0_1 l0_1.length c0_1] 24 (0, 0)) (by (with_reducible repeat (first | refine pzF ?_ _ | refine pzG ?_ | refine pzE ?_ _)); exact BK181.out)) : gb181 ≠ gb182)); have n6_ := Aside0.mk ((by rw [hg]; exact Nat.ne_of_gt (pzO (g := gb181) (o := .cells #[.bool a0_0, .slice A0_1 l0_1.length c0_1] 24 (0, 0)) (by (with_reducible repeat (first | refine pzF ?_ _ | refine pzG ?_ | refine pzE ?_ _)); exact BK181.out)) : gb182 ≠ gb181)); clear BK181; clear HB; have BK181 := n0_; have HB := n1_; have BK182 := n2_; have GW182 := n3_; have GE182 := n4_; have NB181_182 := n5_; have NB182_181 := n6_; clear n0_ n1_ n2_ n3_ n4_ n5_ n6_; clear hb hbox hg; have hnb13 := NB181_182.out; have hnc13 := NB182_181.out; have hcz14_0 : w12.cell? ⟨gb181, 0, none⟩ = some (.bool a0_0) := (pzH BK181.out 0).trans rfl; have hcz14_1 : w12.cell? ⟨gb181, 1, none⟩ = some (.slice A0_1 l0_1.length c0_1) := (pzH BK181.out 1).trans rfl; have hfz14_0 := pzK BK181.out 0; have hfz14_1 := pzK BK181.out 1; have hcz15_0 : w12.cell? ⟨gb182, 0, none⟩ = some (.bool a1_0) := (pzH BK182.out 0).trans rfl; have hcz15_1 : w12.cell? ⟨gb182, 1, none⟩ = some (.slice A1_1 l1_1.length c1_1) := (pzH BK182.out 1).trans rfl; have hfz15_0 := pzK BK182.out 0; have hfz15_1 := pzK BK182.out 1))
      go_ret
      exact ⟨by first | rfl | (simp [pzN, pzM] <;> rfl) | (simp [*, pzN, pzM] <;> rfl), by repeat (first | (with_reducible first | exact HB.out | apply pzB | apply pzA | apply pzC | refine pzD ?_ GE181.out | refine pzD ?_ GE182.out) | exact HB.out)⟩
  · rw [if_neg c3] at H
    have c3b0 : (a0_0 == a1_0) = false := by simpa using c3
    (try (have c3b1 : decide (a0_0 = a1_0) = false := by simpa using c3))
    (try (have c3b2 : (a0_0 == a1_0) = false := by simpa using c3))
    (try (have c3b3 : ¬ (a0_0 = a1_0) := by simpa using c3))
    clear c3; obtain rfl := Option.some.inj H
    go_enter Try.func16, Try.ntmps16
    go_wp2_with (first | ((with_reducible refine pzQ (N := 2) rfl ?_); (try (refine gate_guard (by rfl) ?_; dsimp only)); refine pzR ?hg (N := 2) ?hd (cs := #[.bool a0_0, .slice A0_1 l0_1.length c0_1]) (t := 24) ?hr ?_; (case hd => rfl); (case hg => rfl); (case hr => first | (go_simp; done) | (go_simp; rfl)); intro gb181 hg w16 hbox hb; have n0_ := Aside0.mk (pzL (by repeat (first | (with_reducible first | exact HB.out | apply pzB | apply pzA | apply pzC) | exact HB.out)) hb); have n1_ := Aside0.mk (hbox); have n2_ := Aside0.mk ((by rw [hg]; exact (pzJ (by repeat (first | (with_reducible first | exact HB.out | apply pzB | apply pzA | apply pzC) | exact HB.out))) : w.heap.size ≤ gb181)); have n3_ := Aside0.mk ((by rw [hg]; exact (pzJ (by repeat (first | (with_reducible first | exact HB.out | apply pzB | apply pzA | apply pzC) | exact HB.out))) : w.heap.size ≤ gb181)); clear HB; have HB := n0_; have BK181 := n1_; have GW181 := n2_; have GE181 := n3_; clear n0_ n1_ n2_ n3_; clear hb hbox hg) | ((with_reducible refine pzQ (N := 3) rfl ?_); (try (refine gate_guard (by rfl) ?_; dsimp only)); refine pzR ?hg (N := 3) ?hd (cs := #[.bool a1_0, .slice A1_1 l1_1.length c1_1]) (t := 24) ?hr ?_; (case hd => rfl); (case hg => rfl); (case hr => first | (go_simp; done) | (go_simp; rfl)); intro gb182 hg w17 hbox hb; have n0_ := Aside0.mk (pzI (g := gb181) (o := .cells #[.bool a0_0, .slice A0_1 l0_1.length c0_1] 24 (0, 0)) (by (with_reducible repeat (first | refine pzF ?_ _ | refine pzG ?_ | refine pzE ?_ _)); exact BK181.out) hb); have n1_ := Aside0.mk (pzL (by repeat (first | (with_reducible first | exact HB.out | apply pzB | apply pzA | apply pzC | refine pzD ?_ GE181.out) | exact HB.out)) hb); have n2_ := Aside0.mk (hbox); have n3_ := Aside0.mk ((by rw [hg]; exact (pzJ (by repeat (first | (with_reducible first | exact HB.out | apply pzB | apply pzA | apply pzC | refine pzD ?_ GE181.out) | exact HB.out))) : w.heap.size ≤ gb182)); have n4_ := Aside0.mk ((by rw [hg]; exact (pzJ (by repeat (first | (with_reducible first | exact HB.out | apply pzB | apply pzA | apply pzC | refine pzD ?_ GE181.out) | exact HB.out))) : w.heap.size ≤ gb182)); have n5_ := Aside0.mk ((by rw [hg]; exact Nat.ne_of_lt (pzO (g := gb181) (o := .cells #[.bool a0_0, .slice A0_1 l0_1.length c0_1] 24 (0, 0)) (by (with_reducible repeat (first | refine pzF ?_ _ | refine pzG ?_ | refine pzE ?_ _)); exact BK181.out)) : gb181 ≠ gb182)); have n6_ := Aside0.mk ((by rw [hg]; exact Nat.ne_of_gt (pzO (g := gb181) (o := .cells #[.bool a0_0, .slice A0_1 l0_1.length c0_1] 24 (0, 0)) (by (with_reducible repeat (first | refine pzF ?_ _ | refine pzG ?_ | refine pzE ?_ _)); exact BK181.out)) : gb182 ≠ gb181)); clear BK181; clear HB; have BK181 := n0_; have HB := n1_; have BK182 := n2_; have GW182 := n3_; have GE182 := n4_; have NB181_182 := n5_; have NB182_181 := n6_; clear n0_ n1_ n2_ n3_ n4_ n5_ n6_; clear hb hbox hg; have hnb18 := NB181_182.out; have hnc18 := NB182_181.out; have hcz19_0 : w17.cell? ⟨gb181, 0, none⟩ = some (.bool a0_0) := (pzH BK181.out 0).trans rfl; have hcz19_1 : w17.cell? ⟨gb181, 1, none⟩ = some (.slice A0_1 l0_1.length c0_1) := (pzH BK181.out 1).trans rfl; have hfz19_0 := pzK BK181.out 0; have hfz19_1 := pzK BK181.out 1; have hcz20_0 : w17.cell? ⟨gb182, 0, none⟩ = some (.bool a1_0) := (pzH BK182.out 0).trans rfl; have hcz20_1 : w17.cell? ⟨gb182, 1, none⟩ = some (.slice A1_1 l1_1.length c1_1) := (pzH BK182.out 1).trans rfl; have hfz20_0 := pzK BK182.out 0; have hfz20_1 := pzK BK182.out 1))
    go_ret
    exact ⟨by first | rfl | (simp [pzN, pzM] <;> rfl) | (simp [*, pzN, pzM] <;> rfl), by repeat (first | (with_reducible first | exact HB.out | apply pzB | apply pzA | apply pzC | refine pzD ?_ GE181.out | refine pzD ?_ GE182.out) | exact HB.out)⟩
end Go.Proofs.Ytpkgckccfanchaa.M

namespace Go.Proofs.Ytpkgckccfanchaa.M
open Go.RowKit YtpkgckccfanchaaW.PrintWords YtpkgckccfanchaaW.PrintLast YtpkgckccfanchaaW.PrintMore
open Sims
set_option linter.unusedVariables false
set_option linter.unusedSimpArgs false
theorem LeO.up {α : Type} {f : Nat → Option α} (h : ∀ k, LeO (f k) (f (k + 1))) {a b : Nat} (hab : a ≤ b) {r : α} (hr : f a = some r) : f b = some r := by
  induction b with
  | zero => obtain rfl : a = 0 := by omega
            exact hr
  | succ b ih =>
    rcases Nat.lt_or_ge b a with h1 | h1
    · obtain rfl : a = b + 1 := by omega
      exact hr
    · exact h b r (ih h1)
def divs : List Nat := [1, 2, 3, 4, 5, 6, 7, 8, 9, 10, 12, 14, 15, 16, 18, 20, 21, 24, 28, 30, 32, 35, 36, 40, 42, 45, 48, 56, 60, 63, 64, 70, 72, 80, 84, 90, 96, 105, 112, 120, 126, 128, 140, 144, 160, 168, 180, 192, 210, 224, 240, 252, 280, 288, 315, 320, 336, 360, 384, 420, 448, 480, 504, 560, 576, 630, 640, 672, 720, 840, 896, 960, 1008, 1120, 1152, 1260, 1344, 1440, 1680, 1920, 2016, 2240, 2520, 2688, 2880, 3360, 4032, 4480, 5040, 5760, 6720, 8064, 10080, 13440, 20160, 40320]
theorem divs_all : ((List.range 40321).all fun P => !(40320 % P == 0) || divs.contains P) = true := by decide +kernel
theorem divs_mem {P : Nat} (h : P ∣ 40320) : P ∈ divs := by
  have h1 : P ≤ 40320 := Nat.le_of_dvd (by omega) h
  have h2 := List.all_eq_true.1 divs_all P (List.mem_range.2 (by omega))
  have h3 : (40320 % P == 0) = true := by simpa using Nat.mod_eq_zero_of_dvd h
  rw [h3] at h2
  simpa using h2
theorem small_fin : ([1, 2, 3, 4, 5, 6, 7, 8].all fun b : Nat => decide (integer_Small.f b = some (false, [(b : Int)])) && decide (ra_Small.f b = some (false, [(b : Int)]))) = true := by decide +kernel
theorem mul_fin : (divs.all fun P => [1, 2, 3, 4, 5, 6, 7, 8].all fun b : Nat => !(divs.contains (P * b)) || (decide (integer_Mul.f 40 false [(P : Int)] false [(b : Int)] = some (false, [((P * b : Nat) : Int)])) && decide (ra_Mul.f 40 false [(P : Int)] false [(b : Int)] = some (false, [((P * b : Nat) : Int)])))) = true := by decide +kernel
theorem same_fin : (divs.all fun P => decide (ra_Same.f 40 false [(P : Int)] false [(P : Int)] = some true)) = true := by decide +kernel
theorem mem8 {b : Nat} (h0 : 0 < b) (h8 : b ≤ 8) : b ∈ [1, 2, 3, 4, 5, 6, 7, 8] := by
  have : b = 1 ∨ b = 2 ∨ b = 3 ∨ b = 4 ∨ b = 5 ∨ b = 6 ∨ b = 7 ∨ b = 8 := by omega
  rcases this with h | h | h | h | h | h | h | h <;> subst h <;> simp
theorem small_ok {b : Nat} (h0 : 0 < b) (h8 : b ≤ 8) : integer_Small.f b = some (false, [(b : Int)]) ∧ ra_Small.f b = some (false, [(b : Int)]) := by
  have h := List.all_eq_true.1 small_fin b (mem8 h0 h8)
  simpa only [Bool.and_eq_true, decide_eq_true_eq] using h
theorem mul_ok {P b : Nat} (h0 : 0 < b) (h8 : b ≤ 8) (h : P * b ∣ 40320) : integer_Mul.f 40 false [(P : Int)] false [(b : Int)] = some (false, [((P * b : Nat) : Int)]) ∧ ra_Mul.f 40 false [(P : Int)] false [(b : Int)] = some (false, [((P * b : Nat) : Int)]) := by
  have h1 := List.all_eq_true.1 (List.all_eq_true.1 mul_fin P (divs_mem (Nat.dvd_trans ⟨b, rfl⟩ h))) b (mem8 h0 h8)
  have h2 : divs.contains (P * b) = true := by simpa using divs_mem h
  rw [h2] at h1
  simpa only [Bool.not_true, Bool.false_or, Bool.and_eq_true, decide_eq_true_eq] using h1
theorem mul_i {P b k : Nat} (h0 : 0 < b) (h8 : b ≤ 8) (h : P * b ∣ 40320) (hk : 40 ≤ k) : integer_Mul.f k false [(P : Int)] false [(b : Int)] = some (false, [((P * b : Nat) : Int)]) := LeO.up (fun k => integer_Mul.mono _ _ _ _ k) hk (mul_ok h0 h8 h).1
theorem same_r {P k : Nat} (h : P ∣ 40320) (hk : 40 ≤ k) : ra_Same.f k false [(P : Int)] false [(P : Int)] = some true :=
  LeO.up (fun k => ra_Same.mono _ _ _ _ k) hk (by simpa only [decide_eq_true_eq] using List.all_eq_true.1 same_fin P (divs_mem h))
theorem fact_dvd {n : Nat} (h8 : n ≤ 8) : factN n ∣ 40320 := by
  have : n = 0 ∨ n = 1 ∨ n = 2 ∨ n = 3 ∨ n = 4 ∨ n = 5 ∨ n = 6 ∨ n = 7 ∨ n = 8 := by omega
  rcases this with h | h | h | h | h | h | h | h | h <;> subst h <;> decide
theorem reps_small {n : Nat} (h8 : n ≤ 8) {l : Lv} (h : LvOk n l) : 0 < l.reps.length ∧ l.reps.length ≤ 8 := by
  have e : (dom l).length = l.reps.length := by simp [dom]
  have h1 := pts_le h.nd h.rng
  have h2 := List.length_pos_of_mem h.first.1
  omega
theorem lens_at {ls : List Lv} {i : Nat} (h : i < ls.length) : rd (lensF ls) (i : Int) = ((ls[i].reps.length : Nat) : Int) := by
  simp [rd, lensF, List.getD_eq_getElem?_getD, h]
theorem szF_drop {ls : List Lv} {i : Nat} (h : i < ls.length) : szF (ls.drop i) = ls[i].reps.length * szF (ls.drop (i + 1)) := by
  rw [List.drop_eq_getElem_cons h]
  rfl
theorem product_go {n : Nat} (h8 : n ≤ 8) {ls : List Lv} (hls : ∀ l ∈ ls, LvOk n l) (hsz : szF ls ∣ 40320) (hlen : ls.length ≤ 8) : ∀ (d i P k : Nat), i + d = ls.length → P * szF (ls.drop i) = szF ls → d + 41 ≤ k →
    sc_product.l0 k (lensF ls) ((lensF ls).length : Int) (i : Int) false [(P : Int)] = some (false, [((szF ls : Nat) : Int)])
  | d, i, P, 0, _, _, hk => by omega
  | 0, i, P, k + 1, hi, hP, hk => by
    rw [List.drop_of_length_le (by omega)] at hP
    have hP2 : P = szF ls := by simpa [szF] using hP
    unfold sc_product.l0
    rw [if_neg (by rw [lensF_length]; omega), hP2]
  | d + 1, i, P, k + 1, hi, hP, hk => by
    have hil : i < ls.length := by omega
    obtain ⟨b0, b8⟩ := reps_small h8 (hls _ (List.getElem_mem hil))
    rw [szF_drop hil, ← Nat.mul_assoc] at hP
    unfold sc_product.l0
    rw [if_pos (by rw [lensF_length]; omega), if_pos (by omega), if_pos (by rw [lensF_length]; omega), lens_at hil, (small_ok b0 b8).1, Option.bind_some, mul_i b0 b8 (Nat.dvd_trans ⟨_, hP.symm⟩ hsz) (by omega), Option.bind_some]
    have hw : wrap64 ((i : Int) + 1) = ((i + 1 : Nat) : Int) := by unfold wrap64; omega
    rw [hw]
    exact product_go h8 hls hsz hlen d (i + 1) _ k (by omega) hP (by omega)
theorem product_ok {n : Nat} (h8 : n ≤ 8) {ls : List Lv} (hls : ∀ l ∈ ls, LvOk n l) (hsz : szF ls ∣ 40320) (hlen : ls.length ≤ 8) {k : Nat} (hk : 50 ≤ k) : sc_product.f k (lensF ls) = some (false, [((szF ls : Nat) : Int)]) := by
  have h1 := (small_ok (b := 1) (by omega) (by omega)).1
  unfold sc_product.f
  rw [show (1 : Int) = ((1 : Nat) : Int) from rfl, h1, Option.bind_some]
  exact product_go h8 hls hsz hlen ls.length 0 1 k (by omega) (by simp) (by omega)
theorem order_ok {n : Nat} (hn : 0 < n) (h8 : n ≤ 8) {gens : List (List Int)} (hg : ∀ g ∈ gens, IsP n g) (hl : gens.length ≤ 64) {k : Nat} (hk : gens.length + 50 ≤ k) :
    ∃ ls, groupF n (n + 1) gens [] = some ls ∧ PC n [] ls ∧ grp n ls = GL n gens ∧ szF ls ∣ factN n ∧ sc_Order.f k (n : Int) gens = some (false, [((szF ls : Nat) : Int)], 0) := by
  obtain ⟨ls, e, h1, h2, _, _⟩ := group_ok (Nat.le_refl _) hg (fun x hx => by simp at hx) List.nodup_nil
  have h3 : szF ls ∣ factN n := by rw [szF_size n ls]; exact size_dvd_fact (grp_sub n ls) (PC_chn h1)
  have h4 := PC_length h1 List.nodup_nil (fun x hx => by simp at hx)
  refine ⟨ls, e, h1, h2, h3, ?_⟩
  unfold sc_Order.f
  rw [args_ok hn h8 hg hl (by omega), Option.bind_some, if_pos rfl, if_pos (okB_mk hn (by omega) hg (by omega)), Int.toNat_natCast, e, Option.bind_some, product_ok h8 (PC_ok h1) (Nat.dvd_trans h3 (fact_dvd h8)) (by simp at h4; omega) (by omega)]
  rfl
end Go.Proofs.Ytpkgckccfanchaa.M

namespace Go.Proofs.Ytpkgckccfanchaa.M
open Go.RowKit YtpkgckccfanchaaW.PrintWords YtpkgckccfanchaaW.PrintLast YtpkgckccfanchaaW.PrintMore
open Sims
set_option linter.unusedVariables false
set_option linter.unusedSimpArgs false
theorem degree_ok {a0 : Int} (h0 : 0 ≤ a0) (h1 : a0 < 256) (l : List (List Int)) (b : Bool) {m : Nat} (hm : 0 < m) (hm2 : m ≤ 200) : ∃ n : Nat, 0 < n ∧ n ≤ m ∧ qm_Perms_Degree.f a0 l b m = some (n : Int) ∧ (1 + a0 % m).toNat = n := by
  have e3 : a0 % m < m := Int.emod_lt_of_pos _ (by omega)
  have e4 : 0 ≤ a0 % m := Int.emod_nonneg _ (by omega)
  refine ⟨(1 + a0 % m).toNat, by omega, by omega, ?_, rfl⟩
  unfold qm_Perms_Degree.f
  rw [if_neg (by omega)]
  have e1 : wrap64 a0 = a0 := by unfold wrap64; omega
  have e2 : Int.tmod a0 m = a0 % m := Int.tmod_eq_emod_of_nonneg h0
  rw [e1, e2]
  congr 1
  unfold wrap64
  omega
theorem gens_ok {a0 : Int} (h0 : 0 ≤ a0) (h1 : a0 < 256) {l : List (List Int)} (hl : ∀ x ∈ l, x.length ≤ 9223372036854775807) (b : Bool) {m n : Nat} (hm : 0 < m) (hm2 : m ≤ 200) (hn : 0 < n) (e : (1 + a0 % m).toNat = n) :
    ∃ gens, qm_Perms_Gens.f a0 l b m = some gens ∧ (∀ g ∈ gens, IsP n g) ∧ gens.length ≤ 3 := by
  refine ⟨(l.take 3).map (genI b n), ?_, fun g hg => ?_, by simp; omega⟩
  · unfold qm_Perms_Gens.f
    rw [if_pos ⟨h0, h1, by omega, by omega, by simpa using hl⟩, e]
  · obtain ⟨x, _, rfl⟩ := List.mem_map.1 hg
    exact genI_isP hn b x
theorem perm_ok {l : List Int} (hl : l.length ≤ 9223372036854775807) {n : Nat} (hn : 0 < n) (h2 : n ≤ 200) : ∃ p, qm_Perm.f l (n : Int) = some p ∧ IsP n p := by
  refine ⟨permLoop l (n - 1) 0 (rangeI n), ?_, permLoop_isP l (n - 1) 0 _ (by omega) (oneL_isP n)⟩
  unfold qm_Perm.f
  rw [if_pos ⟨by omega, by omega, hl⟩, Int.toNat_natCast]
end Go.Proofs.Ytpkgckccfanchaa.M

namespace Go.Proofs.Ytpkgckccfanchaa.M
open Go.RowKit YtpkgckccfanchaaW.PrintWords YtpkgckccfanchaaW.PrintLast YtpkgckccfanchaaW.PrintMore
attribute [local go_sem] pzW pzX pzY pzZ pzS pzT pzU pzV
set_option linter.unusedVariables false
set_option linter.unusedSimpArgs false
def ra_Sign.f (a0_0 : Bool) (l0_1 : List Int) : Option (Int) := (ra_trim.f l0_1).bind fun t429 => (if (t429.length : Int) = 0 then (some 0) else (if a0_0 = true then (some (-1)) else (some 1)))
set_option maxHeartbeats 8000000 in
set_option maxRecDepth 100000 in
theorem ra_Sign.calls (a0_0 : Bool) (A0_1 : Option Addr) (c0_1 : Nat) (l0_1 : List Int) (r : Int) (w : World) (hr0_1 : Kd.C (Kd.int .u32) w A0_1 l0_1.length l0_1) (hc0_1 : l0_1.length ≤ c0_1) (h : ra_Sign.f a0_0 l0_1 = some r) :
    Calls Try.prog 28 #[.agg #[.bool a0_0, .slice A0_1 l0_1.length c0_1]] w fun e w' => e = .returned (.int .i64 r) ∧ Below w.heap.size w w' := by
  have hu24 := Try.underlying24; have HR0_1 := Aside0.mk hr0_1; have HC0_1 := Aside0.mk hc0_1; clear hr0_1 hc0_1; have HB := Aside0.mk (Below.refl w.heap.size w); have H : ((ra_trim.f l0_1).bind fun t429 => (if (t429.length : Int) = 0 then (some 0) else (if a0_0 = true then (some (-1)) else (some 1)))) = some r := h; clear h; replace H := Option.bind_eq_some_iff.mp H; obtain ⟨t429, A20, H⟩ := H; replace H : (if (t429.length : Int) = 0 then (some 0) else (if a0_0 = true then (some (-1)) else (some 1))) = some r := H; have A2 := Aside0.mk A20; clear A20
  by_cases c3 : (t429.length : Int) = 0
  · rw [if_pos c3] at H
    have c3b0 : ((t429.length : Int) == 0) = true := beq_iff_eq.mpr c3; have c3b1 : ((t429.length : Int) != 0) = false := bne_eq_false_iff_eq.mpr c3; clear c3; obtain rfl := Option.some.inj H
    go_enter Try.func28, Try.ntmps28
    go_wp2_with (first | ((with_reducible refine pzQ (N := 1) rfl ?_); refine pzR ?hg (N := 1) ?hd (cs := #[.bool a0_0, .slice A0_1 l0_1.length c0_1]) (t := 24) ?hr ?_; (case hd => rfl); (case hg => rfl); (case hr => first | (go_simp; done) | (go_simp; rfl)); intro gb428 hg w4 hbox hb; have n0_ := Aside0.mk (pzL (by repeat (first | (with_reducible first | exact HB.out | apply pzB | apply pzA | apply pzC) | exact HB.out)) hb); have n1_ := Aside0.mk (hbox); have n2_ := Aside0.mk ((by rw [hg]; exact (pzJ (by repeat (first | (with_reducible first | exact HB.out | apply pzB | apply pzA | apply pzC) | exact HB.out))) : w.heap.size ≤ gb428)); have n3_ := Aside0.mk ((by rw [hg]; exact (pzJ (by repeat (first | (with_reducible first | exact HB.out | apply pzB | apply pzA | apply pzC) | exact HB.out))) : w.heap.size ≤ gb428)); clear HB; have HB := n0_; have BK428 := n1_; have GW428 := n2_; have GE428 := n3_; clear n0_ n1_ n2_ n3_; clear hb hbox hg; have hcz5_0 : w4.cell? ⟨gb428, 0, none⟩ = some (.bool a0_0) := (pzH BK428.out 0).trans rfl; have hcz5_1 : w4.cell? ⟨gb428, 1, none⟩ = some (.slice A0_1 l0_1.length c0_1) := (pzH BK428.out 1).trans rfl; have hfz5_0 := pzK BK428.out 0; have hfz5_1 := pzK BK428.out 1) | ((with_reducible refine pzP (f := 61) rfl ?_); refine pyH (some 6) rfl rfl Try.func61 (by kernel_rfl) rfl #[.slice A0_1 l0_1.length c0_1] rfl (by (try simp only [List.map_toArray, List.map_cons, List.map_nil]); first | done | rfl | (simp only [List.length_drop, List.length_take]; rfl)) ?_; (with_reducible refine (ra_trim.calls _ _ l0_1 t429 _ ?side1 ?side2 A2.out).mono ?_); (case side1 => repeat (first | exact (Kd.C_below HR0_1.out HB.out) | (with_reducible refine Kd.C_alloc ?_ _) | (with_reducible refine Kd.C_drewN ?_ _) | (with_reducible refine Kd.C_drew ?_))); (case side2 => exact HC0_1.out); rintro e w6 ⟨v430, rfl, ho0, hb⟩; refine ⟨_, rfl, ?_⟩; have n0_ := Aside0.mk (Kd.R_lower ho0 (pzJ (by repeat (first | (with_reducible first | exact HB.out | apply pzB | apply pzA | apply pzC | refine pzD ?_ GE428.out) | exact HB.out)))); have n1_ := Aside0.mk (pzI (g := gb428) (o := .cells #[.bool a0_0, .slice A0_1 l0_1.length c0_1] 24 (0, 0)) (by (with_reducible repeat (first | refine pzF ?_ _ | refine pzG ?_ | refine pzE ?_ _)); exact BK428.out) hb); have n2_ := Aside0.mk (pzL (by repeat (first | (with_reducible first | exact HB.out | apply pzB | apply pzA | apply pzC | refine pzD ?_ GE428.out) | exact HB.out)) hb); clear BK428; clear HB; have HO431 := n0_; have BK428 := n1_; have HB := n2_; clear n0_ n1_ n2_; (try clear hb); (try clear hb2); (try clear hk); (try clear hi); (try clear ho0); obtain ⟨Ao7, co7, eo7⟩ := Kd.R_slice HO431.out; subst eo7))
    go_ret
    exact ⟨by first | rfl | (simp [pzN, pzM] <;> rfl) | (simp [*, pzN, pzM] <;> rfl), by repeat (first | (with_reducible first | exact HB.out | apply pzB | apply pzA | apply pzC | refine pzD ?_ GE428.out) | exact HB.out)⟩
  · rw [if_neg c3] at H
    have c3b0 : ((t429.length : Int) == 0) = false := beq_eq_false_iff_ne.mpr c3; have c3b1 : ((t429.length : Int) != 0) = true := bne_iff_ne.mpr c3
    have c3b2 : ¬ (t429 = []) := fun h_ => c3 (by rw [h_]; rfl)
    by_cases c8 : a0_0 = true
    · subst c8
      have H1 : (some (-1)) = some r := by rw [if_pos rfl] at H; exact H
      clear H; have H := H1; clear H1; obtain rfl := Option.some.inj H
      go_enter Try.func28, Try.ntmps28
      go_wp2_with (first | ((with_reducible refine pzQ (N := 1) rfl ?_); refine pzR ?hg (N := 1) ?hd (cs := #[.bool true, .slice A0_1 l0_1.length c0_1]) (t := 24) ?hr ?_; (case hd => rfl); (case hg => rfl); (case hr => first | (go_simp; done) | (go_simp; rfl)); intro gb428 hg w9 hbox hb; have n0_ := Aside0.mk (pzL (by repeat (first | (with_reducible first | exact HB.out | apply pzB | apply pzA | apply pzC) | exact HB.out)) hb); have n1_ := Aside0.mk (hbox); have n2_ := Aside0.mk ((by rw [hg]; exact (pzJ (by repeat (first | (with_reducible first | exact HB.out | apply pzB | apply pzA | apply pzC) | exact HB.out))) : w.heap.size ≤ gb428)); have n3_ := Aside0.mk ((by rw [hg]; exact (pzJ (by repeat (first | (with_reducible first | exact HB.out | apply pzB | apply pzA | apply pzC) | exact HB.out))) : w.heap.size ≤ gb428)); clear HB; have HB := n0_; have BK428 := n1_; have GW428 := n2_; have GE428 := n3_; clear n0_ n1_ n2_ n3_; clear hb hbox hg; have hcz10_0 : w9.cell? ⟨gb428, 0, none⟩ = some (.bool true) := (pzH BK428.out 0).trans rfl; have hcz10_1 : w9.cell? ⟨gb428, 1, none⟩ = some (.slice A0_1 l0_1.length c0_1) := (pzH BK428.out 1).trans rfl; have hfz10_0 := pzK BK428.out 0; have hfz10_1 := pzK BK428.out 1) | ((with_reducible refine pzP (f := 61) rfl ?_); refine pyH (some 6) rfl rfl Try.func61 (by kernel_rfl) rfl #[.slice A0_1 l0_1.length c0_1] rfl (by (try simp only [List.map_toArray, List.map_cons, List.map_nil]); first | done | rfl | (simp only [List.length_drop, List.length_take]; rfl)) ?_; (with_reducible refine (ra_trim.calls _ _ l0_1 t429 _ ?side1 ?side2 A2.out).mono ?_); (case side1 => repeat (first | exact (Kd.C_below HR0_1.out HB.out) | (with_reducible refine Kd.C_alloc ?_ _) | (with_reducible refine Kd.C_drewN ?_ _) | (with_reducible refine Kd.C_drew ?_))); (case side2 => exact HC0_1.out); rintro e w11 ⟨v430, rfl, ho0, hb⟩; refine ⟨_, rfl, ?_⟩; have n0_ := Aside0.mk (Kd.R_lower ho0 (pzJ (by repeat (first | (with_reducible first | exact HB.out | apply pzB | apply pzA | apply pzC | refine pzD ?_ GE428.out) | exact HB.out)))); have n1_ := Aside0.mk (pzI (g := gb428) (o := .cells #[.bool true, .slice A0_1 l0_1.length c0_1] 24 (0, 0)) (by (with_reducible repeat (first | refine pzF ?_ _ | refine pzG ?_ | refine pzE ?_ _)); exact BK428.out) hb); have n2_ := Aside0.mk (pzL (by repeat (first | (with_reducible first | exact HB.out | apply pzB | apply pzA | apply pzC | refine pzD ?_ GE428.out) | exact HB.out)) hb); clear BK428; clear HB; have HO431 := n0_; have BK428 := n1_; have HB := n2_; clear n0_ n1_ n2_; (try clear hb); (try clear hb2); (try clear hk); (try clear hi); (try clear ho0); obtain ⟨Ao12, co12, eo12⟩ := Kd.R_slice HO431.out; subst eo12; have hcz13_0 : w11.cell? ⟨gb428, 0, none⟩ = some (.bool true) := (pzH BK428.out 0).trans rfl; have hcz13_1 : w11.cell? ⟨gb428, 1, none⟩ = some (.slice A0_1 l0_1.length c0_1) := (pzH BK428.out 1).trans rfl; have hfz13_0 := pzK BK428.out 0; have hfz13_1 := pzK BK428.out 1))
      go_ret
      exact ⟨by first | rfl | (simp [pzN, pzM] <;> rfl) | (simp [*, pzN, pzM] <;> rfl), by repeat (first | (with_reducible first | exact HB.out | apply pzB | apply pzA | apply pzC | refine pzD ?_ GE428.out) | exact HB.out)⟩
    · replace c8 := Bool.eq_false_iff.mpr c8
      subst c8
      have H1 : (some 1) = some r := by rw [if_neg (show ¬ (false = true) by decide)] at H; exact H
      clear H; have H := H1; clear H1; obtain rfl := Option.some.inj H
      go_enter Try.func28, Try.ntmps28
      go_wp2_with (first | ((with_reducible refine pzQ (N := 1) rfl ?_); refine pzR ?hg (N := 1) ?hd (cs := #[.bool false, .slice A0_1 l0_1.length c0_1]) (t := 24) ?hr ?_; (case hd => rfl); (case hg => rfl); (case hr => first | (go_simp; done) | (go_simp; rfl)); intro gb428 hg w14 hbox hb; have n0_ := Aside0.mk (pzL (by repeat (first | (with_reducible first | exact HB.out | apply pzB | apply pzA | apply pzC) | exact HB.out)) hb); have n1_ := Aside0.mk (hbox); have n2_ := Aside0.mk ((by rw [hg]; exact (pzJ (by repeat (first | (with_reducible first | exact HB.out | apply pzB | apply pzA | apply pzC) | exact HB.out))) : w.heap.size ≤ gb428)); have n3_ := Aside0.mk ((by rw [hg]; exact (pzJ (by repeat (first | (with_reducible first | exact HB.out | apply pzB | apply pzA | apply pzC) | exact HB.out))) : w.heap.size ≤ gb428)); clear HB; have HB := n0_; have BK428 := n1_; have GW428 := n2_; have GE428 := n3_; clear n0_ n1_ n2_ n3_; clear hb hbox hg; have hcz15_0 : w14.cell? ⟨gb428, 0, none⟩ = some (.bool false) := (pzH BK428.out 0).trans rfl; have hcz15_1 : w14.cell? ⟨gb428, 1, none⟩ = some (.slice A0_1 l0_1.length c0_1) := (pzH BK428.out 1).trans rfl; have hfz15_0 := pzK BK428.out 0; have hfz15_1 := pzK BK428.out 1) | ((with_reducible refine pzP (f := 61) rfl ?_); refine pyH (some 6) rfl rfl Try.func61 (by kernel_rfl) rfl #[.slice A0_1 l0_1.length c0_1] rfl (by (try simp only [List.map_toArray, List.map_cons, List.map_nil]); first | done | rfl | (simp only [List.length_drop, List.length_take]; rfl)) ?_; (with_reducible refine (ra_trim.calls _ _ l0_1 t429 _ ?side1 ?side2 A2.out).mono ?_); (case side1 => repeat (first | exact (Kd.C_below HR0_1.out HB.out) | (with_reducible refine Kd.C_alloc ?_ _) | (with_reducible refine Kd.C_drewN ?_ _) | (with_reducible refine Kd.C_drew ?_))); (case side2 => exact HC0_1.out); rintro e w16 ⟨v430, rfl, ho0, hb⟩; refine ⟨_, rfl, ?_⟩; have n0_ := Aside0.mk (Kd.R_lower ho0 (pzJ (by repeat (first | (with_reducible first | exact HB.out | apply pzB | apply pzA | apply pzC | refine pzD ?_ GE428.out) | exact HB.out)))); have n1_ := Aside0.mk (pzI (g := gb428) (o := .cells #[.bool false, .slice A0_1 l0_1.length c0_1] 24 (0, 0)) (by (with_reducible repeat (first | refine pzF ?_ _ | refine pzG ?_ | refine pzE ?_ _)); exact BK428.out) hb); have n2_ := Aside0.mk (pzL (by repeat (first | (with_reducible first | exact HB.out | apply pzB | apply pzA | apply pzC | refine pzD ?_ GE428.out) | exact HB.out)) hb); clear BK428; clear HB; have HO431 := n0_; have BK428 := n1_; have HB := n2_; clear n0_ n1_ n2_; (try clear hb); (try clear hb2); (try clear hk); (try clear hi); (try clear ho0); obtain ⟨Ao17, co17, eo17⟩ := Kd.R_slice HO431.out; subst eo17; have hcz18_0 : w16.cell? ⟨gb428, 0, none⟩ = some (.bool false) := (pzH BK428.out 0).trans rfl; have hcz18_1 : w16.cell? ⟨gb428, 1, none⟩ = some (.slice A0_1 l0_1.length c0_1) := (pzH BK428.out 1).trans rfl; have hfz18_0 := pzK BK428.out 0; have hfz18_1 := pzK BK428.out 1))
      go_ret
      exact ⟨by first | rfl | (simp [pzN, pzM] <;> rfl) | (simp [*, pzN, pzM] <;> rfl), by repeat (first | (with_reducible first | exact HB.out | apply pzB | apply pzA | apply pzC | refine pzD ?_ GE428.out) | exact HB.out)⟩
end Go.Proofs.Ytpkgckccfanchaa.M

namespace Go.Proofs.Ytpkgckccfanchaa.M
open Go.RowKit YtpkgckccfanchaaW.PrintWords YtpkgckccfanchaaW.PrintLast YtpkgckccfanchaaW.PrintMore
attribute [local go_sem] pzW pzX pzY pzZ pzS pzT pzU pzV
set_option linter.unusedVariables false
set_option linter.unusedSimpArgs false
def ra_low.l0 : Nat → List Int → Int → Int → Option (Int)
  | 0, _, _, _ => none
  | k + 1, x0, x3, x4 => if x4 < (x0.length : Int) then (if x4 < 2 then (if 0 ≤ x4 then (if 0 ≤ (wrap64 (32 * x4)) then (ra_low.l0 k x0 (Go.bits .or .u64 x3 (shl .u64 (IntKind.u64.wrap (rd x0 x4)) (wrap64 (32 * x4)))) (wrap64 (x4 + 1))) else (none)) else (none)) else (some x3)) else (some x3)
def ra_low.f (k : Nat) (l0 : List Int) : Option (Int) := ra_low.l0 k l0 0 0
theorem ra_low.mono_l : ∀ k, (∀ y0 y1 y2, LeO (ra_low.l0 k y0 y1 y2) (ra_low.l0 (k + 1) y0 y1 y2))
  | 0 => fun _ _ _ r h => by simp [ra_low.l0] at h
  | k + 1 => by
    have ih0 := ra_low.mono_l k
    · intro y0 y1 y2
      unfold ra_low.l0
      repeat' first
      | (with_reducible exact ih0 _ _ _)
      | (with_reducible exact LeO.refl _)
      | (with_reducible exact LeO.none _)
      | (with_reducible refine LeO.ite ?_ ?_)
      | (with_reducible refine LeO.bind ?_ (fun _ => ?_))
      | exact ih0 _ _ _
      | exact LeO.none _
      | refine LeO.ite ?_ ?_
      | refine LeO.bind ?_ (fun _ => ?_)
theorem ra_low.mono : ∀ a0 k, LeO (ra_low.f k a0) (ra_low.f (k + 1) a0) := by
  intro a0 k; have ih0 := ra_low.mono_l k
  unfold ra_low.f
  repeat' first
      | (with_reducible exact ih0 _ _ _)
      | (with_reducible exact LeO.refl _)
      | (with_reducible exact LeO.none _)
      | (with_reducible refine LeO.ite ?_ ?_)
      | (with_reducible refine LeO.bind ?_ (fun _ => ?_))
      | exact ih0 _ _ _
      | exact LeO.none _
      | refine LeO.ite ?_ ?_
      | refine LeO.bind ?_ (fun _ => ?_)
set_option maxHeartbeats 8000000 in
set_option maxRecDepth 100000 in
theorem ra_low.calls (k : Nat) (A0 : Option Addr) (c0 : Nat) (l0 : List Int) (r : Int) (w : World) (hr0 : Kd.C (Kd.int .u32) w A0 l0.length l0) (hc0 : l0.length ≤ c0) (h : ra_low.f k l0 = some r) :
    Calls Try.prog 129 #[.slice A0 l0.length c0] w fun e w' => e = .returned (.int .u64 r) ∧ Drawn0 w w' := by
  have HR0 := Aside0.mk hr0; have HC0 := Aside0.mk hc0; clear hr0 hc0; have H : (ra_low.l0 k l0 0 0) = some r := h; clear h; have H' := Aside0.mk H; clear H
  go_enter Try.func129, Try.ntmps129
  go_wp2
  go_loopg [3, 4] k (fun kq v3 v4 w' => ∃ (x3_1 : Int) (x4_1 : Int), v3 = .int .u64 x3_1 ∧ v4 = .int .i64 x4_1 ∧ Aside0 (ra_low.l0 kq l0 x3_1 x4_1 = some r) ∧ Aside0 (kq ≤ k) ∧ Drawn0 w w')
  case atStart => exact ⟨(0), (0), (by first | rfl | (simp; done) | (simp [*]; done)), (by first | rfl | (simp; done) | (simp [*]; done)), H', ⟨Nat.le_refl _⟩, by repeat (first | exact Drawn0.refl _ | apply Drawn0.step)⟩
  case round =>
    clear H'
    try clear c1
    obtain ⟨x3_1, x4_1, rfl, rfl, HA, HK1, ⟨m1, rfl⟩⟩ := hrel; cases gk with
    | zero => exact absurd HA.out (by simp [ra_low.l0])
    | succ k1 =>
      have H := HA.out; clear HA
      simp only [ra_low.l0] at H
      by_cases c2 : x4_1 < (l0.length : Int)
      · rw [if_pos c2] at H
        have c2b0 : decide (x4_1 < (l0.length : Int)) = true := decide_eq_true c2; clear c2
        by_cases c3 : x4_1 < 2
        · rw [if_pos c3] at H
          have c3b0 : decide (x4_1 < 2) = true := decide_eq_true c3; clear c3
          by_cases c4 : 0 ≤ x4_1
          · rw [if_pos c4] at H
            have c4b0 : decide (0 ≤ x4_1) = true := decide_eq_true c4; clear c4
            obtain ⟨ji5, hji5⟩ : ∃ j_ : Int, (wrap64 (32 * x4_1)) = j_ := ⟨_, rfl⟩
            replace H : (if 0 ≤ (ji5) then (ra_low.l0 k1 l0 (Go.bits .or .u64 x3_1 (shl .u64 (IntKind.u64.wrap (rd l0 x4_1)) (ji5))) (wrap64 (x4_1 + 1))) else (none)) = some r := by first | (rw [hji5] at H; exact H) | (simp only [hji5] at H ⊢; exact H)
            have hji5w : (IntKind.i64.wrap (32 * x4_1)) = ji5 := (i64_w _).trans hji5
            by_cases c6 : 0 ≤ (ji5)
            · rw [if_pos c6] at H
              have c6b0 := eq_true c6; have c6b1 : decide (0 ≤ (ji5)) = true := decide_eq_true c6; clear c6
              obtain ⟨ji7, hji7⟩ : ∃ j_ : Int, (shl .u64 (IntKind.u64.wrap (rd l0 x4_1)) (ji5)) = j_ := ⟨_, rfl⟩
              replace H : (ra_low.l0 k1 l0 (Go.bits .or .u64 x3_1 (ji7)) (wrap64 (x4_1 + 1))) = some r := by first | (rw [hji7] at H; exact H) | (simp only [hji7] at H ⊢; exact H)
              have hji7_ : (IntKind.u64.wrap ((IntKind.u64.wrap (rd l0 x4_1)) * 2 ^ min (ji5).toNat 64)) = ji7 := hji7; have hji7z : (ji5) ≤ 64 → (IntKind.u64.wrap ((IntKind.u64.wrap (rd l0 x4_1)) * 2 ^ (ji5).toNat)) = ji7 := shl_small hji7; have H' := Aside0.mk H; clear H; have p432 : 0 ≤ (x4_1 : Int) := of_decide_eq_true (by first | (with_reducible assumption) | assumption); have q432 : x4_1 < (l0.length : Int) := of_decide_eq_true (by first | (with_reducible assumption) | assumption); obtain ⟨ad432, e432, hx432_0⟩ := Kd.at_int HR0.out x4_1 p432 q432; cases e432; replace p432 := eq_true p432; replace q432 := eq_true q432
              go_wp2
              go_roundg k1
              case measure => have := HK1.out; omega
              case rel => exact ⟨(Go.bits .or .u64 x3_1 (ji7)), (wrap64 (x4_1 + 1)), (by first | rfl | (simp; done) | (simp only [← hji7] <;> (first | rfl | simp)) | (simp [*]; done)), (by first | rfl | (simp; done) | (simp [*]; done)), H', ⟨by have := HK1.out; omega⟩, by repeat (first | exact Drawn0.refl _ | apply Drawn0.step)⟩
            · rw [if_neg c6] at H
              exact absurd H (by simp)
          · rw [if_neg c4] at H
            exact absurd H (by simp)
        · rw [if_neg c3] at H
          have c3b0 : decide (x4_1 < 2) = false := decide_eq_false c3; clear c3; obtain rfl := Option.some.inj H
          go_wp2
          go_ret
          exact ⟨by first | rfl | (simp; done) | (simp [*]; done), by repeat (first | exact Drawn0.refl _ | apply Drawn0.step)⟩
      · rw [if_neg c2] at H
        have c2b0 : decide (x4_1 < (l0.length : Int)) = false := decide_eq_false c2; clear c2; obtain rfl := Option.some.inj H
        go_wp2
        go_ret
        exact ⟨by first | rfl | (simp; done) | (simp [*]; done), by repeat (first | exact Drawn0.refl _ | apply Drawn0.step)⟩
end Go.Proofs.Ytpkgckccfanchaa.M

namespace Go.Proofs.Ytpkgckccfanchaa.M
open Go.RowKit YtpkgckccfanchaaW.PrintWords YtpkgckccfanchaaW.PrintLast YtpkgckccfanchaaW.PrintMore
attribute [local go_sem] pzW pzX pzY pzZ pzS pzT pzU pzV
set_option linter.unusedVariables false
set_option linter.unusedSimpArgs false
def val2 (l : List Int) : Int := l.getD 0 0 + 4294967296 * l.getD 1 0
def Wd (l : List Int) : Prop := ∀ x ∈ l, 0 ≤ x ∧ x < 4294967296
instance (l : List Int) : Decidable (Wd l) := by unfold Wd; infer_instance
theorem or_low (a b : Int) (ha : 0 ≤ a) (ha2 : a < 4294967296) (hb : 0 ≤ b) (hb2 : b < 4294967296) : Go.bits .or .u64 a (b * 4294967296) = a + 4294967296 * b := by
  obtain ⟨m, rfl⟩ := Int.eq_ofNat_of_zero_le ha; obtain ⟨n, rfl⟩ := Int.eq_ofNat_of_zero_le hb; have h := Go.u64_or_nat m (2 ^ 32 * n) (by omega) (by omega); have h2 := Nat.two_pow_add_eq_or_of_lt (show m < 2 ^ 32 by omega) n
  rw [Nat.or_comm] at h2
  rw [show ((n : Int) * 4294967296) = ((2 ^ 32 * n : Nat) : Int) from by omega, h, ← h2]
  omega
theorem or_zero_left (a : Int) (ha : 0 ≤ a) (ha2 : a < 18446744073709551616) : Go.bits .or .u64 0 a = a := by
  obtain ⟨m, rfl⟩ := Int.eq_ofNat_of_zero_le ha; have h := Go.u64_or_nat 0 m (by omega) (by omega)
  simpa using h
theorem low_val2 (l : List Int) (hl : l.length ≤ 2) (hw : Wd l) : ra_low.f 5 l = some (val2 l) := by
  match l, hl with
  | [], _ => rfl
  | [a], _ =>
    have ha := hw a (by simp)
    have e1 : IntKind.u64.wrap a = a := by simp only [IntKind.wrap_u64]; omega
    simp [ra_low.f, ra_low.l0, val2, rd, wrap64, shl]
    rw [e1, e1, or_zero_left a ha.1 (by omega)]
  | [a, b], _ =>
    have ha := hw a (by simp); have hb := hw b (by simp)
    have e1 : IntKind.u64.wrap a = a := by simp only [IntKind.wrap_u64]; omega
    have e2 : IntKind.u64.wrap b = b := by simp only [IntKind.wrap_u64]; omega
    have e3 : (2 : Int) ^ min 32 IntKind.u64.bits = 4294967296 := by decide
    have e4 : IntKind.u64.wrap (b * 4294967296) = b * 4294967296 := by simp only [IntKind.wrap_u64]; omega
    simp [ra_low.f, ra_low.l0, val2, rd, wrap64, shl]
    rw [e1, e1, or_zero_left a ha.1 (by omega), e2, e3, e4, or_low a b ha.1 ha.2 hb.1 hb.2]
theorem val2_nonneg (l : List Int) (hw : Wd l) : 0 ≤ val2 l ∧ val2 l < 18446744073709551616 := by
  unfold val2
  have h : ∀ i, 0 ≤ l.getD i 0 ∧ l.getD i 0 < 4294967296 := by
    intro i; rw [List.getD_eq_getElem?_getD]; cases hi : l[i]? with
    | none => simp
    | some x => simpa using hw x (List.mem_of_getElem? hi)
  have h0 := h 0; have h1 := h 1
  omega
def ra_divide.f (l0 : List Int) (l1 : List Int) : Option (List Int × List Int) :=
  if l0.length ≤ 2 ∧ l1.length ≤ 2 ∧ Wd l0 ∧ Wd l1 ∧ val2 l1 ≠ 0 then (ra_word.f false (val2 l0 / val2 l1)).bind fun a => (ra_word.f false (val2 l0 % val2 l1)).bind fun b => some (a.2, b.2) else none
set_option maxHeartbeats 1000000 in
set_option maxRecDepth 100000 in
theorem ra_divide.calls (A0 : Option Addr) (c0 : Nat) (l0 : List Int) (A1 : Option Addr) (c1 : Nat) (l1 : List Int) (r1 : List Int) (r2 : List Int) (w : World) (hr0 : Kd.C (Kd.int .u32) w A0 l0.length l0) (hc0 : l0.length ≤ c0) (hr1 : Kd.C (Kd.int .u32) w A1 l1.length l1) (hc1 : l1.length ≤ c1) (h : ra_divide.f l0 l1 = some (r1, r2)) :
    Calls Try.prog 112 #[.slice A0 l0.length c0, .slice A1 l1.length c1] w fun e w' => ∃ v0_ v1_ : Value, e = .returned (.tuple #[v0_, v1_]) ∧ Kd.R (Kd.int .u32) 98 w' w.heap.size (fun k_ => some k_ ≠ (v1_ : Value).ownBlock) v0_ r1 ∧ Kd.R (Kd.int .u32) 98 w' w.heap.size (fun k_ => some k_ ≠ (v0_ : Value).ownBlock) v1_ r2 ∧ Below w.heap.size w w' := by
  unfold ra_divide.f at h
  split at h
  case isFalse => simp at h
  case isTrue hx =>
  obtain ⟨hl0, hl1, hw0, hw1, hv⟩ := hx; obtain ⟨a, ha, h⟩ := Option.bind_eq_some_iff.mp h; obtain ⟨b, hb, h⟩ := Option.bind_eq_some_iff.mp h; have hr := Option.some.inj h
  simp only [Prod.mk.injEq] at hr
  obtain ⟨rfl, rfl⟩ := hr; clear h; have hlow0 := low_val2 l0 hl0 hw0; have hlow1 := low_val2 l1 hl1 hw1; obtain ⟨u0, u1⟩ := val2_nonneg l0 hw0; obtain ⟨v0, v1⟩ := val2_nonneg l1 hw1
  generalize val2 l0 = u at *
  generalize val2 l1 = v at *
  obtain ⟨a1, a2⟩ := a; obtain ⟨b1, b2⟩ := b; have hfld := int_mag; have HL0 := Aside0.mk hlow0; have HL1 := Aside0.mk hlow1; have HA := Aside0.mk ha; have HB := Aside0.mk hb; have HR0 := Aside0.mk hr0; have HR1 := Aside0.mk hr1
  have hv1 : 1 ≤ v := by omega
  have hvn : (v == 0) = false := by simp; omega
  have hq0 : 0 ≤ u / v := Int.ediv_nonneg u0 v0; have hm0 : 0 ≤ u % v := Int.emod_nonneg _ hv; clear hlow0 hlow1 ha hb hr0 hr1 hw0 hw1 hv
  have CA : ∀ (x : Int) (W : World), x = u / v → _ := fun x W hx => ra_word.calls false x a1 a2 W (by rw [hx]; exact HA.out)
  have CB : ∀ (x : Int) (W : World), x = u % v → _ := fun x W hx => ra_word.calls false x b1 b2 W (by rw [hx]; exact HB.out)
  have HM : Aside0 (u.tmod v = u % v) := ⟨Int.tmod_eq_emod_of_nonneg u0⟩
  have HD : Aside0 (IntKind.u64.wrap (u.tdiv v) = u / v) := ⟨by rw [Int.tdiv_eq_ediv_of_nonneg u0]; have h1 : u / v ≤ u := Int.ediv_le_self v u0; simp only [IntKind.wrap_u64]; omega⟩
  go_enter Try.func112, Try.ntmps112
  go_wp2_with (go_at_call 129; first | ((with_reducible refine (ra_low.calls 5 A0 c0 l0 u w HR0.out hc0 HL0.out).mono ?_); rintro e w' ⟨rfl, ⟨nd, rfl⟩⟩) | (refine (ra_low.calls 5 A1 c1 l1 v _ (Kd.C_below HR1.out (pzA (Below.refl _ _) _)) hc1 HL1.out).mono ?_; rintro e w' ⟨rfl, ⟨nd2, rfl⟩⟩))
  go_region_with (go_at_call 51; first | ((refine (CA _ _ ?_).mono ?_; (first | (with_reducible rfl) | exact HD.out)); rintro e w1 ⟨x1, rfl, hRa, hBa⟩) | ((refine (CB _ _ ?_).mono ?_; (first | (with_reducible rfl) | exact HM.out)); rintro e w2 ⟨x2, rfl, hRb, hBb⟩))
  all_goals
    have hA2 := Aside0.mk (Kd.R_mono (Kd.R_elder hRa hRb hBb) (fun k hk => hk.2)); have hB2 := Aside0.mk (Kd.R_lower (Kd.R_mono (Kd.R_newR hRb hRa) (fun k hk => hk.2)) hBa.size); have hB3 := Aside0.mk (pzL (w := w) (pzA (Below.refl _ _) _) (pzL hBa hBb)); clear hRa hRb hBa hBb CA CB
    go_wp2
    go_ret2
    exact ⟨_, _, rfl, hA2.out, hB2.out, hB3.out⟩
end Go.Proofs.Ytpkgckccfanchaa.M
