/- Part of the proof of StabchainLengths: texts of this claim, merged and pruned by wip/tools/merge2.py. -/
import Derived.Test.YtpkgckccfanchaaBStabchainLengths3
import Derived.Test.YtpkgckccfanchaaBStabchainLengths5
import Derived.Test.YtpkgckccfanchaaBStabchainLengths6
import Derived.Test.YtpkgckccfanchaaBStabchainLengths4

namespace Go.Proofs.Ytpkgckccfanchaa.M
open Go.RowKit Go.Proofs.YtpkgckccfanchaaW.PrintWords Go.Proofs.YtpkgckccfanchaaW.PrintLast Go.Proofs.YtpkgckccfanchaaW.PrintMore
attribute [local go_sem] max2_int min2_int max_two min_two max_three min_three max_four min_four
set_option linter.unusedVariables false
set_option linter.unusedSimpArgs false
mutual
def quadformref01_Mul.l0 : Nat → List Int → List Int → Int → Int → Bool → List Int → Bool → List Int → Option (Bool × List Int)
  | 0, _, _, _, _, _, _, _, _ => none
  | k + 1, x5, x20, x21, x22, x278000, x278001, x279000, x279001 => if x22 < x21 then (if 0 ≤ x22 then (if x22 < (x20.length : Int) then (quadformref01_Mul.l1 k x5 x22 (rd x20 x22) 0 x20 x21 x22 x279001 (x279001.length : Int) 0 x278000 x278001 x279000 x279001) else (none)) else (none)) else ((quadformref01_Make.f (x278000 != x279000) x5).bind fun bt283 => (some (bt283.1, bt283.2)))
def quadformref01_Mul.l1 : Nat → List Int → Int → Int → Int → List Int → Int → Int → List Int → Int → Int → Bool → List Int → Bool → List Int → Option (Bool × List Int)
  | 0, _, _, _, _, _, _, _, _, _, _, _, _, _, _ => none
  | k + 1, x5, x6, x7, x8, x20, x21, x22, x28, x29, x30, x278000, x278001, x279000, x279001 => if x30 < x29 then (if 0 ≤ x30 then (if x30 < (x28.length : Int) then (if 0 ≤ (wrap64 (x6 + x30)) then (if (wrap64 (x6 + x30)) < (x5.length : Int) then (quadformref01_Mul.l1 k (x5.set ((wrap64 (x6 + x30)) : Int).toNat ((IntKind.u64.wrap (x8 + (IntKind.u64.wrap ((IntKind.u64.wrap ((IntKind.u64.wrap (x7)) * (IntKind.u64.wrap (rd x28 x30)))) + (IntKind.u64.wrap (rd x5 (wrap64 (x6 + x30)))))))) % 4294967296)) x6 x7 ((IntKind.u64.wrap (x8 + (IntKind.u64.wrap ((IntKind.u64.wrap ((IntKind.u64.wrap (x7)) * (IntKind.u64.wrap (rd x28 x30)))) + (IntKind.u64.wrap (rd x5 (wrap64 (x6 + x30)))))))) / 4294967296) x20 x21 x22 x28 x29 (wrap64 (x30 + 1)) x278000 x278001 x279000 x279001) else (none)) else (none)) else (none)) else (none)) else (if 0 ≤ (wrap64 (x6 + (x279001.length : Int))) then (if (wrap64 (x6 + (x279001.length : Int))) < (x5.length : Int) then (quadformref01_Mul.l0 k (x5.set ((wrap64 (x6 + (x279001.length : Int))) : Int).toNat ((x8) % 4294967296)) x20 x21 (wrap64 (x22 + 1)) x278000 x278001 x279000 x279001) else (none)) else (none))
end
def quadformref01_Mul.f (k : Nat) (a0_0 : Bool) (l0_1 : List Int) (a1_0 : Bool) (l1_1 : List Int) : Option (Bool × List Int) := if 0 ≤ (wrap64 ((l0_1.length : Int) + (l1_1.length : Int))) then (if (wrap64 ((l0_1.length : Int) + (l1_1.length : Int)) : Int).toNat ≤ 70368744177664 then (quadformref01_Mul.l0 k (List.replicate (wrap64 ((l0_1.length : Int) + (l1_1.length : Int)) : Int).toNat 0) l0_1 (l0_1.length : Int) 0 a0_0 l0_1 a1_0 l1_1) else (none)) else (none)
theorem quadformref01_Mul.mono_l : ∀ k, (∀ y0 y1 y2 y3 y4 y5 y6 y7, LeO (quadformref01_Mul.l0 k y0 y1 y2 y3 y4 y5 y6 y7) (quadformref01_Mul.l0 (k + 1) y0 y1 y2 y3 y4 y5 y6 y7)) ∧ (∀ y0 y1 y2 y3 y4 y5 y6 y7 y8 y9 y10 y11 y12 y13, LeO (quadformref01_Mul.l1 k y0 y1 y2 y3 y4 y5 y6 y7 y8 y9 y10 y11 y12 y13) (quadformref01_Mul.l1 (k + 1) y0 y1 y2 y3 y4 y5 y6 y7 y8 y9 y10 y11 y12 y13))
  | 0 => ⟨fun _ _ _ _ _ _ _ _ r h => by simp [quadformref01_Mul.l0] at h, fun _ _ _ _ _ _ _ _ _ _ _ _ _ _ r h => by simp [quadformref01_Mul.l1] at h⟩
  | k + 1 => by
    obtain ⟨ih0, ih1⟩ := quadformref01_Mul.mono_l k; refine ⟨?_, ?_⟩
    · intro y0 y1 y2 y3 y4 y5 y6 y7
      unfold quadformref01_Mul.l0
      repeat' first
      | (with_reducible exact ih0 _ _ _ _ _ _ _ _)
      | (with_reducible exact ih1 _ _ _ _ _ _ _ _ _ _ _ _ _ _)
      | (with_reducible exact LeO.refl _)
      | (with_reducible exact LeO.none _)
      | (with_reducible refine LeO.ite ?_ ?_)
      | (with_reducible refine LeO.bind ?_ (fun _ => ?_))
      | exact ih0 _ _ _ _ _ _ _ _
      | exact ih1 _ _ _ _ _ _ _ _ _ _ _ _ _ _
      | exact LeO.none _
      | refine LeO.ite ?_ ?_
      | refine LeO.bind ?_ (fun _ => ?_)
    · intro y0 y1 y2 y3 y4 y5 y6 y7 y8 y9 y10 y11 y12 y13
      unfold quadformref01_Mul.l1
      repeat' first
      | (with_reducible exact ih0 _ _ _ _ _ _ _ _)
      | (with_reducible exact ih1 _ _ _ _ _ _ _ _ _ _ _ _ _ _)
      | (with_reducible exact LeO.refl _)
      | (with_reducible exact LeO.none _)
      | (with_reducible refine LeO.ite ?_ ?_)
      | (with_reducible refine LeO.bind ?_ (fun _ => ?_))
      | exact ih0 _ _ _ _ _ _ _ _
      | exact ih1 _ _ _ _ _ _ _ _ _ _ _ _ _ _
      | exact LeO.none _
      | refine LeO.ite ?_ ?_
      | refine LeO.bind ?_ (fun _ => ?_)
theorem quadformref01_Mul.mono : ∀ a0 a1 a2 a3 k, LeO (quadformref01_Mul.f k a0 a1 a2 a3) (quadformref01_Mul.f (k + 1) a0 a1 a2 a3) := by
  intro a0 a1 a2 a3 k; obtain ⟨ih0, ih1⟩ := quadformref01_Mul.mono_l k
  unfold quadformref01_Mul.f
  repeat' first
      | (with_reducible exact ih0 _ _ _ _ _ _ _ _)
      | (with_reducible exact ih1 _ _ _ _ _ _ _ _ _ _ _ _ _ _)
      | (with_reducible exact LeO.refl _)
      | (with_reducible exact LeO.none _)
      | (with_reducible refine LeO.ite ?_ ?_)
      | (with_reducible refine LeO.bind ?_ (fun _ => ?_))
      | exact ih0 _ _ _ _ _ _ _ _
      | exact ih1 _ _ _ _ _ _ _ _ _ _ _ _ _ _
      | exact LeO.none _
      | refine LeO.ite ?_ ?_
      | refine LeO.bind ?_ (fun _ => ?_)
set_option maxHeartbeats 8000000 in
set_option maxRecDepth 100000 in
theorem quadformref01_Mul.calls (k : Nat) (a0_0 : Bool) (A0_1 : Option Addr) (c0_1 : Nat) (l0_1 : List Int) (a1_0 : Bool) (A1_1 : Option Addr) (c1_1 : Nat) (l1_1 : List Int) (r1 : Bool) (r2 : List Int) (w : World) (hr0_1 : Kd.C (Kd.int .u32) w A0_1 l0_1.length l0_1) (hc0_1 : l0_1.length ≤ c0_1) (hr1_1 : Kd.C (Kd.int .u32) w A1_1 l1_1.length l1_1) (hc1_1 : l1_1.length ≤ c1_1) (h : quadformref01_Mul.f k a0_0 l0_1 a1_0 l1_1 = some (r1, r2)) :
    Calls Try.prog 33 #[.agg #[.bool a0_0, .slice A0_1 l0_1.length c0_1], .agg #[.bool a1_0, .slice A1_1 l1_1.length c1_1]] w fun e w' => ∃ v1_ : Value, e = .returned (.agg #[.bool r1, v1_]) ∧ Kd.R (Kd.int .u32) 98 w' w.heap.size (fun _ => True) v1_ r2 ∧ Below w.heap.size w w' := by
  have hu24 := Try.underlying24; have HR0_1 := Aside0.mk hr0_1; have HC0_1 := Aside0.mk hc0_1; clear hr0_1 hc0_1; have HR1_1 := Aside0.mk hr1_1; have HC1_1 := Aside0.mk hc1_1; clear hr1_1 hc1_1; have HB := Aside0.mk (Below.refl w.heap.size w); have H : (if 0 ≤ (wrap64 ((l0_1.length : Int) + (l1_1.length : Int))) then (if (wrap64 ((l0_1.length : Int) + (l1_1.length : Int)) : Int).toNat ≤ 70368744177664 then (quadformref01_Mul.l0 k (List.replicate (wrap64 ((l0_1.length : Int) + (l1_1.length : Int)) : Int).toNat 0) l0_1 (l0_1.length : Int) 0 a0_0 l0_1 a1_0 l1_1) else (none)) else (none)) = some (r1, r2) := h; clear h
  obtain ⟨ji3, hji3⟩ : ∃ j_ : Int, (wrap64 ((l0_1.length : Int) + (l1_1.length : Int))) = j_ := ⟨_, rfl⟩
  replace H : (if 0 ≤ (ji3) then (if (ji3 : Int).toNat ≤ 70368744177664 then (quadformref01_Mul.l0 k (List.replicate (ji3 : Int).toNat 0) l0_1 (l0_1.length : Int) 0 a0_0 l0_1 a1_0 l1_1) else (none)) else (none)) = some (r1, r2) := by first | (rw [hji3] at H; exact H) | (simp only [hji3] at H ⊢; exact H)
  have hji3w : (IntKind.i64.wrap ((l0_1.length : Int) + (l1_1.length : Int))) = ji3 := (i64_w _).trans hji3
  by_cases c4 : 0 ≤ (ji3)
  · rw [if_pos c4] at H
    have c4b0 := eq_true c4; have c4b1 : decide (0 ≤ (ji3)) = true := decide_eq_true c4; clear c4
    by_cases c5 : (ji3 : Int).toNat ≤ 70368744177664
    · rw [if_pos c5] at H
      have c5b0 := eq_true c5; have c5b1 : decide ((ji3 : Int).toNat ≤ 70368744177664) = true := decide_eq_true c5; clear c5
      obtain ⟨y280, hy280⟩ : ∃ y_ : List Int, y_ = (List.replicate (ji3 : Int).toNat 0) := ⟨_, rfl⟩
      replace H : (quadformref01_Mul.l0 k y280 l0_1 (l0_1.length : Int) 0 a0_0 l0_1 a1_0 l1_1) = some (r1, r2) := by first | (rw [hy280]; with_reducible exact H) | (have H2_ := (Option.bind_some _ _).symm.trans H; rw [hy280]; with_reducible exact H2_) | (have H2_ := (Option.bind_some _ _).symm.trans H; with_reducible exact H2_) | with_reducible exact H | (rw [hy280]; exact H) | exact H
      have Ny280 := Aside0.mk hy280; clear hy280; have H' := Aside0.mk H; clear H
      go_enter Try.func33, Try.ntmps33
      go_wp2_with (first | ((with_reducible refine gate_dst (N := 2) rfl ?_); refine box_event ?hg (N := 2) ?hd (cs := #[.bool a0_0, .slice A0_1 l0_1.length c0_1]) (t := 24) ?hr ?_; (case hd => rfl); (case hg => rfl); (case hr => first | (go_simp; done) | (go_simp; rfl)); intro gb277 hg w6 hbox hb; have n0_ := Aside0.mk (below_step (by repeat (first | (with_reducible first | exact HB.out | apply below_alloc | apply pw_below_drewN | apply below_drew1) | exact HB.out)) hb); have n1_ := Aside0.mk (hbox); have n2_ := Aside0.mk ((by rw [hg]; exact (below_size (by repeat (first | (with_reducible first | exact HB.out | apply below_alloc | apply pw_below_drewN | apply below_drew1) | exact HB.out))) : w.heap.size ≤ gb277)); have n3_ := Aside0.mk ((by rw [hg]; exact (below_size (by repeat (first | (with_reducible first | exact HB.out | apply below_alloc | apply pw_below_drewN | apply below_drew1) | exact HB.out))) : w.heap.size ≤ gb277)); clear HB; have HB := n0_; have BK277 := n1_; have GW277 := n2_; have GE277 := n3_; clear n0_ n1_ n2_ n3_; clear hb hbox hg) | ((with_reducible refine gate_dst (N := 3) rfl ?_); refine box_event ?hg (N := 3) ?hd (cs := #[.bool a1_0, .slice A1_1 l1_1.length c1_1]) (t := 24) ?hr ?_; (case hd => rfl); (case hg => rfl); (case hr => first | (go_simp; done) | (go_simp; rfl)); intro gb278 hg w7 hbox hb; have n0_ := Aside0.mk (blk_below (g := gb277) (o := .cells #[.bool a0_0, .slice A0_1 l0_1.length c0_1] 24 (0, 0)) (by (with_reducible repeat (first | refine blk_drewN ?_ _ | refine blk_drew ?_ | refine blk_alloc ?_ _)); exact BK277.out) hb); have n1_ := Aside0.mk (below_step (by repeat (first | (with_reducible first | exact HB.out | apply below_alloc | apply pw_below_drewN | apply below_drew1 | refine below_set ?_ GE277.out) | exact HB.out)) hb); have n2_ := Aside0.mk (hbox); have n3_ := Aside0.mk ((by rw [hg]; exact (below_size (by repeat (first | (with_reducible first | exact HB.out | apply below_alloc | apply pw_below_drewN | apply below_drew1 | refine below_set ?_ GE277.out) | exact HB.out))) : w.heap.size ≤ gb278)); have n4_ := Aside0.mk ((by rw [hg]; exact (below_size (by repeat (first | (with_reducible first | exact HB.out | apply below_alloc | apply pw_below_drewN | apply below_drew1 | refine below_set ?_ GE277.out) | exact HB.out))) : w.heap.size ≤ gb278)); have n5_ := Aside0.mk ((by rw [hg]; exact Nat.ne_of_lt (blk_lt (g := gb277) (o := .cells #[.bool a0_0, .slice A0_1 l0_1.length c0_1] 24 (0, 0)) (by (with_reducible repeat (first | refine blk_drewN ?_ _ | refine blk_drew ?_ | refine blk_alloc ?_ _)); exact BK277.out)) : gb277 ≠ gb278)); have n6_ := Aside0.mk ((by rw [hg]; exact Nat.ne_of_gt (blk_lt (g := gb277) (o := .cells #[.bool a0_0, .slice A0_1 l0_1.length c0_1] 24 (0, 0)) (by (with_reducible repeat (first | refine blk_drewN ?_ _ | refine blk_drew ?_ | refine blk_alloc ?_ _)); exact BK277.out)) : gb278 ≠ gb277)); clear BK277; clear HB; have BK277 := n0_; have HB := n1_; have BK278 := n2_; have GW278 := n3_; have GE278 := n4_; have NB277_278 := n5_; have NB278_277 := n6_; clear n0_ n1_ n2_ n3_ n4_ n5_ n6_; clear hb hbox hg) | ((with_reducible refine gate_dst (N := 4) rfl ?_); refine box_event ?hg (N := 4) ?hd (cs := #[.bool false, .slice none 0 0]) (t := 24) ?hr ?_; (case hd => rfl); (case hg => rfl); (case hr => first | (go_simp; done) | (go_simp; rfl)); intro gb279 hg w8 hbox hb; have n0_ := Aside0.mk (blk_below (g := gb277) (o := .cells #[.bool a0_0, .slice A0_1 l0_1.length c0_1] 24 (0, 0)) (by (with_reducible repeat (first | refine blk_drewN ?_ _ | refine blk_drew ?_ | refine blk_alloc ?_ _)); exact BK277.out) hb); have n1_ := Aside0.mk (blk_below (g := gb278) (o := .cells #[.bool a1_0, .slice A1_1 l1_1.length c1_1] 24 (0, 0)) (by (with_reducible repeat (first | refine blk_drewN ?_ _ | refine blk_drew ?_ | refine blk_alloc ?_ _)); exact BK278.out) hb); have n2_ := Aside0.mk (below_step (by repeat (first | (with_reducible first | exact HB.out | apply below_alloc | apply pw_below_drewN | apply below_drew1 | refine below_set ?_ GE277.out | refine below_set ?_ GE278.out) | exact HB.out)) hb); have n3_ := Aside0.mk (hbox); have n4_ := Aside0.mk ((by rw [hg]; exact (below_size (by repeat (first | (with_reducible first | exact HB.out | apply below_alloc | apply pw_below_drewN | apply below_drew1 | refine below_set ?_ GE277.out | refine below_set ?_ GE278.out) | exact HB.out))) : w.heap.size ≤ gb279)); have n5_ := Aside0.mk ((by rw [hg]; exact (below_size (by repeat (first | (with_reducible first | exact HB.out | apply below_alloc | apply pw_below_drewN | apply below_drew1 | refine below_set ?_ GE277.out | refine below_set ?_ GE278.out) | exact HB.out))) : w.heap.size ≤ gb279)); have n6_ := Aside0.mk ((by rw [hg]; exact Nat.ne_of_lt (blk_lt (g := gb277) (o := .cells #[.bool a0_0, .slice A0_1 l0_1.length c0_1] 24 (0, 0)) (by (with_reducible repeat (first | refine blk_drewN ?_ _ | refine blk_drew ?_ | refine blk_alloc ?_ _)); exact BK277.out)) : gb277 ≠ gb279)); have n7_ := Aside0.mk ((by rw [hg]; exact Nat.ne_of_gt (blk_lt (g := gb277) (o := .cells #[.bool a0_0, .slice A0_1 l0_1.length c0_1] 24 (0, 0)) (by (with_reducible repeat (first | refine blk_drewN ?_ _ | refine blk_drew ?_ | refine blk_alloc ?_ _)); exact BK277.out)) : gb279 ≠ gb277)); have n8_ := Aside0.mk ((by rw [hg]; exact Nat.ne_of_lt (blk_lt (g := gb278) (o := .cells #[.bool a1_0, .slice A1_1 l1_1.length c1_1] 24 (0, 0)) (by (with_reducible repeat (first | refine blk_drewN ?_ _ | refine blk_drew ?_ | refine blk_alloc ?_ _)); exact BK278.out)) : gb278 ≠ gb279)); have n9_ := Aside0.mk ((by rw [hg]; exact Nat.ne_of_gt (blk_lt (g := gb278) (o := .cells #[.bool a1_0, .slice A1_1 l1_1.length c1_1] 24 (0, 0)) (by (with_reducible repeat (first | refine blk_drewN ?_ _ | refine blk_drew ?_ | refine blk_alloc ?_ _)); exact BK278.out)) : gb279 ≠ gb278)); clear BK277; clear BK278; clear HB; have BK277 := n0_; have BK278 := n1_; have HB := n2_; have BK279 := n3_; have GW279 := n4_; have GE279 := n5_; have NB277_279 := n6_; have NB279_277 := n7_; have NB278_279 := n8_; have NB279_278 := n9_; clear n0_ n1_ n2_ n3_ n4_ n5_ n6_ n7_ n8_ n9_; clear hb hbox hg; have hnb9 := NB277_278.out; have hnc9 := NB278_277.out; have hnb10 := NB277_279.out; have hnc10 := NB279_277.out; have hcz11_0 : w8.cell? ⟨gb277, 0, none⟩ = some (.bool a0_0) := (blk_cell BK277.out 0).trans rfl; have hcz11_1 : w8.cell? ⟨gb277, 1, none⟩ = some (.slice A0_1 l0_1.length c0_1) := (blk_cell BK277.out 1).trans rfl; have hfz11_0 := blk_frozen BK277.out 0; have hfz11_1 := blk_frozen BK277.out 1; have hnb12 := NB278_279.out; have hnc12 := NB279_278.out; have hcz13_0 : w8.cell? ⟨gb278, 0, none⟩ = some (.bool a1_0) := (blk_cell BK278.out 0).trans rfl; have hcz13_1 : w8.cell? ⟨gb278, 1, none⟩ = some (.slice A1_1 l1_1.length c1_1) := (blk_cell BK278.out 1).trans rfl; have hfz13_0 := blk_frozen BK278.out 0; have hfz13_1 := blk_frozen BK278.out 1) | ((with_reducible refine gate_dst (N := 18) rfl ?_); refine Kd.R_make (Kd.int .u32) _ 98 rfl (N := 18) rfl 22 _ _ rfl ji3 rfl rfl Try.underlying22 (.int .u32 0) 4 info98 rfl (by decide) (by omega) 0 (ok := fun _ => True) (okp := fun _ => True) rfl (fun _ hk => hk) trivial (of_decide_eq_true (by first | (with_reducible assumption) | assumption)) (Nat.le_trans (Nat.mul_le_mul_right _ (of_decide_eq_true (by first | (with_reducible assumption) | assumption) : ji3.toNat ≤ 70368744177664)) (by omega)) (Below.refl _ _) (Nat.le_refl _) ?_; intro v281 w14 ho15 hb hg_ hnew_; clear hg_ hnew_; (first | rw [← Ny280.out] at ho15 | (simp only [Int.reduceToNat] at ho15; rw [← Ny280.out] at ho15)); have n0_ := Aside0.mk (Kd.R_lower ho15 (below_size (by repeat (first | (with_reducible first | exact HB.out | apply below_alloc | apply pw_below_drewN | apply below_drew1 | refine below_set ?_ GE277.out | refine below_set ?_ GE278.out | refine below_set ?_ GE279.out) | exact HB.out)))); have n1_ := Aside0.mk (blk_below (g := gb277) (o := .cells #[.bool a0_0, .slice A0_1 l0_1.length c0_1] 24 (0, 0)) (by (with_reducible repeat (first | refine blk_drewN ?_ _ | refine blk_drew ?_ | refine blk_alloc ?_ _)); exact BK277.out) hb); have n2_ := Aside0.mk (blk_below (g := gb278) (o := .cells #[.bool a1_0, .slice A1_1 l1_1.length c1_1] 24 (0, 0)) (by (with_reducible repeat (first | refine blk_drewN ?_ _ | refine blk_drew ?_ | refine blk_alloc ?_ _)); exact BK278.out) hb); have n3_ := Aside0.mk (blk_below (g := gb279) (o := .cells #[.bool false, .slice none 0 0] 24 (0, 0)) (by (with_reducible repeat (first | refine blk_drewN ?_ _ | refine blk_drew ?_ | refine blk_alloc ?_ _)); exact BK279.out) hb); have n4_ := Aside0.mk (below_step (by repeat (first | (with_reducible first | exact HB.out | apply below_alloc | apply pw_below_drewN | apply below_drew1 | refine below_set ?_ GE277.out | refine below_set ?_ GE278.out | refine below_set ?_ GE279.out) | exact HB.out)) hb); clear BK277; clear BK278; clear BK279; clear HB; have HO282 := n0_; have BK277 := n1_; have BK278 := n2_; have BK279 := n3_; have HB := n4_; clear n0_ n1_ n2_ n3_ n4_; clear hb ho15; have hcz16_0 : w14.cell? ⟨gb277, 0, none⟩ = some (.bool a0_0) := (blk_cell BK277.out 0).trans rfl; have hcz16_1 : w14.cell? ⟨gb277, 1, none⟩ = some (.slice A0_1 l0_1.length c0_1) := (blk_cell BK277.out 1).trans rfl; have hfz16_0 := blk_frozen BK277.out 0; have hfz16_1 := blk_frozen BK277.out 1))
      go_loopg [22] k (fun kq v22 w' => ∃ (x5_1 : List Int) (x22_1 : Int), v22 = .int .i64 x22_1 ∧ Aside0 (quadformref01_Mul.l0 kq x5_1 l0_1 (l0_1.length : Int) x22_1 a0_0 l0_1 a1_0 l1_1 = some (r1, r2)) ∧ Aside0 (kq ≤ k) ∧ Aside0 (Kd.R (Kd.int .u32) 98 w' w.heap.size (fun _ => True) v281 x5_1) ∧ Aside0 (w'.heap[gb277]? = some (.cells #[.bool a0_0, (.slice A0_1 l0_1.length c0_1)] 24 (0, 0))) ∧ Aside0 (w'.heap[gb278]? = some (.cells #[.bool a1_0, (.slice A1_1 l1_1.length c1_1)] 24 (0, 0))) ∧ Aside0 (w'.heap[gb279]? = some (.cells #[.bool false, (.slice none 0 0)] 24 (0, 0))) ∧ Aside0 (Below w.heap.size w w'))
      case atStart => exact ⟨(y280), (0), (by first | rfl | (simp; done) | (simp [*]; done)), H', ⟨Nat.le_refl _⟩, ⟨by (with_reducible repeat (first | apply Kd.R_alloc | apply Kd.R_drewN | apply Kd.R_drew)); exact HO282.out⟩, ⟨by (with_reducible repeat (first | refine blk_drewN ?_ _ | refine blk_drew ?_ | refine blk_alloc ?_ _)); exact BK277.out⟩, ⟨by (with_reducible repeat (first | refine blk_drewN ?_ _ | refine blk_drew ?_ | refine blk_alloc ?_ _)); exact BK278.out⟩, ⟨by (with_reducible repeat (first | refine blk_drewN ?_ _ | refine blk_drew ?_ | refine blk_alloc ?_ _)); exact BK279.out⟩, ⟨by repeat (first | (with_reducible first | exact HB.out | apply below_alloc | apply pw_below_drewN | apply below_drew1 | refine below_set ?_ GE277.out | refine below_set ?_ GE278.out | refine below_set ?_ GE279.out) | exact HB.out)⟩⟩
      case round =>
        clear H'
        try clear c1
        try clear p2
        try clear c3
        try clear c4
        try clear c4b0
        try clear c4b1
        try clear c5
        try clear c5b0
        try clear c5b1
        try clear p6
        try clear c9
        try clear c10
        try clear c12
        try clear hcz11_0
        try clear hcz11_1
        try clear hcz13_0
        try clear hcz13_1
        try clear hcz16_0
        try clear hcz16_1
        try clear hfz11_0
        try clear hfz11_1
        try clear hfz13_0
        try clear hfz13_1
        try clear hfz16_0
        try clear hfz16_1
        obtain ⟨x5_1, x22_1, rfl, HA, HK1, HO_5, BK277, BK278, BK279, HB⟩ := hrel; cases gk with
        | zero => exact absurd HA.out (by simp [quadformref01_Mul.l0])
        | succ k1 =>
          have H := HA.out; clear HA
          simp only [quadformref01_Mul.l0] at H
          by_cases c17 : x22_1 < (l0_1.length : Int)
          · rw [if_pos c17] at H
            have c17b0 : decide (x22_1 < (l0_1.length : Int)) = true := decide_eq_true c17; clear c17
            by_cases c18 : 0 ≤ x22_1
            · rw [if_pos c18] at H
              have c18b0 : decide (0 ≤ x22_1) = true := decide_eq_true c18; clear c18
              by_cases c19 : x22_1 < (l0_1.length : Int)
              · rw [if_pos c19] at H
                have c19b0 : decide (x22_1 < (l0_1.length : Int)) = true := decide_eq_true c19; clear c19; have H' := Aside0.mk H; clear H; have p287 : 0 ≤ (x22_1 : Int) := of_decide_eq_true (by first | (with_reducible assumption) | assumption); have q287 : x22_1 < (l0_1.length : Int) := of_decide_eq_true (by first | (with_reducible assumption) | assumption); obtain ⟨ad287, e287, hx287_0⟩ := Kd.at_int HR0_1.out x22_1 p287 q287; cases e287; replace hx287_0 := (HB.out.cell (World.block_lt_of_cell? w _ hx287_0)).trans hx287_0; replace p287 := eq_true p287; replace q287 := eq_true q287; have hnb20 := NB278_277.out; have hnc20 := NB277_278.out; have hnb21 := NB278_279.out; have hnc21 := NB279_278.out; have hcz22_0 : wr.cell? ⟨gb278, 0, none⟩ = some (.bool a1_0) := (blk_cell BK278.out 0).trans rfl; have hcz22_1 : wr.cell? ⟨gb278, 1, none⟩ = some (.slice A1_1 l1_1.length c1_1) := (blk_cell BK278.out 1).trans rfl; have hfz22_0 := blk_frozen BK278.out 0; have hfz22_1 := blk_frozen BK278.out 1
                go_wp2
                go_loopg [8, 30] k1 (fun kq v8 v30 w' => ∃ (x5_2 : List Int) (x8_2 : Int) (x30_2 : Int), v8 = .int .u64 x8_2 ∧ v30 = .int .i64 x30_2 ∧ Aside0 (quadformref01_Mul.l1 kq x5_2 x22_1 (rd l0_1 x22_1) x8_2 l0_1 (l0_1.length : Int) x22_1 l1_1 (l1_1.length : Int) x30_2 a0_0 l0_1 a1_0 l1_1 = some (r1, r2)) ∧ Aside0 (kq ≤ k1) ∧ Aside0 (Kd.R (Kd.int .u32) 98 w' w.heap.size (fun _ => True) v281 x5_2) ∧ Aside0 (w'.heap[gb277]? = some (.cells #[.bool a0_0, (.slice (some ad287) l0_1.length c0_1)] 24 (0, 0))) ∧ Aside0 (w'.heap[gb278]? = some (.cells #[.bool a1_0, (.slice A1_1 l1_1.length c1_1)] 24 (0, 0))) ∧ Aside0 (w'.heap[gb279]? = some (.cells #[.bool false, (.slice none 0 0)] 24 (0, 0))) ∧ Aside0 (Below w.heap.size w w'))
                case atStart => exact ⟨(x5_1), (0), (0), (by first | rfl | (simp; done) | (simp [*]; done)), (by first | rfl | (simp; done) | (simp [*]; done)), H', ⟨Nat.le_refl _⟩, ⟨by (with_reducible repeat (first | apply Kd.R_alloc | apply Kd.R_drewN | apply Kd.R_drew)); exact HO_5.out⟩, ⟨by (with_reducible repeat (first | refine blk_drewN ?_ _ | refine blk_drew ?_ | refine blk_alloc ?_ _)); exact BK277.out⟩, ⟨by (with_reducible repeat (first | refine blk_drewN ?_ _ | refine blk_drew ?_ | refine blk_alloc ?_ _)); exact BK278.out⟩, ⟨by (with_reducible repeat (first | refine blk_drewN ?_ _ | refine blk_drew ?_ | refine blk_alloc ?_ _)); exact BK279.out⟩, ⟨by repeat (first | (with_reducible first | exact HB.out | apply below_alloc | apply pw_below_drewN | apply below_drew1 | refine below_set ?_ GE277.out | refine below_set ?_ GE278.out | refine below_set ?_ GE279.out) | exact HB.out)⟩⟩
                case round =>
                  clear H'
                  try clear c1
                  try clear c2
                  try clear p2
                  try clear q2
                  try clear hx2
                  try clear c3
                  try clear c4
                  try clear c4b0
                  try clear c4b1
                  try clear c5
                  try clear c5b0
                  try clear c5b1
                  try clear p6
                  try clear c9
                  try clear c10
                  try clear c12
                  try clear c17
                  try clear c17b0
                  try clear c18
                  try clear c18b0
                  try clear c19
                  try clear c19b0
                  try clear c20
                  try clear c21
                  try clear hcz11_0
                  try clear hcz11_1
                  try clear hcz13_0
                  try clear hcz13_1
                  try clear hcz16_0
                  try clear hcz16_1
                  try clear hcz22_0
                  try clear hcz22_1
                  try clear hfz11_0
                  try clear hfz11_1
                  try clear hfz13_0
                  try clear hfz13_1
                  try clear hfz16_0
                  try clear hfz16_1
                  try clear hfz22_0
                  try clear hfz22_1
                  try clear hx287_0
                  try clear p2
                  try clear p287
                  try clear p6
                  try clear q287
                  obtain ⟨x5_2, x8_2, x30_2, rfl, rfl, HA, HK2, HO_5, BK277, BK278, BK279, HB⟩ := hrel; cases gk with
                  | zero => exact absurd HA.out (by simp [quadformref01_Mul.l1])
                  | succ k2 =>
                    have H := HA.out; clear HA
                    simp only [quadformref01_Mul.l1] at H
                    by_cases c23 : x30_2 < (l1_1.length : Int)
                    · rw [if_pos c23] at H
                      have c23b0 : decide (x30_2 < (l1_1.length : Int)) = true := decide_eq_true c23; clear c23
                      by_cases c24 : 0 ≤ x30_2
                      · rw [if_pos c24] at H
                        have c24b0 : decide (0 ≤ x30_2) = true := decide_eq_true c24; clear c24
                        by_cases c25 : x30_2 < (l1_1.length : Int)
                        · rw [if_pos c25] at H
                          have c25b0 : decide (x30_2 < (l1_1.length : Int)) = true := decide_eq_true c25; clear c25
                          obtain ⟨ji26, hji26⟩ : ∃ j_ : Int, (wrap64 (x22_1 + x30_2)) = j_ := ⟨_, rfl⟩
                          replace H : (if 0 ≤ (ji26) then (if (ji26) < (x5_2.length : Int) then (quadformref01_Mul.l1 k2 (x5_2.set ((ji26) : Int).toNat ((IntKind.u64.wrap (x8_2 + (IntKind.u64.wrap ((IntKind.u64.wrap ((IntKind.u64.wrap ((rd l0_1 x22_1))) * (IntKind.u64.wrap (rd l1_1 x30_2)))) + (IntKind.u64.wrap (rd x5_2 (ji26))))))) % 4294967296)) x22_1 (rd l0_1 x22_1) ((IntKind.u64.wrap (x8_2 + (IntKind.u64.wrap ((IntKind.u64.wrap ((IntKind.u64.wrap ((rd l0_1 x22_1))) * (IntKind.u64.wrap (rd l1_1 x30_2)))) + (IntKind.u64.wrap (rd x5_2 (ji26))))))) / 4294967296) l0_1 (l0_1.length : Int) x22_1 l1_1 (l1_1.length : Int) (wrap64 (x30_2 + 1)) a0_0 l0_1 a1_0 l1_1) else (none)) else (none)) = some (r1, r2) := by first | (rw [hji26] at H; exact H) | (simp only [hji26] at H ⊢; exact H)
                          have hji26w : (IntKind.i64.wrap (x22_1 + x30_2)) = ji26 := (i64_w _).trans hji26
                          by_cases c27 : 0 ≤ (ji26)
                          · rw [if_pos c27] at H
                            have c27b0 : decide (0 ≤ (ji26)) = true := decide_eq_true c27; clear c27
                            by_cases c28 : (ji26) < (x5_2.length : Int)
                            · rw [if_pos c28] at H
                              have c28b0 : decide ((ji26) < (x5_2.length : Int)) = true := decide_eq_true c28; clear c28
                              obtain ⟨y290, hy290⟩ : ∃ y_ : List Int, y_ = (x5_2.set ((ji26) : Int).toNat ((IntKind.u64.wrap (x8_2 + (IntKind.u64.wrap ((IntKind.u64.wrap ((IntKind.u64.wrap ((rd l0_1 x22_1))) * (IntKind.u64.wrap (rd l1_1 x30_2)))) + (IntKind.u64.wrap (rd x5_2 (ji26))))))) % 4294967296)) := ⟨_, rfl⟩
                              replace H : (quadformref01_Mul.l1 k2 y290 x22_1 (rd l0_1 x22_1) ((IntKind.u64.wrap (x8_2 + (IntKind.u64.wrap ((IntKind.u64.wrap ((IntKind.u64.wrap ((rd l0_1 x22_1))) * (IntKind.u64.wrap (rd l1_1 x30_2)))) + (IntKind.u64.wrap (rd x5_2 (ji26))))))) / 4294967296) l0_1 (l0_1.length : Int) x22_1 l1_1 (l1_1.length : Int) (wrap64 (x30_2 + 1)) a0_0 l0_1 a1_0 l1_1) = some (r1, r2) := by first | (rw [hy290]; with_reducible exact H) | (have H2_ := (Option.bind_some _ _).symm.trans H; rw [hy290]; with_reducible exact H2_) | (have H2_ := (Option.bind_some _ _).symm.trans H; with_reducible exact H2_) | with_reducible exact H | (rw [hy290]; exact H) | exact H
                              have Ny290 := Aside0.mk hy290; clear hy290; have H' := Aside0.mk H; clear H; have p288 : 0 ≤ (x30_2 : Int) := of_decide_eq_true (by first | (with_reducible assumption) | assumption); have q288 : x30_2 < (l1_1.length : Int) := of_decide_eq_true (by first | (with_reducible assumption) | assumption); obtain ⟨ad288, e288, hx288_0⟩ := Kd.at_int HR1_1.out x30_2 p288 q288; cases e288; replace hx288_0 := (HB.out.cell (World.block_lt_of_cell? w _ hx288_0)).trans hx288_0; replace p288 := eq_true p288; replace q288 := eq_true q288; obtain ⟨Ao30, co30, eo30⟩ := Kd.R_slice HO_5.out; subst eo30; have p289 : 0 ≤ ((ji26) : Int) := of_decide_eq_true (by first | (with_reducible assumption) | assumption); have q289 : (ji26) < (x5_2.length : Int) := of_decide_eq_true (by first | (with_reducible assumption) | assumption); obtain ⟨ad289, e289, hx289_0⟩ := Kd.at_int (Kd.R_reads' HO_5.out).2.2 (ji26) p289 q289; cases e289; replace p289 := eq_true p289; replace q289 := eq_true q289; have p29 : 0 ≤ ((ji26) : Int) := of_decide_eq_true (by first | (with_reducible assumption) | assumption); have q29 : ((ji26) : Int) < ((x5_2.length : Int) : Int) := of_decide_eq_true (by first | (with_reducible assumption) | assumption); obtain ⟨go29, co29, eo29, gb29, gl29, cl29, HG29⟩ := Kd.R_form HO_5.out (by omega)
                              (first | cases eo29 | (injection eo29 with ea_ en_ ec_; (first | subst ea_ | (injection ea_ with ea_; subst ea_)); subst ec_; clear en_))
                              have GB29 := Aside0.mk gb29; have GG29 := Aside0.mk HG29; clear gb29 gl29 HG29
                              (first | simp only [add_plain] at hx289_0 | skip)
                              obtain ⟨hx29_0, hf29_0⟩ := Kd.R_celln 0 HO_5.out ((ji26) : Int) p29 q29; replace p29 := eq_true p29; replace q29 := eq_true q29; have HP31 := Kd.R_putg HO_5.out ((ji26) : Int) ((IntKind.u64.wrap (x8_2 + (IntKind.u64.wrap ((IntKind.u64.wrap ((IntKind.u64.wrap ((rd l0_1 x22_1))) * (IntKind.u64.wrap (rd l1_1 x30_2)))) + (IntKind.u64.wrap (rd x5_2 (ji26))))))) % 4294967296)
                              go_wp2_with (first | ((with_reducible refine gate_store (t := 98) (p := 56) rfl ?_); refine store_event (t := 98) (p := 56) (v := ?vo_w32) (w1 := (wr.setCell ⟨go29, ((ji26) : Int).toNat, none⟩ (.int .u32 ((IntKind.u64.wrap (x8_2 + (IntKind.u64.wrap ((IntKind.u64.wrap ((IntKind.u64.wrap ((rd l0_1 x22_1))) * (IntKind.u64.wrap (rd l1_1 x30_2)))) + (IntKind.u64.wrap (rd x5_2 (ji26))))))) % 4294967296)))) ?hg ?ho ?hn ?hr ?_; (case ho => rfl); (case hg => rfl); (case hn => rfl); (case hr => first | (go_simp; done) | (go_simp; rfl)); intro w32 hw; have hg : wr.grownBy w32 (some go29) := (by rw [hw]; exact HP31.2); have hp_ : Kd.R (Kd.int .u32) 98 w32 w.heap.size (fun _ => True) (.slice (some ⟨go29, 0, none⟩) x5_2.length co30) y290 := (by rw [hw, Ny290.out]; exact HP31.1); clear HP31; have n0_ := Aside0.mk (hp_); have n1_ := Aside0.mk (blk_grown (g := gb277) (o := .cells #[.bool a0_0, .slice (some ad287) l0_1.length c0_1] 24 (0, 0)) (by (with_reducible repeat (first | refine blk_drewN ?_ _ | refine blk_drew ?_ | refine blk_alloc ?_ _)); exact BK277.out) hg (Kd.R_ne HO_5.out BK277.out (by decide))); have n2_ := Aside0.mk (blk_grown (g := gb278) (o := .cells #[.bool a1_0, .slice (some ad288) l1_1.length c1_1] 24 (0, 0)) (by (with_reducible repeat (first | refine blk_drewN ?_ _ | refine blk_drew ?_ | refine blk_alloc ?_ _)); exact BK278.out) hg (Kd.R_ne HO_5.out BK278.out (by decide))); have n3_ := Aside0.mk (blk_grown (g := gb279) (o := .cells #[.bool false, .slice none 0 0] 24 (0, 0)) (by (with_reducible repeat (first | refine blk_drewN ?_ _ | refine blk_drew ?_ | refine blk_alloc ?_ _)); exact BK279.out) hg (Kd.R_ne HO_5.out BK279.out (by decide))); have n4_ := Aside0.mk ((by rw [hw]; exact below_set (HB.out) GB29.out : Below w.heap.size w w32)); clear HO_5; clear BK277; clear BK278; clear BK279; clear HB; have HO_5 := n0_; have BK277 := n1_; have BK278 := n2_; have BK279 := n3_; have HB := n4_; clear n0_ n1_ n2_ n3_ n4_; clear hg hw hp_))
                              go_roundg k2
                              case measure => have := HK1.out; have := HK2.out; omega
                              case rel => exact ⟨(y290), ((IntKind.u64.wrap (x8_2 + (IntKind.u64.wrap ((IntKind.u64.wrap ((IntKind.u64.wrap ((rd l0_1 x22_1))) * (IntKind.u64.wrap (rd l1_1 x30_2)))) + (IntKind.u64.wrap (rd x5_2 (ji26))))))) / 4294967296), (wrap64 (x30_2 + 1)), (by first | rfl | (simp; done) | (simp only [← hji26] <;> (first | rfl | simp)) | (simp [*]; done)), (by first | rfl | (simp; done) | (simp [*]; done)), H', ⟨by have := HK1.out; have := HK2.out; omega⟩, ⟨by (with_reducible repeat (first | apply Kd.R_alloc | apply Kd.R_drewN | apply Kd.R_drew)); exact HO_5.out⟩, ⟨by (with_reducible repeat (first | refine blk_drewN ?_ _ | refine blk_drew ?_ | refine blk_alloc ?_ _)); exact BK277.out⟩, ⟨by (with_reducible repeat (first | refine blk_drewN ?_ _ | refine blk_drew ?_ | refine blk_alloc ?_ _)); exact BK278.out⟩, ⟨by (with_reducible repeat (first | refine blk_drewN ?_ _ | refine blk_drew ?_ | refine blk_alloc ?_ _)); exact BK279.out⟩, ⟨by repeat (first | (with_reducible first | exact HB.out | apply below_alloc | apply pw_below_drewN | apply below_drew1 | refine below_set ?_ GE277.out | refine below_set ?_ GE278.out | refine below_set ?_ GE279.out) | exact HB.out)⟩⟩
                            · rw [if_neg c28] at H
                              exact absurd H (by simp)
                          · rw [if_neg c27] at H
                            exact absurd H (by simp)
                        · rw [if_neg c25] at H
                          exact absurd H (by simp)
                      · rw [if_neg c24] at H
                        exact absurd H (by simp)
                    · rw [if_neg c23] at H
                      have c23b0 : decide (x30_2 < (l1_1.length : Int)) = false := decide_eq_false c23; clear c23
                      obtain ⟨ji33, hji33⟩ : ∃ j_ : Int, (wrap64 (x22_1 + (l1_1.length : Int))) = j_ := ⟨_, rfl⟩
                      replace H : (if 0 ≤ (ji33) then (if (ji33) < (x5_2.length : Int) then (quadformref01_Mul.l0 k2 (x5_2.set ((ji33) : Int).toNat ((x8_2) % 4294967296)) l0_1 (l0_1.length : Int) (wrap64 (x22_1 + 1)) a0_0 l0_1 a1_0 l1_1) else (none)) else (none)) = some (r1, r2) := by first | (rw [hji33] at H; exact H) | (simp only [hji33] at H ⊢; exact H)
                      have hji33w : (IntKind.i64.wrap (x22_1 + (l1_1.length : Int))) = ji33 := (i64_w _).trans hji33
                      by_cases c34 : 0 ≤ (ji33)
                      · rw [if_pos c34] at H
                        have c34b0 : decide (0 ≤ (ji33)) = true := decide_eq_true c34; clear c34
                        by_cases c35 : (ji33) < (x5_2.length : Int)
                        · rw [if_pos c35] at H
                          have c35b0 : decide ((ji33) < (x5_2.length : Int)) = true := decide_eq_true c35; clear c35
                          obtain ⟨y291, hy291⟩ : ∃ y_ : List Int, y_ = (x5_2.set ((ji33) : Int).toNat ((x8_2) % 4294967296)) := ⟨_, rfl⟩
                          replace H : (quadformref01_Mul.l0 k2 y291 l0_1 (l0_1.length : Int) (wrap64 (x22_1 + 1)) a0_0 l0_1 a1_0 l1_1) = some (r1, r2) := by first | (rw [hy291]; with_reducible exact H) | (have H2_ := (Option.bind_some _ _).symm.trans H; rw [hy291]; with_reducible exact H2_) | (have H2_ := (Option.bind_some _ _).symm.trans H; with_reducible exact H2_) | with_reducible exact H | (rw [hy291]; exact H) | exact H
                          have Ny291 := Aside0.mk hy291; clear hy291; have H' := Aside0.mk H; clear H; have hnb37 := NB278_277.out; have hnc37 := NB277_278.out; have hnb38 := NB278_279.out; have hnc38 := NB279_278.out; have hcz39_0 : wr.cell? ⟨gb278, 0, none⟩ = some (.bool a1_0) := (blk_cell BK278.out 0).trans rfl; have hcz39_1 : wr.cell? ⟨gb278, 1, none⟩ = some (.slice A1_1 l1_1.length c1_1) := (blk_cell BK278.out 1).trans rfl; have hfz39_0 := blk_frozen BK278.out 0; have hfz39_1 := blk_frozen BK278.out 1; have p36 : 0 ≤ ((ji33) : Int) := of_decide_eq_true (by first | (with_reducible assumption) | assumption); have q36 : ((ji33) : Int) < ((x5_2.length : Int) : Int) := of_decide_eq_true (by first | (with_reducible assumption) | assumption); obtain ⟨go36, co36, eo36, gb36, gl36, cl36, HG36⟩ := Kd.R_form HO_5.out (by omega)
                          (first | cases eo36 | (injection eo36 with ea_ en_ ec_; (first | subst ea_ | (injection ea_ with ea_; subst ea_)); subst ec_; clear en_))
                          have GB36 := Aside0.mk gb36; have GG36 := Aside0.mk HG36; clear gb36 gl36 HG36; obtain ⟨hx36_0, hf36_0⟩ := Kd.R_celln 0 HO_5.out ((ji33) : Int) p36 q36; replace p36 := eq_true p36; replace q36 := eq_true q36; have HP40 := Kd.R_putg HO_5.out ((ji33) : Int) ((x8_2) % 4294967296)
                          go_wp2_with (first | ((with_reducible refine gate_store (t := 98) (p := 68) rfl ?_); refine store_event (t := 98) (p := 68) (v := ?vo_w41) (w1 := (wr.setCell ⟨go36, ((ji33) : Int).toNat, none⟩ (.int .u32 ((x8_2) % 4294967296)))) ?hg ?ho ?hn ?hr ?_; (case ho => rfl); (case hg => rfl); (case hn => rfl); (case hr => first | (go_simp; done) | (go_simp; rfl)); intro w41 hw; have hg : wr.grownBy w41 (some go36) := (by rw [hw]; exact HP40.2); have hp_ : Kd.R (Kd.int .u32) 98 w41 w.heap.size (fun _ => True) (.slice (some ⟨go36, 0, none⟩) x5_2.length co36) y291 := (by rw [hw, Ny291.out]; exact HP40.1); clear HP40; have n0_ := Aside0.mk (hp_); have n1_ := Aside0.mk (blk_grown (g := gb277) (o := .cells #[.bool a0_0, .slice (some ad287) l0_1.length c0_1] 24 (0, 0)) (by (with_reducible repeat (first | refine blk_drewN ?_ _ | refine blk_drew ?_ | refine blk_alloc ?_ _)); exact BK277.out) hg (Kd.R_ne HO_5.out BK277.out (by decide))); have n2_ := Aside0.mk (blk_grown (g := gb278) (o := .cells #[.bool a1_0, .slice A1_1 l1_1.length c1_1] 24 (0, 0)) (by (with_reducible repeat (first | refine blk_drewN ?_ _ | refine blk_drew ?_ | refine blk_alloc ?_ _)); exact BK278.out) hg (Kd.R_ne HO_5.out BK278.out (by decide))); have n3_ := Aside0.mk (blk_grown (g := gb279) (o := .cells #[.bool false, .slice none 0 0] 24 (0, 0)) (by (with_reducible repeat (first | refine blk_drewN ?_ _ | refine blk_drew ?_ | refine blk_alloc ?_ _)); exact BK279.out) hg (Kd.R_ne HO_5.out BK279.out (by decide))); have n4_ := Aside0.mk ((by rw [hw]; exact below_set (HB.out) GB36.out : Below w.heap.size w w41)); clear HO_5; clear BK277; clear BK278; clear BK279; clear HB; have HO_5 := n0_; have BK277 := n1_; have BK278 := n2_; have BK279 := n3_; have HB := n4_; clear n0_ n1_ n2_ n3_ n4_; clear hg hw hp_))
                          go_roundg k2
                          case measure => have := HK1.out; have := HK2.out; omega
                          case rel => exact ⟨(y291), (wrap64 (x22_1 + 1)), (by first | rfl | (simp; done) | (simp [*]; done)), H', ⟨by have := HK1.out; have := HK2.out; omega⟩, ⟨by (with_reducible repeat (first | apply Kd.R_alloc | apply Kd.R_drewN | apply Kd.R_drew)); exact HO_5.out⟩, ⟨by (with_reducible repeat (first | refine blk_drewN ?_ _ | refine blk_drew ?_ | refine blk_alloc ?_ _)); exact BK277.out⟩, ⟨by (with_reducible repeat (first | refine blk_drewN ?_ _ | refine blk_drew ?_ | refine blk_alloc ?_ _)); exact BK278.out⟩, ⟨by (with_reducible repeat (first | refine blk_drewN ?_ _ | refine blk_drew ?_ | refine blk_alloc ?_ _)); exact BK279.out⟩, ⟨by repeat (first | (with_reducible first | exact HB.out | apply below_alloc | apply pw_below_drewN | apply below_drew1 | refine below_set ?_ GE277.out | refine below_set ?_ GE278.out | refine below_set ?_ GE279.out) | exact HB.out)⟩⟩
                        · rw [if_neg c35] at H
                          exact absurd H (by simp)
                      · rw [if_neg c34] at H
                        exact absurd H (by simp)
              · rw [if_neg c19] at H
                exact absurd H (by simp)
            · rw [if_neg c18] at H
              exact absurd H (by simp)
          · rw [if_neg c17] at H
            have c17b0 : decide (x22_1 < (l0_1.length : Int)) = false := decide_eq_false c17; clear c17; replace H := Option.bind_eq_some_iff.mp H; obtain ⟨⟨t283, t284⟩, A420, H⟩ := H; replace H : (some (t283, t284)) = some (r1, r2) := H; have A42 := Aside0.mk A420; clear A420
            simp only [Option.some.injEq, Prod.mk.injEq] at H
            obtain ⟨rfl, rfl⟩ := H; have hnb43 := NB277_278.out; have hnc43 := NB278_277.out; have hnb44 := NB277_279.out; have hnc44 := NB279_277.out; have hcz45_0 : wr.cell? ⟨gb277, 0, none⟩ = some (.bool a0_0) := (blk_cell BK277.out 0).trans rfl; have hcz45_1 : wr.cell? ⟨gb277, 1, none⟩ = some (.slice A0_1 l0_1.length c0_1) := (blk_cell BK277.out 1).trans rfl; have hfz45_0 := blk_frozen BK277.out 0; have hfz45_1 := blk_frozen BK277.out 1; have hnb46 := NB278_279.out; have hnc46 := NB279_278.out; have hcz47_0 : wr.cell? ⟨gb278, 0, none⟩ = some (.bool a1_0) := (blk_cell BK278.out 0).trans rfl; have hcz47_1 : wr.cell? ⟨gb278, 1, none⟩ = some (.slice A1_1 l1_1.length c1_1) := (blk_cell BK278.out 1).trans rfl; have hfz47_0 := blk_frozen BK278.out 0; have hfz47_1 := blk_frozen BK278.out 1; obtain ⟨Ao48, co48, eo48⟩ := Kd.R_slice HO_5.out; subst eo48
            go_wp2_with (first | ((with_reducible refine gate_callee (f := 67) rfl ?_); refine goesL_ (some 76) rfl rfl Try.func67 (by kernel_rfl) rfl #[.bool (a0_0 != a1_0), .slice Ao48 x5_1.length co48] rfl (by (try simp only [List.map_toArray, List.map_cons, List.map_nil]); first | done | rfl | (simp only [List.length_drop, List.length_take]; rfl)) ?_; (with_reducible refine (quadformref01_Make.calls (a0_0 != a1_0) _ _ x5_1 t283 t284 _ ?side1 ?side2 A42.out).mono ?_); (case side1 => repeat (first | exact (Kd.R_reads' HO_5.out).2.2 | (with_reducible refine Kd.C_alloc ?_ _) | (with_reducible refine Kd.C_drewN ?_ _) | (with_reducible refine Kd.C_drew ?_))); (case side2 => exact (Kd.R_reads' HO_5.out).2.1); rintro e w49 ⟨v285, rfl, ho0, hb⟩; refine ⟨_, rfl, ?_⟩; have n0_ := Aside0.mk (Kd.R_elder' (by (with_reducible repeat (first | apply Kd.R_alloc | apply Kd.R_drewN | apply Kd.R_drew)); exact HO_5.out) (Kd.R_base ho0) hb); have n1_ := Aside0.mk (Kd.R_lower (Kd.R_new' ho0 (Kd.R_lt (by (with_reducible repeat (first | apply Kd.R_alloc | apply Kd.R_drewN | apply Kd.R_drew)); exact HO_5.out))) (below_size (by repeat (first | (with_reducible first | exact HB.out | apply below_alloc | apply pw_below_drewN | apply below_drew1 | refine below_set ?_ GE277.out | refine below_set ?_ GE278.out | refine below_set ?_ GE279.out) | exact HB.out)))); have n2_ := Aside0.mk (blk_below (g := gb277) (o := .cells #[.bool a0_0, .slice A0_1 l0_1.length c0_1] 24 (0, 0)) (by (with_reducible repeat (first | refine blk_drewN ?_ _ | refine blk_drew ?_ | refine blk_alloc ?_ _)); exact BK277.out) hb); have n3_ := Aside0.mk (blk_below (g := gb278) (o := .cells #[.bool a1_0, .slice A1_1 l1_1.length c1_1] 24 (0, 0)) (by (with_reducible repeat (first | refine blk_drewN ?_ _ | refine blk_drew ?_ | refine blk_alloc ?_ _)); exact BK278.out) hb); have n4_ := Aside0.mk (blk_below (g := gb279) (o := .cells #[.bool false, .slice none 0 0] 24 (0, 0)) (by (with_reducible repeat (first | refine blk_drewN ?_ _ | refine blk_drew ?_ | refine blk_alloc ?_ _)); exact BK279.out) hb); have n5_ := Aside0.mk (below_step (by repeat (first | (with_reducible first | exact HB.out | apply below_alloc | apply pw_below_drewN | apply below_drew1 | refine below_set ?_ GE277.out | refine below_set ?_ GE278.out | refine below_set ?_ GE279.out) | exact HB.out)) hb); clear HO_5; clear BK277; clear BK278; clear BK279; clear HB; have HO_5 := n0_; have HO286 := n1_; have BK277 := n2_; have BK278 := n3_; have BK279 := n4_; have HB := n5_; clear n0_ n1_ n2_ n3_ n4_ n5_; (try clear hb); (try clear hb2); (try clear hk); (try clear hi); (try clear ho0); have hcz50_0 : w49.cell? ⟨gb279, 0, none⟩ = some (.bool false) := (blk_cell BK279.out 0).trans rfl; have hcz50_1 : w49.cell? ⟨gb279, 1, none⟩ = some (.slice none 0 0) := (blk_cell BK279.out 1).trans rfl; have hfz50_0 := blk_frozen BK279.out 0; have hfz50_1 := blk_frozen BK279.out 1; obtain ⟨Ao51, co51, eo51⟩ := Kd.R_slice HO286.out; subst eo51))
            refine bodyPost_ret (results_cell_row rfl _ _ gb279 24 #[.bool t283, .slice Ao51 t284.length co51] (0, 0) _ rfl (by (with_reducible repeat (first | refine blk_drewN ?_ _ | refine blk_drew ?_ | refine blk_alloc ?_ _)); refine blk_put (cs := #[.bool t283, .slice none 0 0]) ?_ 1 _ rfl; (with_reducible repeat (first | refine blk_drewN ?_ _ | refine blk_drew ?_ | refine blk_alloc ?_ _)); refine blk_put (cs := #[.bool false, .slice none 0 0]) ?_ 0 _ rfl; (with_reducible repeat (first | refine blk_drewN ?_ _ | refine blk_drew ?_ | refine blk_alloc ?_ _)); exact BK279.out) Try.underlying24 rfl (by kernel_rfl)) rfl ?_
            exact ⟨_, by first | rfl | (simp [errW_none, errW_some] <;> rfl) | (simp only [← hji3]; first | rfl | (simp [errW_none, errW_some] <;> rfl)) | (simp [*, errW_none, errW_some] <;> rfl), by (with_reducible repeat (first | apply Kd.R_alloc | apply Kd.R_drewN | apply Kd.R_drew)); exact Kd.R_mono (Kd.R_far (p := ⟨gb279, 1, none⟩) (Kd.R_far (p := ⟨gb279, 0, none⟩) (Kd.R_types HO286.out BK279.out (by decide)) (fun _ hk => hk.2) (.bool t283)) (fun _ hk => hk.2) (.slice Ao51 t284.length co51)) (fun _ hk => trivial), by repeat (first | (with_reducible first | exact HB.out | apply below_alloc | apply pw_below_drewN | apply below_drew1 | refine below_set ?_ GE277.out | refine below_set ?_ GE278.out | refine below_set ?_ GE279.out) | exact HB.out)⟩
    · rw [if_neg c5] at H
      exact absurd H (by simp)
  · rw [if_neg c4] at H
    exact absurd H (by simp)
end Go.Proofs.Ytpkgckccfanchaa.M

namespace Go.Proofs.Ytpkgckccfanchaa.M
open Go.RowKit Go.Proofs.YtpkgckccfanchaaW.PrintWords Go.Proofs.YtpkgckccfanchaaW.PrintLast Go.Proofs.YtpkgckccfanchaaW.PrintMore
attribute [local go_sem] max2_int min2_int max_two min_two max_three min_three max_four min_four
set_option linter.unusedVariables false
set_option linter.unusedSimpArgs false
def quadformref01_cmp.l0 : Nat → List Int → List Int → Int → Option (Int)
  | 0, _, _, _ => none
  | k + 1, x0, x1, x5 => if x5 ≥ 0 then (if 0 ≤ x5 then (if x5 < (x0.length : Int) then (if x5 < (x1.length : Int) then (if (rd x0 x5) = (rd x1 x5) then (quadformref01_cmp.l0 k x0 x1 (wrap64 (x5 - 1))) else (if (rd x0 x5) < (rd x1 x5) then (some (-1)) else (some 1))) else (none)) else (none)) else (none)) else (some 0)
def quadformref01_cmp.f (k : Nat) (l0 : List Int) (l1 : List Int) : Option (Int) := if (l0.length : Int) = (l1.length : Int) then (quadformref01_cmp.l0 k l0 l1 (wrap64 ((l0.length : Int) - 1))) else (if (l0.length : Int) < (l1.length : Int) then (some (-1)) else (some 1))
theorem quadformref01_cmp.mono_l : ∀ k, (∀ y0 y1 y2, LeO (quadformref01_cmp.l0 k y0 y1 y2) (quadformref01_cmp.l0 (k + 1) y0 y1 y2))
  | 0 => fun _ _ _ r h => by simp [quadformref01_cmp.l0] at h
  | k + 1 => by
    have ih0 := quadformref01_cmp.mono_l k
    · intro y0 y1 y2
      unfold quadformref01_cmp.l0
      repeat' first
      | (with_reducible exact ih0 _ _ _)
      | (with_reducible exact LeO.refl _)
      | (with_reducible exact LeO.none _)
      | (with_reducible refine LeO.ite ?_ ?_)
      | (with_reducible refine LeO.bind ?_ (fun _ => ?_))
      | exact ih0 _ _ _
      | exact LeO.none _
      | refine LeO.ite ?_ ?_
      | refine LeO.bind ?_ (fun _ => ?_)
theorem quadformref01_cmp.mono : ∀ a0 a1 k, LeO (quadformref01_cmp.f k a0 a1) (quadformref01_cmp.f (k + 1) a0 a1) := by
  intro a0 a1 k; have ih0 := quadformref01_cmp.mono_l k
  unfold quadformref01_cmp.f
  repeat' first
      | (with_reducible exact ih0 _ _ _)
      | (with_reducible exact LeO.refl _)
      | (with_reducible exact LeO.none _)
      | (with_reducible refine LeO.ite ?_ ?_)
      | (with_reducible refine LeO.bind ?_ (fun _ => ?_))
      | exact ih0 _ _ _
      | exact LeO.none _
      | refine LeO.ite ?_ ?_
      | refine LeO.bind ?_ (fun _ => ?_)
set_option maxHeartbeats 8000000 in
set_option maxRecDepth 100000 in
theorem quadformref01_cmp.calls (k : Nat) (A0 : Option Addr) (c0 : Nat) (l0 : List Int) (A1 : Option Addr) (c1 : Nat) (l1 : List Int) (r : Int) (w : World) (hr0 : Kd.C (Kd.int .u32) w A0 l0.length l0) (hc0 : l0.length ≤ c0) (hr1 : Kd.C (Kd.int .u32) w A1 l1.length l1) (hc1 : l1.length ≤ c1) (h : quadformref01_cmp.f k l0 l1 = some r) :
    Calls Try.prog 50 #[.slice A0 l0.length c0, .slice A1 l1.length c1] w fun e w' => e = .returned (.int .i64 r) ∧ Drawn0 w w' := by
  have HR0 := Aside0.mk hr0; have HC0 := Aside0.mk hc0; clear hr0 hc0; have HR1 := Aside0.mk hr1; have HC1 := Aside0.mk hc1; clear hr1 hc1; have H : (if (l0.length : Int) = (l1.length : Int) then (quadformref01_cmp.l0 k l0 l1 (wrap64 ((l0.length : Int) - 1))) else (if (l0.length : Int) < (l1.length : Int) then (some (-1)) else (some 1))) = some r := h; clear h
  by_cases c3 : (l0.length : Int) = (l1.length : Int)
  · rw [if_pos c3] at H
    have c3b0 : ((l0.length : Int) == (l1.length : Int)) = true := beq_iff_eq.mpr c3; have c3b1 : ((l0.length : Int) != (l1.length : Int)) = false := bne_eq_false_iff_eq.mpr c3
    have c3b2 : (l0.length == l1.length) = true := by first | simpa using c3 | (simp at c3 ⊢; omega)
    clear c3; have H' := Aside0.mk H; clear H
    go_enter Try.func50, Try.ntmps50
    go_wp2
    repeat (go_quiet (fail); try go_wp2)
    go_loopg [5] k (fun kq v5 w' => ∃ (x5_1 : Int), v5 = .int .i64 x5_1 ∧ Aside0 (quadformref01_cmp.l0 kq l0 l1 x5_1 = some r) ∧ Aside0 (kq ≤ k) ∧ Drawn0 w w')
    case atStart => exact ⟨(wrap64 ((l0.length : Int) - 1)), (by first | rfl | (simp; done) | (simp [*]; done)), H', ⟨Nat.le_refl _⟩, by repeat (first | exact Drawn0.refl _ | apply Drawn0.step)⟩
    case round =>
      clear H'
      try clear c1
      try clear p2
      try clear c3
      try clear c3b0
      try clear c3b1
      try clear c3b2
      obtain ⟨x5_1, rfl, HA, HK1, ⟨m1, rfl⟩⟩ := hrel; cases gk with
      | zero => exact absurd HA.out (by simp [quadformref01_cmp.l0])
      | succ k1 =>
        have H := HA.out; clear HA
        simp only [quadformref01_cmp.l0] at H
        by_cases c4 : x5_1 ≥ 0
        · rw [if_pos c4] at H
          have c4b0 : decide (0 ≤ x5_1) = true := decide_eq_true c4; clear c4
          by_cases c5 : 0 ≤ x5_1
          · rw [if_pos c5] at H
            have c5b0 : decide (0 ≤ x5_1) = true := decide_eq_true c5; clear c5
            by_cases c6 : x5_1 < (l0.length : Int)
            · rw [if_pos c6] at H
              have c6b0 : decide (x5_1 < (l0.length : Int)) = true := decide_eq_true c6; clear c6
              by_cases c7 : x5_1 < (l1.length : Int)
              · rw [if_pos c7] at H
                have c7b0 : decide (x5_1 < (l1.length : Int)) = true := decide_eq_true c7; clear c7
                by_cases c8 : (rd l0 x5_1) = (rd l1 x5_1)
                · rw [if_pos c8] at H
                  have c8b0 : ((rd l0 x5_1) == (rd l1 x5_1)) = true := beq_iff_eq.mpr c8; have c8b1 : ((rd l0 x5_1) != (rd l1 x5_1)) = false := bne_eq_false_iff_eq.mpr c8; clear c8; have H' := Aside0.mk H; clear H; have p177 : 0 ≤ (x5_1 : Int) := of_decide_eq_true (by first | (with_reducible assumption) | assumption); have q177 : x5_1 < (l0.length : Int) := of_decide_eq_true (by first | (with_reducible assumption) | assumption); obtain ⟨ad177, e177, hx177_0⟩ := Kd.at_int HR0.out x5_1 p177 q177; cases e177; replace p177 := eq_true p177; replace q177 := eq_true q177; have p178 : 0 ≤ (x5_1 : Int) := of_decide_eq_true (by first | (with_reducible assumption) | assumption); have q178 : x5_1 < (l1.length : Int) := of_decide_eq_true (by first | (with_reducible assumption) | assumption); obtain ⟨ad178, e178, hx178_0⟩ := Kd.at_int HR1.out x5_1 p178 q178; cases e178; replace p178 := eq_true p178; replace q178 := eq_true q178
                  go_wp2
                  repeat (go_quiet (fail); try go_wp2)
                  go_roundg k1
                  case measure => have := HK1.out; omega
                  case rel => exact ⟨(wrap64 (x5_1 - 1)), (by first | rfl | (simp; done) | (simp [*]; done)), H', ⟨by have := HK1.out; omega⟩, by repeat (first | exact Drawn0.refl _ | apply Drawn0.step)⟩
                · rw [if_neg c8] at H
                  have c8b0 : ((rd l0 x5_1) == (rd l1 x5_1)) = false := beq_eq_false_iff_ne.mpr c8; have c8b1 : ((rd l0 x5_1) != (rd l1 x5_1)) = true := bne_iff_ne.mpr c8
                  by_cases c9 : (rd l0 x5_1) < (rd l1 x5_1)
                  · rw [if_pos c9] at H
                    have c9b0 : decide ((rd l0 x5_1) < (rd l1 x5_1)) = true := decide_eq_true c9; clear c9; obtain rfl := Option.some.inj H; have p177 : 0 ≤ (x5_1 : Int) := of_decide_eq_true (by first | (with_reducible assumption) | assumption); have q177 : x5_1 < (l0.length : Int) := of_decide_eq_true (by first | (with_reducible assumption) | assumption); obtain ⟨ad177, e177, hx177_0⟩ := Kd.at_int HR0.out x5_1 p177 q177; cases e177; replace p177 := eq_true p177; replace q177 := eq_true q177; have p178 : 0 ≤ (x5_1 : Int) := of_decide_eq_true (by first | (with_reducible assumption) | assumption); have q178 : x5_1 < (l1.length : Int) := of_decide_eq_true (by first | (with_reducible assumption) | assumption); obtain ⟨ad178, e178, hx178_0⟩ := Kd.at_int HR1.out x5_1 p178 q178; cases e178; replace p178 := eq_true p178; replace q178 := eq_true q178; have p179 : 0 ≤ (x5_1 : Int) := of_decide_eq_true (by first | (with_reducible assumption) | assumption); have q179 : x5_1 < (l0.length : Int) := of_decide_eq_true (by first | (with_reducible assumption) | assumption); obtain ⟨ad179, e179, hx179_0⟩ := Kd.at_int HR0.out x5_1 p179 q179
                    obtain rfl : ad177 = ad179 := (by injection e179)
                    replace p179 := eq_true p179; replace q179 := eq_true q179; have p180 : 0 ≤ (x5_1 : Int) := of_decide_eq_true (by first | (with_reducible assumption) | assumption); have q180 : x5_1 < (l1.length : Int) := of_decide_eq_true (by first | (with_reducible assumption) | assumption); obtain ⟨ad180, e180, hx180_0⟩ := Kd.at_int HR1.out x5_1 p180 q180
                    obtain rfl : ad178 = ad180 := (by injection e180)
                    replace p180 := eq_true p180; replace q180 := eq_true q180
                    go_wp2
                    repeat (go_quiet (fail); try go_wp2)
                    go_ret
                    exact ⟨by first | rfl | (simp; done) | (simp [*]; done), by repeat (first | exact Drawn0.refl _ | apply Drawn0.step)⟩
                  · rw [if_neg c9] at H
                    have c9b0 : decide ((rd l0 x5_1) < (rd l1 x5_1)) = false := decide_eq_false c9; clear c9; obtain rfl := Option.some.inj H; have p177 : 0 ≤ (x5_1 : Int) := of_decide_eq_true (by first | (with_reducible assumption) | assumption); have q177 : x5_1 < (l0.length : Int) := of_decide_eq_true (by first | (with_reducible assumption) | assumption); obtain ⟨ad177, e177, hx177_0⟩ := Kd.at_int HR0.out x5_1 p177 q177; cases e177; replace p177 := eq_true p177; replace q177 := eq_true q177; have p178 : 0 ≤ (x5_1 : Int) := of_decide_eq_true (by first | (with_reducible assumption) | assumption); have q178 : x5_1 < (l1.length : Int) := of_decide_eq_true (by first | (with_reducible assumption) | assumption); obtain ⟨ad178, e178, hx178_0⟩ := Kd.at_int HR1.out x5_1 p178 q178; cases e178; replace p178 := eq_true p178; replace q178 := eq_true q178; have p179 : 0 ≤ (x5_1 : Int) := of_decide_eq_true (by first | (with_reducible assumption) | assumption); have q179 : x5_1 < (l0.length : Int) := of_decide_eq_true (by first | (with_reducible assumption) | assumption); obtain ⟨ad179, e179, hx179_0⟩ := Kd.at_int HR0.out x5_1 p179 q179
                    obtain rfl : ad177 = ad179 := (by injection e179)
                    replace p179 := eq_true p179; replace q179 := eq_true q179; have p180 : 0 ≤ (x5_1 : Int) := of_decide_eq_true (by first | (with_reducible assumption) | assumption); have q180 : x5_1 < (l1.length : Int) := of_decide_eq_true (by first | (with_reducible assumption) | assumption); obtain ⟨ad180, e180, hx180_0⟩ := Kd.at_int HR1.out x5_1 p180 q180
                    obtain rfl : ad178 = ad180 := (by injection e180)
                    replace p180 := eq_true p180; replace q180 := eq_true q180
                    go_wp2
                    repeat (go_quiet (fail); try go_wp2)
                    go_ret
                    exact ⟨by first | rfl | (simp; done) | (simp [*]; done), by repeat (first | exact Drawn0.refl _ | apply Drawn0.step)⟩
              · rw [if_neg c7] at H
                exact absurd H (by simp)
            · rw [if_neg c6] at H
              exact absurd H (by simp)
          · rw [if_neg c5] at H
            exact absurd H (by simp)
        · rw [if_neg c4] at H
          have c4b0 : decide (0 ≤ x5_1) = false := decide_eq_false c4; clear c4; obtain rfl := Option.some.inj H
          go_wp2
          repeat (go_quiet (fail); try go_wp2)
          go_ret
          exact ⟨by first | rfl | (simp; done) | (simp [*]; done), by repeat (first | exact Drawn0.refl _ | apply Drawn0.step)⟩
  · rw [if_neg c3] at H
    have c3b0 : ((l0.length : Int) == (l1.length : Int)) = false := beq_eq_false_iff_ne.mpr c3; have c3b1 : ((l0.length : Int) != (l1.length : Int)) = true := bne_iff_ne.mpr c3
    have c3b2 : (l0.length == l1.length) = false := by first | simpa using c3 | (simp at c3 ⊢; omega)
    by_cases c10 : (l0.length : Int) < (l1.length : Int)
    · rw [if_pos c10] at H
      have c10b0 : decide ((l0.length : Int) < (l1.length : Int)) = true := decide_eq_true c10; have c10b1 : decide (l0.length < l1.length) = true := decide_eq_true (Int.ofNat_lt.mp c10); clear c10; obtain rfl := Option.some.inj H
      go_enter Try.func50, Try.ntmps50
      go_wp2
      repeat (go_quiet (fail); try go_wp2)
      go_ret
      exact ⟨by first | rfl | (simp; done) | (simp [*]; done), by repeat (first | exact Drawn0.refl _ | apply Drawn0.step)⟩
    · rw [if_neg c10] at H
      have c10b0 : decide ((l0.length : Int) < (l1.length : Int)) = false := decide_eq_false c10; have c10b1 : decide (l0.length < l1.length) = false := decide_eq_false (fun h => c10 (Int.ofNat_lt.mpr h)); clear c10; obtain rfl := Option.some.inj H
      go_enter Try.func50, Try.ntmps50
      go_wp2
      repeat (go_quiet (fail); try go_wp2)
      go_ret
      exact ⟨by first | rfl | (simp; done) | (simp [*]; done), by repeat (first | exact Drawn0.refl _ | apply Drawn0.step)⟩
end Go.Proofs.Ytpkgckccfanchaa.M

namespace Go.Proofs.Ytpkgckccfanchaa.M
open Go.RowKit Go.Proofs.YtpkgckccfanchaaW.PrintWords Go.Proofs.YtpkgckccfanchaaW.PrintLast Go.Proofs.YtpkgckccfanchaaW.PrintMore
attribute [local go_sem] max2_int min2_int max_two min_two max_three min_three max_four min_four
set_option linter.unusedVariables false
set_option linter.unusedSimpArgs false
def quadformref01_Same.f (k : Nat) (a0_0 : Bool) (l0_1 : List Int) (a1_0 : Bool) (l1_1 : List Int) : Option (Bool) := if (a0_0 == a1_0) = true then (if (l0_1.length : Int) = (l1_1.length : Int) then ((quadformref01_cmp.f k l0_1 l1_1).bind fun t183 => (some (t183 == 0))) else (some false)) else (some false)
theorem quadformref01_Same.mono : ∀ a0 a1 a2 a3 k, LeO (quadformref01_Same.f k a0 a1 a2 a3) (quadformref01_Same.f (k + 1) a0 a1 a2 a3) := by
  intro a0 a1 a2 a3 k
  unfold quadformref01_Same.f
  repeat' first
      | (with_reducible exact quadformref01_cmp.mono _ _ _)
      | (with_reducible exact LeO.refl _)
      | (with_reducible exact LeO.none _)
      | (with_reducible refine LeO.ite ?_ ?_)
      | (with_reducible refine LeO.bind ?_ (fun _ => ?_))
      | exact quadformref01_cmp.mono _ _ _
      | exact LeO.none _
      | refine LeO.ite ?_ ?_
      | refine LeO.bind ?_ (fun _ => ?_)
set_option maxHeartbeats 8000000 in
set_option maxRecDepth 100000 in
theorem quadformref01_Same.calls (k : Nat) (a0_0 : Bool) (A0_1 : Option Addr) (c0_1 : Nat) (l0_1 : List Int) (a1_0 : Bool) (A1_1 : Option Addr) (c1_1 : Nat) (l1_1 : List Int) (r : Bool) (w : World) (hr0_1 : Kd.C (Kd.int .u32) w A0_1 l0_1.length l0_1) (hc0_1 : l0_1.length ≤ c0_1) (hr1_1 : Kd.C (Kd.int .u32) w A1_1 l1_1.length l1_1) (hc1_1 : l1_1.length ≤ c1_1) (h : quadformref01_Same.f k a0_0 l0_1 a1_0 l1_1 = some r) :
    Calls Try.prog 16 #[.agg #[.bool a0_0, .slice A0_1 l0_1.length c0_1], .agg #[.bool a1_0, .slice A1_1 l1_1.length c1_1]] w fun e w' => e = .returned (.bool r) ∧ Below w.heap.size w w' := by
  have hu24 := Try.underlying24; have HR0_1 := Aside0.mk hr0_1; have HC0_1 := Aside0.mk hc0_1; clear hr0_1 hc0_1; have HR1_1 := Aside0.mk hr1_1; have HC1_1 := Aside0.mk hc1_1; clear hr1_1 hc1_1; have HB := Aside0.mk (Below.refl w.heap.size w); have H : (if (a0_0 == a1_0) = true then (if (l0_1.length : Int) = (l1_1.length : Int) then ((quadformref01_cmp.f k l0_1 l1_1).bind fun t183 => (some (t183 == 0))) else (some false)) else (some false)) = some r := h; clear h
  by_cases c3 : (a0_0 == a1_0) = true
  · rw [if_pos c3] at H
    have c3b0 : (a0_0 == a1_0) = true := c3
    (try (have c3b1 : decide (a0_0 = a1_0) = true := by simpa using c3))
    (try (have c3b2 : (a0_0 == a1_0) = true := by simpa using c3))
    clear c3
    by_cases c4 : (l0_1.length : Int) = (l1_1.length : Int)
    · rw [if_pos c4] at H
      have c4b0 : ((l0_1.length : Int) == (l1_1.length : Int)) = true := beq_iff_eq.mpr c4; have c4b1 : ((l0_1.length : Int) != (l1_1.length : Int)) = false := bne_eq_false_iff_eq.mpr c4
      have c4b2 : (l0_1.length == l1_1.length) = true := by first | simpa using c4 | (simp at c4 ⊢; omega)
      clear c4; replace H := Option.bind_eq_some_iff.mp H; obtain ⟨t183, A50, H⟩ := H; replace H : (some (t183 == 0)) = some r := H; have A5 := Aside0.mk A50; clear A50; obtain rfl := Option.some.inj H
      go_enter Try.func16, Try.ntmps16
      go_wp2_with (first | ((with_reducible refine gate_dst (N := 2) rfl ?_); (try (refine gate_guard (by rfl) ?_; dsimp only)); refine box_event ?hg (N := 2) ?hd (cs := #[.bool a0_0, .slice A0_1 l0_1.length c0_1]) (t := 24) ?hr ?_; (case hd => rfl); (case hg => rfl); (case hr => first | (go_simp; done) | (go_simp; rfl)); intro gb181 hg w6 hbox hb; have n0_ := Aside0.mk (below_step (by repeat (first | (with_reducible first | exact HB.out | apply below_alloc | apply pw_below_drewN | apply below_drew1) | exact HB.out)) hb); have n1_ := Aside0.mk (hbox); have n2_ := Aside0.mk ((by rw [hg]; exact (below_size (by repeat (first | (with_reducible first | exact HB.out | apply below_alloc | apply pw_below_drewN | apply below_drew1) | exact HB.out))) : w.heap.size ≤ gb181)); have n3_ := Aside0.mk ((by rw [hg]; exact (below_size (by repeat (first | (with_reducible first | exact HB.out | apply below_alloc | apply pw_below_drewN | apply below_drew1) | exact HB.out))) : w.heap.size ≤ gb181)); clear HB; have HB := n0_; have BK181 := n1_; have GW181 := n2_; have GE181 := n3_; clear n0_ n1_ n2_ n3_; clear hb hbox hg) | ((with_reducible refine gate_dst (N := 3) rfl ?_); (try (refine gate_guard (by rfl) ?_; dsimp only)); refine box_event ?hg (N := 3) ?hd (cs := #[.bool a1_0, .slice A1_1 l1_1.length c1_1]) (t := 24) ?hr ?_; (case hd => rfl); (case hg => rfl); (case hr => first | (go_simp; done) | (go_simp; rfl)); intro gb182 hg w7 hbox hb; have n0_ := Aside0.mk (blk_below (g := gb181) (o := .cells #[.bool a0_0, .slice A0_1 l0_1.length c0_1] 24 (0, 0)) (by (with_reducible repeat (first | refine blk_drewN ?_ _ | refine blk_drew ?_ | refine blk_alloc ?_ _)); exact BK181.out) hb); have n1_ := Aside0.mk (below_step (by repeat (first | (with_reducible first | exact HB.out | apply below_alloc | apply pw_below_drewN | apply below_drew1 | refine below_set ?_ GE181.out) | exact HB.out)) hb); have n2_ := Aside0.mk (hbox); have n3_ := Aside0.mk ((by rw [hg]; exact (below_size (by repeat (first | (with_reducible first | exact HB.out | apply below_alloc | apply pw_below_drewN | apply below_drew1 | refine below_set ?_ GE181.out) | exact HB.out))) : w.heap.size ≤ gb182)); have n4_ := Aside0.mk ((by rw [hg]; exact (below_size (by repeat (first | (with_reducible first | exact HB.out | apply below_alloc | apply pw_below_drewN | apply below_drew1 | refine below_set ?_ GE181.out) | exact HB.out))) : w.heap.size ≤ gb182)); have n5_ := Aside0.mk ((by rw [hg]; exact Nat.ne_of_lt (blk_lt (g := gb181) (o := .cells #[.bool a0_0, .slice A0_1 l0_1.length c0_1] 24 (0, 0)) (by (with_reducible repeat (first | refine blk_drewN ?_ _ | refine blk_drew ?_ | refine blk_alloc ?_ _)); exact BK181.out)) : gb181 ≠ gb182)); have n6_ := Aside0.mk ((by rw [hg]; exact Nat.ne_of_gt (blk_lt (g := gb181) (o := .cells #[.bool a0_0, .slice A0_1 l0_1.length c0_1] 24 (0, 0)) (by (with_reducible repeat (first | refine blk_drewN ?_ _ | refine blk_drew ?_ | refine blk_alloc ?_ _)); exact BK181.out)) : gb182 ≠ gb181)); clear BK181; clear HB; have BK181 := n0_; have HB := n1_; have BK182 := n2_; have GW182 := n3_; have GE182 := n4_; have NB181_182 := n5_; have NB182_181 := n6_; clear n0_ n1_ n2_ n3_ n4_ n5_ n6_; clear hb hbox hg; have hnb8 := NB181_182.out; have hnc8 := NB182_181.out; have hcz9_0 : w7.cell? ⟨gb181, 0, none⟩ = some (.bool a0_0) := (blk_cell BK181.out 0).trans rfl; have hcz9_1 : w7.cell? ⟨gb181, 1, none⟩ = some (.slice A0_1 l0_1.length c0_1) := (blk_cell BK181.out 1).trans rfl; have hfz9_0 := blk_frozen BK181.out 0; have hfz9_1 := blk_frozen BK181.out 1; have hcz10_0 : w7.cell? ⟨gb182, 0, none⟩ = some (.bool a1_0) := (blk_cell BK182.out 0).trans rfl; have hcz10_1 : w7.cell? ⟨gb182, 1, none⟩ = some (.slice A1_1 l1_1.length c1_1) := (blk_cell BK182.out 1).trans rfl; have hfz10_0 := blk_frozen BK182.out 0; have hfz10_1 := blk_frozen BK182.out 1) | (go_at_call 50; (with_reducible refine (quadformref01_cmp.calls k _ _ l0_1 _ _ l1_1 t183 _ ?side1 ?side2 ?side3 ?side4 A5.out).mono ?_); (case side1 => repeat (first | exact (Kd.C_below HR0_1.out HB.out) | (with_reducible refine Kd.C_alloc ?_ _) | (with_reducible refine Kd.C_drewN ?_ _) | (with_reducible refine Kd.C_drew ?_))); (case side2 => exact HC0_1.out); (case side3 => repeat (first | exact (Kd.C_below HR1_1.out HB.out) | (with_reducible refine Kd.C_alloc ?_ _) | (with_reducible refine Kd.C_drewN ?_ _) | (with_reducible refine Kd.C_drew ?_))); (case side4 => exact HC1_1.out); rintro e w' ⟨rfl, ⟨nd, rfl⟩⟩))
      go_ret
      exact ⟨by first | rfl | (simp [errW_none, errW_some] <;> rfl) | (simp [*, errW_none, errW_some] <;> rfl), by repeat (first | (with_reducible first | exact HB.out | apply below_alloc | apply pw_below_drewN | apply below_drew1 | refine below_set ?_ GE181.out | refine below_set ?_ GE182.out) | exact HB.out)⟩
    · rw [if_neg c4] at H
      have c4b0 : ((l0_1.length : Int) == (l1_1.length : Int)) = false := beq_eq_false_iff_ne.mpr c4; have c4b1 : ((l0_1.length : Int) != (l1_1.length : Int)) = true := bne_iff_ne.mpr c4
      have c4b2 : (l0_1.length == l1_1.length) = false := by first | simpa using c4 | (simp at c4 ⊢; omega)
      obtain rfl := Option.some.inj H
      go_enter Try.func16, Try.ntmps16
      go_wp2_with (first | ((with_reducible refine gate_dst (N := 2) rfl ?_); (try (refine gate_guard (by rfl) ?_; dsimp only)); refine box_event ?hg (N := 2) ?hd (cs := #[.bool a0_0, .slice A0_1 l0_1.length c0_1]) (t := 24) ?hr ?_; (case hd => rfl); (case hg => rfl); (case hr => first | (go_simp; done) | (go_simp; rfl)); intro gb181 hg w11 hbox hb; have n0_ := Aside0.mk (below_step (by repeat (first | (with_reducible first | exact HB.out | apply below_alloc | apply pw_below_drewN | apply below_drew1) | exact HB.out)) hb); have n1_ := Aside0.mk (hbox); have n2_ := Aside0.mk ((by rw [hg]; exact (below_size (by repeat (first | (with_reducible first | exact HB.out | apply below_alloc | apply pw_below_drewN | apply below_drew1) | exact HB.out))) : w.heap.size ≤ gb181)); have n3_ := Aside0.mk ((by rw [hg]; exact (below_size (by repeat (first | (with_reducible first | exact HB.out | apply below_alloc | apply pw_below_drewN | apply below_drew1) | exact HB.out))) : w.heap.size ≤ gb181)); clear HB; have HB := n0_; have BK181 := n1_; have GW181 := n2_; have GE181 := n3_; clear n0_ n1_ n2_ n3_; clear hb hbox hg) | ((with_reducible refine gate_dst (N := 3) rfl ?_); (try (refine gate_guard (by rfl) ?_; dsimp only)); refine box_event ?hg (N := 3) ?hd (cs := #[.bool a1_0, .slice A1_1 l1_1.length c1_1]) (t := 24) ?hr ?_; (case hd => rfl); (case hg => rfl); (case hr => first | (go_simp; done) | (go_simp; rfl)); intro gb182 hg w12 hbox hb; have n0_ := Aside0.mk (blk_below (g := gb181) (o := .cells #[.bool a0_0, .slice A0_1 l0_1.length c0_1] 24 (0, 0)) (by (with_reducible repeat (first | refine blk_drewN ?_ _ | refine blk_drew ?_ | refine blk_alloc ?_ _)); exact BK181.out) hb); have n1_ := Aside0.mk (below_step (by repeat (first | (with_reducible first | exact HB.out | apply below_alloc | apply pw_below_drewN | apply below_drew1 | refine below_set ?_ GE181.out) | exact HB.out)) hb); have n2_ := Aside0.mk (hbox); have n3_ := Aside0.mk ((by rw [hg]; exact (below_size (by repeat (first | (with_reducible first | exact HB.out | apply below_alloc | apply pw_below_drewN | apply below_drew1 | refine below_set ?_ GE181.out) | exact HB.out))) : w.heap.size ≤ gb182)); have n4_ := Aside0.mk ((by rw [hg]; exact (below_size (by repeat (first | (with_reducible first | exact HB.out | apply below_alloc | apply pw_below_drewN | apply below_drew1 | refine below_set ?_ GE181.out) | exact HB.out))) : w.heap.size ≤ gb182)); have n5_ := Aside0.mk ((by rw [hg]; exact Nat.ne_of_lt (blk_lt (g := gb181) (o := .cells #[.bool a0_0, .slice A0_1 l0_1.length c0_1] 24 (0, 0)) (by (with_reducible repeat (first | refine blk_drewN ?_ _ | refine blk_drew ?_ | refine blk_alloc ?_ _)); exact BK181.out)) : gb181 ≠ gb182)); have n6_ := Aside0.mk ((by rw [hg]; exact Nat.ne_of_gt (blk_lt (g := gb181) (o := .cells #[.bool a0_0, .slice A0_1 l0_1.length c0_1] 24 (0, 0)) (by (with_reducible repeat (first | refine blk_drewN ?_ _ | refine blk_drew ?_ | refine blk_alloc ?_ _)); exact BK181.out)) : gb182 ≠ gb181)); clear BK181; clear HB; have BK181 := n0_; have HB := n1_; have BK182 := n2_; have GW182 := n3_; have GE182 := n4_; have NB181_182 := n5_; have NB182_181 := n6_; clear n0_ n1_ n2_ n3_ n4_ n5_ n6_; clear hb hbox hg; have hnb13 := NB181_182.out; have hnc13 := NB182_181.out; have hcz14_0 : w12.cell? ⟨gb181, 0, none⟩ = some (.bool a0_0) := (blk_cell BK181.out 0).trans rfl; have hcz14_1 : w12.cell? ⟨gb181, 1, none⟩ = some (.slice A0_1 l0_1.length c0_1) := (blk_cell BK181.out 1).trans rfl; have hfz14_0 := blk_frozen BK181.out 0; have hfz14_1 := blk_frozen BK181.out 1; have hcz15_0 : w12.cell? ⟨gb182, 0, none⟩ = some (.bool a1_0) := (blk_cell BK182.out 0).trans rfl; have hcz15_1 : w12.cell? ⟨gb182, 1, none⟩ = some (.slice A1_1 l1_1.length c1_1) := (blk_cell BK182.out 1).trans rfl; have hfz15_0 := blk_frozen BK182.out 0; have hfz15_1 := blk_frozen BK182.out 1))
      go_ret
      exact ⟨by first | rfl | (simp [errW_none, errW_some] <;> rfl) | (simp [*, errW_none, errW_some] <;> rfl), by repeat (first | (with_reducible first | exact HB.out | apply below_alloc | apply pw_below_drewN | apply below_drew1 | refine below_set ?_ GE181.out | refine below_set ?_ GE182.out) | exact HB.out)⟩
  · rw [if_neg c3] at H
    have c3b0 : (a0_0 == a1_0) = false := by simpa using c3
    (try (have c3b1 : decide (a0_0 = a1_0) = false := by simpa using c3))
    (try (have c3b2 : (a0_0 == a1_0) = false := by simpa using c3))
    (try (have c3b3 : ¬ (a0_0 = a1_0) := by simpa using c3))
    clear c3; obtain rfl := Option.some.inj H
    go_enter Try.func16, Try.ntmps16
    go_wp2_with (first | ((with_reducible refine gate_dst (N := 2) rfl ?_); (try (refine gate_guard (by rfl) ?_; dsimp only)); refine box_event ?hg (N := 2) ?hd (cs := #[.bool a0_0, .slice A0_1 l0_1.length c0_1]) (t := 24) ?hr ?_; (case hd => rfl); (case hg => rfl); (case hr => first | (go_simp; done) | (go_simp; rfl)); intro gb181 hg w16 hbox hb; have n0_ := Aside0.mk (below_step (by repeat (first | (with_reducible first | exact HB.out | apply below_alloc | apply pw_below_drewN | apply below_drew1) | exact HB.out)) hb); have n1_ := Aside0.mk (hbox); have n2_ := Aside0.mk ((by rw [hg]; exact (below_size (by repeat (first | (with_reducible first | exact HB.out | apply below_alloc | apply pw_below_drewN | apply below_drew1) | exact HB.out))) : w.heap.size ≤ gb181)); have n3_ := Aside0.mk ((by rw [hg]; exact (below_size (by repeat (first | (with_reducible first | exact HB.out | apply below_alloc | apply pw_below_drewN | apply below_drew1) | exact HB.out))) : w.heap.size ≤ gb181)); clear HB; have HB := n0_; have BK181 := n1_; have GW181 := n2_; have GE181 := n3_; clear n0_ n1_ n2_ n3_; clear hb hbox hg) | ((with_reducible refine gate_dst (N := 3) rfl ?_); (try (refine gate_guard (by rfl) ?_; dsimp only)); refine box_event ?hg (N := 3) ?hd (cs := #[.bool a1_0, .slice A1_1 l1_1.length c1_1]) (t := 24) ?hr ?_; (case hd => rfl); (case hg => rfl); (case hr => first | (go_simp; done) | (go_simp; rfl)); intro gb182 hg w17 hbox hb; have n0_ := Aside0.mk (blk_below (g := gb181) (o := .cells #[.bool a0_0, .slice A0_1 l0_1.length c0_1] 24 (0, 0)) (by (with_reducible repeat (first | refine blk_drewN ?_ _ | refine blk_drew ?_ | refine blk_alloc ?_ _)); exact BK181.out) hb); have n1_ := Aside0.mk (below_step (by repeat (first | (with_reducible first | exact HB.out | apply below_alloc | apply pw_below_drewN | apply below_drew1 | refine below_set ?_ GE181.out) | exact HB.out)) hb); have n2_ := Aside0.mk (hbox); have n3_ := Aside0.mk ((by rw [hg]; exact (below_size (by repeat (first | (with_reducible first | exact HB.out | apply below_alloc | apply pw_below_drewN | apply below_drew1 | refine below_set ?_ GE181.out) | exact HB.out))) : w.heap.size ≤ gb182)); have n4_ := Aside0.mk ((by rw [hg]; exact (below_size (by repeat (first | (with_reducible first | exact HB.out | apply below_alloc | apply pw_below_drewN | apply below_drew1 | refine below_set ?_ GE181.out) | exact HB.out))) : w.heap.size ≤ gb182)); have n5_ := Aside0.mk ((by rw [hg]; exact Nat.ne_of_lt (blk_lt (g := gb181) (o := .cells #[.bool a0_0, .slice A0_1 l0_1.length c0_1] 24 (0, 0)) (by (with_reducible repeat (first | refine blk_drewN ?_ _ | refine blk_drew ?_ | refine blk_alloc ?_ _)); exact BK181.out)) : gb181 ≠ gb182)); have n6_ := Aside0.mk ((by rw [hg]; exact Nat.ne_of_gt (blk_lt (g := gb181) (o := .cells #[.bool a0_0, .slice A0_1 l0_1.length c0_1] 24 (0, 0)) (by (with_reducible repeat (first | refine blk_drewN ?_ _ | refine blk_drew ?_ | refine blk_alloc ?_ _)); exact BK181.out)) : gb182 ≠ gb181)); clear BK181; clear HB; have BK181 := n0_; have HB := n1_; have BK182 := n2_; have GW182 := n3_; have GE182 := n4_; have NB181_182 := n5_; have NB182_181 := n6_; clear n0_ n1_ n2_ n3_ n4_ n5_ n6_; clear hb hbox hg; have hnb18 := NB181_182.out; have hnc18 := NB182_181.out; have hcz19_0 : w17.cell? ⟨gb181, 0, none⟩ = some (.bool a0_0) := (blk_cell BK181.out 0).trans rfl; have hcz19_1 : w17.cell? ⟨gb181, 1, none⟩ = some (.slice A0_1 l0_1.length c0_1) := (blk_cell BK181.out 1).trans rfl; have hfz19_0 := blk_frozen BK181.out 0; have hfz19_1 := blk_frozen BK181.out 1; have hcz20_0 : w17.cell? ⟨gb182, 0, none⟩ = some (.bool a1_0) := (blk_cell BK182.out 0).trans rfl; have hcz20_1 : w17.cell? ⟨gb182, 1, none⟩ = some (.slice A1_1 l1_1.length c1_1) := (blk_cell BK182.out 1).trans rfl; have hfz20_0 := blk_frozen BK182.out 0; have hfz20_1 := blk_frozen BK182.out 1))
    go_ret
    exact ⟨by first | rfl | (simp [errW_none, errW_some] <;> rfl) | (simp [*, errW_none, errW_some] <;> rfl), by repeat (first | (with_reducible first | exact HB.out | apply below_alloc | apply pw_below_drewN | apply below_drew1 | refine below_set ?_ GE181.out | refine below_set ?_ GE182.out) | exact HB.out)⟩
end Go.Proofs.Ytpkgckccfanchaa.M

namespace Go.Proofs.Ytpkgckccfanchaa.M
open Go.RowKit Go.Proofs.YtpkgckccfanchaaW.PrintWords Go.Proofs.YtpkgckccfanchaaW.PrintLast Go.Proofs.YtpkgckccfanchaaW.PrintMore
open Sims
set_option linter.unusedVariables false
set_option linter.unusedSimpArgs false
theorem LeO.up {α : Type} {f : Nat → Option α} (h : ∀ k, LeO (f k) (f (k + 1))) {a b : Nat} (hab : a ≤ b) {r : α} (hr : f a = some r) : f b = some r := by
  induction b with
  | zero => obtain rfl : a = 0 := by omega
            exact hr
  | succ b ih =>
    rcases Nat.lt_or_ge b a with h1 | h1
    · obtain rfl : a = b + 1 := by omega
      exact hr
    · exact h b r (ih h1)
end Go.Proofs.Ytpkgckccfanchaa.M

namespace Go.Proofs.Ytpkgckccfanchaa.M
open Go.RowKit Go.Proofs.YtpkgckccfanchaaW.PrintWords Go.Proofs.YtpkgckccfanchaaW.PrintLast Go.Proofs.YtpkgckccfanchaaW.PrintMore
open Sims
set_option linter.unusedVariables false
set_option linter.unusedSimpArgs false
theorem degree_ok {a0 : Int} (h0 : 0 ≤ a0) (h1 : a0 < 256) (l : List (List Int)) (b : Bool) {m : Nat} (hm : 0 < m) (hm2 : m ≤ 200) : ∃ n : Nat, 0 < n ∧ n ≤ m ∧ quadformmake_Perms_Degree.f a0 l b m = some (n : Int) ∧ (1 + a0 % m).toNat = n := by
  have e3 : a0 % m < m := Int.emod_lt_of_pos _ (by omega)
  have e4 : 0 ≤ a0 % m := Int.emod_nonneg _ (by omega)
  refine ⟨(1 + a0 % m).toNat, by omega, by omega, ?_, rfl⟩
  unfold quadformmake_Perms_Degree.f
  rw [if_neg (by omega)]
  have e1 : wrap64 a0 = a0 := by unfold wrap64; omega
  have e2 : Int.tmod a0 m = a0 % m := Int.tmod_eq_emod_of_nonneg h0
  rw [e1, e2]
  congr 1
  unfold wrap64
  omega
theorem gens_ok {a0 : Int} (h0 : 0 ≤ a0) (h1 : a0 < 256) {l : List (List Int)} (hl : ∀ x ∈ l, x.length ≤ 9223372036854775807) (b : Bool) {m n : Nat} (hm : 0 < m) (hm2 : m ≤ 200) (hn : 0 < n) (e : (1 + a0 % m).toNat = n) :
    ∃ gens, quadformmake_Perms_Gens.f a0 l b m = some gens ∧ (∀ g ∈ gens, IsP n g) ∧ gens.length ≤ 3 := by
  refine ⟨(l.take 3).map (genI b n), ?_, fun g hg => ?_, by simp; omega⟩
  · unfold quadformmake_Perms_Gens.f
    rw [if_pos ⟨h0, h1, by omega, by omega, by simpa using hl⟩, e]
  · obtain ⟨x, _, rfl⟩ := List.mem_map.1 hg
    exact genI_isP hn b x
theorem perm_ok {l : List Int} (hl : l.length ≤ 9223372036854775807) {n : Nat} (hn : 0 < n) (h2 : n ≤ 200) : ∃ p, quadformmake_Perm.f l (n : Int) = some p ∧ IsP n p := by
  refine ⟨permLoop l (n - 1) 0 (rangeI n), ?_, permLoop_isP l (n - 1) 0 _ (by omega) (oneL_isP n)⟩
  unfold quadformmake_Perm.f
  rw [if_pos ⟨by omega, by omega, hl⟩, Int.toNat_natCast]
end Go.Proofs.Ytpkgckccfanchaa.M

namespace Go.Proofs.Ytpkgckccfanchaa.M
open Go.RowKit Go.Proofs.YtpkgckccfanchaaW.PrintWords Go.Proofs.YtpkgckccfanchaaW.PrintLast Go.Proofs.YtpkgckccfanchaaW.PrintMore
attribute [local go_sem] max2_int min2_int max_two min_two max_three min_three max_four min_four
set_option linter.unusedVariables false
set_option linter.unusedSimpArgs false
def quadformref16_product.l0 : Nat → List Int → List Int → List Int → Int → Int → Option (List Int)
  | 0, _, _, _, _, _ => none
  | k + 1, x1, x5, x8, x9, x10 => if x10 < x9 then (if 0 ≤ x10 then (if x10 < (x8.length : Int) then (if 0 ≤ (rd x8 x10) then (if (rd x8 x10) < (x1.length : Int) then (if x5.length < 17592186044416 then (quadformref16_product.l0 k x1 (x5 ++ [rd x1 (rd x8 x10)]) x8 x9 (wrap64 (x10 + 1))) else (none)) else (none)) else (none)) else (none)) else (none)) else (some x5)
def quadformref16_product.f (k : Nat) (l0 : List Int) (l1 : List Int) : Option (List Int) := quadformref16_product.l0 k l1 ([] : List Int) l0 (l0.length : Int) 0
theorem quadformref16_product.mono_l : ∀ k, (∀ y0 y1 y2 y3 y4, LeO (quadformref16_product.l0 k y0 y1 y2 y3 y4) (quadformref16_product.l0 (k + 1) y0 y1 y2 y3 y4))
  | 0 => fun _ _ _ _ _ r h => by simp [quadformref16_product.l0] at h
  | k + 1 => by
    have ih0 := quadformref16_product.mono_l k
    · intro y0 y1 y2 y3 y4
      unfold quadformref16_product.l0
      repeat' first
      | (with_reducible exact ih0 _ _ _ _ _)
      | (with_reducible exact LeO.refl _)
      | (with_reducible exact LeO.none _)
      | (with_reducible refine LeO.ite ?_ ?_)
      | (with_reducible refine LeO.bind ?_ (fun _ => ?_))
      | exact ih0 _ _ _ _ _
      | exact LeO.none _
      | refine LeO.ite ?_ ?_
      | refine LeO.bind ?_ (fun _ => ?_)
theorem quadformref16_product.mono : ∀ a0 a1 k, LeO (quadformref16_product.f k a0 a1) (quadformref16_product.f (k + 1) a0 a1) := by
  intro a0 a1 k; have ih0 := quadformref16_product.mono_l k
  unfold quadformref16_product.f
  repeat' first
      | (with_reducible exact ih0 _ _ _ _ _)
      | (with_reducible exact LeO.refl _)
      | (with_reducible exact LeO.none _)
      | (with_reducible refine LeO.ite ?_ ?_)
      | (with_reducible refine LeO.bind ?_ (fun _ => ?_))
      | exact ih0 _ _ _ _ _
      | exact LeO.none _
      | refine LeO.ite ?_ ?_
      | refine LeO.bind ?_ (fun _ => ?_)
set_option maxHeartbeats 8000000 in
set_option maxRecDepth 100000 in
theorem quadformref16_product.calls (k : Nat) (A0 : Option Addr) (c0 : Nat) (l0 : List Int) (A1 : Option Addr) (c1 : Nat) (l1 : List Int) (r : List Int) (w : World) (hr0 : Kd.C (Kd.int .i64) w A0 l0.length l0) (hc0 : l0.length ≤ c0) (hr1 : Kd.C (Kd.int .i64) w A1 l1.length l1) (hc1 : l1.length ≤ c1) (h : quadformref16_product.f k l0 l1 = some r) :
    Calls Try.prog 60 #[.slice A0 l0.length c0, .slice A1 l1.length c1] w fun e w' => ∃ v0_ : Value, e = .returned (v0_) ∧ Kd.R (Kd.int .i64) 3 w' w.heap.size (fun _ => True) v0_ r ∧ Below w.heap.size w w' := by
  have HR0 := Aside0.mk hr0; have HC0 := Aside0.mk hc0; clear hr0 hc0; have HR1 := Aside0.mk hr1; have HC1 := Aside0.mk hc1; clear hr1 hc1; have HB := Aside0.mk (Below.refl w.heap.size w); have H : (quadformref16_product.l0 k l1 ([] : List Int) l0 (l0.length : Int) 0) = some r := h; clear h; have H' := Aside0.mk H; clear H
  go_enter Try.func60, Try.ntmps60
  go_wp2
  go_loopg [5, 10] k (fun kq v5 v10 w' => ∃ (x5_1 : List Int) (x10_1 : Int), v10 = .int .i64 x10_1 ∧ Aside0 (quadformref16_product.l0 kq l1 x5_1 l0 (l0.length : Int) x10_1 = some r) ∧ Aside0 (kq ≤ k) ∧ Aside0 (Kd.R (Kd.int .i64) 3 w' w.heap.size (fun _ => True) v5 x5_1) ∧ Aside0 (Below w.heap.size w w'))
  case atStart => exact ⟨(([] : List Int)), (0), (by first | rfl | (simp; done) | (simp [*]; done)), H', ⟨Nat.le_refl _⟩, ⟨by first | exact Kd.R_nil _ _ _ _ _ | exact Kd.N_nil _ _ _ _ _ | exact Kd.V_nil _ _ _ _ _ | exact Kd.Q_nil _ _ _ _ _ | exact Kd.S_nil _ _ _ _ _⟩, ⟨by repeat (first | (with_reducible first | exact HB.out | apply below_alloc | apply pw_below_drewN | apply below_drew1) | exact HB.out)⟩⟩
  case round =>
    clear H'
    try clear c1
    try clear p2
    obtain ⟨x5_1, x10_1, rfl, HA, HK1, HO_5, HB⟩ := hrel; cases gk with
    | zero => exact absurd HA.out (by simp [quadformref16_product.l0])
    | succ k1 =>
      have H := HA.out; clear HA
      simp only [quadformref16_product.l0] at H
      by_cases c3 : x10_1 < (l0.length : Int)
      · rw [if_pos c3] at H
        have c3b0 : decide (x10_1 < (l0.length : Int)) = true := decide_eq_true c3; clear c3
        by_cases c4 : 0 ≤ x10_1
        · rw [if_pos c4] at H
          have c4b0 : decide (0 ≤ x10_1) = true := decide_eq_true c4; clear c4
          by_cases c5 : x10_1 < (l0.length : Int)
          · rw [if_pos c5] at H
            have c5b0 : decide (x10_1 < (l0.length : Int)) = true := decide_eq_true c5; clear c5
            by_cases c6 : 0 ≤ (rd l0 x10_1)
            · rw [if_pos c6] at H
              have c6b0 : decide (0 ≤ (rd l0 x10_1)) = true := decide_eq_true c6; clear c6
              by_cases c7 : (rd l0 x10_1) < (l1.length : Int)
              · rw [if_pos c7] at H
                have c7b0 : decide ((rd l0 x10_1) < (l1.length : Int)) = true := decide_eq_true c7; clear c7
                by_cases c8 : x5_1.length < 17592186044416
                · rw [if_pos c8] at H
                  have LMc8 := Aside0.mk c8; clear c8
                  obtain ⟨y307, hy307⟩ : ∃ y_ : List Int, y_ = (x5_1 ++ [rd l1 (rd l0 x10_1)]) := ⟨_, rfl⟩
                  replace H : (quadformref16_product.l0 k1 l1 y307 l0 (l0.length : Int) (wrap64 (x10_1 + 1))) = some r := by first | (rw [hy307]; with_reducible exact H) | (have H2_ := (Option.bind_some _ _).symm.trans H; rw [hy307]; with_reducible exact H2_) | (have H2_ := (Option.bind_some _ _).symm.trans H; with_reducible exact H2_) | with_reducible exact H | (rw [hy307]; exact H) | exact H
                  have Ny307 := Aside0.mk hy307; clear hy307; have H' := Aside0.mk H; clear H; have p305 : 0 ≤ (x10_1 : Int) := of_decide_eq_true (by first | (with_reducible assumption) | assumption); have q305 : x10_1 < (l0.length : Int) := of_decide_eq_true (by first | (with_reducible assumption) | assumption); obtain ⟨ad305, e305, hx305_0⟩ := Kd.at_int HR0.out x10_1 p305 q305; cases e305; replace hx305_0 := (HB.out.cell (World.block_lt_of_cell? w _ hx305_0)).trans hx305_0; replace p305 := eq_true p305; replace q305 := eq_true q305; have p306 : 0 ≤ ((rd l0 x10_1) : Int) := of_decide_eq_true (by first | (with_reducible assumption) | assumption); have q306 : (rd l0 x10_1) < (l1.length : Int) := of_decide_eq_true (by first | (with_reducible assumption) | assumption); obtain ⟨ad306, e306, hx306_0⟩ := Kd.at_int HR1.out (rd l0 x10_1) p306 q306; cases e306; replace hx306_0 := (HB.out.cell (World.block_lt_of_cell? w _ hx306_0)).trans hx306_0; replace p306 := eq_true p306; replace q306 := eq_true q306
                  go_wp2_with (first | ((with_reducible refine gate_builtin (b := .append) (xs := #[.tmp 14, .tmp 19]) rfl ?_); at_builtin; refine Kd.R_append (Kd.int .i64) (w0 := w) w.heap.size rfl (.tmp 14) (.tmp 19) 28 3 (.int .i64 0) 8 rfl Try.underlying28 info3 rfl (by decide) (by omega) u5 x5_1 (rd l1 (rd l0 x10_1)) [.int .i64 (rd l1 (rd l0 x10_1))] (fun _ => True) (fun _ => False) rfl rfl ?aP (fun _ hk => hk.elim) ?aF ?aO ?aB ?aS ?aL ?_; (case aP => exact rfl); (case aB => exact (by repeat (first | (with_reducible first | exact HB.out | apply below_alloc | apply pw_below_drewN | apply below_drew1) | exact HB.out))); (case aF => exact (fun _ _ => trivial)); (case aO => exact (by (with_reducible repeat (first | apply Kd.R_alloc | apply Kd.R_drewN | apply Kd.R_drew)); exact HO_5.out)); (case aS => exact (below_size (by repeat (first | (with_reducible first | exact HB.out | apply below_alloc | apply pw_below_drewN | apply below_drew1) | exact HB.out)))); (case aL => have := LMc8.out; omega); intro v308 w9 ho hb hg hat; rw [← Ny307.out] at ho; have n0_ := Aside0.mk (hb); have n1_ := Aside0.mk (ho); clear HB; clear HO_5; have HB := n0_; have HO309 := n1_; clear n0_ n1_; clear ho hb hg hat))
                  go_roundg k1
                  case measure => have := HK1.out; omega
                  case rel => exact ⟨(y307), (wrap64 (x10_1 + 1)), (by first | rfl | (simp; done) | (simp [*]; done)), H', ⟨by have := HK1.out; omega⟩, ⟨by (with_reducible repeat (first | apply Kd.R_alloc | apply Kd.R_drewN | apply Kd.R_drew)); exact HO309.out⟩, ⟨by repeat (first | (with_reducible first | exact HB.out | apply below_alloc | apply pw_below_drewN | apply below_drew1) | exact HB.out)⟩⟩
                · rw [if_neg c8] at H
                  exact absurd H (by simp)
              · rw [if_neg c7] at H
                exact absurd H (by simp)
            · rw [if_neg c6] at H
              exact absurd H (by simp)
          · rw [if_neg c5] at H
            exact absurd H (by simp)
        · rw [if_neg c4] at H
          exact absurd H (by simp)
      · rw [if_neg c3] at H
        have c3b0 : decide (x10_1 < (l0.length : Int)) = false := decide_eq_false c3; clear c3; obtain rfl := Option.some.inj H
        go_wp2
        go_ret
        exact ⟨_, by first | rfl | (simp [errW_none, errW_some] <;> rfl) | (simp [*, errW_none, errW_some] <;> rfl), by (with_reducible repeat (first | apply Kd.R_alloc | apply Kd.R_drewN | apply Kd.R_drew)); exact HO_5.out, by repeat (first | (with_reducible first | exact HB.out | apply below_alloc | apply pw_below_drewN | apply below_drew1) | exact HB.out)⟩
end Go.Proofs.Ytpkgckccfanchaa.M

namespace Go.Proofs.Ytpkgckccfanchaa.M
open Go.RowKit Go.Proofs.YtpkgckccfanchaaW.PrintWords Go.Proofs.YtpkgckccfanchaaW.PrintLast Go.Proofs.YtpkgckccfanchaaW.PrintMore
attribute [local go_sem] max2_int min2_int max_two min_two max_three min_three max_four min_four
set_option linter.unusedVariables false
set_option linter.unusedSimpArgs false
def quadformref16_inverse.l0 : Nat → List Int → List Int → Int → Int → Option (List Int)
  | 0, _, _, _, _ => none
  | k + 1, x3, x9, x10, x11 => if x11 < x10 then (if 0 ≤ x11 then (if x11 < (x9.length : Int) then (if 0 ≤ (rd x9 x11) then (if (rd x9 x11) < (x3.length : Int) then (quadformref16_inverse.l0 k (x3.set ((rd x9 x11) : Int).toNat x11) x9 x10 (wrap64 (x11 + 1))) else (none)) else (none)) else (none)) else (none)) else (some x3)
def quadformref16_inverse.f (k : Nat) (l0 : List Int) : Option (List Int) := if 0 ≤ (l0.length : Int) then (if ((l0.length : Int) : Int).toNat ≤ 35184372088832 then (quadformref16_inverse.l0 k (List.replicate ((l0.length : Int) : Int).toNat 0) l0 (l0.length : Int) 0) else (none)) else (none)
theorem quadformref16_inverse.mono_l : ∀ k, (∀ y0 y1 y2 y3, LeO (quadformref16_inverse.l0 k y0 y1 y2 y3) (quadformref16_inverse.l0 (k + 1) y0 y1 y2 y3))
  | 0 => fun _ _ _ _ r h => by simp [quadformref16_inverse.l0] at h
  | k + 1 => by
    have ih0 := quadformref16_inverse.mono_l k
    · intro y0 y1 y2 y3
      unfold quadformref16_inverse.l0
      repeat' first
      | (with_reducible exact ih0 _ _ _ _)
      | (with_reducible exact LeO.refl _)
      | (with_reducible exact LeO.none _)
      | (with_reducible refine LeO.ite ?_ ?_)
      | (with_reducible refine LeO.bind ?_ (fun _ => ?_))
      | exact ih0 _ _ _ _
      | exact LeO.none _
      | refine LeO.ite ?_ ?_
      | refine LeO.bind ?_ (fun _ => ?_)
theorem quadformref16_inverse.mono : ∀ a0 k, LeO (quadformref16_inverse.f k a0) (quadformref16_inverse.f (k + 1) a0) := by
  intro a0 k; have ih0 := quadformref16_inverse.mono_l k
  unfold quadformref16_inverse.f
  repeat' first
      | (with_reducible exact ih0 _ _ _ _)
      | (with_reducible exact LeO.refl _)
      | (with_reducible exact LeO.none _)
      | (with_reducible refine LeO.ite ?_ ?_)
      | (with_reducible refine LeO.bind ?_ (fun _ => ?_))
      | exact ih0 _ _ _ _
      | exact LeO.none _
      | refine LeO.ite ?_ ?_
      | refine LeO.bind ?_ (fun _ => ?_)
set_option maxHeartbeats 8000000 in
set_option maxRecDepth 100000 in
theorem quadformref16_inverse.calls (k : Nat) (A0 : Option Addr) (c0 : Nat) (l0 : List Int) (r : List Int) (w : World) (hr0 : Kd.C (Kd.int .i64) w A0 l0.length l0) (hc0 : l0.length ≤ c0) (h : quadformref16_inverse.f k l0 = some r) :
    Calls Try.prog 59 #[.slice A0 l0.length c0] w fun e w' => ∃ v0_ : Value, e = .returned (v0_) ∧ Kd.R (Kd.int .i64) 3 w' w.heap.size (fun _ => True) v0_ r ∧ Below w.heap.size w w' := by
  have HR0 := Aside0.mk hr0; have HC0 := Aside0.mk hc0; clear hr0 hc0; have HB := Aside0.mk (Below.refl w.heap.size w); have H : (if 0 ≤ (l0.length : Int) then (if ((l0.length : Int) : Int).toNat ≤ 35184372088832 then (quadformref16_inverse.l0 k (List.replicate ((l0.length : Int) : Int).toNat 0) l0 (l0.length : Int) 0) else (none)) else (none)) = some r := h; clear h
  by_cases c2 : 0 ≤ (l0.length : Int)
  · rw [if_pos c2] at H
    have c2b0 := eq_true c2; have c2b1 : decide (0 ≤ (l0.length : Int)) = true := decide_eq_true c2; clear c2
    by_cases c3 : ((l0.length : Int) : Int).toNat ≤ 35184372088832
    · rw [if_pos c3] at H
      have c3b0 := eq_true c3; have c3b1 : decide (((l0.length : Int) : Int).toNat ≤ 35184372088832) = true := decide_eq_true c3; clear c3
      obtain ⟨y326, hy326⟩ : ∃ y_ : List Int, y_ = (List.replicate ((l0.length : Int) : Int).toNat 0) := ⟨_, rfl⟩
      replace H : (quadformref16_inverse.l0 k y326 l0 (l0.length : Int) 0) = some r := by first | (rw [hy326]; with_reducible exact H) | (have H2_ := (Option.bind_some _ _).symm.trans H; rw [hy326]; with_reducible exact H2_) | (have H2_ := (Option.bind_some _ _).symm.trans H; with_reducible exact H2_) | with_reducible exact H | (rw [hy326]; exact H) | exact H
      have Ny326 := Aside0.mk hy326; clear hy326; have H' := Aside0.mk H; clear H
      go_enter Try.func59, Try.ntmps59
      go_wp2_with (first | ((with_reducible refine gate_dst (N := 8) rfl ?_); refine Kd.R_make (Kd.int .i64) _ 3 rfl (N := 8) rfl 28 _ _ rfl (l0.length : Int) rfl rfl Try.underlying28 (.int .i64 0) 8 info3 rfl (by decide) (by omega) 0 (ok := fun _ => True) (okp := fun _ => True) rfl (fun _ hk => hk) trivial (of_decide_eq_true (by first | (with_reducible assumption) | assumption)) (Nat.le_trans (Nat.mul_le_mul_right _ (of_decide_eq_true (by first | (with_reducible assumption) | assumption) : (l0.length : Int).toNat ≤ 35184372088832)) (by omega)) (Below.refl _ _) (Nat.le_refl _) ?_; intro v327 w4 ho5 hb hg_ hnew_; clear hg_ hnew_; (first | rw [← Ny326.out] at ho5 | (simp only [Int.reduceToNat] at ho5; rw [← Ny326.out] at ho5)); have n0_ := Aside0.mk (Kd.R_lower ho5 (below_size (by repeat (first | (with_reducible first | exact HB.out | apply below_alloc | apply pw_below_drewN | apply below_drew1) | exact HB.out)))); have n1_ := Aside0.mk (below_step (by repeat (first | (with_reducible first | exact HB.out | apply below_alloc | apply pw_below_drewN | apply below_drew1) | exact HB.out)) hb); clear HB; have HO328 := n0_; have HB := n1_; clear n0_ n1_; clear hb ho5))
      go_loopg [11] k (fun kq v11 w' => ∃ (x3_1 : List Int) (x11_1 : Int), v11 = .int .i64 x11_1 ∧ Aside0 (quadformref16_inverse.l0 kq x3_1 l0 (l0.length : Int) x11_1 = some r) ∧ Aside0 (kq ≤ k) ∧ Aside0 (Kd.R (Kd.int .i64) 3 w' w.heap.size (fun _ => True) v327 x3_1) ∧ Aside0 (Below w.heap.size w w'))
      case atStart => exact ⟨(y326), (0), (by first | rfl | (simp; done) | (simp [*]; done)), H', ⟨Nat.le_refl _⟩, ⟨by (with_reducible repeat (first | apply Kd.R_alloc | apply Kd.R_drewN | apply Kd.R_drew)); exact HO328.out⟩, ⟨by repeat (first | (with_reducible first | exact HB.out | apply below_alloc | apply pw_below_drewN | apply below_drew1) | exact HB.out)⟩⟩
      case round =>
        clear H'
        try clear c2
        try clear c2b0
        try clear c2b1
        try clear p2
        try clear c3
        try clear c3b0
        try clear c3b1
        try clear c5
        obtain ⟨x3_1, x11_1, rfl, HA, HK1, HO_3, HB⟩ := hrel; cases gk with
        | zero => exact absurd HA.out (by simp [quadformref16_inverse.l0])
        | succ k1 =>
          have H := HA.out; clear HA
          simp only [quadformref16_inverse.l0] at H
          by_cases c6 : x11_1 < (l0.length : Int)
          · rw [if_pos c6] at H
            have c6b0 : decide (x11_1 < (l0.length : Int)) = true := decide_eq_true c6; clear c6
            by_cases c7 : 0 ≤ x11_1
            · rw [if_pos c7] at H
              have c7b0 : decide (0 ≤ x11_1) = true := decide_eq_true c7; clear c7
              by_cases c8 : x11_1 < (l0.length : Int)
              · rw [if_pos c8] at H
                have c8b0 : decide (x11_1 < (l0.length : Int)) = true := decide_eq_true c8; clear c8
                by_cases c9 : 0 ≤ (rd l0 x11_1)
                · rw [if_pos c9] at H
                  have c9b0 : decide (0 ≤ (rd l0 x11_1)) = true := decide_eq_true c9; clear c9
                  by_cases c10 : (rd l0 x11_1) < (x3_1.length : Int)
                  · rw [if_pos c10] at H
                    have c10b0 : decide ((rd l0 x11_1) < (x3_1.length : Int)) = true := decide_eq_true c10; clear c10
                    obtain ⟨y330, hy330⟩ : ∃ y_ : List Int, y_ = (x3_1.set ((rd l0 x11_1) : Int).toNat x11_1) := ⟨_, rfl⟩
                    replace H : (quadformref16_inverse.l0 k1 y330 l0 (l0.length : Int) (wrap64 (x11_1 + 1))) = some r := by first | (rw [hy330]; with_reducible exact H) | (have H2_ := (Option.bind_some _ _).symm.trans H; rw [hy330]; with_reducible exact H2_) | (have H2_ := (Option.bind_some _ _).symm.trans H; with_reducible exact H2_) | with_reducible exact H | (rw [hy330]; exact H) | exact H
                    have Ny330 := Aside0.mk hy330; clear hy330; have H' := Aside0.mk H; clear H; have p329 : 0 ≤ (x11_1 : Int) := of_decide_eq_true (by first | (with_reducible assumption) | assumption); have q329 : x11_1 < (l0.length : Int) := of_decide_eq_true (by first | (with_reducible assumption) | assumption); obtain ⟨ad329, e329, hx329_0⟩ := Kd.at_int HR0.out x11_1 p329 q329; cases e329; replace hx329_0 := (HB.out.cell (World.block_lt_of_cell? w _ hx329_0)).trans hx329_0; replace p329 := eq_true p329; replace q329 := eq_true q329; have p11 : 0 ≤ ((rd l0 x11_1) : Int) := of_decide_eq_true (by first | (with_reducible assumption) | assumption); have q11 : ((rd l0 x11_1) : Int) < ((x3_1.length : Int) : Int) := of_decide_eq_true (by first | (with_reducible assumption) | assumption); obtain ⟨go11, co11, eo11, gb11, gl11, cl11, HG11⟩ := Kd.R_form HO_3.out (by omega)
                    (first | cases eo11 | (injection eo11 with ea_ en_ ec_; (first | subst ea_ | (injection ea_ with ea_; subst ea_)); subst ec_; clear en_))
                    have GB11 := Aside0.mk gb11; have GG11 := Aside0.mk HG11; clear gb11 gl11 HG11; obtain ⟨hx11_0, hf11_0⟩ := Kd.R_celln 0 HO_3.out ((rd l0 x11_1) : Int) p11 q11; replace p11 := eq_true p11; replace q11 := eq_true q11; have HP12 := Kd.R_putg HO_3.out ((rd l0 x11_1) : Int) x11_1
                    go_wp2_with (first | ((with_reducible refine gate_store (t := 3) (p := 19) rfl ?_); refine store_event (t := 3) (p := 19) (v := ?vo_w13) (w1 := (wr.setCell ⟨go11, ((rd l0 x11_1) : Int).toNat, none⟩ (.int .i64 x11_1))) ?hg ?ho ?hn ?hr ?_; (case ho => rfl); (case hg => rfl); (case hn => rfl); (case hr => first | (go_simp; done) | (go_simp; rfl)); intro w13 hw; have hg : wr.grownBy w13 (some go11) := (by rw [hw]; exact HP12.2); have hp_ : Kd.R (Kd.int .i64) 3 w13 w.heap.size (fun _ => True) (.slice (some ⟨go11, 0, none⟩) x3_1.length co11) y330 := (by rw [hw, Ny330.out]; exact HP12.1); clear HP12; have n0_ := Aside0.mk (hp_); have n1_ := Aside0.mk ((by rw [hw]; exact below_set (HB.out) GB11.out : Below w.heap.size w w13)); clear HO_3; clear HB; have HO_3 := n0_; have HB := n1_; clear n0_ n1_; clear hg hw hp_))
                    go_roundg k1
                    case measure => have := HK1.out; omega
                    case rel => exact ⟨(y330), (wrap64 (x11_1 + 1)), (by first | rfl | (simp; done) | (simp [*]; done)), H', ⟨by have := HK1.out; omega⟩, ⟨by (with_reducible repeat (first | apply Kd.R_alloc | apply Kd.R_drewN | apply Kd.R_drew)); exact HO_3.out⟩, ⟨by repeat (first | (with_reducible first | exact HB.out | apply below_alloc | apply pw_below_drewN | apply below_drew1) | exact HB.out)⟩⟩
                  · rw [if_neg c10] at H
                    exact absurd H (by simp)
                · rw [if_neg c9] at H
                  exact absurd H (by simp)
              · rw [if_neg c8] at H
                exact absurd H (by simp)
            · rw [if_neg c7] at H
              exact absurd H (by simp)
          · rw [if_neg c6] at H
            have c6b0 : decide (x11_1 < (l0.length : Int)) = false := decide_eq_false c6; clear c6; obtain rfl := Option.some.inj H
            go_wp2
            go_ret
            exact ⟨_, by first | rfl | (simp [errW_none, errW_some] <;> rfl) | (simp [*, errW_none, errW_some] <;> rfl), by (with_reducible repeat (first | apply Kd.R_alloc | apply Kd.R_drewN | apply Kd.R_drew)); exact HO_3.out, by repeat (first | (with_reducible first | exact HB.out | apply below_alloc | apply pw_below_drewN | apply below_drew1) | exact HB.out)⟩
    · rw [if_neg c3] at H
      exact absurd H (by simp)
  · rw [if_neg c2] at H
    exact absurd H (by simp)
end Go.Proofs.Ytpkgckccfanchaa.M

namespace Go.Proofs.Ytpkgckccfanchaa.M
open Go.RowKit Go.Proofs.YtpkgckccfanchaaW.PrintWords Go.Proofs.YtpkgckccfanchaaW.PrintLast Go.Proofs.YtpkgckccfanchaaW.PrintMore
attribute [local go_sem] max2_int min2_int max_two min_two max_three min_three max_four min_four
set_option linter.unusedVariables false
set_option linter.unusedSimpArgs false
def quadformref16_moved.l0 : Nat → List Int → Int → Int → Option (Int)
  | 0, _, _, _ => none
  | k + 1, x5, x6, x7 => if x7 < x6 then (if 0 ≤ x7 then (if x7 < (x5.length : Int) then (if x7 = (rd x5 x7) then (quadformref16_moved.l0 k x5 x6 (wrap64 (x7 + 1))) else (some x7)) else (none)) else (none)) else (some (-1))
def quadformref16_moved.f (k : Nat) (l0 : List Int) : Option (Int) := quadformref16_moved.l0 k l0 (l0.length : Int) 0
theorem quadformref16_moved.mono_l : ∀ k, (∀ y0 y1 y2, LeO (quadformref16_moved.l0 k y0 y1 y2) (quadformref16_moved.l0 (k + 1) y0 y1 y2))
  | 0 => fun _ _ _ r h => by simp [quadformref16_moved.l0] at h
  | k + 1 => by
    have ih0 := quadformref16_moved.mono_l k
    · intro y0 y1 y2
      unfold quadformref16_moved.l0
      repeat' first
      | (with_reducible exact ih0 _ _ _)
      | (with_reducible exact LeO.refl _)
      | (with_reducible exact LeO.none _)
      | (with_reducible refine LeO.ite ?_ ?_)
      | (with_reducible refine LeO.bind ?_ (fun _ => ?_))
      | exact ih0 _ _ _
      | exact LeO.none _
      | refine LeO.ite ?_ ?_
      | refine LeO.bind ?_ (fun _ => ?_)
theorem quadformref16_moved.mono : ∀ a0 k, LeO (quadformref16_moved.f k a0) (quadformref16_moved.f (k + 1) a0) := by
  intro a0 k; have ih0 := quadformref16_moved.mono_l k
  unfold quadformref16_moved.f
  repeat' first
      | (with_reducible exact ih0 _ _ _)
      | (with_reducible exact LeO.refl _)
      | (with_reducible exact LeO.none _)
      | (with_reducible refine LeO.ite ?_ ?_)
      | (with_reducible refine LeO.bind ?_ (fun _ => ?_))
      | exact ih0 _ _ _
      | exact LeO.none _
      | refine LeO.ite ?_ ?_
      | refine LeO.bind ?_ (fun _ => ?_)
set_option maxHeartbeats 8000000 in
set_option maxRecDepth 100000 in
theorem quadformref16_moved.calls (k : Nat) (A0 : Option Addr) (c0 : Nat) (l0 : List Int) (r : Int) (w : World) (hr0 : Kd.C (Kd.int .i64) w A0 l0.length l0) (hc0 : l0.length ≤ c0) (h : quadformref16_moved.f k l0 = some r) :
    Calls Try.prog 88 #[.slice A0 l0.length c0] w fun e w' => e = .returned (.int .i64 r) ∧ Drawn0 w w' := by
  have HR0 := Aside0.mk hr0; have HC0 := Aside0.mk hc0; clear hr0 hc0; have H : (quadformref16_moved.l0 k l0 (l0.length : Int) 0) = some r := h; clear h; have H' := Aside0.mk H; clear H
  go_enter Try.func88, Try.ntmps88
  go_wp2
  go_loopg [7] k (fun kq v7 w' => ∃ (x7_1 : Int), v7 = .int .i64 x7_1 ∧ Aside0 (quadformref16_moved.l0 kq l0 (l0.length : Int) x7_1 = some r) ∧ Aside0 (kq ≤ k) ∧ Drawn0 w w')
  case atStart => exact ⟨(0), (by first | rfl | (simp; done) | (simp [*]; done)), H', ⟨Nat.le_refl _⟩, by repeat (first | exact Drawn0.refl _ | apply Drawn0.step)⟩
  case round =>
    clear H'; obtain ⟨x7_1, rfl, HA, HK1, ⟨m1, rfl⟩⟩ := hrel; cases gk with
    | zero => exact absurd HA.out (by simp [quadformref16_moved.l0])
    | succ k1 =>
      have H := HA.out; clear HA
      simp only [quadformref16_moved.l0] at H
      by_cases c2 : x7_1 < (l0.length : Int)
      · rw [if_pos c2] at H
        have c2b0 : decide (x7_1 < (l0.length : Int)) = true := decide_eq_true c2; clear c2
        by_cases c3 : 0 ≤ x7_1
        · rw [if_pos c3] at H
          have c3b0 : decide (0 ≤ x7_1) = true := decide_eq_true c3; clear c3
          by_cases c4 : x7_1 < (l0.length : Int)
          · rw [if_pos c4] at H
            have c4b0 : decide (x7_1 < (l0.length : Int)) = true := decide_eq_true c4; clear c4
            by_cases c5 : x7_1 = (rd l0 x7_1)
            · rw [if_pos c5] at H
              have c5b0 : (x7_1 == (rd l0 x7_1)) = true := beq_iff_eq.mpr c5; have c5b1 : (x7_1 != (rd l0 x7_1)) = false := bne_eq_false_iff_eq.mpr c5; clear c5; have H' := Aside0.mk H; clear H; have p335 : 0 ≤ (x7_1 : Int) := of_decide_eq_true (by first | (with_reducible assumption) | assumption); have q335 : x7_1 < (l0.length : Int) := of_decide_eq_true (by first | (with_reducible assumption) | assumption); obtain ⟨ad335, e335, hx335_0⟩ := Kd.at_int HR0.out x7_1 p335 q335; cases e335; replace p335 := eq_true p335; replace q335 := eq_true q335
              go_wp2
              go_roundg k1
              case measure => have := HK1.out; omega
              case rel => exact ⟨(wrap64 (x7_1 + 1)), (by first | rfl | (simp; done) | (simp [*]; done)), H', ⟨by have := HK1.out; omega⟩, by repeat (first | exact Drawn0.refl _ | apply Drawn0.step)⟩
            · rw [if_neg c5] at H
              have c5b0 : (x7_1 == (rd l0 x7_1)) = false := beq_eq_false_iff_ne.mpr c5; have c5b1 : (x7_1 != (rd l0 x7_1)) = true := bne_iff_ne.mpr c5; obtain rfl := Option.some.inj H; have p335 : 0 ≤ (x7_1 : Int) := of_decide_eq_true (by first | (with_reducible assumption) | assumption); have q335 : x7_1 < (l0.length : Int) := of_decide_eq_true (by first | (with_reducible assumption) | assumption); obtain ⟨ad335, e335, hx335_0⟩ := Kd.at_int HR0.out x7_1 p335 q335; cases e335; replace p335 := eq_true p335; replace q335 := eq_true q335
              go_wp2
              go_ret
              exact ⟨by first | rfl | (simp; done) | (simp [*]; done), by repeat (first | exact Drawn0.refl _ | apply Drawn0.step)⟩
          · rw [if_neg c4] at H
            exact absurd H (by simp)
        · rw [if_neg c3] at H
          exact absurd H (by simp)
      · rw [if_neg c2] at H
        have c2b0 : decide (x7_1 < (l0.length : Int)) = false := decide_eq_false c2; clear c2; obtain rfl := Option.some.inj H
        go_wp2
        go_ret
        exact ⟨by first | rfl | (simp; done) | (simp [*]; done), by repeat (first | exact Drawn0.refl _ | apply Drawn0.step)⟩
end Go.Proofs.Ytpkgckccfanchaa.M

namespace Go.Proofs.Ytpkgckccfanchaa.M
open Go.RowKit Go.Proofs.YtpkgckccfanchaaW.PrintWords Go.Proofs.YtpkgckccfanchaaW.PrintLast Go.Proofs.YtpkgckccfanchaaW.PrintMore
attribute [local go_sem] max2_int min2_int max_two min_two max_three min_three max_four min_four
set_option linter.unusedVariables false
set_option linter.unusedSimpArgs false
mutual
def quadformref16_Identity.j0 : Nat → Int → Bool → Option (List Int × Bool)
  | 0, _, _ => none
  | k + 1, x0, x11 => if x11 = true then (some (([] : List Int), false)) else (quadformref16_Identity.l0 k x0 ([] : List Int) 0)
def quadformref16_Identity.l0 : Nat → Int → List Int → Int → Option (List Int × Bool)
  | 0, _, _, _ => none
  | k + 1, x0, x4, x5 => if x5 < x0 then (if x4.length < 17592186044416 then (quadformref16_Identity.l0 k x0 (x4 ++ [x5]) (wrap64 (x5 + 1))) else (none)) else (some (x4, true))
end
def quadformref16_Identity.f (k : Nat) (a0 : Int) : Option (List Int × Bool) := if a0 < 1 then (quadformref16_Identity.j0 k a0 true) else (quadformref16_Identity.j0 k a0 (decide (a0 > 512)))
theorem quadformref16_Identity.mono_l : ∀ k, (∀ y0 y1, LeO (quadformref16_Identity.j0 k y0 y1) (quadformref16_Identity.j0 (k + 1) y0 y1)) ∧ (∀ y0 y1 y2, LeO (quadformref16_Identity.l0 k y0 y1 y2) (quadformref16_Identity.l0 (k + 1) y0 y1 y2))
  | 0 => ⟨fun _ _ r h => by simp [quadformref16_Identity.j0] at h, fun _ _ _ r h => by simp [quadformref16_Identity.l0] at h⟩
  | k + 1 => by
    obtain ⟨ih0, ih1⟩ := quadformref16_Identity.mono_l k; refine ⟨?_, ?_⟩
    · intro y0 y1
      unfold quadformref16_Identity.j0
      repeat' first
      | (with_reducible exact ih0 _ _)
      | (with_reducible exact ih1 _ _ _)
      | (with_reducible exact LeO.refl _)
      | (with_reducible exact LeO.none _)
      | (with_reducible refine LeO.ite ?_ ?_)
      | (with_reducible refine LeO.bind ?_ (fun _ => ?_))
      | exact ih0 _ _
      | exact ih1 _ _ _
      | exact LeO.none _
      | refine LeO.ite ?_ ?_
      | refine LeO.bind ?_ (fun _ => ?_)
    · intro y0 y1 y2
      unfold quadformref16_Identity.l0
      repeat' first
      | (with_reducible exact ih0 _ _)
      | (with_reducible exact ih1 _ _ _)
      | (with_reducible exact LeO.refl _)
      | (with_reducible exact LeO.none _)
      | (with_reducible refine LeO.ite ?_ ?_)
      | (with_reducible refine LeO.bind ?_ (fun _ => ?_))
      | exact ih0 _ _
      | exact ih1 _ _ _
      | exact LeO.none _
      | refine LeO.ite ?_ ?_
      | refine LeO.bind ?_ (fun _ => ?_)
theorem quadformref16_Identity.mono : ∀ a0 k, LeO (quadformref16_Identity.f k a0) (quadformref16_Identity.f (k + 1) a0) := by
  intro a0 k; obtain ⟨ih0, ih1⟩ := quadformref16_Identity.mono_l k
  unfold quadformref16_Identity.f
  repeat' first
      | (with_reducible exact ih0 _ _)
      | (with_reducible exact ih1 _ _ _)
      | (with_reducible exact LeO.refl _)
      | (with_reducible exact LeO.none _)
      | (with_reducible refine LeO.ite ?_ ?_)
      | (with_reducible refine LeO.bind ?_ (fun _ => ?_))
      | exact ih0 _ _
      | exact ih1 _ _ _
      | exact LeO.none _
      | refine LeO.ite ?_ ?_
      | refine LeO.bind ?_ (fun _ => ?_)
set_option maxHeartbeats 8000000 in
set_option maxRecDepth 100000 in
theorem quadformref16_Identity.calls (k : Nat) (a0 : Int) (r1 : List Int) (r2 : Bool) (w : World) (h : quadformref16_Identity.f k a0 = some (r1, r2)) :
    Calls Try.prog 25 #[.int .i64 a0] w fun e w' => ∃ v0_ : Value, e = .returned (.tuple #[v0_, .bool r2]) ∧ Kd.R (Kd.int .i64) 3 w' w.heap.size (fun _ => True) v0_ r1 ∧ Below w.heap.size w w' := by
  have HB := Aside0.mk (Below.refl w.heap.size w); have H : (if a0 < 1 then (quadformref16_Identity.j0 k a0 true) else (quadformref16_Identity.j0 k a0 (decide (a0 > 512)))) = some (r1, r2) := h; clear h; have HC2 := Aside0.mk H; clear H
  go_enter Try.func25, Try.ntmps25
  go_upto_region 1 with (fail)
  go_cut [11] (fun v11 wc => ∃ (kq : Nat) (x11_1 : Bool), v11 = .bool x11_1 ∧ Aside0 (quadformref16_Identity.j0 kq a0 x11_1 = some (r1, r2)) ∧ Aside0 (kq ≤ k) ∧ Aside0 (Below w.heap.size w wc))
  case first =>
    have H := HC2.out; clear HC2
    by_cases c3 : a0 < 1
    · rw [if_pos c3] at H
      have c3b0 : decide (a0 < 1) = true := decide_eq_true c3; clear c3
      (first | rw [c3b0] | (simp only [i64_w, i32_w]; rw [c3b0]) | skip)
      have H' := Aside0.mk H; clear H
      go_wp2
      go_meet
      case rel => exact ⟨_, (true), (by first | rfl | (simp; done) | (simp [*]; done)), H', ⟨by first | omega | exact Nat.le_refl _⟩, ⟨by repeat (first | (with_reducible first | exact HB.out | apply below_alloc | apply pw_below_drewN | apply below_drew1) | exact HB.out)⟩⟩
    · rw [if_neg c3] at H
      have c3b0 : decide (a0 < 1) = false := decide_eq_false c3; clear c3
      (first | rw [c3b0] | (simp only [i64_w, i32_w]; rw [c3b0]) | skip)
      have H' := Aside0.mk H; clear H
      go_wp2
      go_meet
      case rel => exact ⟨_, (decide (a0 > 512)), (by first | rfl | (simp; done) | (simp [*]; done)), H', ⟨by first | omega | exact Nat.le_refl _⟩, ⟨by repeat (first | (with_reducible first | exact HB.out | apply below_alloc | apply pw_below_drewN | apply below_drew1) | exact HB.out)⟩⟩
  case rest =>
    clear HC2
    try clear c2
    try clear p2
    try clear c3
    try clear c3b0
    obtain ⟨kq, x11_1, rfl, HA, HJ1, HB⟩ := hcut; cases kq with
    | zero => exact absurd HA.out (by simp [quadformref16_Identity.j0])
    | succ kj1 =>
      have H := HA.out; clear HA
      simp only [quadformref16_Identity.j0] at H
      by_cases c4 : x11_1 = true
      · subst c4
        have H1 : (some (([] : List Int), false)) = some (r1, r2) := by rw [if_pos rfl] at H; exact H
        clear H; have H := H1; clear H1
        simp only [Option.some.injEq, Prod.mk.injEq] at H
        obtain ⟨rfl, rfl⟩ := H
        go_wp2
        go_ret2
        exact ⟨_, by first | rfl | (simp [errW_none, errW_some] <;> rfl) | (simp [*, errW_none, errW_some] <;> rfl), by first | exact Kd.R_nil _ _ _ _ _ | exact Kd.N_nil _ _ _ _ _ | exact Kd.V_nil _ _ _ _ _ | exact Kd.Q_nil _ _ _ _ _ | exact Kd.S_nil _ _ _ _ _, by repeat (first | (with_reducible first | exact HB.out | apply below_alloc | apply pw_below_drewN | apply below_drew1) | exact HB.out)⟩
      · replace c4 := Bool.eq_false_iff.mpr c4
        subst c4
        have H1 : (quadformref16_Identity.l0 kj1 a0 ([] : List Int) 0) = some (r1, r2) := by rw [if_neg (show ¬ (false = true) by decide)] at H; exact H
        clear H; have H := H1; clear H1; have H' := Aside0.mk H; clear H
        go_wp2
        go_loopg [4, 5] kj1 (fun kq v4 v5 w' => ∃ (x4_2 : List Int) (x5_2 : Int), v5 = .int .i64 x5_2 ∧ Aside0 (quadformref16_Identity.l0 kq a0 x4_2 x5_2 = some (r1, r2)) ∧ Aside0 (kq ≤ kj1) ∧ Aside0 (Kd.R (Kd.int .i64) 3 w' w.heap.size (fun _ => True) v4 x4_2) ∧ Aside0 (Below w.heap.size w w'))
        case atStart => exact ⟨(([] : List Int)), (0), (by first | rfl | (simp; done) | (simp [*]; done)), H', ⟨Nat.le_refl _⟩, ⟨by first | exact Kd.R_nil _ _ _ _ _ | exact Kd.N_nil _ _ _ _ _ | exact Kd.V_nil _ _ _ _ _ | exact Kd.Q_nil _ _ _ _ _ | exact Kd.S_nil _ _ _ _ _⟩, ⟨by repeat (first | (with_reducible first | exact HB.out | apply below_alloc | apply pw_below_drewN | apply below_drew1) | exact HB.out)⟩⟩
        case round =>
          clear H'
          try clear c2
          try clear p2
          try clear c3
          try clear c3b0
          try clear c4
          try clear p2
          obtain ⟨x4_2, x5_2, rfl, HA, HK2, HO_4, HB⟩ := hrel; cases gk with
          | zero => exact absurd HA.out (by simp [quadformref16_Identity.l0])
          | succ k2 =>
            have H := HA.out; clear HA
            simp only [quadformref16_Identity.l0] at H
            by_cases c5 : x5_2 < a0
            · rw [if_pos c5] at H
              have c5b0 : decide (x5_2 < a0) = true := decide_eq_true c5; clear c5
              by_cases c6 : x4_2.length < 17592186044416
              · rw [if_pos c6] at H
                have LMc6 := Aside0.mk c6; clear c6
                obtain ⟨y302, hy302⟩ : ∃ y_ : List Int, y_ = (x4_2 ++ [x5_2]) := ⟨_, rfl⟩
                replace H : (quadformref16_Identity.l0 k2 a0 y302 (wrap64 (x5_2 + 1))) = some (r1, r2) := by first | (rw [hy302]; with_reducible exact H) | (have H2_ := (Option.bind_some _ _).symm.trans H; rw [hy302]; with_reducible exact H2_) | (have H2_ := (Option.bind_some _ _).symm.trans H; with_reducible exact H2_) | with_reducible exact H | (rw [hy302]; exact H) | exact H
                have Ny302 := Aside0.mk hy302; clear hy302; have H' := Aside0.mk H; clear H
                go_wp2_with (first | ((with_reducible refine gate_builtin (b := .append) (xs := #[.tmp 17, .tmp 19]) rfl ?_); at_builtin; refine Kd.R_append (Kd.int .i64) (w0 := w) w.heap.size rfl (.tmp 17) (.tmp 19) 28 3 (.int .i64 0) 8 rfl Try.underlying28 info3 rfl (by decide) (by omega) u4 x4_2 x5_2 [.int .i64 x5_2] (fun _ => True) (fun _ => False) rfl rfl ?aP (fun _ hk => hk.elim) ?aF ?aO ?aB ?aS ?aL ?_; (case aP => exact rfl); (case aB => exact (by repeat (first | (with_reducible first | exact HB.out | apply below_alloc | apply pw_below_drewN | apply below_drew1) | exact HB.out))); (case aF => exact (fun _ _ => trivial)); (case aO => exact (by (with_reducible repeat (first | apply Kd.R_alloc | apply Kd.R_drewN | apply Kd.R_drew)); exact HO_4.out)); (case aS => exact (below_size (by repeat (first | (with_reducible first | exact HB.out | apply below_alloc | apply pw_below_drewN | apply below_drew1) | exact HB.out)))); (case aL => have := LMc6.out; omega); intro v303 w7 ho hb hg hat; rw [← Ny302.out] at ho; have n0_ := Aside0.mk (hb); have n1_ := Aside0.mk (ho); clear HB; clear HO_4; have HB := n0_; have HO304 := n1_; clear n0_ n1_; clear ho hb hg hat))
                go_roundg k2
                case measure => have := HJ1.out; have := HK2.out; omega
                case rel => exact ⟨(y302), (wrap64 (x5_2 + 1)), (by first | rfl | (simp; done) | (simp [*]; done)), H', ⟨by have := HJ1.out; have := HK2.out; omega⟩, ⟨by (with_reducible repeat (first | apply Kd.R_alloc | apply Kd.R_drewN | apply Kd.R_drew)); exact HO304.out⟩, ⟨by repeat (first | (with_reducible first | exact HB.out | apply below_alloc | apply pw_below_drewN | apply below_drew1) | exact HB.out)⟩⟩
              · rw [if_neg c6] at H
                exact absurd H (by simp)
            · rw [if_neg c5] at H
              have c5b0 : decide (x5_2 < a0) = false := decide_eq_false c5; clear c5
              simp only [Option.some.injEq, Prod.mk.injEq] at H
              obtain ⟨rfl, rfl⟩ := H
              go_wp2
              go_ret2
              exact ⟨_, by first | rfl | (simp [errW_none, errW_some] <;> rfl) | (simp [*, errW_none, errW_some] <;> rfl), by (with_reducible repeat (first | apply Kd.R_alloc | apply Kd.R_drewN | apply Kd.R_drew)); exact HO_4.out, by repeat (first | (with_reducible first | exact HB.out | apply below_alloc | apply pw_below_drewN | apply below_drew1) | exact HB.out)⟩
end Go.Proofs.Ytpkgckccfanchaa.M

namespace Go.Proofs.Ytpkgckccfanchaa.M
open Go.RowKit Go.Proofs.YtpkgckccfanchaaW.PrintWords Go.Proofs.YtpkgckccfanchaaW.PrintLast Go.Proofs.YtpkgckccfanchaaW.PrintMore
attribute [local go_sem] max2_int min2_int max_two min_two max_three min_three max_four min_four
set_option linter.unusedVariables false
set_option linter.unusedSimpArgs false
mutual
def quadformref16_Valid.j0 : Nat → List Int → Bool → Option (Bool)
  | 0, _, _ => none
  | k + 1, x0, x13 => if x13 = true then (some false) else (if 0 ≤ (x0.length : Int) then (if ((x0.length : Int) : Int).toNat ≤ 281474976710656 then (quadformref16_Valid.l0 k x0 (List.replicate ((x0.length : Int) : Int).toNat false) x0 (x0.length : Int) 0) else (none)) else (none))
def quadformref16_Valid.l0 : Nat → List Int → List Bool → List Int → Int → Int → Option (Bool)
  | 0, _, _, _, _, _ => none
  | k + 1, x0, x3, x17, x18, x19 => if x19 < x18 then (if 0 ≤ x19 then (if x19 < (x17.length : Int) then (if (rd x17 x19) < 0 then (some false) else (if (rd x17 x19) ≥ (x0.length : Int) then (some false) else (if 0 ≤ (rd x17 x19) then (if (rd x17 x19) < (x3.length : Int) then (if rdOf false x3 (rd x17 x19) = true then (some false) else (quadformref16_Valid.l0 k x0 (x3.set ((rd x17 x19) : Int).toNat true) x17 x18 (wrap64 (x19 + 1)))) else (none)) else (none)))) else (none)) else (none)) else (some true)
end
def quadformref16_Valid.f (k : Nat) (l0 : List Int) : Option (Bool) := if (l0.length : Int) < 1 then (quadformref16_Valid.j0 k l0 true) else (quadformref16_Valid.j0 k l0 (decide ((l0.length : Int) > 512)))
theorem quadformref16_Valid.mono_l : ∀ k, (∀ y0 y1, LeO (quadformref16_Valid.j0 k y0 y1) (quadformref16_Valid.j0 (k + 1) y0 y1)) ∧ (∀ y0 y1 y2 y3 y4, LeO (quadformref16_Valid.l0 k y0 y1 y2 y3 y4) (quadformref16_Valid.l0 (k + 1) y0 y1 y2 y3 y4))
  | 0 => ⟨fun _ _ r h => by simp [quadformref16_Valid.j0] at h, fun _ _ _ _ _ r h => by simp [quadformref16_Valid.l0] at h⟩
  | k + 1 => by
    obtain ⟨ih0, ih1⟩ := quadformref16_Valid.mono_l k; refine ⟨?_, ?_⟩
    · intro y0 y1
      unfold quadformref16_Valid.j0
      repeat' first
      | (with_reducible exact ih0 _ _)
      | (with_reducible exact ih1 _ _ _ _ _)
      | (with_reducible exact LeO.refl _)
      | (with_reducible exact LeO.none _)
      | (with_reducible refine LeO.ite ?_ ?_)
      | (with_reducible refine LeO.bind ?_ (fun _ => ?_))
      | exact ih0 _ _
      | exact ih1 _ _ _ _ _
      | exact LeO.none _
      | refine LeO.ite ?_ ?_
      | refine LeO.bind ?_ (fun _ => ?_)
    · intro y0 y1 y2 y3 y4
      unfold quadformref16_Valid.l0
      repeat' first
      | (with_reducible exact ih0 _ _)
      | (with_reducible exact ih1 _ _ _ _ _)
      | (with_reducible exact LeO.refl _)
      | (with_reducible exact LeO.none _)
      | (with_reducible refine LeO.ite ?_ ?_)
      | (with_reducible refine LeO.bind ?_ (fun _ => ?_))
      | exact ih0 _ _
      | exact ih1 _ _ _ _ _
      | exact LeO.none _
      | refine LeO.ite ?_ ?_
      | refine LeO.bind ?_ (fun _ => ?_)
theorem quadformref16_Valid.mono : ∀ a0 k, LeO (quadformref16_Valid.f k a0) (quadformref16_Valid.f (k + 1) a0) := by
  intro a0 k; obtain ⟨ih0, ih1⟩ := quadformref16_Valid.mono_l k
  unfold quadformref16_Valid.f
  repeat' first
      | (with_reducible exact ih0 _ _)
      | (with_reducible exact ih1 _ _ _ _ _)
      | (with_reducible exact LeO.refl _)
      | (with_reducible exact LeO.none _)
      | (with_reducible refine LeO.ite ?_ ?_)
      | (with_reducible refine LeO.bind ?_ (fun _ => ?_))
      | exact ih0 _ _
      | exact ih1 _ _ _ _ _
      | exact LeO.none _
      | refine LeO.ite ?_ ?_
      | refine LeO.bind ?_ (fun _ => ?_)
set_option maxHeartbeats 8000000 in
set_option maxRecDepth 100000 in
theorem quadformref16_Valid.calls (k : Nat) (A0 : Option Addr) (c0 : Nat) (l0 : List Int) (r : Bool) (w : World) (hr0 : Kd.C (Kd.int .i64) w A0 l0.length l0) (hc0 : l0.length ≤ c0) (h : quadformref16_Valid.f k l0 = some r) :
    Calls Try.prog 57 #[.slice A0 l0.length c0] w fun e w' => e = .returned (.bool r) ∧ Below w.heap.size w w' := by
  have HR0 := Aside0.mk hr0; have HC0 := Aside0.mk hc0; clear hr0 hc0; have HB := Aside0.mk (Below.refl w.heap.size w); have H : (if (l0.length : Int) < 1 then (quadformref16_Valid.j0 k l0 true) else (quadformref16_Valid.j0 k l0 (decide ((l0.length : Int) > 512)))) = some r := h; clear h; have HC2 := Aside0.mk H; clear H
  go_enter Try.func57, Try.ntmps57
  go_upto_region 1 with (fail)
  go_cut [13] (fun v13 wc => ∃ (kq : Nat) (x13_1 : Bool), v13 = .bool x13_1 ∧ Aside0 (quadformref16_Valid.j0 kq l0 x13_1 = some r) ∧ Aside0 (kq ≤ k) ∧ Aside0 (Below w.heap.size w wc))
  case first =>
    have H := HC2.out; clear HC2
    by_cases c3 : (l0.length : Int) < 1
    · rw [if_pos c3] at H
      have c3b0 : decide ((l0.length : Int) < 1) = true := decide_eq_true c3; have c3b1 : decide (l0.length < 1) = true := decide_eq_true (by omega); clear c3
      (first | rw [c3b0] | (simp only [i64_w, i32_w]; rw [c3b0]) | skip)
      have H' := Aside0.mk H; clear H
      go_wp2
      go_meet
      case rel => exact ⟨_, (true), (by first | rfl | (simp; done) | (simp [*]; done)), H', ⟨by first | omega | exact Nat.le_refl _⟩, ⟨by repeat (first | (with_reducible first | exact HB.out | apply below_alloc | apply pw_below_drewN | apply below_drew1) | exact HB.out)⟩⟩
    · rw [if_neg c3] at H
      have c3b0 : decide ((l0.length : Int) < 1) = false := decide_eq_false c3; have c3b1 : decide (l0.length < 1) = false := decide_eq_false (by omega); clear c3
      (first | rw [c3b0] | (simp only [i64_w, i32_w]; rw [c3b0]) | skip)
      have H' := Aside0.mk H; clear H
      go_wp2
      go_meet
      case rel => exact ⟨_, (decide ((l0.length : Int) > 512)), (by first | rfl | (simp; done) | (simp [*]; done)), H', ⟨by first | omega | exact Nat.le_refl _⟩, ⟨by repeat (first | (with_reducible first | exact HB.out | apply below_alloc | apply pw_below_drewN | apply below_drew1) | exact HB.out)⟩⟩
  case rest =>
    clear HC2
    try clear p2
    try clear c3
    try clear c3b0
    try clear c3b1
    obtain ⟨kq, x13_1, rfl, HA, HJ1, HB⟩ := hcut; cases kq with
    | zero => exact absurd HA.out (by simp [quadformref16_Valid.j0])
    | succ kj1 =>
      have H := HA.out; clear HA
      simp only [quadformref16_Valid.j0] at H
      by_cases c4 : x13_1 = true
      · subst c4
        have H1 : (some false) = some r := by rw [if_pos rfl] at H; exact H
        clear H; have H := H1; clear H1; obtain rfl := Option.some.inj H
        go_wp2
        go_ret
        exact ⟨by first | rfl | (simp [errW_none, errW_some] <;> rfl) | (simp [*, errW_none, errW_some] <;> rfl), by repeat (first | (with_reducible first | exact HB.out | apply below_alloc | apply pw_below_drewN | apply below_drew1) | exact HB.out)⟩
      · replace c4 := Bool.eq_false_iff.mpr c4
        subst c4
        have H1 : (if 0 ≤ (l0.length : Int) then (if ((l0.length : Int) : Int).toNat ≤ 281474976710656 then (quadformref16_Valid.l0 kj1 l0 (List.replicate ((l0.length : Int) : Int).toNat false) l0 (l0.length : Int) 0) else (none)) else (none)) = some r := by rw [if_neg (show ¬ (false = true) by decide)] at H; exact H
        clear H; have H := H1; clear H1
        by_cases c5 : 0 ≤ (l0.length : Int)
        · rw [if_pos c5] at H
          have c5b0 := eq_true c5; have c5b1 : decide (0 ≤ (l0.length : Int)) = true := decide_eq_true c5; clear c5
          by_cases c6 : ((l0.length : Int) : Int).toNat ≤ 281474976710656
          · rw [if_pos c6] at H
            have c6b0 := eq_true c6; have c6b1 : decide (((l0.length : Int) : Int).toNat ≤ 281474976710656) = true := decide_eq_true c6; clear c6
            obtain ⟨y269, hy269⟩ : ∃ y_ : List Bool, y_ = (List.replicate ((l0.length : Int) : Int).toNat false) := ⟨_, rfl⟩
            replace H : (quadformref16_Valid.l0 kj1 l0 y269 l0 (l0.length : Int) 0) = some r := by first | (rw [hy269]; with_reducible exact H) | (have H2_ := (Option.bind_some _ _).symm.trans H; rw [hy269]; with_reducible exact H2_) | (have H2_ := (Option.bind_some _ _).symm.trans H; with_reducible exact H2_) | with_reducible exact H | (rw [hy269]; exact H) | exact H
            have Ny269 := Aside0.mk hy269; clear hy269; have H' := Aside0.mk H; clear H
            go_wp2_with (first | ((with_reducible refine gate_dst (N := 16) rfl ?_); (try (refine gate_guard (by rfl) ?_; dsimp only)); refine Kd.R_make Kd.bool _ 4 rfl (N := 16) rfl 126 _ _ rfl (l0.length : Int) rfl rfl Try.underlying126 (.bool false) 1 info4 rfl (by decide) (by omega) false (ok := fun _ => True) (okp := fun _ => True) rfl (fun _ hk => hk) trivial (of_decide_eq_true (by first | (with_reducible assumption) | assumption)) (Nat.le_trans (Nat.mul_le_mul_right _ (of_decide_eq_true (by first | (with_reducible assumption) | assumption) : (l0.length : Int).toNat ≤ 281474976710656)) (by omega)) (Below.refl _ _) (Nat.le_refl _) ?_; intro v270 w7 ho8 hb hg_ hnew_; clear hg_ hnew_; (first | rw [← Ny269.out] at ho8 | (simp only [Int.reduceToNat] at ho8; rw [← Ny269.out] at ho8)); have n0_ := Aside0.mk (Kd.R_lower ho8 (below_size (by repeat (first | (with_reducible first | exact HB.out | apply below_alloc | apply pw_below_drewN | apply below_drew1) | exact HB.out)))); have n1_ := Aside0.mk (below_step (by repeat (first | (with_reducible first | exact HB.out | apply below_alloc | apply pw_below_drewN | apply below_drew1) | exact HB.out)) hb); clear HB; have HO271 := n0_; have HB := n1_; clear n0_ n1_; clear hb ho8))
            go_loopg [19] kj1 (fun kq v19 w' => ∃ (x3_2 : List Bool) (x19_2 : Int), v19 = .int .i64 x19_2 ∧ Aside0 (quadformref16_Valid.l0 kq l0 x3_2 l0 (l0.length : Int) x19_2 = some r) ∧ Aside0 (kq ≤ kj1) ∧ Aside0 (Kd.R Kd.bool 4 w' w.heap.size (fun _ => True) v270 x3_2) ∧ Aside0 (Below w.heap.size w w'))
            case atStart => exact ⟨(y269), (0), (by first | rfl | (simp; done) | (simp [*]; done)), H', ⟨Nat.le_refl _⟩, ⟨by (with_reducible repeat (first | apply Kd.R_alloc | apply Kd.R_drewN | apply Kd.R_drew)); exact HO271.out⟩, ⟨by repeat (first | (with_reducible first | exact HB.out | apply below_alloc | apply pw_below_drewN | apply below_drew1) | exact HB.out)⟩⟩
            case round =>
              clear H'
              try clear p2
              try clear c3
              try clear c3b0
              try clear c3b1
              try clear c4
              try clear c5
              try clear c5b0
              try clear c5b1
              try clear c6
              try clear c6b0
              try clear c6b1
              try clear p2
              obtain ⟨x3_2, x19_2, rfl, HA, HK2, HO_3, HB⟩ := hrel; cases gk with
              | zero => exact absurd HA.out (by simp [quadformref16_Valid.l0])
              | succ k2 =>
                have H := HA.out; clear HA
                simp only [quadformref16_Valid.l0] at H
                by_cases c9 : x19_2 < (l0.length : Int)
                · rw [if_pos c9] at H
                  have c9b0 : decide (x19_2 < (l0.length : Int)) = true := decide_eq_true c9; clear c9
                  by_cases c10 : 0 ≤ x19_2
                  · rw [if_pos c10] at H
                    have c10b0 : decide (0 ≤ x19_2) = true := decide_eq_true c10; clear c10
                    by_cases c11 : x19_2 < (l0.length : Int)
                    · rw [if_pos c11] at H
                      have c11b0 : decide (x19_2 < (l0.length : Int)) = true := decide_eq_true c11; clear c11
                      by_cases c12 : (rd l0 x19_2) < 0
                      · rw [if_pos c12] at H
                        have c12b0 : decide ((rd l0 x19_2) < 0) = true := decide_eq_true c12; clear c12; obtain rfl := Option.some.inj H; have p272 : 0 ≤ (x19_2 : Int) := of_decide_eq_true (by first | (with_reducible assumption) | assumption); have q272 : x19_2 < (l0.length : Int) := of_decide_eq_true (by first | (with_reducible assumption) | assumption); obtain ⟨ad272, e272, hx272_0⟩ := Kd.at_int HR0.out x19_2 p272 q272; cases e272; replace hx272_0 := (HB.out.cell (World.block_lt_of_cell? w _ hx272_0)).trans hx272_0; replace p272 := eq_true p272; replace q272 := eq_true q272
                        go_wp2
                        go_ret
                        exact ⟨by first | rfl | (simp [errW_none, errW_some] <;> rfl) | (simp [*, errW_none, errW_some] <;> rfl), by repeat (first | (with_reducible first | exact HB.out | apply below_alloc | apply pw_below_drewN | apply below_drew1) | exact HB.out)⟩
                      · rw [if_neg c12] at H
                        have c12b0 : decide ((rd l0 x19_2) < 0) = false := decide_eq_false c12; clear c12
                        by_cases c13 : (rd l0 x19_2) ≥ (l0.length : Int)
                        · rw [if_pos c13] at H
                          have c13b0 : decide ((l0.length : Int) ≤ (rd l0 x19_2)) = true := decide_eq_true c13; clear c13; obtain rfl := Option.some.inj H; have p272 : 0 ≤ (x19_2 : Int) := of_decide_eq_true (by first | (with_reducible assumption) | assumption); have q272 : x19_2 < (l0.length : Int) := of_decide_eq_true (by first | (with_reducible assumption) | assumption); obtain ⟨ad272, e272, hx272_0⟩ := Kd.at_int HR0.out x19_2 p272 q272; cases e272; replace hx272_0 := (HB.out.cell (World.block_lt_of_cell? w _ hx272_0)).trans hx272_0; replace p272 := eq_true p272; replace q272 := eq_true q272
                          go_wp2
                          go_ret
                          exact ⟨by first | rfl | (simp [errW_none, errW_some] <;> rfl) | (simp [*, errW_none, errW_some] <;> rfl), by repeat (first | (with_reducible first | exact HB.out | apply below_alloc | apply pw_below_drewN | apply below_drew1) | exact HB.out)⟩
                        · rw [if_neg c13] at H
                          have c13b0 : decide ((l0.length : Int) ≤ (rd l0 x19_2)) = false := decide_eq_false c13; clear c13
                          by_cases c14 : 0 ≤ (rd l0 x19_2)
                          · rw [if_pos c14] at H
                            have c14b0 : decide (0 ≤ (rd l0 x19_2)) = true := decide_eq_true c14; clear c14
                            by_cases c15 : (rd l0 x19_2) < (x3_2.length : Int)
                            · rw [if_pos c15] at H
                              have c15b0 : decide ((rd l0 x19_2) < (x3_2.length : Int)) = true := decide_eq_true c15; clear c15
                              obtain ⟨bq16, hbq16⟩ : ∃ b_ : Bool, b_ = (rdOf false x3_2 (rd l0 x19_2)) := ⟨_, rfl⟩
                              replace H : (if bq16 = true then (some false) else (quadformref16_Valid.l0 k2 l0 (x3_2.set ((rd l0 x19_2) : Int).toNat true) l0 (l0.length : Int) (wrap64 (x19_2 + 1)))) = some r := by rw [← hbq16] at H; exact H
                              have Nbq16 := Aside0.mk hbq16; clear hbq16
                              by_cases c17 : bq16 = true
                              · subst c17
                                have H1 : (some false) = some r := by rw [if_pos rfl] at H; exact H
                                clear H; have H := H1; clear H1; obtain rfl := Option.some.inj H; have p272 : 0 ≤ (x19_2 : Int) := of_decide_eq_true (by first | (with_reducible assumption) | assumption); have q272 : x19_2 < (l0.length : Int) := of_decide_eq_true (by first | (with_reducible assumption) | assumption); obtain ⟨ad272, e272, hx272_0⟩ := Kd.at_int HR0.out x19_2 p272 q272; cases e272; replace hx272_0 := (HB.out.cell (World.block_lt_of_cell? w _ hx272_0)).trans hx272_0; replace p272 := eq_true p272; replace q272 := eq_true q272; obtain ⟨Ao18, co18, eo18⟩ := Kd.R_slice HO_3.out; subst eo18; have p273 : 0 ≤ ((rd l0 x19_2) : Int) := of_decide_eq_true (by first | (with_reducible assumption) | assumption); have q273 : (rd l0 x19_2) < (x3_2.length : Int) := of_decide_eq_true (by first | (with_reducible assumption) | assumption); obtain ⟨ad273, e273, hx273_0⟩ := Kd.at_bool (Kd.R_reads' HO_3.out).2.2 (rd l0 x19_2) p273 q273
                                (try rw [← Nbq16.out] at hx273_0)
                                cases e273; replace p273 := eq_true p273; replace q273 := eq_true q273
                                go_wp2
                                go_ret
                                exact ⟨by first | rfl | (simp [errW_none, errW_some] <;> rfl) | (simp [*, errW_none, errW_some] <;> rfl), by repeat (first | (with_reducible first | exact HB.out | apply below_alloc | apply pw_below_drewN | apply below_drew1) | exact HB.out)⟩
                              · replace c17 := Bool.eq_false_iff.mpr c17
                                subst c17
                                have H1 : (quadformref16_Valid.l0 k2 l0 (x3_2.set ((rd l0 x19_2) : Int).toNat true) l0 (l0.length : Int) (wrap64 (x19_2 + 1))) = some r := by rw [if_neg (show ¬ (false = true) by decide)] at H; exact H
                                clear H; have H := H1; clear H1
                                obtain ⟨y274, hy274⟩ : ∃ y_ : List Bool, y_ = (x3_2.set ((rd l0 x19_2) : Int).toNat true) := ⟨_, rfl⟩
                                replace H : (quadformref16_Valid.l0 k2 l0 y274 l0 (l0.length : Int) (wrap64 (x19_2 + 1))) = some r := by first | (rw [hy274]; with_reducible exact H) | (have H2_ := (Option.bind_some _ _).symm.trans H; rw [hy274]; with_reducible exact H2_) | (have H2_ := (Option.bind_some _ _).symm.trans H; with_reducible exact H2_) | with_reducible exact H | (rw [hy274]; exact H) | exact H
                                have Ny274 := Aside0.mk hy274; clear hy274; have H' := Aside0.mk H; clear H; have p272 : 0 ≤ (x19_2 : Int) := of_decide_eq_true (by first | (with_reducible assumption) | assumption); have q272 : x19_2 < (l0.length : Int) := of_decide_eq_true (by first | (with_reducible assumption) | assumption); obtain ⟨ad272, e272, hx272_0⟩ := Kd.at_int HR0.out x19_2 p272 q272; cases e272; replace hx272_0 := (HB.out.cell (World.block_lt_of_cell? w _ hx272_0)).trans hx272_0; replace p272 := eq_true p272; replace q272 := eq_true q272; obtain ⟨Ao20, co20, eo20⟩ := Kd.R_slice HO_3.out; subst eo20; have p273 : 0 ≤ ((rd l0 x19_2) : Int) := of_decide_eq_true (by first | (with_reducible assumption) | assumption); have q273 : (rd l0 x19_2) < (x3_2.length : Int) := of_decide_eq_true (by first | (with_reducible assumption) | assumption); obtain ⟨ad273, e273, hx273_0⟩ := Kd.at_bool (Kd.R_reads' HO_3.out).2.2 (rd l0 x19_2) p273 q273
                                (try rw [← Nbq16.out] at hx273_0)
                                cases e273; replace p273 := eq_true p273; replace q273 := eq_true q273; have p19 : 0 ≤ ((rd l0 x19_2) : Int) := of_decide_eq_true (by first | (with_reducible assumption) | assumption); have q19 : ((rd l0 x19_2) : Int) < ((x3_2.length : Int) : Int) := of_decide_eq_true (by first | (with_reducible assumption) | assumption); obtain ⟨go19, co19, eo19, gb19, gl19, cl19, HG19⟩ := Kd.R_form HO_3.out (by omega)
                                (first | cases eo19 | (injection eo19 with ea_ en_ ec_; (first | subst ea_ | (injection ea_ with ea_; subst ea_)); subst ec_; clear en_))
                                have GB19 := Aside0.mk gb19; have GG19 := Aside0.mk HG19; clear gb19 gl19 HG19
                                (first | simp only [add_plain] at hx273_0 | skip)
                                obtain ⟨hx19_0, hf19_0⟩ := Kd.R_celln false HO_3.out ((rd l0 x19_2) : Int) p19 q19; replace p19 := eq_true p19; replace q19 := eq_true q19; have HP21 := Kd.R_putg HO_3.out ((rd l0 x19_2) : Int) true
                                go_wp2_with (first | ((with_reducible refine gate_store (t := 4) (p := 39) rfl ?_); refine store_event (t := 4) (p := 39) (v := ?vo_w22) (w1 := (wr.setCell ⟨go19, ((rd l0 x19_2) : Int).toNat, none⟩ (.bool true))) ?hg ?ho ?hn ?hr ?_; (case ho => rfl); (case hg => rfl); (case hn => rfl); (case hr => first | (go_simp; done) | (go_simp; rfl)); intro w22 hw; have hg : wr.grownBy w22 (some go19) := (by rw [hw]; exact HP21.2); have hp_ : Kd.R Kd.bool 4 w22 w.heap.size (fun _ => True) (.slice (some ⟨go19, 0, none⟩) x3_2.length co20) y274 := (by rw [hw, Ny274.out]; exact HP21.1); clear HP21; have n0_ := Aside0.mk (hp_); have n1_ := Aside0.mk ((by rw [hw]; exact below_set (HB.out) GB19.out : Below w.heap.size w w22)); clear HO_3; clear HB; have HO_3 := n0_; have HB := n1_; clear n0_ n1_; clear hg hw hp_))
                                go_roundg k2
                                case measure => have := HJ1.out; have := HK2.out; omega
                                case rel => exact ⟨(y274), (wrap64 (x19_2 + 1)), (by first | rfl | (simp; done) | (simp [*]; done)), H', ⟨by have := HJ1.out; have := HK2.out; omega⟩, ⟨by (with_reducible repeat (first | apply Kd.R_alloc | apply Kd.R_drewN | apply Kd.R_drew)); exact HO_3.out⟩, ⟨by repeat (first | (with_reducible first | exact HB.out | apply below_alloc | apply pw_below_drewN | apply below_drew1) | exact HB.out)⟩⟩
                            · rw [if_neg c15] at H
                              exact absurd H (by simp)
                          · rw [if_neg c14] at H
                            exact absurd H (by simp)
                    · rw [if_neg c11] at H
                      exact absurd H (by simp)
                  · rw [if_neg c10] at H
                    exact absurd H (by simp)
                · rw [if_neg c9] at H
                  have c9b0 : decide (x19_2 < (l0.length : Int)) = false := decide_eq_false c9; clear c9; obtain rfl := Option.some.inj H
                  go_wp2
                  go_ret
                  exact ⟨by first | rfl | (simp [errW_none, errW_some] <;> rfl) | (simp [*, errW_none, errW_some] <;> rfl), by repeat (first | (with_reducible first | exact HB.out | apply below_alloc | apply pw_below_drewN | apply below_drew1) | exact HB.out)⟩
          · rw [if_neg c6] at H
            exact absurd H (by simp)
        · rw [if_neg c5] at H
          exact absurd H (by simp)
end Go.Proofs.Ytpkgckccfanchaa.M
