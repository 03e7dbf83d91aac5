/- Part of the proof of StabchainProducts: merged and pruned by merge2.py. -/
import Derived.Test.YtpkgckccfanchaaBStabchainProducts3
import Derived.Test.YtpkgckccfanchaaBStabchainProducts8
import Derived.Test.YtpkgckccfanchaaBStabchainProducts7
import Derived.Test.YtpkgckccfanchaaBStabchainProducts6
import Derived.Test.YtpkgckccfanchaaBStabchainProducts1

namespace Go.Proofs.Ytpkgckccfanchaa.M
open Go.RowKit YtpkgckccfanchaaW.PrintWords YtpkgckccfanchaaW.PrintLast YtpkgckccfanchaaW.PrintMore
attribute [local go_sem] pzW pzX pzY pzZ pzS pzT pzU pzV
set_option linter.unusedVariables false
set_option linter.unusedSimpArgs false
def ra_Rem.f (a0_0 : Bool) (l0_1 : List Int) (a1_0 : Bool) (l1_1 : List Int) : Option (Bool × List Int) := (ra_DivMod.f a0_0 l0_1 a1_0 l1_1).bind fun bt539 => (some (bt539.2.2.1, bt539.2.2.2.1))
set_option maxHeartbeats 8000000 in
set_option maxRecDepth 100000 in
theorem ra_Rem.calls (a0_0 : Bool) (A0_1 : Option Addr) (c0_1 : Nat) (l0_1 : List Int) (a1_0 : Bool) (A1_1 : Option Addr) (c1_1 : Nat) (l1_1 : List Int) (r1 : Bool) (r2 : List Int) (w : World) (hr0_1 : Kd.C (Kd.int .u32) w A0_1 l0_1.length l0_1) (hc0_1 : l0_1.length ≤ c0_1) (hr1_1 : Kd.C (Kd.int .u32) w A1_1 l1_1.length l1_1) (hc1_1 : l1_1.length ≤ c1_1) (h : ra_Rem.f a0_0 l0_1 a1_0 l1_1 = some (r1, r2)) :
    Calls Try.prog 62 #[.agg #[.bool a0_0, .slice A0_1 l0_1.length c0_1], .agg #[.bool a1_0, .slice A1_1 l1_1.length c1_1]] w fun e w' => ∃ v1_ : Value, e = .returned (.agg #[.bool r1, v1_]) ∧ Kd.R (Kd.int .u32) 98 w' w.heap.size (fun _ => True) v1_ r2 ∧ Below w.heap.size w w' := by
  have hu24 := Try.underlying24; have HR0_1 := Aside0.mk hr0_1; have HC0_1 := Aside0.mk hc0_1; clear hr0_1 hc0_1; have HR1_1 := Aside0.mk hr1_1; have HC1_1 := Aside0.mk hc1_1; clear hr1_1 hc1_1; have HB := Aside0.mk (Below.refl w.heap.size w); have H : ((ra_DivMod.f a0_0 l0_1 a1_0 l1_1).bind fun bt539 => (some (bt539.2.2.1, bt539.2.2.2.1))) = some (r1, r2) := h; clear h; replace H := Option.bind_eq_some_iff.mp H; obtain ⟨⟨t539, t540, t543, t544, t547⟩, A30, H⟩ := H; replace H : (some (t543, t544)) = some (r1, r2) := H; have A3 := Aside0.mk A30; clear A30
  simp only [Option.some.injEq, Prod.mk.injEq] at H
  obtain ⟨rfl, rfl⟩ := H
  go_enter Try.func62, Try.ntmps62
  go_wp2_with (first | ((with_reducible refine pzQ (N := 2) rfl ?_); refine pzR ?hg (N := 2) ?hd (cs := #[.bool a0_0, .slice A0_1 l0_1.length c0_1]) (t := 24) ?hr ?_; (case hd => rfl); (case hg => rfl); (case hr => first | (go_simp; done) | (go_simp; rfl)); intro gb536 hg w4 hbox hb; have n0_ := Aside0.mk (pzL (by repeat (first | (with_reducible first | exact HB.out | apply pzB | apply pzA | apply pzC) | exact HB.out)) hb); have n1_ := Aside0.mk (hbox); have n2_ := Aside0.mk ((by rw [hg]; exact (pzJ (by repeat (first | (with_reducible first | exact HB.out | apply pzB | apply pzA | apply pzC) | exact HB.out))) : w.heap.size ≤ gb536)); have n3_ := Aside0.mk ((by rw [hg]; exact (pzJ (by repeat (first | (with_reducible first | exact HB.out | apply pzB | apply pzA | apply pzC) | exact HB.out))) : w.heap.size ≤ gb536)); clear HB; have HB := n0_; have BK536 := n1_; have GW536 := n2_; have GE536 := n3_; clear n0_ n1_ n2_ n3_; clear hb hbox hg) | ((with_reducible refine pzQ (N := 3) rfl ?_); refine pzR ?hg (N := 3) ?hd (cs := #[.bool a1_0, .slice A1_1 l1_1.length c1_1]) (t := 24) ?hr ?_; (case hd => rfl); (case hg => rfl); (case hr => first | (go_simp; done) | (go_simp; rfl)); intro gb537 hg w5 hbox hb; have n0_ := Aside0.mk (pzI (g := gb536) (o := .cells #[.bool a0_0, .slice A0_1 l0_1.length c0_1] 24 (0, 0)) (by (with_reducible repeat (first | refine pzF ?_ _ | refine pzG ?_ | refine pzE ?_ _)); exact BK536.out) hb); have n1_ := Aside0.mk (pzL (by repeat (first | (with_reducible first | exact HB.out | apply pzB | apply pzA | apply pzC | refine pzD ?_ GE536.out) | exact HB.out)) hb); have n2_ := Aside0.mk (hbox); have n3_ := Aside0.mk ((by rw [hg]; exact (pzJ (by repeat (first | (with_reducible first | exact HB.out | apply pzB | apply pzA | apply pzC | refine pzD ?_ GE536.out) | exact HB.out))) : w.heap.size ≤ gb537)); have n4_ := Aside0.mk ((by rw [hg]; exact (pzJ (by repeat (first | (with_reducible first | exact HB.out | apply pzB | apply pzA | apply pzC | refine pzD ?_ GE536.out) | exact HB.out))) : w.heap.size ≤ gb537)); have n5_ := Aside0.mk ((by rw [hg]; exact Nat.ne_of_lt (pzO (g := gb536) (o := .cells #[.bool a0_0, .slice A0_1 l0_1.length c0_1] 24 (0, 0)) (by (with_reducible repeat (first | refine pzF ?_ _ | refine pzG ?_ | refine pzE ?_ _)); exact BK536.out)) : gb536 ≠ gb537)); have n6_ := Aside0.mk ((by rw [hg]; exact Nat.ne_of_gt (pzO (g := gb536) (o := .cells #[.bool a0_0, .slice A0_1 l0_1.length c0_1] 24 (0, 0)) (by (with_reducible repeat (first | refine pzF ?_ _ | refine pzG ?_ | refine pzE ?_ _)); exact BK536.out)) : gb537 ≠ gb536)); clear BK536; clear HB; have BK536 := n0_; have HB := n1_; have BK537 := n2_; have GW537 := n3_; have GE537 := n4_; have NB536_537 := n5_; have NB537_536 := n6_; clear n0_ n1_ n2_ n3_ n4_ n5_ n6_; clear hb hbox hg) | ((with_reducible refine pzQ (N := 4) rfl ?_); refine pzR ?hg (N := 4) ?hd (cs := #[.bool false, .slice none 0 0]) (t := 24) ?hr ?_; (case hd => rfl); (case hg => rfl); (case hr => first | (go_simp; done) | (go_simp; rfl)); intro gb538 hg w6 hbox hb; have n0_ := Aside0.mk (pzI (g := gb536) (o := .cells #[.bool a0_0, .slice A0_1 l0_1.length c0_1] 24 (0, 0)) (by (with_reducible repeat (first | refine pzF ?_ _ | refine pzG ?_ | refine pzE ?_ _)); exact BK536.out) hb); have n1_ := Aside0.mk (pzI (g := gb537) (o := .cells #[.bool a1_0, .slice A1_1 l1_1.length c1_1] 24 (0, 0)) (by (with_reducible repeat (first | refine pzF ?_ _ | refine pzG ?_ | refine pzE ?_ _)); exact BK537.out) hb); have n2_ := Aside0.mk (pzL (by repeat (first | (with_reducible first | exact HB.out | apply pzB | apply pzA | apply pzC | refine pzD ?_ GE536.out | refine pzD ?_ GE537.out) | exact HB.out)) hb); have n3_ := Aside0.mk (hbox); have n4_ := Aside0.mk ((by rw [hg]; exact (pzJ (by repeat (first | (with_reducible first | exact HB.out | apply pzB | apply pzA | apply pzC | refine pzD ?_ GE536.out | refine pzD ?_ GE537.out) | exact HB.out))) : w.heap.size ≤ gb538)); have n5_ := Aside0.mk ((by rw [hg]; exact (pzJ (by repeat (first | (with_reducible first | exact HB.out | apply pzB | apply pzA | apply pzC | refine pzD ?_ GE536.out | refine pzD ?_ GE537.out) | exact HB.out))) : w.heap.size ≤ gb538)); have n6_ := Aside0.mk ((by rw [hg]; exact Nat.ne_of_lt (pzO (g := gb536) (o := .cells #[.bool a0_0, .slice A0_1 l0_1.length c0_1] 24 (0, 0)) (by (with_reducible repeat (first | refine pzF ?_ _ | refine pzG ?_ | refine pzE ?_ _)); exact BK536.out)) : gb536 ≠ gb538)); have n7_ := Aside0.mk ((by rw [hg]; exact Nat.ne_of_gt (pzO (g := gb536) (o := .cells #[.bool a0_0, .slice A0_1 l0_1.length c0_1] 24 (0, 0)) (by (with_reducible repeat (first | refine pzF ?_ _ | refine pzG ?_ | refine pzE ?_ _)); exact BK536.out)) : gb538 ≠ gb536)); have n8_ := Aside0.mk ((by rw [hg]; exact Nat.ne_of_lt (pzO (g := gb537) (o := .cells #[.bool a1_0, .slice A1_1 l1_1.length c1_1] 24 (0, 0)) (by (with_reducible repeat (first | refine pzF ?_ _ | refine pzG ?_ | refine pzE ?_ _)); exact BK537.out)) : gb537 ≠ gb538)); have n9_ := Aside0.mk ((by rw [hg]; exact Nat.ne_of_gt (pzO (g := gb537) (o := .cells #[.bool a1_0, .slice A1_1 l1_1.length c1_1] 24 (0, 0)) (by (with_reducible repeat (first | refine pzF ?_ _ | refine pzG ?_ | refine pzE ?_ _)); exact BK537.out)) : gb538 ≠ gb537)); clear BK536; clear BK537; clear HB; have BK536 := n0_; have BK537 := n1_; have HB := n2_; have BK538 := n3_; have GW538 := n4_; have GE538 := n5_; have NB536_538 := n6_; have NB538_536 := n7_; have NB537_538 := n8_; have NB538_537 := n9_; clear n0_ n1_ n2_ n3_ n4_ n5_ n6_ n7_ n8_ n9_; clear hb hbox hg; have hnb7 := NB536_537.out; have hnc7 := NB537_536.out; have hnb8 := NB536_538.out; have hnc8 := NB538_536.out; have hcz9_0 : w6.cell? ⟨gb536, 0, none⟩ = some (.bool a0_0) := (pzH BK536.out 0).trans rfl; have hcz9_1 : w6.cell? ⟨gb536, 1, none⟩ = some (.slice A0_1 l0_1.length c0_1) := (pzH BK536.out 1).trans rfl; have hfz9_0 := pzK BK536.out 0; have hfz9_1 := pzK BK536.out 1; have hnb10 := NB537_538.out; have hnc10 := NB538_537.out; have hcz11_0 : w6.cell? ⟨gb537, 0, none⟩ = some (.bool a1_0) := (pzH BK537.out 0).trans rfl; have hcz11_1 : w6.cell? ⟨gb537, 1, none⟩ = some (.slice A1_1 l1_1.length c1_1) := (pzH BK537.out 1).trans rfl; have hfz11_0 := pzK BK537.out 0; have hfz11_1 := pzK BK537.out 1) | ((with_reducible refine pzP (f := 94) rfl ?_); refine pyH (some 11) rfl rfl Try.func94 (by kernel_rfl) rfl #[.agg #[.bool a0_0, .slice A0_1 l0_1.length c0_1], .agg #[.bool a1_0, .slice A1_1 l1_1.length c1_1]] rfl (by (try simp only [List.map_toArray, List.map_cons, List.map_nil]); first | done | rfl | (simp only [List.length_drop, List.length_take]; rfl)) ?_; (with_reducible refine (ra_DivMod.calls a0_0 _ _ l0_1 a1_0 _ _ l1_1 t539 t540 t543 t544 t547 _ ?side1 ?side2 ?side3 ?side4 A3.out).mono ?_); (case side1 => repeat (first | exact (Kd.C_below HR0_1.out HB.out) | (with_reducible refine Kd.C_alloc ?_ _) | (with_reducible refine Kd.C_drewN ?_ _) | (with_reducible refine Kd.C_drew ?_))); (case side2 => exact HC0_1.out); (case side3 => repeat (first | exact (Kd.C_below HR1_1.out HB.out) | (with_reducible refine Kd.C_alloc ?_ _) | (with_reducible refine Kd.C_drewN ?_ _) | (with_reducible refine Kd.C_drew ?_))); (case side4 => exact HC1_1.out); rintro e w12 ⟨v541, v545, rfl, ho0, ho1, hb⟩; refine ⟨_, rfl, ?_⟩; have n0_ := Aside0.mk (Kd.R_lower ho0 (pzJ (by repeat (first | (with_reducible first | exact HB.out | apply pzB | apply pzA | apply pzC | refine pzD ?_ GE536.out | refine pzD ?_ GE537.out | refine pzD ?_ GE538.out) | exact HB.out)))); have n1_ := Aside0.mk (Kd.R_lower ho1 (pzJ (by repeat (first | (with_reducible first | exact HB.out | apply pzB | apply pzA | apply pzC | refine pzD ?_ GE536.out | refine pzD ?_ GE537.out | refine pzD ?_ GE538.out) | exact HB.out)))); have n2_ := Aside0.mk (pzI (g := gb536) (o := .cells #[.bool a0_0, .slice A0_1 l0_1.length c0_1] 24 (0, 0)) (by (with_reducible repeat (first | refine pzF ?_ _ | refine pzG ?_ | refine pzE ?_ _)); exact BK536.out) hb); have n3_ := Aside0.mk (pzI (g := gb537) (o := .cells #[.bool a1_0, .slice A1_1 l1_1.length c1_1] 24 (0, 0)) (by (with_reducible repeat (first | refine pzF ?_ _ | refine pzG ?_ | refine pzE ?_ _)); exact BK537.out) hb); have n4_ := Aside0.mk (pzI (g := gb538) (o := .cells #[.bool false, .slice none 0 0] 24 (0, 0)) (by (with_reducible repeat (first | refine pzF ?_ _ | refine pzG ?_ | refine pzE ?_ _)); exact BK538.out) hb); have n5_ := Aside0.mk (pzL (by repeat (first | (with_reducible first | exact HB.out | apply pzB | apply pzA | apply pzC | refine pzD ?_ GE536.out | refine pzD ?_ GE537.out | refine pzD ?_ GE538.out) | exact HB.out)) hb); clear BK536; clear BK537; clear BK538; clear HB; have HO542 := n0_; have HO546 := n1_; have BK536 := n2_; have BK537 := n3_; have BK538 := n4_; have HB := n5_; clear n0_ n1_ n2_ n3_ n4_ n5_; (try clear hb); (try clear hb2); (try clear hk); (try clear hi); (try clear ho0); (try clear ho1)) | ((with_reducible refine pzQ (N := 5) rfl ?_); refine pzR ?hg (N := 5) ?hd (cs := #[.bool false, .slice none 0 0]) (t := 24) ?hr ?_; (case hd => rfl); (case hg => rfl); (case hr => first | (go_simp; done) | (go_simp; rfl)); intro gb548 hg w13 hbox hb; have n0_ := Aside0.mk (Kd.R_below (by (with_reducible repeat (first | apply Kd.R_alloc | apply Kd.R_drewN | apply Kd.R_drew)); exact HO542.out) hb); have n1_ := Aside0.mk (Kd.R_below (by (with_reducible repeat (first | apply Kd.R_alloc | apply Kd.R_drewN | apply Kd.R_drew)); exact HO546.out) hb); have n2_ := Aside0.mk (pzI (g := gb536) (o := .cells #[.bool a0_0, .slice A0_1 l0_1.length c0_1] 24 (0, 0)) (by (with_reducible repeat (first | refine pzF ?_ _ | refine pzG ?_ | refine pzE ?_ _)); exact BK536.out) hb); have n3_ := Aside0.mk (pzI (g := gb537) (o := .cells #[.bool a1_0, .slice A1_1 l1_1.length c1_1] 24 (0, 0)) (by (with_reducible repeat (first | refine pzF ?_ _ | refine pzG ?_ | refine pzE ?_ _)); exact BK537.out) hb); have n4_ := Aside0.mk (pzI (g := gb538) (o := .cells #[.bool false, .slice none 0 0] 24 (0, 0)) (by (with_reducible repeat (first | refine pzF ?_ _ | refine pzG ?_ | refine pzE ?_ _)); exact BK538.out) hb); have n5_ := Aside0.mk (pzL (by repeat (first | (with_reducible first | exact HB.out | apply pzB | apply pzA | apply pzC | refine pzD ?_ GE536.out | refine pzD ?_ GE537.out | refine pzD ?_ GE538.out) | exact HB.out)) hb); have n6_ := Aside0.mk (hbox); have n7_ := Aside0.mk ((by rw [hg]; exact (pzJ (by repeat (first | (with_reducible first | exact HB.out | apply pzB | apply pzA | apply pzC | refine pzD ?_ GE536.out | refine pzD ?_ GE537.out | refine pzD ?_ GE538.out) | exact HB.out))) : w.heap.size ≤ gb548)); have n8_ := Aside0.mk ((by rw [hg]; exact (pzJ (by repeat (first | (with_reducible first | exact HB.out | apply pzB | apply pzA | apply pzC | refine pzD ?_ GE536.out | refine pzD ?_ GE537.out | refine pzD ?_ GE538.out) | exact HB.out))) : w.heap.size ≤ gb548)); have n9_ := Aside0.mk ((by rw [hg]; exact Nat.ne_of_lt (pzO (g := gb536) (o := .cells #[.bool a0_0, .slice A0_1 l0_1.length c0_1] 24 (0, 0)) (by (with_reducible repeat (first | refine pzF ?_ _ | refine pzG ?_ | refine pzE ?_ _)); exact BK536.out)) : gb536 ≠ gb548)); have n10_ := Aside0.mk ((by rw [hg]; exact Nat.ne_of_gt (pzO (g := gb536) (o := .cells #[.bool a0_0, .slice A0_1 l0_1.length c0_1] 24 (0, 0)) (by (with_reducible repeat (first | refine pzF ?_ _ | refine pzG ?_ | refine pzE ?_ _)); exact BK536.out)) : gb548 ≠ gb536)); have n11_ := Aside0.mk ((by rw [hg]; exact Nat.ne_of_lt (pzO (g := gb537) (o := .cells #[.bool a1_0, .slice A1_1 l1_1.length c1_1] 24 (0, 0)) (by (with_reducible repeat (first | refine pzF ?_ _ | refine pzG ?_ | refine pzE ?_ _)); exact BK537.out)) : gb537 ≠ gb548)); have n12_ := Aside0.mk ((by rw [hg]; exact Nat.ne_of_gt (pzO (g := gb537) (o := .cells #[.bool a1_0, .slice A1_1 l1_1.length c1_1] 24 (0, 0)) (by (with_reducible repeat (first | refine pzF ?_ _ | refine pzG ?_ | refine pzE ?_ _)); exact BK537.out)) : gb548 ≠ gb537)); have n13_ := Aside0.mk ((by rw [hg]; exact Nat.ne_of_lt (pzO (g := gb538) (o := .cells #[.bool false, .slice none 0 0] 24 (0, 0)) (by (with_reducible repeat (first | refine pzF ?_ _ | refine pzG ?_ | refine pzE ?_ _)); exact BK538.out)) : gb538 ≠ gb548)); have n14_ := Aside0.mk ((by rw [hg]; exact Nat.ne_of_gt (pzO (g := gb538) (o := .cells #[.bool false, .slice none 0 0] 24 (0, 0)) (by (with_reducible repeat (first | refine pzF ?_ _ | refine pzG ?_ | refine pzE ?_ _)); exact BK538.out)) : gb548 ≠ gb538)); clear HO542; clear HO546; clear BK536; clear BK537; clear BK538; clear HB; have HO542 := n0_; have HO546 := n1_; have BK536 := n2_; have BK537 := n3_; have BK538 := n4_; have HB := n5_; have BK548 := n6_; have GW548 := n7_; have GE548 := n8_; have NB536_548 := n9_; have NB548_536 := n10_; have NB537_548 := n11_; have NB548_537 := n12_; have NB538_548 := n13_; have NB548_538 := n14_; clear n0_ n1_ n2_ n3_ n4_ n5_ n6_ n7_ n8_ n9_ n10_ n11_ n12_ n13_ n14_; clear hb hbox hg) | ((with_reducible refine pzQ (N := 6) rfl ?_); refine pzR ?hg (N := 6) ?hd (cs := #[.bool false, .slice none 0 0]) (t := 24) ?hr ?_; (case hd => rfl); (case hg => rfl); (case hr => first | (go_simp; done) | (go_simp; rfl)); intro gb549 hg w14 hbox hb; have n0_ := Aside0.mk (Kd.R_below (by (with_reducible repeat (first | apply Kd.R_alloc | apply Kd.R_drewN | apply Kd.R_drew)); exact HO542.out) hb); have n1_ := Aside0.mk (Kd.R_below (by (with_reducible repeat (first | apply Kd.R_alloc | apply Kd.R_drewN | apply Kd.R_drew)); exact HO546.out) hb); have n2_ := Aside0.mk (pzI (g := gb536) (o := .cells #[.bool a0_0, .slice A0_1 l0_1.length c0_1] 24 (0, 0)) (by (with_reducible repeat (first | refine pzF ?_ _ | refine pzG ?_ | refine pzE ?_ _)); exact BK536.out) hb); have n3_ := Aside0.mk (pzI (g := gb537) (o := .cells #[.bool a1_0, .slice A1_1 l1_1.length c1_1] 24 (0, 0)) (by (with_reducible repeat (first | refine pzF ?_ _ | refine pzG ?_ | refine pzE ?_ _)); exact BK537.out) hb); have n4_ := Aside0.mk (pzI (g := gb538) (o := .cells #[.bool false, .slice none 0 0] 24 (0, 0)) (by (with_reducible repeat (first | refine pzF ?_ _ | refine pzG ?_ | refine pzE ?_ _)); exact BK538.out) hb); have n5_ := Aside0.mk (pzI (g := gb548) (o := .cells #[.bool false, .slice none 0 0] 24 (0, 0)) (by (with_reducible repeat (first | refine pzF ?_ _ | refine pzG ?_ | refine pzE ?_ _)); exact BK548.out) hb); have n6_ := Aside0.mk (pzL (by repeat (first | (with_reducible first | exact HB.out | apply pzB | apply pzA | apply pzC | refine pzD ?_ GE536.out | refine pzD ?_ GE537.out | refine pzD ?_ GE538.out | refine pzD ?_ GE548.out) | exact HB.out)) hb); have n7_ := Aside0.mk (hbox); have n8_ := Aside0.mk ((by rw [hg]; exact (pzJ (by repeat (first | (with_reducible first | exact HB.out | apply pzB | apply pzA | apply pzC | refine pzD ?_ GE536.out | refine pzD ?_ GE537.out | refine pzD ?_ GE538.out | refine pzD ?_ GE548.out) | exact HB.out))) : w.heap.size ≤ gb549)); have n9_ := Aside0.mk ((by rw [hg]; exact (pzJ (by repeat (first | (with_reducible first | exact HB.out | apply pzB | apply pzA | apply pzC | refine pzD ?_ GE536.out | refine pzD ?_ GE537.out | refine pzD ?_ GE538.out | refine pzD ?_ GE548.out) | exact HB.out))) : w.heap.size ≤ gb549)); have n10_ := Aside0.mk ((by rw [hg]; exact Nat.ne_of_lt (pzO (g := gb536) (o := .cells #[.bool a0_0, .slice A0_1 l0_1.length c0_1] 24 (0, 0)) (by (with_reducible repeat (first | refine pzF ?_ _ | refine pzG ?_ | refine pzE ?_ _)); exact BK536.out)) : gb536 ≠ gb549)); have n11_ := Aside0.mk ((by rw [hg]; exact Nat.ne_of_gt (pzO (g := gb536) (o := .cells #[.bool a0_0, .slice A0_1 l0_1.length c0_1] 24 (0, 0)) (by (with_reducible repeat (first | refine pzF ?_ _ | refine pzG ?_ | refine pzE ?_ _)); exact BK536.out)) : gb549 ≠ gb536)); have n12_ := Aside0.mk ((by rw [hg]; exact Nat.ne_of_lt (pzO (g := gb537) (o := .cells #[.bool a1_0, .slice A1_1 l1_1.length c1_1] 24 (0, 0)) (by (with_reducible repeat (first | refine pzF ?_ _ | refine pzG ?_ | refine pzE ?_ _)); exact BK537.out)) : gb537 ≠ gb549)); have n13_ := Aside0.mk ((by rw [hg]; exact Nat.ne_of_gt (pzO (g := gb537) (o := .cells #[.bool a1_0, .slice A1_1 l1_1.length c1_1] 24 (0, 0)) (by (with_reducible repeat (first | refine pzF ?_ _ | refine pzG ?_ | refine pzE ?_ _)); exact BK537.out)) : gb549 ≠ gb537)); have n14_ := Aside0.mk ((by rw [hg]; exact Nat.ne_of_lt (pzO (g := gb538) (o := .cells #[.bool false, .slice none 0 0] 24 (0, 0)) (by (with_reducible repeat (first | refine pzF ?_ _ | refine pzG ?_ | refine pzE ?_ _)); exact BK538.out)) : gb538 ≠ gb549)); have n15_ := Aside0.mk ((by rw [hg]; exact Nat.ne_of_gt (pzO (g := gb538) (o := .cells #[.bool false, .slice none 0 0] 24 (0, 0)) (by (with_reducible repeat (first | refine pzF ?_ _ | refine pzG ?_ | refine pzE ?_ _)); exact BK538.out)) : gb549 ≠ gb538)); have n16_ := Aside0.mk ((by rw [hg]; exact Nat.ne_of_lt (pzO (g := gb548) (o := .cells #[.bool false, .slice none 0 0] 24 (0, 0)) (by (with_reducible repeat (first | refine pzF ?_ _ | refine pzG ?_ | refine pzE ?_ _)); exact BK548.out)) : gb548 ≠ gb549)); have n17_ := Aside0.mk ((by rw [hg]; exact Nat.ne_of_gt (pzO (g := gb548) (o := .cells #[.bool false, .slice none 0 0] 24 (0, 0)) (by (with_reducible repeat (first | refine pzF ?_ _ | refine pzG ?_ | refine pzE ?_ _)); exact BK548.out)) : gb549 ≠ gb548)); clear HO542; clear HO546; clear BK536; clear BK537; clear BK538; clear BK548; clear HB; have HO542 := n0_; have HO546 := n1_; have BK536 := n2_; have BK537 := n3_; have BK538 := n4_; have BK548 := n5_; have HB := n6_; have BK549 := n7_; have GW549 := n8_; have GE549 := n9_; have NB536_549 := n10_; have NB549_536 := n11_; have NB537_549 := n12_; have NB549_537 := n13_; have NB538_549 := n14_; have NB549_538 := n15_; have NB548_549 := n16_; have NB549_548 := n17_; clear n0_ n1_ n2_ n3_ n4_ n5_ n6_ n7_ n8_ n9_ n10_ n11_ n12_ n13_ n14_ n15_ n16_ n17_; clear hb hbox hg; have hnb15 := NB548_536.out; have hnc15 := NB536_548.out; have hnb16 := NB548_537.out; have hnc16 := NB537_548.out; have hnb17 := NB548_538.out; have hnc17 := NB538_548.out; have hnb18 := NB548_549.out; have hnc18 := NB549_548.out; have hcz19_0 : w14.cell? ⟨gb548, 0, none⟩ = some (.bool false) := (pzH BK548.out 0).trans rfl; have hcz19_1 : w14.cell? ⟨gb548, 1, none⟩ = some (.slice none 0 0) := (pzH BK548.out 1).trans rfl; have hfz19_0 := pzK BK548.out 0; have hfz19_1 := pzK BK548.out 1; obtain ⟨Ao20, co20, eo20⟩ := Kd.R_slice HO542.out; subst eo20; have hnb21 := NB549_536.out; have hnc21 := NB536_549.out; have hnb22 := NB549_537.out; have hnc22 := NB537_549.out; have hnb23 := NB549_538.out; have hnc23 := NB538_549.out; have hcz24_0 : w14.cell? ⟨gb549, 0, none⟩ = some (.bool false) := (pzH BK549.out 0).trans rfl; have hcz24_1 : w14.cell? ⟨gb549, 1, none⟩ = some (.slice none 0 0) := (pzH BK549.out 1).trans rfl; have hfz24_0 := pzK BK549.out 0; have hfz24_1 := pzK BK549.out 1; obtain ⟨Ao25, co25, eo25⟩ := Kd.R_slice HO546.out; subst eo25; have hcz26_0 : w14.cell? ⟨gb538, 0, none⟩ = some (.bool false) := (pzH BK538.out 0).trans rfl; have hcz26_1 : w14.cell? ⟨gb538, 1, none⟩ = some (.slice none 0 0) := (pzH BK538.out 1).trans rfl; have hfz26_0 := pzK BK538.out 0; have hfz26_1 := pzK BK538.out 1))
  refine bodyPost_ret (results_cell_row rfl _ _ gb538 24 #[.bool t543, .slice Ao25 t544.length co25] (0, 0) _ rfl (by (with_reducible repeat (first | refine pzF ?_ _ | refine pzG ?_ | refine pzE ?_ _)); refine pyC (cs := #[.bool t543, .slice none 0 0]) ?_ 1 _ rfl; (with_reducible repeat (first | refine pzF ?_ _ | refine pzG ?_ | refine pzE ?_ _)); refine pyC (cs := #[.bool false, .slice none 0 0]) ?_ 0 _ rfl; (with_reducible repeat (first | refine pzF ?_ _ | refine pzG ?_ | refine pzE ?_ _)); refine pyF ?_ NB538_549.out _; (with_reducible repeat (first | refine pzF ?_ _ | refine pzG ?_ | refine pzE ?_ _)); refine pyF ?_ NB538_549.out _; (with_reducible repeat (first | refine pzF ?_ _ | refine pzG ?_ | refine pzE ?_ _)); refine pyF ?_ NB538_548.out _; (with_reducible repeat (first | refine pzF ?_ _ | refine pzG ?_ | refine pzE ?_ _)); refine pyF ?_ NB538_548.out _; (with_reducible repeat (first | refine pzF ?_ _ | refine pzG ?_ | refine pzE ?_ _)); exact BK538.out) Try.underlying24 rfl (by kernel_rfl)) rfl ?_
  exact ⟨_, by first | rfl | (simp [pzN, pzM] <;> rfl) | (simp [*, pzN, pzM] <;> rfl), by (with_reducible repeat (first | apply Kd.R_alloc | apply Kd.R_drewN | apply Kd.R_drew)); exact Kd.R_mono (Kd.R_far (p := ⟨gb538, 1, none⟩) (Kd.R_far (p := ⟨gb538, 0, none⟩) (Kd.R_far (p := ⟨gb549, 1, none⟩) (Kd.R_far (p := ⟨gb549, 0, none⟩) (Kd.R_far (p := ⟨gb548, 1, none⟩) (Kd.R_far (p := ⟨gb548, 0, none⟩) (Kd.R_types (Kd.R_types (Kd.R_types HO546.out BK548.out (by decide)) BK549.out (by decide)) BK538.out (by decide)) (fun _ hk => hk.1.1.2) (.bool t539)) (fun _ hk => hk.1.1.2) (.slice Ao20 t540.length co20)) (fun _ hk => hk.1.2) (.bool t543)) (fun _ hk => hk.1.2) (.slice Ao25 t544.length co25)) (fun _ hk => hk.2) (.bool t543)) (fun _ hk => hk.2) (.slice Ao25 t544.length co25)) (fun _ hk => trivial), by repeat (first | (with_reducible first | exact HB.out | apply pzB | apply pzA | apply pzC | refine pzD ?_ GE536.out | refine pzD ?_ GE537.out | refine pzD ?_ GE538.out | refine pzD ?_ GE548.out | refine pzD ?_ GE549.out) | exact HB.out)⟩
end Go.Proofs.Ytpkgckccfanchaa.M

namespace Go.Proofs.Ytpkgckccfanchaa.M
open Go.RowKit YtpkgckccfanchaaW.PrintWords YtpkgckccfanchaaW.PrintLast YtpkgckccfanchaaW.PrintMore
attribute [local go_sem] pzW pzX pzY pzZ pzS pzT pzU pzV
set_option linter.unusedVariables false
set_option linter.unusedSimpArgs false
def ra_Divides.f (a0_0 : Bool) (l0_1 : List Int) (a1_0 : Bool) (l1_1 : List Int) : Option (Bool) := (ra_Sign.f a0_0 l0_1).bind fun t552 => (if t552 = 0 then ((ra_Sign.f a1_0 l1_1).bind fun t553 => (some (t553 == 0))) else ((ra_Rem.f a1_0 l1_1 a0_0 l0_1).bind fun bt554 => ((ra_Sign.f bt554.1 bt554.2).bind fun t558 => (some (t558 == 0)))))
set_option maxHeartbeats 8000000 in
set_option maxRecDepth 100000 in
theorem ra_Divides.calls (a0_0 : Bool) (A0_1 : Option Addr) (c0_1 : Nat) (l0_1 : List Int) (a1_0 : Bool) (A1_1 : Option Addr) (c1_1 : Nat) (l1_1 : List Int) (r : Bool) (w : World) (hr0_1 : Kd.C (Kd.int .u32) w A0_1 l0_1.length l0_1) (hc0_1 : l0_1.length ≤ c0_1) (hr1_1 : Kd.C (Kd.int .u32) w A1_1 l1_1.length l1_1) (hc1_1 : l1_1.length ≤ c1_1) (h : ra_Divides.f a0_0 l0_1 a1_0 l1_1 = some r) :
    Calls Try.prog 29 #[.agg #[.bool a0_0, .slice A0_1 l0_1.length c0_1], .agg #[.bool a1_0, .slice A1_1 l1_1.length c1_1]] w fun e w' => e = .returned (.bool r) ∧ Below w.heap.size w w' := by
  have hu24 := Try.underlying24; have HR0_1 := Aside0.mk hr0_1; have HC0_1 := Aside0.mk hc0_1; clear hr0_1 hc0_1; have HR1_1 := Aside0.mk hr1_1; have HC1_1 := Aside0.mk hc1_1; clear hr1_1 hc1_1; have HB := Aside0.mk (Below.refl w.heap.size w); have H : ((ra_Sign.f a0_0 l0_1).bind fun t552 => (if t552 = 0 then ((ra_Sign.f a1_0 l1_1).bind fun t553 => (some (t553 == 0))) else ((ra_Rem.f a1_0 l1_1 a0_0 l0_1).bind fun bt554 => ((ra_Sign.f bt554.1 bt554.2).bind fun t558 => (some (t558 == 0)))))) = some r := h; clear h; replace H := Option.bind_eq_some_iff.mp H; obtain ⟨t552, A30, H⟩ := H; replace H : (if t552 = 0 then ((ra_Sign.f a1_0 l1_1).bind fun t553 => (some (t553 == 0))) else ((ra_Rem.f a1_0 l1_1 a0_0 l0_1).bind fun bt554 => ((ra_Sign.f bt554.1 bt554.2).bind fun t558 => (some (t558 == 0))))) = some r := H; have A3 := Aside0.mk A30; clear A30
  by_cases c4 : t552 = 0
  · rw [if_pos c4] at H
    have c4b0 : (t552 == 0) = true := beq_iff_eq.mpr c4; have c4b1 : (t552 != 0) = false := bne_eq_false_iff_eq.mpr c4; clear c4; replace H := Option.bind_eq_some_iff.mp H; obtain ⟨t553, A50, H⟩ := H; replace H : (some (t553 == 0)) = some r := H; have A5 := Aside0.mk A50; clear A50; obtain rfl := Option.some.inj H
    go_enter Try.func29, Try.ntmps29
    go_wp2_with (first | ((with_reducible refine pzQ (N := 2) rfl ?_); refine pzR ?hg (N := 2) ?hd (cs := #[.bool a0_0, .slice A0_1 l0_1.length c0_1]) (t := 24) ?hr ?_; (case hd => rfl); (case hg => rfl); (case hr => first | (go_simp; done) | (go_simp; rfl)); intro gb550 hg w6 hbox hb; have n0_ := Aside0.mk (pzL (by repeat (first | (with_reducible first | exact HB.out | apply pzB | apply pzA | apply pzC) | exact HB.out)) hb); have n1_ := Aside0.mk (hbox); have n2_ := Aside0.mk ((by rw [hg]; exact (pzJ (by repeat (first | (with_reducible first | exact HB.out | apply pzB | apply pzA | apply pzC) | exact HB.out))) : w.heap.size ≤ gb550)); have n3_ := Aside0.mk ((by rw [hg]; exact (pzJ (by repeat (first | (with_reducible first | exact HB.out | apply pzB | apply pzA | apply pzC) | exact HB.out))) : w.heap.size ≤ gb550)); clear HB; have HB := n0_; have BK550 := n1_; have GW550 := n2_; have GE550 := n3_; clear n0_ n1_ n2_ n3_; clear hb hbox hg) | ((with_reducible refine pzQ (N := 3) rfl ?_); refine pzR ?hg (N := 3) ?hd (cs := #[.bool a1_0, .slice A1_1 l1_1.length c1_1]) (t := 24) ?hr ?_; (case hd => rfl); (case hg => rfl); (case hr => first | (go_simp; done) | (go_simp; rfl)); intro gb551 hg w7 hbox hb; have n0_ := Aside0.mk (pzI (g := gb550) (o := .cells #[.bool a0_0, .slice A0_1 l0_1.length c0_1] 24 (0, 0)) (by (with_reducible repeat (first | refine pzF ?_ _ | refine pzG ?_ | refine pzE ?_ _)); exact BK550.out) hb); have n1_ := Aside0.mk (pzL (by repeat (first | (with_reducible first | exact HB.out | apply pzB | apply pzA | apply pzC | refine pzD ?_ GE550.out) | exact HB.out)) hb); have n2_ := Aside0.mk (hbox); have n3_ := Aside0.mk ((by rw [hg]; exact (pzJ (by repeat (first | (with_reducible first | exact HB.out | apply pzB | apply pzA | apply pzC | refine pzD ?_ GE550.out) | exact HB.out))) : w.heap.size ≤ gb551)); have n4_ := Aside0.mk ((by rw [hg]; exact (pzJ (by repeat (first | (with_reducible first | exact HB.out | apply pzB | apply pzA | apply pzC | refine pzD ?_ GE550.out) | exact HB.out))) : w.heap.size ≤ gb551)); have n5_ := Aside0.mk ((by rw [hg]; exact Nat.ne_of_lt (pzO (g := gb550) (o := .cells #[.bool a0_0, .slice A0_1 l0_1.length c0_1] 24 (0, 0)) (by (with_reducible repeat (first | refine pzF ?_ _ | refine pzG ?_ | refine pzE ?_ _)); exact BK550.out)) : gb550 ≠ gb551)); have n6_ := Aside0.mk ((by rw [hg]; exact Nat.ne_of_gt (pzO (g := gb550) (o := .cells #[.bool a0_0, .slice A0_1 l0_1.length c0_1] 24 (0, 0)) (by (with_reducible repeat (first | refine pzF ?_ _ | refine pzG ?_ | refine pzE ?_ _)); exact BK550.out)) : gb551 ≠ gb550)); clear BK550; clear HB; have BK550 := n0_; have HB := n1_; have BK551 := n2_; have GW551 := n3_; have GE551 := n4_; have NB550_551 := n5_; have NB551_550 := n6_; clear n0_ n1_ n2_ n3_ n4_ n5_ n6_; clear hb hbox hg; have hnb8 := NB550_551.out; have hnc8 := NB551_550.out; have hcz9_0 : w7.cell? ⟨gb550, 0, none⟩ = some (.bool a0_0) := (pzH BK550.out 0).trans rfl; have hcz9_1 : w7.cell? ⟨gb550, 1, none⟩ = some (.slice A0_1 l0_1.length c0_1) := (pzH BK550.out 1).trans rfl; have hfz9_0 := pzK BK550.out 0; have hfz9_1 := pzK BK550.out 1) | ((with_reducible refine pzP (f := 28) rfl ?_); refine pyH (some 6) rfl rfl Try.func28 (by kernel_rfl) rfl #[.agg #[.bool a0_0, .slice A0_1 l0_1.length c0_1]] rfl (by (try simp only [List.map_toArray, List.map_cons, List.map_nil]); first | done | rfl | (simp only [List.length_drop, List.length_take]; rfl)) ?_; (with_reducible refine (ra_Sign.calls a0_0 _ _ l0_1 t552 _ ?side1 ?side2 A3.out).mono ?_); (case side1 => repeat (first | exact (Kd.C_below HR0_1.out HB.out) | (with_reducible refine Kd.C_alloc ?_ _) | (with_reducible refine Kd.C_drewN ?_ _) | (with_reducible refine Kd.C_drew ?_))); (case side2 => exact HC0_1.out); rintro e w10 ⟨rfl, hb⟩; refine ⟨_, rfl, ?_⟩; have n0_ := Aside0.mk (pzI (g := gb550) (o := .cells #[.bool a0_0, .slice A0_1 l0_1.length c0_1] 24 (0, 0)) (by (with_reducible repeat (first | refine pzF ?_ _ | refine pzG ?_ | refine pzE ?_ _)); exact BK550.out) hb); have n1_ := Aside0.mk (pzI (g := gb551) (o := .cells #[.bool a1_0, .slice A1_1 l1_1.length c1_1] 24 (0, 0)) (by (with_reducible repeat (first | refine pzF ?_ _ | refine pzG ?_ | refine pzE ?_ _)); exact BK551.out) hb); have n2_ := Aside0.mk (pzL (by repeat (first | (with_reducible first | exact HB.out | apply pzB | apply pzA | apply pzC | refine pzD ?_ GE550.out | refine pzD ?_ GE551.out) | exact HB.out)) hb); clear BK550; clear BK551; clear HB; have BK550 := n0_; have BK551 := n1_; have HB := n2_; clear n0_ n1_ n2_; (try clear hb); (try clear hb2); (try clear hk); (try clear hi); have hcz11_0 : w10.cell? ⟨gb551, 0, none⟩ = some (.bool a1_0) := (pzH BK551.out 0).trans rfl; have hcz11_1 : w10.cell? ⟨gb551, 1, none⟩ = some (.slice A1_1 l1_1.length c1_1) := (pzH BK551.out 1).trans rfl; have hfz11_0 := pzK BK551.out 0; have hfz11_1 := pzK BK551.out 1) | ((with_reducible refine pzP (f := 28) rfl ?_); refine pyH (some 9) rfl rfl Try.func28 (by kernel_rfl) rfl #[.agg #[.bool a1_0, .slice A1_1 l1_1.length c1_1]] rfl (by (try simp only [List.map_toArray, List.map_cons, List.map_nil]); first | done | rfl | (simp only [List.length_drop, List.length_take]; rfl)) ?_; (with_reducible refine (ra_Sign.calls a1_0 _ _ l1_1 t553 _ ?side1 ?side2 A5.out).mono ?_); (case side1 => repeat (first | exact (Kd.C_below HR1_1.out HB.out) | (with_reducible refine Kd.C_alloc ?_ _) | (with_reducible refine Kd.C_drewN ?_ _) | (with_reducible refine Kd.C_drew ?_))); (case side2 => exact HC1_1.out); rintro e w12 ⟨rfl, hb⟩; refine ⟨_, rfl, ?_⟩; have n0_ := Aside0.mk (pzI (g := gb550) (o := .cells #[.bool a0_0, .slice A0_1 l0_1.length c0_1] 24 (0, 0)) (by (with_reducible repeat (first | refine pzF ?_ _ | refine pzG ?_ | refine pzE ?_ _)); exact BK550.out) hb); have n1_ := Aside0.mk (pzI (g := gb551) (o := .cells #[.bool a1_0, .slice A1_1 l1_1.length c1_1] 24 (0, 0)) (by (with_reducible repeat (first | refine pzF ?_ _ | refine pzG ?_ | refine pzE ?_ _)); exact BK551.out) hb); have n2_ := Aside0.mk (pzL (by repeat (first | (with_reducible first | exact HB.out | apply pzB | apply pzA | apply pzC | refine pzD ?_ GE550.out | refine pzD ?_ GE551.out) | exact HB.out)) hb); clear BK550; clear BK551; clear HB; have BK550 := n0_; have BK551 := n1_; have HB := n2_; clear n0_ n1_ n2_; (try clear hb); (try clear hb2); (try clear hk); (try clear hi)))
    go_ret
    exact ⟨by first | rfl | (simp [pzN, pzM] <;> rfl) | (simp [*, pzN, pzM] <;> rfl), by repeat (first | (with_reducible first | exact HB.out | apply pzB | apply pzA | apply pzC | refine pzD ?_ GE550.out | refine pzD ?_ GE551.out) | exact HB.out)⟩
  · rw [if_neg c4] at H
    have c4b0 : (t552 == 0) = false := beq_eq_false_iff_ne.mpr c4; have c4b1 : (t552 != 0) = true := bne_iff_ne.mpr c4; replace H := Option.bind_eq_some_iff.mp H; obtain ⟨⟨t554, t555⟩, A130, H⟩ := H; replace H : ((ra_Sign.f t554 t555).bind fun t558 => (some (t558 == 0))) = some r := H; have A13 := Aside0.mk A130; clear A130; replace H := Option.bind_eq_some_iff.mp H; obtain ⟨t558, A140, H⟩ := H; replace H : (some (t558 == 0)) = some r := H; have A14 := Aside0.mk A140; clear A140; obtain rfl := Option.some.inj H
    go_enter Try.func29, Try.ntmps29
    go_wp2_with (first | ((with_reducible refine pzQ (N := 2) rfl ?_); refine pzR ?hg (N := 2) ?hd (cs := #[.bool a0_0, .slice A0_1 l0_1.length c0_1]) (t := 24) ?hr ?_; (case hd => rfl); (case hg => rfl); (case hr => first | (go_simp; done) | (go_simp; rfl)); intro gb550 hg w15 hbox hb; have n0_ := Aside0.mk (pzL (by repeat (first | (with_reducible first | exact HB.out | apply pzB | apply pzA | apply pzC) | exact HB.out)) hb); have n1_ := Aside0.mk (hbox); have n2_ := Aside0.mk ((by rw [hg]; exact (pzJ (by repeat (first | (with_reducible first | exact HB.out | apply pzB | apply pzA | apply pzC) | exact HB.out))) : w.heap.size ≤ gb550)); have n3_ := Aside0.mk ((by rw [hg]; exact (pzJ (by repeat (first | (with_reducible first | exact HB.out | apply pzB | apply pzA | apply pzC) | exact HB.out))) : w.heap.size ≤ gb550)); clear HB; have HB := n0_; have BK550 := n1_; have GW550 := n2_; have GE550 := n3_; clear n0_ n1_ n2_ n3_; clear hb hbox hg) | ((with_reducible refine pzQ (N := 3) rfl ?_); refine pzR ?hg (N := 3) ?hd (cs := #[.bool a1_0, .slice A1_1 l1_1.length c1_1]) (t := 24) ?hr ?_; (case hd => rfl); (case hg => rfl); (case hr => first | (go_simp; done) | (go_simp; rfl)); intro gb551 hg w16 hbox hb; have n0_ := Aside0.mk (pzI (g := gb550) (o := .cells #[.bool a0_0, .slice A0_1 l0_1.length c0_1] 24 (0, 0)) (by (with_reducible repeat (first | refine pzF ?_ _ | refine pzG ?_ | refine pzE ?_ _)); exact BK550.out) hb); have n1_ := Aside0.mk (pzL (by repeat (first | (with_reducible first | exact HB.out | apply pzB | apply pzA | apply pzC | refine pzD ?_ GE550.out) | exact HB.out)) hb); have n2_ := Aside0.mk (hbox); have n3_ := Aside0.mk ((by rw [hg]; exact (pzJ (by repeat (first | (with_reducible first | exact HB.out | apply pzB | apply pzA | apply pzC | refine pzD ?_ GE550.out) | exact HB.out))) : w.heap.size ≤ gb551)); have n4_ := Aside0.mk ((by rw [hg]; exact (pzJ (by repeat (first | (with_reducible first | exact HB.out | apply pzB | apply pzA | apply pzC | refine pzD ?_ GE550.out) | exact HB.out))) : w.heap.size ≤ gb551)); have n5_ := Aside0.mk ((by rw [hg]; exact Nat.ne_of_lt (pzO (g := gb550) (o := .cells #[.bool a0_0, .slice A0_1 l0_1.length c0_1] 24 (0, 0)) (by (with_reducible repeat (first | refine pzF ?_ _ | refine pzG ?_ | refine pzE ?_ _)); exact BK550.out)) : gb550 ≠ gb551)); have n6_ := Aside0.mk ((by rw [hg]; exact Nat.ne_of_gt (pzO (g := gb550) (o := .cells #[.bool a0_0, .slice A0_1 l0_1.length c0_1] 24 (0, 0)) (by (with_reducible repeat (first | refine pzF ?_ _ | refine pzG ?_ | refine pzE ?_ _)); exact BK550.out)) : gb551 ≠ gb550)); clear BK550; clear HB; have BK550 := n0_; have HB := n1_; have BK551 := n2_; have GW551 := n3_; have GE551 := n4_; have NB550_551 := n5_; have NB551_550 := n6_; clear n0_ n1_ n2_ n3_ n4_ n5_ n6_; clear hb hbox hg; have hnb17 := NB550_551.out; have hnc17 := NB551_550.out; have hcz18_0 : w16.cell? ⟨gb550, 0, none⟩ = some (.bool a0_0) := (pzH BK550.out 0).trans rfl; have hcz18_1 : w16.cell? ⟨gb550, 1, none⟩ = some (.slice A0_1 l0_1.length c0_1) := (pzH BK550.out 1).trans rfl; have hfz18_0 := pzK BK550.out 0; have hfz18_1 := pzK BK550.out 1) | ((with_reducible refine pzP (f := 28) rfl ?_); refine pyH (some 6) rfl rfl Try.func28 (by kernel_rfl) rfl #[.agg #[.bool a0_0, .slice A0_1 l0_1.length c0_1]] rfl (by (try simp only [List.map_toArray, List.map_cons, List.map_nil]); first | done | rfl | (simp only [List.length_drop, List.length_take]; rfl)) ?_; (with_reducible refine (ra_Sign.calls a0_0 _ _ l0_1 t552 _ ?side1 ?side2 A3.out).mono ?_); (case side1 => repeat (first | exact (Kd.C_below HR0_1.out HB.out) | (with_reducible refine Kd.C_alloc ?_ _) | (with_reducible refine Kd.C_drewN ?_ _) | (with_reducible refine Kd.C_drew ?_))); (case side2 => exact HC0_1.out); rintro e w19 ⟨rfl, hb⟩; refine ⟨_, rfl, ?_⟩; have n0_ := Aside0.mk (pzI (g := gb550) (o := .cells #[.bool a0_0, .slice A0_1 l0_1.length c0_1] 24 (0, 0)) (by (with_reducible repeat (first | refine pzF ?_ _ | refine pzG ?_ | refine pzE ?_ _)); exact BK550.out) hb); have n1_ := Aside0.mk (pzI (g := gb551) (o := .cells #[.bool a1_0, .slice A1_1 l1_1.length c1_1] 24 (0, 0)) (by (with_reducible repeat (first | refine pzF ?_ _ | refine pzG ?_ | refine pzE ?_ _)); exact BK551.out) hb); have n2_ := Aside0.mk (pzL (by repeat (first | (with_reducible first | exact HB.out | apply pzB | apply pzA | apply pzC | refine pzD ?_ GE550.out | refine pzD ?_ GE551.out) | exact HB.out)) hb); clear BK550; clear BK551; clear HB; have BK550 := n0_; have BK551 := n1_; have HB := n2_; clear n0_ n1_ n2_; (try clear hb); (try clear hb2); (try clear hk); (try clear hi); have hcz20_0 : w19.cell? ⟨gb551, 0, none⟩ = some (.bool a1_0) := (pzH BK551.out 0).trans rfl; have hcz20_1 : w19.cell? ⟨gb551, 1, none⟩ = some (.slice A1_1 l1_1.length c1_1) := (pzH BK551.out 1).trans rfl; have hfz20_0 := pzK BK551.out 0; have hfz20_1 := pzK BK551.out 1; have hcz21_0 : w19.cell? ⟨gb550, 0, none⟩ = some (.bool a0_0) := (pzH BK550.out 0).trans rfl; have hcz21_1 : w19.cell? ⟨gb550, 1, none⟩ = some (.slice A0_1 l0_1.length c0_1) := (pzH BK550.out 1).trans rfl; have hfz21_0 := pzK BK550.out 0; have hfz21_1 := pzK BK550.out 1) | ((with_reducible refine pzP (f := 62) rfl ?_); refine pyH (some 13) rfl rfl Try.func62 (by kernel_rfl) rfl #[.agg #[.bool a1_0, .slice A1_1 l1_1.length c1_1], .agg #[.bool a0_0, .slice A0_1 l0_1.length c0_1]] rfl (by (try simp only [List.map_toArray, List.map_cons, List.map_nil]); first | done | rfl | (simp only [List.length_drop, List.length_take]; rfl)) ?_; (with_reducible refine (ra_Rem.calls a1_0 _ _ l1_1 a0_0 _ _ l0_1 t554 t555 _ ?side1 ?side2 ?side3 ?side4 A13.out).mono ?_); (case side1 => repeat (first | exact (Kd.C_below HR1_1.out HB.out) | (with_reducible refine Kd.C_alloc ?_ _) | (with_reducible refine Kd.C_drewN ?_ _) | (with_reducible refine Kd.C_drew ?_))); (case side2 => exact HC1_1.out); (case side3 => repeat (first | exact (Kd.C_below HR0_1.out HB.out) | (with_reducible refine Kd.C_alloc ?_ _) | (with_reducible refine Kd.C_drewN ?_ _) | (with_reducible refine Kd.C_drew ?_))); (case side4 => exact HC0_1.out); rintro e w22 ⟨v556, rfl, ho0, hb⟩; refine ⟨_, rfl, ?_⟩; have n0_ := Aside0.mk (Kd.R_lower ho0 (pzJ (by repeat (first | (with_reducible first | exact HB.out | apply pzB | apply pzA | apply pzC | refine pzD ?_ GE550.out | refine pzD ?_ GE551.out) | exact HB.out)))); have n1_ := Aside0.mk (pzI (g := gb550) (o := .cells #[.bool a0_0, .slice A0_1 l0_1.length c0_1] 24 (0, 0)) (by (with_reducible repeat (first | refine pzF ?_ _ | refine pzG ?_ | refine pzE ?_ _)); exact BK550.out) hb); have n2_ := Aside0.mk (pzI (g := gb551) (o := .cells #[.bool a1_0, .slice A1_1 l1_1.length c1_1] 24 (0, 0)) (by (with_reducible repeat (first | refine pzF ?_ _ | refine pzG ?_ | refine pzE ?_ _)); exact BK551.out) hb); have n3_ := Aside0.mk (pzL (by repeat (first | (with_reducible first | exact HB.out | apply pzB | apply pzA | apply pzC | refine pzD ?_ GE550.out | refine pzD ?_ GE551.out) | exact HB.out)) hb); clear BK550; clear BK551; clear HB; have HO557 := n0_; have BK550 := n1_; have BK551 := n2_; have HB := n3_; clear n0_ n1_ n2_ n3_; (try clear hb); (try clear hb2); (try clear hk); (try clear hi); (try clear ho0); obtain ⟨Ao23, co23, eo23⟩ := Kd.R_slice HO557.out; subst eo23) | ((with_reducible refine pzP (f := 28) rfl ?_); refine pyH (some 14) rfl rfl Try.func28 (by kernel_rfl) rfl #[.agg #[.bool t554, .slice Ao23 t555.length co23]] rfl (by (try simp only [List.map_toArray, List.map_cons, List.map_nil]); first | done | rfl | (simp only [List.length_drop, List.length_take]; rfl)) ?_; (with_reducible refine (ra_Sign.calls t554 _ _ t555 t558 _ ?side1 ?side2 A14.out).mono ?_); (case side1 => repeat (first | exact (Kd.R_reads' HO557.out).2.2 | (with_reducible refine Kd.C_alloc ?_ _) | (with_reducible refine Kd.C_drewN ?_ _) | (with_reducible refine Kd.C_drew ?_))); (case side2 => exact (Kd.R_reads' HO557.out).2.1); rintro e w24 ⟨rfl, hb⟩; refine ⟨_, rfl, ?_⟩; have n0_ := Aside0.mk (Kd.R_below (by (with_reducible repeat (first | apply Kd.R_alloc | apply Kd.R_drewN | apply Kd.R_drew)); exact HO557.out) hb); have n1_ := Aside0.mk (pzI (g := gb550) (o := .cells #[.bool a0_0, .slice A0_1 l0_1.length c0_1] 24 (0, 0)) (by (with_reducible repeat (first | refine pzF ?_ _ | refine pzG ?_ | refine pzE ?_ _)); exact BK550.out) hb); have n2_ := Aside0.mk (pzI (g := gb551) (o := .cells #[.bool a1_0, .slice A1_1 l1_1.length c1_1] 24 (0, 0)) (by (with_reducible repeat (first | refine pzF ?_ _ | refine pzG ?_ | refine pzE ?_ _)); exact BK551.out) hb); have n3_ := Aside0.mk (pzL (by repeat (first | (with_reducible first | exact HB.out | apply pzB | apply pzA | apply pzC | refine pzD ?_ GE550.out | refine pzD ?_ GE551.out) | exact HB.out)) hb); clear HO557; clear BK550; clear BK551; clear HB; have HO557 := n0_; have BK550 := n1_; have BK551 := n2_; have HB := n3_; clear n0_ n1_ n2_ n3_; (try clear hb); (try clear hb2); (try clear hk); (try clear hi)))
    go_ret
    exact ⟨by first | rfl | (simp [pzN, pzM] <;> rfl) | (simp [*, pzN, pzM] <;> rfl), by repeat (first | (with_reducible first | exact HB.out | apply pzB | apply pzA | apply pzC | refine pzD ?_ GE550.out | refine pzD ?_ GE551.out) | exact HB.out)⟩
end Go.Proofs.Ytpkgckccfanchaa.M

namespace Go.Proofs.Ytpkgckccfanchaa.M
open Go.RowKit YtpkgckccfanchaaW.PrintWords YtpkgckccfanchaaW.PrintLast YtpkgckccfanchaaW.PrintMore
open Sims
set_option linter.unusedVariables false
set_option linter.unusedSimpArgs false
theorem div_fin : (divs.all fun P => divs.all fun Q => !(Q % P == 0) || decide (ra_Divides.f false [(P : Int)] false [(Q : Int)] = some true)) = true := by decide +kernel
theorem div_r {P Q : Nat} (h : P ∣ Q) (hQ : Q ∣ 40320) : ra_Divides.f false [(P : Int)] false [(Q : Int)] = some true := by
  have h1 := List.all_eq_true.1 (List.all_eq_true.1 div_fin P (divs_mem (Nat.dvd_trans h hQ))) Q (divs_mem hQ)
  have h2 : (Q % P == 0) = true := by simpa using Nat.mod_eq_zero_of_dvd h
  rw [h2] at h1
  simpa only [Bool.not_true, Bool.false_or, decide_eq_true_eq] using h1
end Go.Proofs.Ytpkgckccfanchaa.M

namespace Go.Proofs.Ytpkgckccfanchaa.M
open Go.RowKit YtpkgckccfanchaaW.PrintWords YtpkgckccfanchaaW.PrintLast YtpkgckccfanchaaW.PrintMore
attribute [local go_sem] pzW pzX pzY pzZ pzS pzT pzU pzV
set_option linter.unusedVariables false
set_option linter.unusedSimpArgs false
def rb_product.l0 : Nat → List Int → List Int → List Int → Int → Int → Option (List Int)
  | 0, _, _, _, _, _ => none
  | k + 1, x1, x5, x8, x9, x10 => if x10 < x9 then (if 0 ≤ x10 then (if x10 < (x8.length : Int) then (if 0 ≤ (rd x8 x10) then (if (rd x8 x10) < (x1.length : Int) then (if x5.length < 17592186044416 then (rb_product.l0 k x1 (x5 ++ [rd x1 (rd x8 x10)]) x8 x9 (wrap64 (x10 + 1))) else (none)) else (none)) else (none)) else (none)) else (none)) else (some x5)
def rb_product.f (k : Nat) (l0 : List Int) (l1 : List Int) : Option (List Int) := rb_product.l0 k l1 ([] : List Int) l0 (l0.length : Int) 0
theorem rb_product.mono_l : ∀ k, (∀ y0 y1 y2 y3 y4, LeO (rb_product.l0 k y0 y1 y2 y3 y4) (rb_product.l0 (k + 1) y0 y1 y2 y3 y4))
  | 0 => fun _ _ _ _ _ r h => by simp [rb_product.l0] at h
  | k + 1 => by
    have ih0 := rb_product.mono_l k
    · intro y0 y1 y2 y3 y4
      unfold rb_product.l0
      repeat' first
      | (with_reducible exact ih0 _ _ _ _ _)
      | (with_reducible exact LeO.refl _)
      | (with_reducible exact LeO.none _)
      | (with_reducible refine LeO.ite ?_ ?_)
      | (with_reducible refine LeO.bind ?_ (fun _ => ?_))
      | exact ih0 _ _ _ _ _
      | exact LeO.none _
      | refine LeO.ite ?_ ?_
      | refine LeO.bind ?_ (fun _ => ?_)
theorem rb_product.mono : ∀ a0 a1 k, LeO (rb_product.f k a0 a1) (rb_product.f (k + 1) a0 a1) := by
  intro a0 a1 k; have ih0 := rb_product.mono_l k
  unfold rb_product.f
  repeat' first
      | (with_reducible exact ih0 _ _ _ _ _)
      | (with_reducible exact LeO.refl _)
      | (with_reducible exact LeO.none _)
      | (with_reducible refine LeO.ite ?_ ?_)
      | (with_reducible refine LeO.bind ?_ (fun _ => ?_))
      | exact ih0 _ _ _ _ _
      | exact LeO.none _
      | refine LeO.ite ?_ ?_
      | refine LeO.bind ?_ (fun _ => ?_)
set_option maxHeartbeats 8000000 in
set_option maxRecDepth 100000 in
theorem rb_product.calls (k : Nat) (A0 : Option Addr) (c0 : Nat) (l0 : List Int) (A1 : Option Addr) (c1 : Nat) (l1 : List Int) (r : List Int) (w : World) (hr0 : Kd.C (Kd.int .i64) w A0 l0.length l0) (hc0 : l0.length ≤ c0) (hr1 : Kd.C (Kd.int .i64) w A1 l1.length l1) (hc1 : l1.length ≤ c1) (h : rb_product.f k l0 l1 = some r) :
    Calls Try.prog 60 #[.slice A0 l0.length c0, .slice A1 l1.length c1] w fun e w' => ∃ v0_ : Value, e = .returned (v0_) ∧ Kd.R (Kd.int .i64) 3 w' w.heap.size (fun _ => True) v0_ r ∧ Below w.heap.size w w' := by
  have HR0 := Aside0.mk hr0; have HC0 := Aside0.mk hc0; clear hr0 hc0; have HR1 := Aside0.mk hr1; have HC1 := Aside0.mk hc1; clear hr1 hc1; have HB := Aside0.mk (Below.refl w.heap.size w); have H : (rb_product.l0 k l1 ([] : List Int) l0 (l0.length : Int) 0) = some r := h; clear h; have H' := Aside0.mk H; clear H
  go_enter Try.func60, Try.ntmps60
  go_wp2
  go_loopg [5, 10] k (fun kq v5 v10 w' => ∃ (x5_1 : List Int) (x10_1 : Int), v10 = .int .i64 x10_1 ∧ Aside0 (rb_product.l0 kq l1 x5_1 l0 (l0.length : Int) x10_1 = some r) ∧ Aside0 (kq ≤ k) ∧ Aside0 (Kd.R (Kd.int .i64) 3 w' w.heap.size (fun _ => True) v5 x5_1) ∧ Aside0 (Below w.heap.size w w'))
  case atStart => exact ⟨(([] : List Int)), (0), (by first | rfl | (simp; done) | (simp [*]; done)), H', ⟨Nat.le_refl _⟩, ⟨by first | exact Kd.R_nil _ _ _ _ _ | exact Kd.N_nil _ _ _ _ _ | exact Kd.V_nil _ _ _ _ _ | exact Kd.Q_nil _ _ _ _ _ | exact Kd.S_nil _ _ _ _ _⟩, ⟨by repeat (first | (with_reducible first | exact HB.out | apply pzB | apply pzA | apply pzC) | exact HB.out)⟩⟩
  case round =>
    clear H'
    try clear c1
    try clear p2
    obtain ⟨x5_1, x10_1, rfl, HA, HK1, HO_5, HB⟩ := hrel; cases gk with
    | zero => exact absurd HA.out (by simp [rb_product.l0])
    | succ k1 =>
      have H := HA.out; clear HA
      simp only [rb_product.l0] at H
      by_cases c3 : x10_1 < (l0.length : Int)
      · rw [if_pos c3] at H
        have c3b0 : decide (x10_1 < (l0.length : Int)) = true := decide_eq_true c3; clear c3
        by_cases c4 : 0 ≤ x10_1
        · rw [if_pos c4] at H
          have c4b0 : decide (0 ≤ x10_1) = true := decide_eq_true c4; clear c4
          by_cases c5 : x10_1 < (l0.length : Int)
          · rw [if_pos c5] at H
            have c5b0 : decide (x10_1 < (l0.length : Int)) = true := decide_eq_true c5; clear c5
            by_cases c6 : 0 ≤ (rd l0 x10_1)
            · rw [if_pos c6] at H
              have c6b0 : decide (0 ≤ (rd l0 x10_1)) = true := decide_eq_true c6; clear c6
              by_cases c7 : (rd l0 x10_1) < (l1.length : Int)
              · rw [if_pos c7] at H
                have c7b0 : decide ((rd l0 x10_1) < (l1.length : Int)) = true := decide_eq_true c7; clear c7
                by_cases c8 : x5_1.length < 17592186044416
                · rw [if_pos c8] at H
                  have LMc8 := Aside0.mk c8; clear c8
                  obtain ⟨y307, hy307⟩ : ∃ y_ : List Int, y_ = (x5_1 ++ [rd l1 (rd l0 x10_1)]) := ⟨_, rfl⟩
                  replace H : (rb_product.l0 k1 l1 y307 l0 (l0.length : Int) (wrap64 (x10_1 + 1))) = some r := by first | (rw [hy307]; with_reducible exact H) | (have H2_ := (Option.bind_some _ _).symm.trans H; rw [hy307]; with_reducible exact H2_) | (have H2_ := (Option.bind_some _ _).symm.trans H; with_reducible exact H2_) | with_reducible exact H | (rw [hy307]; exact H) | exact H
                  have Ny307 := Aside0.mk hy307; clear hy307; have H' := Aside0.mk H; clear H; have p305 : 0 ≤ (x10_1 : Int) := of_decide_eq_true (by first | (with_reducible assumption) | assumption); have q305 : x10_1 < (l0.length : Int) := of_decide_eq_true (by first | (with_reducible assumption) | assumption); obtain ⟨ad305, e305, hx305_0⟩ := Kd.at_int HR0.out x10_1 p305 q305; cases e305; replace hx305_0 := (HB.out.cell (World.block_lt_of_cell? w _ hx305_0)).trans hx305_0; replace p305 := eq_true p305; replace q305 := eq_true q305; have p306 : 0 ≤ ((rd l0 x10_1) : Int) := of_decide_eq_true (by first | (with_reducible assumption) | assumption); have q306 : (rd l0 x10_1) < (l1.length : Int) := of_decide_eq_true (by first | (with_reducible assumption) | assumption); obtain ⟨ad306, e306, hx306_0⟩ := Kd.at_int HR1.out (rd l0 x10_1) p306 q306; cases e306; replace hx306_0 := (HB.out.cell (World.block_lt_of_cell? w _ hx306_0)).trans hx306_0; replace p306 := eq_true p306; replace q306 := eq_true q306
                  go_wp2_with (first | ((with_reducible refine gate_builtin (b := .append) (xs := #[.tmp 14, .tmp 19]) rfl ?_); at_builtin; refine Kd.R_append (Kd.int .i64) (w0 := w) w.heap.size rfl (.tmp 14) (.tmp 19) 28 3 (.int .i64 0) 8 rfl Try.underlying28 info3 rfl (by decide) (by omega) u5 x5_1 (rd l1 (rd l0 x10_1)) [.int .i64 (rd l1 (rd l0 x10_1))] (fun _ => True) (fun _ => False) rfl rfl ?aP (fun _ hk => hk.elim) ?aF ?aO ?aB ?aS ?aL ?_; (case aP => exact rfl); (case aB => exact (by repeat (first | (with_reducible first | exact HB.out | apply pzB | apply pzA | apply pzC) | exact HB.out))); (case aF => exact (fun _ _ => trivial)); (case aO => exact (by (with_reducible repeat (first | apply Kd.R_alloc | apply Kd.R_drewN | apply Kd.R_drew)); exact HO_5.out)); (case aS => exact (pzJ (by repeat (first | (with_reducible first | exact HB.out | apply pzB | apply pzA | apply pzC) | exact HB.out)))); (case aL => have := LMc8.out; omega); intro v308 w9 ho hb hg hat; rw [← Ny307.out] at ho; have n0_ := Aside0.mk (hb); have n1_ := Aside0.mk (ho); clear HB; clear HO_5; have HB := n0_; have HO309 := n1_; clear n0_ n1_; clear ho hb hg hat))
                  go_roundg k1
                  case measure => have := HK1.out; omega
                  case rel => exact ⟨(y307), (wrap64 (x10_1 + 1)), (by first | rfl | (simp; done) | (simp [*]; done)), H', ⟨by have := HK1.out; omega⟩, ⟨by (with_reducible repeat (first | apply Kd.R_alloc | apply Kd.R_drewN | apply Kd.R_drew)); exact HO309.out⟩, ⟨by repeat (first | (with_reducible first | exact HB.out | apply pzB | apply pzA | apply pzC) | exact HB.out)⟩⟩
                · rw [if_neg c8] at H
                  exact absurd H (by simp)
              · rw [if_neg c7] at H
                exact absurd H (by simp)
            · rw [if_neg c6] at H
              exact absurd H (by simp)
          · rw [if_neg c5] at H
            exact absurd H (by simp)
        · rw [if_neg c4] at H
          exact absurd H (by simp)
      · rw [if_neg c3] at H
        have c3b0 : decide (x10_1 < (l0.length : Int)) = false := decide_eq_false c3; clear c3; obtain rfl := Option.some.inj H
        go_wp2
        go_ret
        exact ⟨_, by first | rfl | (simp [pzN, pzM] <;> rfl) | (simp [*, pzN, pzM] <;> rfl), by (with_reducible repeat (first | apply Kd.R_alloc | apply Kd.R_drewN | apply Kd.R_drew)); exact HO_5.out, by repeat (first | (with_reducible first | exact HB.out | apply pzB | apply pzA | apply pzC) | exact HB.out)⟩
end Go.Proofs.Ytpkgckccfanchaa.M

namespace Go.Proofs.Ytpkgckccfanchaa.M
open Go.RowKit YtpkgckccfanchaaW.PrintWords YtpkgckccfanchaaW.PrintLast YtpkgckccfanchaaW.PrintMore
attribute [local go_sem] pzW pzX pzY pzZ pzS pzT pzU pzV
set_option linter.unusedVariables false
set_option linter.unusedSimpArgs false
def rb_inverse.l0 : Nat → List Int → List Int → Int → Int → Option (List Int)
  | 0, _, _, _, _ => none
  | k + 1, x3, x9, x10, x11 => if x11 < x10 then (if 0 ≤ x11 then (if x11 < (x9.length : Int) then (if 0 ≤ (rd x9 x11) then (if (rd x9 x11) < (x3.length : Int) then (rb_inverse.l0 k (x3.set ((rd x9 x11) : Int).toNat x11) x9 x10 (wrap64 (x11 + 1))) else (none)) else (none)) else (none)) else (none)) else (some x3)
def rb_inverse.f (k : Nat) (l0 : List Int) : Option (List Int) := if 0 ≤ (l0.length : Int) then (if ((l0.length : Int) : Int).toNat ≤ 35184372088832 then (rb_inverse.l0 k (List.replicate ((l0.length : Int) : Int).toNat 0) l0 (l0.length : Int) 0) else (none)) else (none)
theorem rb_inverse.mono_l : ∀ k, (∀ y0 y1 y2 y3, LeO (rb_inverse.l0 k y0 y1 y2 y3) (rb_inverse.l0 (k + 1) y0 y1 y2 y3))
  | 0 => fun _ _ _ _ r h => by simp [rb_inverse.l0] at h
  | k + 1 => by
    have ih0 := rb_inverse.mono_l k
    · intro y0 y1 y2 y3
      unfold rb_inverse.l0
      repeat' first
      | (with_reducible exact ih0 _ _ _ _)
      | (with_reducible exact LeO.refl _)
      | (with_reducible exact LeO.none _)
      | (with_reducible refine LeO.ite ?_ ?_)
      | (with_reducible refine LeO.bind ?_ (fun _ => ?_))
      | exact ih0 _ _ _ _
      | exact LeO.none _
      | refine LeO.ite ?_ ?_
      | refine LeO.bind ?_ (fun _ => ?_)
theorem rb_inverse.mono : ∀ a0 k, LeO (rb_inverse.f k a0) (rb_inverse.f (k + 1) a0) := by
  intro a0 k; have ih0 := rb_inverse.mono_l k
  unfold rb_inverse.f
  repeat' first
      | (with_reducible exact ih0 _ _ _ _)
      | (with_reducible exact LeO.refl _)
      | (with_reducible exact LeO.none _)
      | (with_reducible refine LeO.ite ?_ ?_)
      | (with_reducible refine LeO.bind ?_ (fun _ => ?_))
      | exact ih0 _ _ _ _
      | exact LeO.none _
      | refine LeO.ite ?_ ?_
      | refine LeO.bind ?_ (fun _ => ?_)
set_option maxHeartbeats 8000000 in
set_option maxRecDepth 100000 in
theorem rb_inverse.calls (k : Nat) (A0 : Option Addr) (c0 : Nat) (l0 : List Int) (r : List Int) (w : World) (hr0 : Kd.C (Kd.int .i64) w A0 l0.length l0) (hc0 : l0.length ≤ c0) (h : rb_inverse.f k l0 = some r) :
    Calls Try.prog 59 #[.slice A0 l0.length c0] w fun e w' => ∃ v0_ : Value, e = .returned (v0_) ∧ Kd.R (Kd.int .i64) 3 w' w.heap.size (fun _ => True) v0_ r ∧ Below w.heap.size w w' := by
  have HR0 := Aside0.mk hr0; have HC0 := Aside0.mk hc0; clear hr0 hc0; have HB := Aside0.mk (Below.refl w.heap.size w); have H : (if 0 ≤ (l0.length : Int) then (if ((l0.length : Int) : Int).toNat ≤ 35184372088832 then (rb_inverse.l0 k (List.replicate ((l0.length : Int) : Int).toNat 0) l0 (l0.length : Int) 0) else (none)) else (none)) = some r := h; clear h
  by_cases c2 : 0 ≤ (l0.length : Int)
  · rw [if_pos c2] at H
    have c2b0 := eq_true c2; have c2b1 : decide (0 ≤ (l0.length : Int)) = true := decide_eq_true c2; clear c2
    by_cases c3 : ((l0.length : Int) : Int).toNat ≤ 35184372088832
    · rw [if_pos c3] at H
      have c3b0 := eq_true c3; have c3b1 : decide (((l0.length : Int) : Int).toNat ≤ 35184372088832) = true := decide_eq_true c3; clear c3
      obtain ⟨y326, hy326⟩ : ∃ y_ : List Int, y_ = (List.replicate ((l0.length : Int) : Int).toNat 0) := ⟨_, rfl⟩
      replace H : (rb_inverse.l0 k y326 l0 (l0.length : Int) 0) = some r := by first | (rw [hy326]; with_reducible exact H) | (have H2_ := (Option.bind_some _ _).symm.trans H; rw [hy326]; with_reducible exact H2_) | (have H2_ := (Option.bind_some _ _).symm.trans H; with_reducible exact H2_) | with_reducible exact H | (rw [hy326]; exact H) | exact H
      have Ny326 := Aside0.mk hy326; clear hy326; have H' := Aside0.mk H; clear H
      go_enter Try.func59, Try.ntmps59
      go_wp2_with (first | ((with_reducible refine pzQ (N := 8) rfl ?_); refine Kd.R_make (Kd.int .i64) _ 3 rfl (N := 8) rfl 28 _ _ rfl (l0.length : Int) rfl rfl Try.underlying28 (.int .i64 0) 8 info3 rfl (by decide) (by omega) 0 (ok := fun _ => True) (okp := fun _ => True) rfl (fun _ hk => hk) trivial (of_decide_eq_true (by first | (with_reducible assumption) | assumption)) (Nat.le_trans (Nat.mul_le_mul_right _ (of_decide_eq_true (by first | (with_reducible assumption) | assumption) : (l0.length : Int).toNat ≤ 35184372088832)) (by omega)) (Below.refl _ _) (Nat.le_refl _) ?_; intro v327 w4 ho5 hb hg_ hnew_; clear hg_ hnew_; (first | rw [← Ny326.out] at ho5 | (simp only [Int.reduceToNat] at ho5; rw [← Ny326.out] at ho5)); have n0_ := Aside0.mk (Kd.R_lower ho5 (pzJ (by repeat (first | (with_reducible first | exact HB.out | apply pzB | apply pzA | apply pzC) | exact HB.out)))); have n1_ := Aside0.mk (pzL (by repeat (first | (with_reducible first | exact HB.out | apply pzB | apply pzA | apply pzC) | exact HB.out)) hb); clear HB; have HO328 := n0_; have HB := n1_; clear n0_ n1_; clear hb ho5))
      go_loopg [11] k (fun kq v11 w' => ∃ (x3_1 : List Int) (x11_1 : Int), v11 = .int .i64 x11_1 ∧ Aside0 (rb_inverse.l0 kq x3_1 l0 (l0.length : Int) x11_1 = some r) ∧ Aside0 (kq ≤ k) ∧ Aside0 (Kd.R (Kd.int .i64) 3 w' w.heap.size (fun _ => True) v327 x3_1) ∧ Aside0 (Below w.heap.size w w'))
      case atStart => exact ⟨(y326), (0), (by first | rfl | (simp; done) | (simp [*]; done)), H', ⟨Nat.le_refl _⟩, ⟨by (with_reducible repeat (first | apply Kd.R_alloc | apply Kd.R_drewN | apply Kd.R_drew)); exact HO328.out⟩, ⟨by repeat (first | (with_reducible first | exact HB.out | apply pzB | apply pzA | apply pzC) | exact HB.out)⟩⟩
      case round =>
        clear H'
        try clear c2
        try clear c2b0
        try clear c2b1
        try clear p2
        try clear c3
        try clear c3b0
        try clear c3b1
        try clear c5
        obtain ⟨x3_1, x11_1, rfl, HA, HK1, HO_3, HB⟩ := hrel; cases gk with
        | zero => exact absurd HA.out (by simp [rb_inverse.l0])
        | succ k1 =>
          have H := HA.out; clear HA
          simp only [rb_inverse.l0] at H
          by_cases c6 : x11_1 < (l0.length : Int)
          · rw [if_pos c6] at H
            have c6b0 : decide (x11_1 < (l0.length : Int)) = true := decide_eq_true c6; clear c6
            by_cases c7 : 0 ≤ x11_1
            · rw [if_pos c7] at H
              have c7b0 : decide (0 ≤ x11_1) = true := decide_eq_true c7; clear c7
              by_cases c8 : x11_1 < (l0.length : Int)
              · rw [if_pos c8] at H
                have c8b0 : decide (x11_1 < (l0.length : Int)) = true := decide_eq_true c8; clear c8
                by_cases c9 : 0 ≤ (rd l0 x11_1)
                · rw [if_pos c9] at H
                  have c9b0 : decide (0 ≤ (rd l0 x11_1)) = true := decide_eq_true c9; clear c9
                  by_cases c10 : (rd l0 x11_1) < (x3_1.length : Int)
                  · rw [if_pos c10] at H
                    have c10b0 : decide ((rd l0 x11_1) < (x3_1.length : Int)) = true := decide_eq_true c10; clear c10
                    obtain ⟨y330, hy330⟩ : ∃ y_ : List Int, y_ = (x3_1.set ((rd l0 x11_1) : Int).toNat x11_1) := ⟨_, rfl⟩
                    replace H : (rb_inverse.l0 k1 y330 l0 (l0.length : Int) (wrap64 (x11_1 + 1))) = some r := by first | (rw [hy330]; with_reducible exact H) | (have H2_ := (Option.bind_some _ _).symm.trans H; rw [hy330]; with_reducible exact H2_) | (have H2_ := (Option.bind_some _ _).symm.trans H; with_reducible exact H2_) | with_reducible exact H | (rw [hy330]; exact H) | exact H
                    have Ny330 := Aside0.mk hy330; clear hy330; have H' := Aside0.mk H; clear H; have p329 : 0 ≤ (x11_1 : Int) := of_decide_eq_true (by first | (with_reducible assumption) | assumption); have q329 : x11_1 < (l0.length : Int) := of_decide_eq_true (by first | (with_reducible assumption) | assumption); obtain ⟨ad329, e329, hx329_0⟩ := Kd.at_int HR0.out x11_1 p329 q329; cases e329; replace hx329_0 := (HB.out.cell (World.block_lt_of_cell? w _ hx329_0)).trans hx329_0; replace p329 := eq_true p329; replace q329 := eq_true q329; have p11 : 0 ≤ ((rd l0 x11_1) : Int) := of_decide_eq_true (by first | (with_reducible assumption) | assumption); have q11 : ((rd l0 x11_1) : Int) < ((x3_1.length : Int) : Int) := of_decide_eq_true (by first | (with_reducible assumption) | assumption); obtain ⟨go11, co11, eo11, gb11, gl11, cl11, HG11⟩ := Kd.R_form HO_3.out (by omega)
                    (first | cases eo11 | (injection eo11 with ea_ en_ ec_; (first | subst ea_ | (injection ea_ with ea_; subst ea_)); subst ec_; clear en_))
                    have GB11 := Aside0.mk gb11; have GG11 := Aside0.mk HG11; clear gb11 gl11 HG11; obtain ⟨hx11_0, hf11_0⟩ := Kd.R_celln 0 HO_3.out ((rd l0 x11_1) : Int) p11 q11; replace p11 := eq_true p11; replace q11 := eq_true q11; have HP12 := Kd.R_putg HO_3.out ((rd l0 x11_1) : Int) x11_1
                    go_wp2_with (first | ((with_reducible refine gate_store (t := 3) (p := 19) rfl ?_); refine store_event (t := 3) (p := 19) (v := ?vo_w13) (w1 := (wr.setCell ⟨go11, ((rd l0 x11_1) : Int).toNat, none⟩ (.int .i64 x11_1))) ?hg ?ho ?hn ?hr ?_; (case ho => rfl); (case hg => rfl); (case hn => rfl); (case hr => first | (go_simp; done) | (go_simp; rfl)); intro w13 hw; have hg : wr.grownBy w13 (some go11) := (by rw [hw]; exact HP12.2); have hp_ : Kd.R (Kd.int .i64) 3 w13 w.heap.size (fun _ => True) (.slice (some ⟨go11, 0, none⟩) x3_1.length co11) y330 := (by rw [hw, Ny330.out]; exact HP12.1); clear HP12; have n0_ := Aside0.mk (hp_); have n1_ := Aside0.mk ((by rw [hw]; exact pzD (HB.out) GB11.out : Below w.heap.size w w13)); clear HO_3; clear HB; have HO_3 := n0_; have HB := n1_; clear n0_ n1_; clear hg hw hp_))
                    go_roundg k1
                    case measure => have := HK1.out; omega
                    case rel => exact ⟨(y330), (wrap64 (x11_1 + 1)), (by first | rfl | (simp; done) | (simp [*]; done)), H', ⟨by have := HK1.out; omega⟩, ⟨by (with_reducible repeat (first | apply Kd.R_alloc | apply Kd.R_drewN | apply Kd.R_drew)); exact HO_3.out⟩, ⟨by repeat (first | (with_reducible first | exact HB.out | apply pzB | apply pzA | apply pzC) | exact HB.out)⟩⟩
                  · rw [if_neg c10] at H
                    exact absurd H (by simp)
                · rw [if_neg c9] at H
                  exact absurd H (by simp)
              · rw [if_neg c8] at H
                exact absurd H (by simp)
            · rw [if_neg c7] at H
              exact absurd H (by simp)
          · rw [if_neg c6] at H
            have c6b0 : decide (x11_1 < (l0.length : Int)) = false := decide_eq_false c6; clear c6; obtain rfl := Option.some.inj H
            go_wp2
            go_ret
            exact ⟨_, by first | rfl | (simp [pzN, pzM] <;> rfl) | (simp [*, pzN, pzM] <;> rfl), by (with_reducible repeat (first | apply Kd.R_alloc | apply Kd.R_drewN | apply Kd.R_drew)); exact HO_3.out, by repeat (first | (with_reducible first | exact HB.out | apply pzB | apply pzA | apply pzC) | exact HB.out)⟩
    · rw [if_neg c3] at H
      exact absurd H (by simp)
  · rw [if_neg c2] at H
    exact absurd H (by simp)
end Go.Proofs.Ytpkgckccfanchaa.M

namespace Go.Proofs.Ytpkgckccfanchaa.M
open Go.RowKit YtpkgckccfanchaaW.PrintWords YtpkgckccfanchaaW.PrintLast YtpkgckccfanchaaW.PrintMore
attribute [local go_sem] pzW pzX pzY pzZ pzS pzT pzU pzV
set_option linter.unusedVariables false
set_option linter.unusedSimpArgs false
def rb_moved.l0 : Nat → List Int → Int → Int → Option (Int)
  | 0, _, _, _ => none
  | k + 1, x5, x6, x7 => if x7 < x6 then (if 0 ≤ x7 then (if x7 < (x5.length : Int) then (if x7 = (rd x5 x7) then (rb_moved.l0 k x5 x6 (wrap64 (x7 + 1))) else (some x7)) else (none)) else (none)) else (some (-1))
def rb_moved.f (k : Nat) (l0 : List Int) : Option (Int) := rb_moved.l0 k l0 (l0.length : Int) 0
theorem rb_moved.mono_l : ∀ k, (∀ y0 y1 y2, LeO (rb_moved.l0 k y0 y1 y2) (rb_moved.l0 (k + 1) y0 y1 y2))
  | 0 => fun _ _ _ r h => by simp [rb_moved.l0] at h
  | k + 1 => by
    have ih0 := rb_moved.mono_l k
    · intro y0 y1 y2
      unfold rb_moved.l0
      repeat' first
      | (with_reducible exact ih0 _ _ _)
      | (with_reducible exact LeO.refl _)
      | (with_reducible exact LeO.none _)
      | (with_reducible refine LeO.ite ?_ ?_)
      | (with_reducible refine LeO.bind ?_ (fun _ => ?_))
      | exact ih0 _ _ _
      | exact LeO.none _
      | refine LeO.ite ?_ ?_
      | refine LeO.bind ?_ (fun _ => ?_)
theorem rb_moved.mono : ∀ a0 k, LeO (rb_moved.f k a0) (rb_moved.f (k + 1) a0) := by
  intro a0 k; have ih0 := rb_moved.mono_l k
  unfold rb_moved.f
  repeat' first
      | (with_reducible exact ih0 _ _ _)
      | (with_reducible exact LeO.refl _)
      | (with_reducible exact LeO.none _)
      | (with_reducible refine LeO.ite ?_ ?_)
      | (with_reducible refine LeO.bind ?_ (fun _ => ?_))
      | exact ih0 _ _ _
      | exact LeO.none _
      | refine LeO.ite ?_ ?_
      | refine LeO.bind ?_ (fun _ => ?_)
set_option maxHeartbeats 8000000 in
set_option maxRecDepth 100000 in
theorem rb_moved.calls (k : Nat) (A0 : Option Addr) (c0 : Nat) (l0 : List Int) (r : Int) (w : World) (hr0 : Kd.C (Kd.int .i64) w A0 l0.length l0) (hc0 : l0.length ≤ c0) (h : rb_moved.f k l0 = some r) :
    Calls Try.prog 88 #[.slice A0 l0.length c0] w fun e w' => e = .returned (.int .i64 r) ∧ Drawn0 w w' := by
  have HR0 := Aside0.mk hr0; have HC0 := Aside0.mk hc0; clear hr0 hc0; have H : (rb_moved.l0 k l0 (l0.length : Int) 0) = some r := h; clear h; have H' := Aside0.mk H; clear H
  go_enter Try.func88, Try.ntmps88
  go_wp2
  go_loopg [7] k (fun kq v7 w' => ∃ (x7_1 : Int), v7 = .int .i64 x7_1 ∧ Aside0 (rb_moved.l0 kq l0 (l0.length : Int) x7_1 = some r) ∧ Aside0 (kq ≤ k) ∧ Drawn0 w w')
  case atStart => exact ⟨(0), (by first | rfl | (simp; done) | (simp [*]; done)), H', ⟨Nat.le_refl _⟩, by repeat (first | exact Drawn0.refl _ | apply Drawn0.step)⟩
  case round =>
    clear H'; obtain ⟨x7_1, rfl, HA, HK1, ⟨m1, rfl⟩⟩ := hrel; cases gk with
    | zero => exact absurd HA.out (by simp [rb_moved.l0])
    | succ k1 =>
      have H := HA.out; clear HA
      simp only [rb_moved.l0] at H
      by_cases c2 : x7_1 < (l0.length : Int)
      · rw [if_pos c2] at H
        have c2b0 : decide (x7_1 < (l0.length : Int)) = true := decide_eq_true c2; clear c2
        by_cases c3 : 0 ≤ x7_1
        · rw [if_pos c3] at H
          have c3b0 : decide (0 ≤ x7_1) = true := decide_eq_true c3; clear c3
          by_cases c4 : x7_1 < (l0.length : Int)
          · rw [if_pos c4] at H
            have c4b0 : decide (x7_1 < (l0.length : Int)) = true := decide_eq_true c4; clear c4
            by_cases c5 : x7_1 = (rd l0 x7_1)
            · rw [if_pos c5] at H
              have c5b0 : (x7_1 == (rd l0 x7_1)) = true := beq_iff_eq.mpr c5; have c5b1 : (x7_1 != (rd l0 x7_1)) = false := bne_eq_false_iff_eq.mpr c5; clear c5; have H' := Aside0.mk H; clear H; have p335 : 0 ≤ (x7_1 : Int) := of_decide_eq_true (by first | (with_reducible assumption) | assumption); have q335 : x7_1 < (l0.length : Int) := of_decide_eq_true (by first | (with_reducible assumption) | assumption); obtain ⟨ad335, e335, hx335_0⟩ := Kd.at_int HR0.out x7_1 p335 q335; cases e335; replace p335 := eq_true p335; replace q335 := eq_true q335
              go_wp2
              go_roundg k1
              case measure => have := HK1.out; omega
              case rel => exact ⟨(wrap64 (x7_1 + 1)), (by first | rfl | (simp; done) | (simp [*]; done)), H', ⟨by have := HK1.out; omega⟩, by repeat (first | exact Drawn0.refl _ | apply Drawn0.step)⟩
            · rw [if_neg c5] at H
              have c5b0 : (x7_1 == (rd l0 x7_1)) = false := beq_eq_false_iff_ne.mpr c5; have c5b1 : (x7_1 != (rd l0 x7_1)) = true := bne_iff_ne.mpr c5; obtain rfl := Option.some.inj H; have p335 : 0 ≤ (x7_1 : Int) := of_decide_eq_true (by first | (with_reducible assumption) | assumption); have q335 : x7_1 < (l0.length : Int) := of_decide_eq_true (by first | (with_reducible assumption) | assumption); obtain ⟨ad335, e335, hx335_0⟩ := Kd.at_int HR0.out x7_1 p335 q335; cases e335; replace p335 := eq_true p335; replace q335 := eq_true q335
              go_wp2
              go_ret
              exact ⟨by first | rfl | (simp; done) | (simp [*]; done), by repeat (first | exact Drawn0.refl _ | apply Drawn0.step)⟩
          · rw [if_neg c4] at H
            exact absurd H (by simp)
        · rw [if_neg c3] at H
          exact absurd H (by simp)
      · rw [if_neg c2] at H
        have c2b0 : decide (x7_1 < (l0.length : Int)) = false := decide_eq_false c2; clear c2; obtain rfl := Option.some.inj H
        go_wp2
        go_ret
        exact ⟨by first | rfl | (simp; done) | (simp [*]; done), by repeat (first | exact Drawn0.refl _ | apply Drawn0.step)⟩
end Go.Proofs.Ytpkgckccfanchaa.M

namespace Go.Proofs.Ytpkgckccfanchaa.M
open Go.RowKit YtpkgckccfanchaaW.PrintWords YtpkgckccfanchaaW.PrintLast YtpkgckccfanchaaW.PrintMore
attribute [local go_sem] pzW pzX pzY pzZ pzS pzT pzU pzV
set_option linter.unusedVariables false
set_option linter.unusedSimpArgs false
mutual
def rb_Identity.j0 : Nat → Int → Bool → Option (List Int × Bool)
  | 0, _, _ => none
  | k + 1, x0, x11 => if x11 = true then (some (([] : List Int), false)) else (rb_Identity.l0 k x0 ([] : List Int) 0)
def rb_Identity.l0 : Nat → Int → List Int → Int → Option (List Int × Bool)
  | 0, _, _, _ => none
  | k + 1, x0, x4, x5 => if x5 < x0 then (if x4.length < 17592186044416 then (rb_Identity.l0 k x0 (x4 ++ [x5]) (wrap64 (x5 + 1))) else (none)) else (some (x4, true))
end
def rb_Identity.f (k : Nat) (a0 : Int) : Option (List Int × Bool) := if a0 < 1 then (rb_Identity.j0 k a0 true) else (rb_Identity.j0 k a0 (decide (a0 > 512)))
theorem rb_Identity.mono_l : ∀ k, (∀ y0 y1, LeO (rb_Identity.j0 k y0 y1) (rb_Identity.j0 (k + 1) y0 y1)) ∧ (∀ y0 y1 y2, LeO (rb_Identity.l0 k y0 y1 y2) (rb_Identity.l0 (k + 1) y0 y1 y2))
  | 0 => ⟨fun _ _ r h => by simp [rb_Identity.j0] at h, fun _ _ _ r h => by simp [rb_Identity.l0] at h⟩
  | k + 1 => by
    obtain ⟨ih0, ih1⟩ := rb_Identity.mono_l k; refine ⟨?_, ?_⟩
    · intro y0 y1
      unfold rb_Identity.j0
      repeat' first
      | (with_reducible exact ih0 _ _)
      | (with_reducible exact ih1 _ _ _)
      | (with_reducible exact LeO.refl _)
      | (with_reducible exact LeO.none _)
      | (with_reducible refine LeO.ite ?_ ?_)
      | (with_reducible refine LeO.bind ?_ (fun _ => ?_))
      | exact ih0 _ _
      | exact ih1 _ _ _
      | exact LeO.none _
      | refine LeO.ite ?_ ?_
      | refine LeO.bind ?_ (fun _ => ?_)
    · intro y0 y1 y2
      unfold rb_Identity.l0
      repeat' first
      | (with_reducible exact ih0 _ _)
      | (with_reducible exact ih1 _ _ _)
      | (with_reducible exact LeO.refl _)
      | (with_reducible exact LeO.none _)
      | (with_reducible refine LeO.ite ?_ ?_)
      | (with_reducible refine LeO.bind ?_ (fun _ => ?_))
      | exact ih0 _ _
      | exact ih1 _ _ _
      | exact LeO.none _
      | refine LeO.ite ?_ ?_
      | refine LeO.bind ?_ (fun _ => ?_)
theorem rb_Identity.mono : ∀ a0 k, LeO (rb_Identity.f k a0) (rb_Identity.f (k + 1) a0) := by
  intro a0 k; obtain ⟨ih0, ih1⟩ := rb_Identity.mono_l k
  unfold rb_Identity.f
  repeat' first
      | (with_reducible exact ih0 _ _)
      | (with_reducible exact ih1 _ _ _)
      | (with_reducible exact LeO.refl _)
      | (with_reducible exact LeO.none _)
      | (with_reducible refine LeO.ite ?_ ?_)
      | (with_reducible refine LeO.bind ?_ (fun _ => ?_))
      | exact ih0 _ _
      | exact ih1 _ _ _
      | exact LeO.none _
      | refine LeO.ite ?_ ?_
      | refine LeO.bind ?_ (fun _ => ?_)
set_option maxHeartbeats 8000000 in
set_option maxRecDepth 100000 in
theorem rb_Identity.calls (k : Nat) (a0 : Int) (r1 : List Int) (r2 : Bool) (w : World) (h : rb_Identity.f k a0 = some (r1, r2)) :
    Calls Try.prog 25 #[.int .i64 a0] w fun e w' => ∃ v0_ : Value, e = .returned (.tuple #[v0_, .bool r2]) ∧ Kd.R (Kd.int .i64) 3 w' w.heap.size (fun _ => True) v0_ r1 ∧ Below w.heap.size w w' := by
  have HB := Aside0.mk (Below.refl w.heap.size w); have H : (if a0 < 1 then (rb_Identity.j0 k a0 true) else (rb_Identity.j0 k a0 (decide (a0 > 512)))) = some (r1, r2) := h; clear h; have HC2 := Aside0.mk H; clear H
  go_enter Try.func25, Try.ntmps25
  go_upto_region 1 with (fail)
  go_cut [11] (fun v11 wc => ∃ (kq : Nat) (x11_1 : Bool), v11 = .bool x11_1 ∧ Aside0 (rb_Identity.j0 kq a0 x11_1 = some (r1, r2)) ∧ Aside0 (kq ≤ k) ∧ Aside0 (Below w.heap.size w wc))
  case first =>
    have H := HC2.out; clear HC2
    by_cases c3 : a0 < 1
    · rw [if_pos c3] at H
      have c3b0 : decide (a0 < 1) = true := decide_eq_true c3; clear c3
      (first | rw [c3b0] | (simp only [i64_w, i32_w]; rw [c3b0]) | skip)
      have H' := Aside0.mk H; clear H
      go_wp2
      go_meet
      case rel => exact ⟨_, (true), (by first | rfl | (simp; done) | (simp [*]; done)), H', ⟨by first | omega | exact Nat.le_refl _⟩, ⟨by repeat (first | (with_reducible first | exact HB.out | apply pzB | apply pzA | apply pzC) | exact HB.out)⟩⟩
    · rw [if_neg c3] at H
      have c3b0 : decide (a0 < 1) = false := decide_eq_false c3; clear c3
      (first | rw [c3b0] | (simp only [i64_w, i32_w]; rw [c3b0]) | skip)
      have H' := Aside0.mk H; clear H
      go_wp2
      go_meet
      case rel => exact ⟨_, (decide (a0 > 512)), (by first | rfl | (simp; done) | (simp [*]; done)), H', ⟨by first | omega | exact Nat.le_refl _⟩, ⟨by repeat (first | (with_reducible first | exact HB.out | apply pzB | apply pzA | apply pzC) | exact HB.out)⟩⟩
  case rest =>
    clear HC2
    try clear c2
    try clear p2
    try clear c3
    try clear c3b0
    obtain ⟨kq, x11_1, rfl, HA, HJ1, HB⟩ := hcut; cases kq with
    | zero => exact absurd HA.out (by simp [rb_Identity.j0])
    | succ kj1 =>
      have H := HA.out; clear HA
      simp only [rb_Identity.j0] at H
      by_cases c4 : x11_1 = true
      · subst c4
        have H1 : (some (([] : List Int), false)) = some (r1, r2) := by rw [if_pos rfl] at H; exact H
        clear H; have H := H1; clear H1
        simp only [Option.some.injEq, Prod.mk.injEq] at H
        obtain ⟨rfl, rfl⟩ := H
        go_wp2
        go_ret2
        exact ⟨_, by first | rfl | (simp [pzN, pzM] <;> rfl) | (simp [*, pzN, pzM] <;> rfl), by first | exact Kd.R_nil _ _ _ _ _ | exact Kd.N_nil _ _ _ _ _ | exact Kd.V_nil _ _ _ _ _ | exact Kd.Q_nil _ _ _ _ _ | exact Kd.S_nil _ _ _ _ _, by repeat (first | (with_reducible first | exact HB.out | apply pzB | apply pzA | apply pzC) | exact HB.out)⟩
      · replace c4 := Bool.eq_false_iff.mpr c4
        subst c4
        have H1 : (rb_Identity.l0 kj1 a0 ([] : List Int) 0) = some (r1, r2) := by rw [if_neg (show ¬ (false = true) by decide)] at H; exact H
        clear H; have H := H1; clear H1; have H' := Aside0.mk H; clear H
        go_wp2
        go_loopg [4, 5] kj1 (fun kq v4 v5 w' => ∃ (x4_2 : List Int) (x5_2 : Int), v5 = .int .i64 x5_2 ∧ Aside0 (rb_Identity.l0 kq a0 x4_2 x5_2 = some (r1, r2)) ∧ Aside0 (kq ≤ kj1) ∧ Aside0 (Kd.R (Kd.int .i64) 3 w' w.heap.size (fun _ => True) v4 x4_2) ∧ Aside0 (Below w.heap.size w w'))
        case atStart => exact ⟨(([] : List Int)), (0), (by first | rfl | (simp; done) | (simp [*]; done)), H', ⟨Nat.le_refl _⟩, ⟨by first | exact Kd.R_nil _ _ _ _ _ | exact Kd.N_nil _ _ _ _ _ | exact Kd.V_nil _ _ _ _ _ | exact Kd.Q_nil _ _ _ _ _ | exact Kd.S_nil _ _ _ _ _⟩, ⟨by repeat (first | (with_reducible first | exact HB.out | apply pzB | apply pzA | apply pzC) | exact HB.out)⟩⟩
        case round =>
          clear H'
          try clear c2
          try clear p2
          try clear c3
          try clear c3b0
          try clear c4
          try clear p2
          obtain ⟨x4_2, x5_2, rfl, HA, HK2, HO_4, HB⟩ := hrel; cases gk with
          | zero => exact absurd HA.out (by simp [rb_Identity.l0])
          | succ k2 =>
            have H := HA.out; clear HA
            simp only [rb_Identity.l0] at H
            by_cases c5 : x5_2 < a0
            · rw [if_pos c5] at H
              have c5b0 : decide (x5_2 < a0) = true := decide_eq_true c5; clear c5
              by_cases c6 : x4_2.length < 17592186044416
              · rw [if_pos c6] at H
                have LMc6 := Aside0.mk c6; clear c6
                obtain ⟨y302, hy302⟩ : ∃ y_ : List Int, y_ = (x4_2 ++ [x5_2]) := ⟨_, rfl⟩
                replace H : (rb_Identity.l0 k2 a0 y302 (wrap64 (x5_2 + 1))) = some (r1, r2) := by first | (rw [hy302]; with_reducible exact H) | (have H2_ := (Option.bind_some _ _).symm.trans H; rw [hy302]; with_reducible exact H2_) | (have H2_ := (Option.bind_some _ _).symm.trans H; with_reducible exact H2_) | with_reducible exact H | (rw [hy302]; exact H) | exact H
                have Ny302 := Aside0.mk hy302; clear hy302; have H' := Aside0.mk H; clear H
                go_wp2_with (first | ((with_reducible refine gate_builtin (b := .append) (xs := #[.tmp 17, .tmp 19]) rfl ?_); at_builtin; refine Kd.R_append (Kd.int .i64) (w0 := w) w.heap.size rfl (.tmp 17) (.tmp 19) 28 3 (.int .i64 0) 8 rfl Try.underlying28 info3 rfl (by decide) (by omega) u4 x4_2 x5_2 [.int .i64 x5_2] (fun _ => True) (fun _ => False) rfl rfl ?aP (fun _ hk => hk.elim) ?aF ?aO ?aB ?aS ?aL ?_; (case aP => exact rfl); (case aB => exact (by repeat (first | (with_reducible first | exact HB.out | apply pzB | apply pzA | apply pzC) | exact HB.out))); (case aF => exact (fun _ _ => trivial)); (case aO => exact (by (with_reducible repeat (first | apply Kd.R_alloc | apply Kd.R_drewN | apply Kd.R_drew)); exact HO_4.out)); (case aS => exact (pzJ (by repeat (first | (with_reducible first | exact HB.out | apply pzB | apply pzA | apply pzC) | exact HB.out)))); (case aL => have := LMc6.out; omega); intro v303 w7 ho hb hg hat; rw [← Ny302.out] at ho; have n0_ := Aside0.mk (hb); have n1_ := Aside0.mk (ho); clear HB; clear HO_4; have HB := n0_; have HO304 := n1_; clear n0_ n1_; clear ho hb hg hat))
                go_roundg k2
                case measure => have := HJ1.out; have := HK2.out; omega
                case rel => exact ⟨(y302), (wrap64 (x5_2 + 1)), (by first | rfl | (simp; done) | (simp [*]; done)), H', ⟨by have := HJ1.out; have := HK2.out; omega⟩, ⟨by (with_reducible repeat (first | apply Kd.R_alloc | apply Kd.R_drewN | apply Kd.R_drew)); exact HO304.out⟩, ⟨by repeat (first | (with_reducible first | exact HB.out | apply pzB | apply pzA | apply pzC) | exact HB.out)⟩⟩
              · rw [if_neg c6] at H
                exact absurd H (by simp)
            · rw [if_neg c5] at H
              have c5b0 : decide (x5_2 < a0) = false := decide_eq_false c5; clear c5
              simp only [Option.some.injEq, Prod.mk.injEq] at H
              obtain ⟨rfl, rfl⟩ := H
              go_wp2
              go_ret2
              exact ⟨_, by first | rfl | (simp [pzN, pzM] <;> rfl) | (simp [*, pzN, pzM] <;> rfl), by (with_reducible repeat (first | apply Kd.R_alloc | apply Kd.R_drewN | apply Kd.R_drew)); exact HO_4.out, by repeat (first | (with_reducible first | exact HB.out | apply pzB | apply pzA | apply pzC) | exact HB.out)⟩
end Go.Proofs.Ytpkgckccfanchaa.M

namespace Go.Proofs.Ytpkgckccfanchaa.M
open Go.RowKit YtpkgckccfanchaaW.PrintWords YtpkgckccfanchaaW.PrintLast YtpkgckccfanchaaW.PrintMore
attribute [local go_sem] pzW pzX pzY pzZ pzS pzT pzU pzV
set_option linter.unusedVariables false
set_option linter.unusedSimpArgs false
mutual
def rb_Valid.j0 : Nat → List Int → Bool → Option (Bool)
  | 0, _, _ => none
  | k + 1, x0, x13 => if x13 = true then (some false) else (if 0 ≤ (x0.length : Int) then (if ((x0.length : Int) : Int).toNat ≤ 281474976710656 then (rb_Valid.l0 k x0 (List.replicate ((x0.length : Int) : Int).toNat false) x0 (x0.length : Int) 0) else (none)) else (none))
def rb_Valid.l0 : Nat → List Int → List Bool → List Int → Int → Int → Option (Bool)
  | 0, _, _, _, _, _ => none
  | k + 1, x0, x3, x17, x18, x19 => if x19 < x18 then (if 0 ≤ x19 then (if x19 < (x17.length : Int) then (if (rd x17 x19) < 0 then (some false) else (if (rd x17 x19) ≥ (x0.length : Int) then (some false) else (if 0 ≤ (rd x17 x19) then (if (rd x17 x19) < (x3.length : Int) then (if rdOf false x3 (rd x17 x19) = true then (some false) else (rb_Valid.l0 k x0 (x3.set ((rd x17 x19) : Int).toNat true) x17 x18 (wrap64 (x19 + 1)))) else (none)) else (none)))) else (none)) else (none)) else (some true)
end
def rb_Valid.f (k : Nat) (l0 : List Int) : Option (Bool) := if (l0.length : Int) < 1 then (rb_Valid.j0 k l0 true) else (rb_Valid.j0 k l0 (decide ((l0.length : Int) > 512)))
theorem rb_Valid.mono_l : ∀ k, (∀ y0 y1, LeO (rb_Valid.j0 k y0 y1) (rb_Valid.j0 (k + 1) y0 y1)) ∧ (∀ y0 y1 y2 y3 y4, LeO (rb_Valid.l0 k y0 y1 y2 y3 y4) (rb_Valid.l0 (k + 1) y0 y1 y2 y3 y4))
  | 0 => ⟨fun _ _ r h => by simp [rb_Valid.j0] at h, fun _ _ _ _ _ r h => by simp [rb_Valid.l0] at h⟩
  | k + 1 => by
    obtain ⟨ih0, ih1⟩ := rb_Valid.mono_l k; refine ⟨?_, ?_⟩
    · intro y0 y1
      unfold rb_Valid.j0
      repeat' first
      | (with_reducible exact ih0 _ _)
      | (with_reducible exact ih1 _ _ _ _ _)
      | (with_reducible exact LeO.refl _)
      | (with_reducible exact LeO.none _)
      | (with_reducible refine LeO.ite ?_ ?_)
      | (with_reducible refine LeO.bind ?_ (fun _ => ?_))
      | exact ih0 _ _
      | exact ih1 _ _ _ _ _
      | exact LeO.none _
      | refine LeO.ite ?_ ?_
      | refine LeO.bind ?_ (fun _ => ?_)
    · intro y0 y1 y2 y3 y4
      unfold rb_Valid.l0
      repeat' first
      | (with_reducible exact ih0 _ _)
      | (with_reducible exact ih1 _ _ _ _ _)
      | (with_reducible exact LeO.refl _)
      | (with_reducible exact LeO.none _)
      | (with_reducible refine LeO.ite ?_ ?_)
      | (with_reducible refine LeO.bind ?_ (fun _ => ?_))
      | exact ih0 _ _
      | exact ih1 _ _ _ _ _
      | exact LeO.none _
      | refine LeO.ite ?_ ?_
      | refine LeO.bind ?_ (fun _ => ?_)
theorem rb_Valid.mono : ∀ a0 k, LeO (rb_Valid.f k a0) (rb_Valid.f (k + 1) a0) := by
  intro a0 k; obtain ⟨ih0, ih1⟩ := rb_Valid.mono_l k
  unfold rb_Valid.f
  repeat' first
      | (with_reducible exact ih0 _ _)
      | (with_reducible exact ih1 _ _ _ _ _)
      | (with_reducible exact LeO.refl _)
      | (with_reducible exact LeO.none _)
      | (with_reducible refine LeO.ite ?_ ?_)
      | (with_reducible refine LeO.bind ?_ (fun _ => ?_))
      | exact ih0 _ _
      | exact ih1 _ _ _ _ _
      | exact LeO.none _
      | refine LeO.ite ?_ ?_
      | refine LeO.bind ?_ (fun _ => ?_)
set_option maxHeartbeats 8000000 in
set_option maxRecDepth 100000 in
theorem rb_Valid.calls (k : Nat) (A0 : Option Addr) (c0 : Nat) (l0 : List Int) (r : Bool) (w : World) (hr0 : Kd.C (Kd.int .i64) w A0 l0.length l0) (hc0 : l0.length ≤ c0) (h : rb_Valid.f k l0 = some r) :
    Calls Try.prog 57 #[.slice A0 l0.length c0] w fun e w' => e = .returned (.bool r) ∧ Below w.heap.size w w' := by
  have HR0 := Aside0.mk hr0; have HC0 := Aside0.mk hc0; clear hr0 hc0; have HB := Aside0.mk (Below.refl w.heap.size w); have H : (if (l0.length : Int) < 1 then (rb_Valid.j0 k l0 true) else (rb_Valid.j0 k l0 (decide ((l0.length : Int) > 512)))) = some r := h; clear h; have HC2 := Aside0.mk H; clear H
  go_enter Try.func57, Try.ntmps57
  go_upto_region 1 with (fail)
  go_cut [13] (fun v13 wc => ∃ (kq : Nat) (x13_1 : Bool), v13 = .bool x13_1 ∧ Aside0 (rb_Valid.j0 kq l0 x13_1 = some r) ∧ Aside0 (kq ≤ k) ∧ Aside0 (Below w.heap.size w wc))
  case first =>
    have H := HC2.out; clear HC2
    by_cases c3 : (l0.length : Int) < 1
    · rw [if_pos c3] at H
      have c3b0 : decide ((l0.length : Int) < 1) = true := decide_eq_true c3; have c3b1 : decide (l0.length < 1) = true := decide_eq_true (by omega); clear c3
      (first | rw [c3b0] | (simp only [i64_w, i32_w]; rw [c3b0]) | skip)
      have H' := Aside0.mk H; clear H
      go_wp2
      go_meet
      case rel => exact ⟨_, (true), (by first | rfl | (simp; done) | (simp [*]; done)), H', ⟨by first | omega | exact Nat.le_refl _⟩, ⟨by repeat (first | (with_reducible first | exact HB.out | apply pzB | apply pzA | apply pzC) | exact HB.out)⟩⟩
    · rw [if_neg c3] at H
      have c3b0 : decide ((l0.length : Int) < 1) = false := decide_eq_false c3; have c3b1 : decide (l0.length < 1) = false := decide_eq_false (by omega); clear c3
      (first | rw [c3b0] | (simp only [i64_w, i32_w]; rw [c3b0]) | skip)
      have H' := Aside0.mk H; clear H
      go_wp2
      go_meet
      case rel => exact ⟨_, (decide ((l0.length : Int) > 512)), (by first | rfl | (simp; done) | (simp [*]; done)), H', ⟨by first | omega | exact Nat.le_refl _⟩, ⟨by repeat (first | (with_reducible first | exact HB.out | apply pzB | apply pzA | apply pzC) | exact HB.out)⟩⟩
  case rest =>
    clear HC2
    try clear p2
    try clear c3
    try clear c3b0
    try clear c3b1
    obtain ⟨kq, x13_1, rfl, HA, HJ1, HB⟩ := hcut; cases kq with
    | zero => exact absurd HA.out (by simp [rb_Valid.j0])
    | succ kj1 =>
      have H := HA.out; clear HA
      simp only [rb_Valid.j0] at H
      by_cases c4 : x13_1 = true
      · subst c4
        have H1 : (some false) = some r := by rw [if_pos rfl] at H; exact H
        clear H; have H := H1; clear H1; obtain rfl := Option.some.inj H
        go_wp2
        go_ret
        exact ⟨by first | rfl | (simp [pzN, pzM] <;> rfl) | (simp [*, pzN, pzM] <;> rfl), by repeat (first | (with_reducible first | exact HB.out | apply pzB | apply pzA | apply pzC) | exact HB.out)⟩
      · replace c4 := Bool.eq_false_iff.mpr c4
        subst c4
        have H1 : (if 0 ≤ (l0.length : Int) then (if ((l0.length : Int) : Int).toNat ≤ 281474976710656 then (rb_Valid.l0 kj1 l0 (List.replicate ((l0.length : Int) : Int).toNat false) l0 (l0.length : Int) 0) else (none)) else (none)) = some r := by rw [if_neg (show ¬ (false = true) by decide)] at H; exact H
        clear H; have H := H1; clear H1
        by_cases c5 : 0 ≤ (l0.length : Int)
        · rw [if_pos c5] at H
          have c5b0 := eq_true c5; have c5b1 : decide (0 ≤ (l0.length : Int)) = true := decide_eq_true c5; clear c5
          by_cases c6 : ((l0.length : Int) : Int).toNat ≤ 281474976710656
          · rw [if_pos c6] at H
            have c6b0 := eq_true c6; have c6b1 : decide (((l0.length : Int) : Int).toNat ≤ 281474976710656) = true := decide_eq_true c6; clear c6
            obtain ⟨y269, hy269⟩ : ∃ y_ : List Bool, y_ = (List.replicate ((l0.length : Int) : Int).toNat false) := ⟨_, rfl⟩
            replace H : (rb_Valid.l0 kj1 l0 y269 l0 (l0.length : Int) 0) = some r := by first | (rw [hy269]; with_reducible exact H) | (have H2_ := (Option.bind_some _ _).symm.trans H; rw [hy269]; with_reducible exact H2_) | (have H2_ := (Option.bind_some _ _).symm.trans H; with_reducible exact H2_) | with_reducible exact H | (rw [hy269]; exact H) | exact H
            have Ny269 := Aside0.mk hy269; clear hy269; have H' := Aside0.mk H; clear H
            go_wp2_with (first | ((with_reducible refine pzQ (N := 16) rfl ?_); (try (refine gate_guard (by rfl) ?_; dsimp only)); refine Kd.R_make Kd.bool _ 4 rfl (N := 16) rfl 126 _ _ rfl (l0.length : Int) rfl rfl Try.underlying126 (.bool false) 1 info4 rfl (by decide) (by omega) false (ok := fun _ => True) (okp := fun _ => True) rfl (fun _ hk => hk) trivial (of_decide_eq_true (by first | (with_reducible assumption) | assumption)) (Nat.le_trans (Nat.mul_le_mul_right _ (of_decide_eq_true (by first | (with_reducible assumption) | assumption) : (l0.length : Int).toNat ≤ 281474976710656)) (by omega)) (Below.refl _ _) (Nat.le_refl _) ?_; intro v270 w7 ho8 hb hg_ hnew_; clear hg_ hnew_; (first | rw [← Ny269.out] at ho8 | (simp only [Int.reduceToNat] at ho8; rw [← Ny269.out] at ho8)); have n0_ := Aside0.mk (Kd.R_lower ho8 (pzJ (by repeat (first | (with_reducible first | exact HB.out | apply pzB | apply pzA | apply pzC) | exact HB.out)))); have n1_ := Aside0.mk (pzL (by repeat (first | (with_reducible first | exact HB.out | apply pzB | apply pzA | apply pzC) | exact HB.out)) hb); clear HB; have HO271 := n0_; have HB := n1_; clear n0_ n1_; clear hb ho8))
            go_loopg [19] kj1 (fun kq v19 w' => ∃ (x3_2 : List Bool) (x19_2 : Int), v19 = .int .i64 x19_2 ∧ Aside0 (rb_Valid.l0 kq l0 x3_2 l0 (l0.length : Int) x19_2 = some r) ∧ Aside0 (kq ≤ kj1) ∧ Aside0 (Kd.R Kd.bool 4 w' w.heap.size (fun _ => True) v270 x3_2) ∧ Aside0 (Below w.heap.size w w'))
            case atStart => exact ⟨(y269), (0), (by first | rfl | (simp; done) | (simp [*]; done)), H', ⟨Nat.le_refl _⟩, ⟨by (with_reducible repeat (first | apply Kd.R_alloc | apply Kd.R_drewN | apply Kd.R_drew)); exact HO271.out⟩, ⟨by repeat (first | (with_reducible first | exact HB.out | apply pzB | apply pzA | apply pzC) | exact HB.out)⟩⟩
            case round =>
              clear H'
              try clear p2
              try clear c3
              try clear c3b0
              try clear c3b1
              try clear c4
              try clear c5
              try clear c5b0
              try clear c5b1
              try clear c6
              try clear c6b0
              try clear c6b1
              try clear p2
              obtain ⟨x3_2, x19_2, rfl, HA, HK2, HO_3, HB⟩ := hrel; cases gk with
              | zero => exact absurd HA.out (by simp [rb_Valid.l0])
              | succ k2 =>
                have H := HA.out; clear HA
                simp only [rb_Valid.l0] at H
                by_cases c9 : x19_2 < (l0.length : Int)
                · rw [if_pos c9] at H
                  have c9b0 : decide (x19_2 < (l0.length : Int)) = true := decide_eq_true c9; clear c9
                  by_cases c10 : 0 ≤ x19_2
                  · rw [if_pos c10] at H
                    have c10b0 : decide (0 ≤ x19_2) = true := decide_eq_true c10; clear c10
                    by_cases c11 : x19_2 < (l0.length : Int)
                    · rw [if_pos c11] at H
                      have c11b0 : decide (x19_2 < (l0.length : Int)) = true := decide_eq_true c11; clear c11
                      by_cases c12 : (rd l0 x19_2) < 0
                      · rw [if_pos c12] at H
                        have c12b0 : decide ((rd l0 x19_2) < 0) = true := decide_eq_true c12; clear c12; obtain rfl := Option.some.inj H; have p272 : 0 ≤ (x19_2 : Int) := of_decide_eq_true (by first | (with_reducible assumption) | assumption); have q272 : x19_2 < (l0.length : Int) := of_decide_eq_true (by first | (with_reducible assumption) | assumption); obtain ⟨ad272, e272, hx272_0⟩ := Kd.at_int HR0.out x19_2 p272 q272; cases e272; replace hx272_0 := (HB.out.cell (World.block_lt_of_cell? w _ hx272_0)).trans hx272_0; replace p272 := eq_true p272; replace q272 := eq_true q272
                        go_wp2
                        go_ret
                        exact ⟨by first | rfl | (simp [pzN, pzM] <;> rfl) | (simp [*, pzN, pzM] <;> rfl), by repeat (first | (with_reducible first | exact HB.out | apply pzB | apply pzA | apply pzC) | exact HB.out)⟩
                      · rw [if_neg c12] at H
                        have c12b0 : decide ((rd l0 x19_2) < 0) = false := decide_eq_false c12; clear c12
                        by_cases c13 : (rd l0 x19_2) ≥ (l0.length : Int)
                        · rw [if_pos c13] at H
                          have c13b0 : decide ((l0.length : Int) ≤ (rd l0 x19_2)) = true := decide_eq_true c13; clear c13; obtain rfl := Option.some.inj H; have p272 : 0 ≤ (x19_2 : Int) := of_decide_eq_true (by first | (with_reducible assumption) | assumption); have q272 : x19_2 < (l0.length : Int) := of_decide_eq_true (by first | (with_reducible assumption) | assumption); obtain ⟨ad272, e272, hx272_0⟩ := Kd.at_int HR0.out x19_2 p272 q272; cases e272; replace hx272_0 := (HB.out.cell (World.block_lt_of_cell? w _ hx272_0)).trans hx272_0; replace p272 := eq_true p272; replace q272 := eq_true q272
                          go_wp2
                          go_ret
                          exact ⟨by first | rfl | (simp [pzN, pzM] <;> rfl) | (simp [*, pzN, pzM] <;> rfl), by repeat (first | (with_reducible first | exact HB.out | apply pzB | apply pzA | apply pzC) | exact HB.out)⟩
                        · rw [if_neg c13] at H
                          have c13b0 : decide ((l0.length : Int) ≤ (rd l0 x19_2)) = false := decide_eq_false c13; clear c13
                          by_cases c14 : 0 ≤ (rd l0 x19_2)
                          · rw [if_pos c14] at H
                            have c14b0 : decide (0 ≤ (rd l0 x19_2)) = true := decide_eq_true c14; clear c14
                            by_cases c15 : (rd l0 x19_2) < (x3_2.length : Int)
                            · rw [if_pos c15] at H
                              have c15b0 : decide ((rd l0 x19_2) < (x3_2.length : Int)) = true := decide_eq_true c15; clear c15
                              obtain ⟨bq16, hbq16⟩ : ∃ b_ : Bool, b_ = (rdOf false x3_2 (rd l0 x19_2)) := ⟨_, rfl⟩
                              replace H : (if bq16 = true then (some false) else (rb_Valid.l0 k2 l0 (x3_2.set ((rd l0 x19_2) : Int).toNat true) l0 (l0.length : Int) (wrap64 (x19_2 + 1)))) = some r := by rw [← hbq16] at H; exact H
                              have Nbq16 := Aside0.mk hbq16; clear hbq16
                              by_cases c17 : bq16 = true
                              · subst c17
                                have H1 : (some false) = some r := by rw [if_pos rfl] at H; exact H
                                clear H; have H := H1; clear H1; obtain rfl := Option.some.inj H; have p272 : 0 ≤ (x19_2 : Int) := of_decide_eq_true (by first | (with_reducible assumption) | assumption); have q272 : x19_2 < (l0.length : Int) := of_decide_eq_true (by first | (with_reducible assumption) | assumption); obtain ⟨ad272, e272, hx272_0⟩ := Kd.at_int HR0.out x19_2 p272 q272; cases e272; replace hx272_0 := (HB.out.cell (World.block_lt_of_cell? w _ hx272_0)).trans hx272_0; replace p272 := eq_true p272; replace q272 := eq_true q272; obtain ⟨Ao18, co18, eo18⟩ := Kd.R_slice HO_3.out; subst eo18; have p273 : 0 ≤ ((rd l0 x19_2) : Int) := of_decide_eq_true (by first | (with_reducible assumption) | assumption); have q273 : (rd l0 x19_2) < (x3_2.length : Int) := of_decide_eq_true (by first | (with_reducible assumption) | assumption); obtain ⟨ad273, e273, hx273_0⟩ := Kd.at_bool (Kd.R_reads' HO_3.out).2.2 (rd l0 x19_2) p273 q273
                                (try rw [← Nbq16.out] at hx273_0)
                                cases e273; replace p273 := eq_true p273; replace q273 := eq_true q273
                                go_wp2
                                go_ret
                                exact ⟨by first | rfl | (simp [pzN, pzM] <;> rfl) | (simp [*, pzN, pzM] <;> rfl), by repeat (first | (with_reducible first | exact HB.out | apply pzB | apply pzA | apply pzC) | exact HB.out)⟩
                              · replace c17 := Bool.eq_false_iff.mpr c17
                                subst c17
                                have H1 : (rb_Valid.l0 k2 l0 (x3_2.set ((rd l0 x19_2) : Int).toNat true) l0 (l0.length : Int) (wrap64 (x19_2 + 1))) = some r := by rw [if_neg (show ¬ (false = true) by decide)] at H; exact H
                                clear H; have H := H1; clear H1
                                obtain ⟨y274, hy274⟩ : ∃ y_ : List Bool, y_ = (x3_2.set ((rd l0 x19_2) : Int).toNat true) := ⟨_, rfl⟩
                                replace H : (rb_Valid.l0 k2 l0 y274 l0 (l0.length : Int) (wrap64 (x19_2 + 1))) = some r := by first | (rw [hy274]; with_reducible exact H) | (have H2_ := (Option.bind_some _ _).symm.trans H; rw [hy274]; with_reducible exact H2_) | (have H2_ := (Option.bind_some _ _).symm.trans H; with_reducible exact H2_) | with_reducible exact H | (rw [hy274]; exact H) | exact H
                                have Ny274 := Aside0.mk hy274; clear hy274; have H' := Aside0.mk H; clear H; have p272 : 0 ≤ (x19_2 : Int) := of_decide_eq_true (by first | (with_reducible assumption) | assumption); have q272 : x19_2 < (l0.length : Int) := of_decide_eq_true (by first | (with_reducible assumption) | assumption); obtain ⟨ad272, e272, hx272_0⟩ := Kd.at_int HR0.out x19_2 p272 q272; cases e272; replace hx272_0 := (HB.out.cell (World.block_lt_of_cell? w _ hx272_0)).trans hx272_0; replace p272 := eq_true p272; replace q272 := eq_true q272; obtain ⟨Ao20, co20, eo20⟩ := Kd.R_slice HO_3.out; subst eo20; have p273 : 0 ≤ ((rd l0 x19_2) : Int) := of_decide_eq_true (by first | (with_reducible assumption) | assumption); have q273 : (rd l0 x19_2) < (x3_2.length : Int) := of_decide_eq_true (by first | (with_reducible assumption) | assumption); obtain ⟨ad273, e273, hx273_0⟩ := Kd.at_bool (Kd.R_reads' HO_3.out).2.2 (rd l0 x19_2) p273 q273
                                (try rw [← Nbq16.out] at hx273_0)
                                cases e273; replace p273 := eq_true p273; replace q273 := eq_true q273; have p19 : 0 ≤ ((rd l0 x19_2) : Int) := of_decide_eq_true (by first | (with_reducible assumption) | assumption); have q19 : ((rd l0 x19_2) : Int) < ((x3_2.length : Int) : Int) := of_decide_eq_true (by first | (with_reducible assumption) | assumption); obtain ⟨go19, co19, eo19, gb19, gl19, cl19, HG19⟩ := Kd.R_form HO_3.out (by omega)
                                (first | cases eo19 | (injection eo19 with ea_ en_ ec_; (first | subst ea_ | (injection ea_ with ea_; subst ea_)); subst ec_; clear en_))
                                have GB19 := Aside0.mk gb19; have GG19 := Aside0.mk HG19; clear gb19 gl19 HG19
                                (first | simp only [add_plain] at hx273_0 | skip)
                                obtain ⟨hx19_0, hf19_0⟩ := Kd.R_celln false HO_3.out ((rd l0 x19_2) : Int) p19 q19; replace p19 := eq_true p19; replace q19 := eq_true q19; have HP21 := Kd.R_putg HO_3.out ((rd l0 x19_2) : Int) true
                                go_wp2_with (first | ((with_reducible refine gate_store (t := 4) (p := 39) rfl ?_); refine store_event (t := 4) (p := 39) (v := ?vo_w22) (w1 := (wr.setCell ⟨go19, ((rd l0 x19_2) : Int).toNat, none⟩ (.bool true))) ?hg ?ho ?hn ?hr ?_; (case ho => rfl); (case hg => rfl); (case hn => rfl); (case hr => first | (go_simp; done) | (go_simp; rfl)); intro w22 hw; have hg : wr.grownBy w22 (some go19) := (by rw [hw]; exact HP21.2); have hp_ : Kd.R Kd.bool 4 w22 w.heap.size (fun _ => True) (.slice (some ⟨go19, 0, none⟩) x3_2.length co20) y274 := (by rw [hw, Ny274.out]; exact HP21.1); clear HP21; have n0_ := Aside0.mk (hp_); have n1_ := Aside0.mk ((by rw [hw]; exact pzD (HB.out) GB19.out : Below w.heap.size w w22)); clear HO_3; clear HB; have HO_3 := n0_; have HB := n1_; clear n0_ n1_; clear hg hw hp_))
                                go_roundg k2
                                case measure => have := HJ1.out; have := HK2.out; omega
                                case rel => exact ⟨(y274), (wrap64 (x19_2 + 1)), (by first | rfl | (simp; done) | (simp [*]; done)), H', ⟨by have := HJ1.out; have := HK2.out; omega⟩, ⟨by (with_reducible repeat (first | apply Kd.R_alloc | apply Kd.R_drewN | apply Kd.R_drew)); exact HO_3.out⟩, ⟨by repeat (first | (with_reducible first | exact HB.out | apply pzB | apply pzA | apply pzC) | exact HB.out)⟩⟩
                            · rw [if_neg c15] at H
                              exact absurd H (by simp)
                          · rw [if_neg c14] at H
                            exact absurd H (by simp)
                    · rw [if_neg c11] at H
                      exact absurd H (by simp)
                  · rw [if_neg c10] at H
                    exact absurd H (by simp)
                · rw [if_neg c9] at H
                  have c9b0 : decide (x19_2 < (l0.length : Int)) = false := decide_eq_false c9; clear c9; obtain rfl := Option.some.inj H
                  go_wp2
                  go_ret
                  exact ⟨by first | rfl | (simp [pzN, pzM] <;> rfl) | (simp [*, pzN, pzM] <;> rfl), by repeat (first | (with_reducible first | exact HB.out | apply pzB | apply pzA | apply pzC) | exact HB.out)⟩
          · rw [if_neg c6] at H
            exact absurd H (by simp)
        · rw [if_neg c5] at H
          exact absurd H (by simp)
end Go.Proofs.Ytpkgckccfanchaa.M

namespace Go.Proofs.Ytpkgckccfanchaa.M
open Go.RowKit YtpkgckccfanchaaW.PrintWords YtpkgckccfanchaaW.PrintLast YtpkgckccfanchaaW.PrintMore
open Sims
set_option linter.unusedVariables false
theorem thenL_take {p q : List Int} {i : Nat} (hi : i < p.length) : thenL (p.take (i + 1)) q = thenL (p.take i) q ++ [rdl q (rdl p (i : Int))] := by
  unfold thenL
  rw [List.take_succ_eq_append_getElem hi, List.map_append, rdl_eq (p := p) (by omega) (by omega)]
  simp
theorem rprod_loop {p q : List Int} (hp : p.length ≤ 1000000) (hq : ∀ x ∈ p, 0 ≤ x ∧ x < q.length) : ∀ (d k i : Nat), i + d = p.length → d < k →
    rb_product.l0 k q (thenL (p.take i) q) p (p.length : Int) (i : Int) = some (thenL p q)
  | d, 0, _, _, hk => by omega
  | 0, k + 1, i, hd, hk => by
    simp only [rb_product.l0]
    rw [if_neg (by omega), List.take_of_length_le (by omega)]
  | d + 1, k + 1, i, hd, hk => by
    have hlt : i < p.length := by omega
    have hm := hq _ (rdl_mem (p := p) (x := (i : Int)) (by omega) (by omega))
    simp only [rb_product.l0]
    have hw : wrap64 ((i : Int) + 1) = ((i + 1 : Nat) : Int) := by unfold wrap64; omega
    rw [if_pos (by omega), if_pos (by omega), if_pos (by omega), if_pos (show 0 ≤ rd p i from hm.1), if_pos (show rd p i < (q.length : Int) from hm.2), if_pos (by rw [thenL_length, List.length_take]; omega), hw]
    have e : thenL (p.take i) q ++ [rd q (rd p i)] = thenL (p.take (i + 1)) q := (thenL_take hlt).symm
    rw [e]
    exact rprod_loop hp hq d k (i + 1) (by omega) (by omega)
theorem rprod_f {p q : List Int} (hp : p.length ≤ 1000000) (hq : ∀ x ∈ p, 0 ≤ x ∧ x < q.length) {k : Nat} (hk : p.length < k) : rb_product.f k p q = some (thenL p q) := by
  unfold rb_product.f
  exact rprod_loop hp hq p.length k 0 (by omega) hk
theorem rinv_loop {n : Nat} {p : List Int} (hn : n ≤ 1000000) (hp : IsP n p) : ∀ (d k : Nat) (out : List Int) (i : Int), 0 ≤ i → i ≤ n → (n : Int) - i = d → d < k → out.length = n → (∀ x : Int, 0 ≤ x → x < i → rdl out (rdl p x) = x) →
    rb_inverse.l0 k out p (p.length : Int) i = some (backL p)
  | d, 0, _, _, _, _, _, hk, _, _ => by omega
  | 0, k + 1, out, i, h0, h1, hd, _, hl, ho => by
    have hpl := hp.len
    simp only [rb_inverse.l0]
    rw [if_neg (by omega)]
    rw [list_ext hl (by rw [backL_length, hpl]) (fun x k0 k1 => ?_)]
    have hi := idx_lt hp k0 k1
    have := ho (p.idxOf x : Int) (by omega) (by omega)
    rw [rdl_idx hp k0 k1] at this
    rw [this, rdl_back hp k0 k1]
  | d + 1, k + 1, out, i, h0, h1, hd, hk, hl, ho => by
    have hpl := hp.len
    have hlt : i < (n : Int) := by omega
    have hm := hp.rd h0 hlt
    simp only [rb_inverse.l0]
    rw [if_pos (by omega), if_pos h0, if_pos (by omega), if_pos (show 0 ≤ rd p i from hm.1), if_pos (by rw [hl]; exact hm.2), wrap_small h0 (by omega)]
    refine rinv_loop hn hp d k _ (i + 1) (by omega) (by omega) (by omega) (by omega) (by rw [List.length_set, hl]) (fun x k0 k1 => ?_)
    have hx := hp.rd k0 (show x < n by omega)
    rw [rd_rdl, rdl_set hm.1 (by rw [hl]; exact hm.2) hx.1 (by rw [hl]; exact hx.2)]
    by_cases e : rdl p x = rdl p i
    · rw [if_pos e]
      exact (hp.inj k0 (by omega) h0 hlt e).symm
    · rw [if_neg e]
      refine ho x k0 ?_
      have : x ≠ i := fun e' => e (by rw [e'])
      omega
theorem rinv_f {n : Nat} {p : List Int} (hn : n ≤ 1000000) (hp : IsP n p) {k : Nat} (hk : n < k) : rb_inverse.f k p = some (backL p) := by
  have hpl := hp.len
  unfold rb_inverse.f
  rw [if_pos (by omega), if_pos (by omega)]
  exact rinv_loop hn hp n k _ 0 (by omega) (by omega) (by omega) hk (by simp [hpl]) (fun x k0 k1 => by omega)
theorem rid_loop {n : Nat} (hn : n ≤ 512) : ∀ (d k i : Nat), i + d = n → d < k → rb_Identity.l0 k (n : Int) (oneL i) (i : Int) = some (oneL n, true)
  | d, 0, _, _, hk => by omega
  | 0, k + 1, i, hi, hk => by
    obtain rfl : i = n := by omega
    unfold rb_Identity.l0
    rw [if_neg (by omega)]
  | d + 1, k + 1, i, hi, hk => by
    have hw : wrap64 ((i : Int) + 1) = ((i + 1 : Nat) : Int) := by unfold wrap64; omega
    unfold rb_Identity.l0
    rw [if_pos (by omega), if_pos (by rw [oneL_length]; omega), hw]
    have e : oneL i ++ [(i : Int)] = oneL (i + 1) := by simp [oneL, List.range_succ]
    rw [e]
    exact rid_loop hn d k (i + 1) (by omega) (by omega)
theorem rid_f {n : Nat} (h0 : 0 < n) (hn : n ≤ 512) {k : Nat} (hk : n + 2 ≤ k) : rb_Identity.f k (n : Int) = some (oneL n, true) := by
  obtain ⟨k, rfl⟩ : ∃ j, k = j + 1 := ⟨k - 1, by omega⟩
  unfold rb_Identity.f
  rw [if_neg (by omega), rb_Identity.j0, if_neg (by simp; omega)]
  exact rid_loop hn n k 0 (by omega) (by omega)
variable {n : Nat} {ok ok' : Nat → Prop} {w : World} {v u : Value} {p q : List Int}
theorem rvalid_loop {n : Nat} (hn' : n ≤ 512) {p : List Int} (hp : IsP n p) : ∀ (d k i : Nat) (seen : List Bool), i + d = n → d < k → seen.length = n → (∀ y : Nat, y < n → seen.getD y false = decide ((y : Int) ∈ p.take i)) →
    rb_Valid.l0 k p seen p (p.length : Int) (i : Int) = some true
  | d, 0, _, _, _, hk, _, _ => by omega
  | 0, k + 1, i, seen, hi, hk, hl, hs => by
    unfold rb_Valid.l0
    rw [if_neg (by rw [hp.len]; omega)]
  | d + 1, k + 1, i, seen, hi, hk, hl, hs => by
    have hpl := hp.len
    obtain ⟨h0, h1⟩ := hp.rd (x := (i : Int)) (by omega) (by omega)
    obtain ⟨y, hy⟩ : ∃ y : Nat, rdl p (i : Int) = y := ⟨(rdl p i).toNat, by omega⟩
    have hpi : p[i]? = some (y : Int) := by
      rw [← hy, rdl_eq (by omega) (by omega)]
      simp only [Int.toNat_natCast]
      exact List.getElem?_eq_getElem _
    have hnot : ¬ ((y : Int) ∈ p.take i) := by
      intro hm2
      obtain ⟨j, hj, e⟩ := List.getElem_of_mem hm2
      have hj2 : j < i := by simp at hj; omega
      rw [List.getElem_take] at e
      obtain ⟨q1, q2⟩ := List.getElem?_eq_some_iff.1 hpi
      have := nodup_inj hp.nd (by omega) q1 (e.trans q2.symm)
      omega
    have hw : wrap64 ((i : Int) + 1) = ((i + 1 : Nat) : Int) := by unfold wrap64; omega
    have hsy : rdOf false seen (y : Int) = false := by
      have := hs y (by omega)
      rw [decide_eq_false hnot] at this
      simpa [rdOf] using this
    unfold rb_Valid.l0
    rw [if_pos (by omega), if_pos (by omega), if_pos (by omega), rd_rdl, hy, if_neg (by omega), if_neg (by omega), if_pos (by omega), if_pos (by omega), hsy, if_neg (by simp), hw]
    refine rvalid_loop hn' hp d k (i + 1) _ (by omega) (by omega) (by rw [List.length_set, hl]) (fun z hz => ?_)
    obtain ⟨q1, q2⟩ := List.getElem?_eq_some_iff.1 hpi
    rw [List.take_succ_eq_append_getElem q1, q2, Int.toNat_natCast, List.getD_eq_getElem?_getD, List.getElem?_set]
    by_cases h4 : y = z
    · subst h4
      simp [hl, show y < n by omega]
    · rw [if_neg h4, ← List.getD_eq_getElem?_getD, hs z hz]
      have : (z : Int) ≠ (y : Int) := by omega
      simp [this]
theorem rvalid_ok {n : Nat} (hn : 0 < n) (hn' : n ≤ 512) {p : List Int} (hp : IsP n p) {k : Nat} (hk : n + 2 ≤ k) : rb_Valid.f k p = some true := by
  obtain ⟨k, rfl⟩ : ∃ j, k = j + 1 := ⟨k - 1, by omega⟩
  have hpl := hp.len
  unfold rb_Valid.f
  rw [if_neg (by omega), rb_Valid.j0, if_neg (by simp; omega)]
  rw [if_pos (by omega), if_pos (by omega)]
  exact rvalid_loop hn' hp n k 0 _ (by omega) (by omega) (by simp [hpl]) (fun y hy => by
    rw [List.getD_eq_getElem?_getD, List.getElem?_replicate]
    by_cases h : y < p.length <;> simp [h])
end Go.Proofs.Ytpkgckccfanchaa.M

namespace Go.Proofs.Ytpkgckccfanchaa.M
open Go.RowKit YtpkgckccfanchaaW.PrintWords YtpkgckccfanchaaW.PrintLast YtpkgckccfanchaaW.PrintMore
open Sims
set_option linter.unusedVariables false
set_option linter.unusedSimpArgs false
theorem residue_zero {n : Nat} {p : List Int} {ok : Nat → Prop} {v : Value} {w : World} {B g : Nat} {PB : Nat → Prop} {av : Value} {cs : List LC} {ls : List Lv} (hn : 0 < n) (hn' : n ≤ 512) (hG : GrAt w B PB g n av cs ls) (hok : ∀ l ∈ ls, LvOk n l) (hv : PV w ok v p) (hp : IsP n p) (hlen : ls.length ≤ 1000000) :
    Calls Try.prog 93 #[.pointer (some ⟨g, 0, none⟩), .int .i64 0, v] w fun e w' => ∃ u, e = .returned u ∧ PV w' (fun _ => True) u (residF ls p) ∧ Below w.heap.size w w' :=
  residue_calls (k := 0) hn hn' hG (Nat.zero_le _) hok hv hp hlen
def inF (ls : List Lv) (p : List Int) : Bool := decide (movedL (residF ls p) < 0)
set_option maxHeartbeats 4000000 in
set_option maxRecDepth 100000 in
theorem has_calls {n : Nat} {p : List Int} {ok : Nat → Prop} {v : Value} {w : World} {B g : Nat} {PB : Nat → Prop} {av : Value} {cs : List LC} {ls : List Lv} (hn : 0 < n) (hn' : n ≤ 512) (hG : GrAt w B PB g n av cs ls) (hP : PC n [] ls) (hv : PV w ok v p) (hp : IsP n p) (hlen : ls.length ≤ 1000000) :
    Calls Try.prog 56 #[.pointer (some ⟨g, 0, none⟩), v] w fun e w' => e = .returned (.bool (inF ls p)) ∧ Below w.heap.size w w' := by
  have HG := Aside0.mk hG
  have HP := Aside0.mk hP
  have HV := Aside0.mk hv
  have HPP := Aside0.mk hp
  have HRI := Aside0.mk (resid_isP (PC_ok hP) hp)
  obtain ⟨A, c, rfl, -, -⟩ := PV.read hv
  clear hG hP hv hp
  go_enter Try.func56, Try.ntmps56
  go_wp2_with (first | (go_at_call 93; (with_reducible refine (residue_zero hn hn' HG.out (PC_ok HP.out) HV.out HPP.out hlen).mono ?_); rintro e w2 ⟨u, rfl, hU, hb⟩; have HU := Aside0.mk hU; have HB2 := Aside0.mk hb; clear hU hb) | (go_at_call 92; (with_reducible refine (moved_pv (by rw [HRI.out.len]; exact hn') HU.out).mono ?_); rintro e w3 ⟨rfl, hD⟩; have HD := Aside0.mk hD; clear hD))
  go_ret
  refine ⟨rfl, ?_⟩
  obtain ⟨nd, rfl⟩ := HD.out
  exact pzA HB2.out nd
theorem C_one {w : World} {A : Option Addr} {c : Nat} {p : List Int} (h : Kd.C (Kd.int .i64) w A p.length p) (hc : p.length ≤ c) {W : World} (hb : Below w.heap.size w W) {g : Nat} (hg : W.heap[g]? = some (.cells #[.slice A p.length c] 28 (0, 0))) : Kd.C (Kd.slice 3 (Kd.int .i64)) W (some ⟨g, 0, none⟩) [p].length [p] := by
  refine ⟨rfl, by simp, fun _ => ⟨_, rfl, ?_⟩⟩
  intro j q hq
  match j, hq with
  | 0, hq =>
    cases hq
    refine ⟨[.slice A p.length c], rfl, ⟨A, c, rfl, hc, Kd.C_below h hb⟩, ?_⟩
    intro i u hu
    match i, hu with
    | 0, hu => cases hu; simpa [World.cell?, Addr.add] using by rw [hg]; rfl
theorem perms_one {k : Nat} {a0 : Int} {w W : World} {A : Option Addr} {c g : Nat} {p : List Int} {o : Bool} (h : Kd.C (Kd.int .i64) w A p.length p) (hc : p.length ≤ c) (hb : Below w.heap.size w W) (hg : W.heap[g]? = some (.cells #[.slice A p.length c] 28 (0, 0))) (hf : sc_permutations.f k a0 [p] = some o) :
    Calls Try.prog 55 #[.int .i64 a0, .slice (some ⟨g, 0, none⟩) 1 1] W fun e w' => e = .returned (.bool o) ∧ Below W.heap.size W w' :=
  sc_permutations.calls k a0 (some ⟨g, 0, none⟩) 1 [p] o W (C_one h hc hb hg) (Nat.le_refl _) hf
def sc_Contains.f (k : Nat) (a0 : Int) (l1 : List (List Int)) (l2 : List Int) : Option (Bool × Int) := (sc_arguments.f k a0 l1).bind fun e => if e = 0 then ((sc_permutations.f k a0 [l2]).bind fun o => if o = true then (if (okB a0 l1 && isPB a0.toNat l2) = true then (groupF a0.toNat (a0.toNat + 1) l1 []).bind fun ls => some (inF ls l2, 0) else none) else some (false, 3)) else some (false, e)
theorem sc_Contains.mono : ∀ a0 a1 a2 k, LeO (sc_Contains.f k a0 a1 a2) (sc_Contains.f (k + 1) a0 a1 a2) := by
  intro a0 a1 a2 k
  unfold sc_Contains.f
  exact LeO.bind (sc_arguments.mono a0 a1 k) (fun e => LeO.ite (LeO.bind (sc_permutations.mono a0 [a2] k) (fun o => LeO.refl _)) (LeO.refl _))
set_option maxHeartbeats 4000000 in
set_option maxRecDepth 100000 in
theorem sc_Contains.calls (k : Nat) (a0 : Int) (A1 : Option Addr) (c1 : Nat) (l1 : List (List Int)) (A2 : Option Addr) (c2 : Nat) (l2 : List Int) (r1 : Bool) (r2 : Int) (w : World) (hr1 : Kd.C (Kd.slice 3 (Kd.int .i64)) w A1 l1.length l1) (hc1 : l1.length ≤ c1) (hr2 : Kd.C (Kd.int .i64) w A2 l2.length l2) (hc2 : l2.length ≤ c2) (h : sc_Contains.f k a0 l1 l2 = some (r1, r2)) :
    Calls Try.prog 23 #[.int .i64 a0, .slice A1 l1.length c1, .slice A2 l2.length c2] w fun e w' => e = .returned (.tuple #[.bool r1, .int .i64 r2]) ∧ Below w.heap.size w w' := by
  unfold sc_Contains.f at h
  obtain ⟨e, he, h⟩ := Option.bind_eq_some_iff.1 h
  have HR1 := Aside0.mk hr1
  have HC1 := Aside0.mk hc1
  have HR2 := Aside0.mk hr2
  have HC2 := Aside0.mk hc2
  have HE := Aside0.mk he
  clear hr1 hc1 hr2 hc2 he
  by_cases h0 : e = 0
  · rw [if_pos h0] at h
    obtain ⟨o, ho, h⟩ := Option.bind_eq_some_iff.1 h
    have HO := Aside0.mk ho
    clear ho
    by_cases ho1 : o = true
    · rw [if_pos ho1] at h
      by_cases hok : (okB a0 l1 && isPB a0.toNat l2) = true
      · rw [if_pos hok] at h
        rw [Bool.and_eq_true] at hok
        obtain ⟨m, rfl, hm, hm11, hg, hl⟩ := okB_ok hok.1
        have hp2 := isPB_ok hok.2
        rw [Int.toNat_natCast] at h hp2
        obtain ⟨ls, hls, h⟩ := Option.bind_eq_some_iff.1 h
        have h := Option.some.inj h
        simp only [Prod.mk.injEq] at h
        obtain ⟨e1, e2⟩ := h
        subst e1 e2 h0 ho1
        have HM := Aside0.mk hm
        have HGN := Aside0.mk hg
        have HLS := Aside0.mk hls
        have HLN := Aside0.mk (group_len hg (fun x hx => by simp at hx) List.nodup_nil hls)
        have HL := Aside0.mk hl
        have HP2 := Aside0.mk hp2
        clear hok hm hg hl hls hp2
        go_enter Try.func23, Try.ntmps23
        go_wp2_with (first | (go_at_call 47; (with_reducible refine (sc_arguments.calls k (m : Int) A1 c1 l1 0 _ HR1.out HC1.out HE.out).mono ?_); rintro e w6 ⟨rfl, hb6⟩; have HB6 := Aside0.mk hb6; clear hb6) | (go_at_call 55; (with_reducible refine (perms_one (w := w) HR2.out HC2.out (pzB HB6.out _) (blk_new _ _) HO.out).mono ?_); rintro e w7 ⟨rfl, hb7⟩; have HB7 : Aside0 (Below w.heap.size w w7) := ⟨pzL (w := w) (pzB HB6.out _) hb7⟩; clear hb7) | (go_at_call 48; (with_reducible refine (newGroup_nil HM.out hm11 (Kd.C_below HR1.out HB7.out) HGN.out HL.out HLS.out).mono ?_); rintro e w8 ⟨g, av, cs, PB, rfl, hG, hPC, hb8⟩; have HG8 := Aside0.mk hG; have HPC := Aside0.mk hPC; have HB8 : Aside0 (Below w.heap.size w w8) := ⟨pzL (w := w) HB7.out hb8⟩; clear hG hb8 hPC) | (go_at_call 56; (with_reducible refine (has_calls HM.out (by omega) HG8.out HPC.out (pv_of_C (Kd.C_below HR2.out HB8.out) HC2.out) HP2.out (by have := HLN.out; omega)).mono ?_); rintro e w9 ⟨rfl, hb9⟩; have HB9 : Aside0 (Below w.heap.size w w9) := ⟨pzL (w := w) HB8.out hb9⟩; clear hb9))
        refine bodyPost_ret (results_list (rs := [.tmp 6, .tmp 7]) (vs := [.bool (inF ls l2), .int .i64 0]) rfl (by simp) (Vals.tmp (Vals.tmp Vals.nil))) rfl ?_
        exact ⟨rfl, HB9.out⟩
      · rw [if_neg hok] at h
        cases h
    · rw [if_neg ho1] at h
      have h := Option.some.inj h
      simp only [Prod.mk.injEq] at h
      obtain ⟨e1, e2⟩ := h
      subst e1 e2 h0
      have ho2 : o = false := by simpa using ho1
      subst ho2
      clear ho1
      go_enter Try.func23, Try.ntmps23
      go_wp2_with (first | (go_at_call 47; (with_reducible refine (sc_arguments.calls k a0 A1 c1 l1 0 _ HR1.out HC1.out HE.out).mono ?_); rintro e w6 ⟨rfl, hb6⟩; have HB6 := Aside0.mk hb6; clear hb6) | (go_at_call 55; (with_reducible refine (perms_one (w := w) HR2.out HC2.out (pzB HB6.out _) (blk_new _ _) HO.out).mono ?_); rintro e w7 ⟨rfl, hb7⟩; have HB7 : Aside0 (Below w.heap.size w w7) := ⟨pzL (w := w) (pzB HB6.out _) hb7⟩; clear hb7))
      refine bodyPost_ret (results_list (rs := [.tmp 6, .tmp 7]) (vs := [.bool false, .int .i64 3]) rfl (by simp) (Vals.tmp (Vals.tmp Vals.nil))) rfl ?_
      exact ⟨rfl, HB7.out⟩
  · rw [if_neg h0] at h
    have h := Option.some.inj h
    simp only [Prod.mk.injEq] at h
    obtain ⟨e1, e2⟩ := h
    subst e1 e2
    go_enter Try.func23, Try.ntmps23
    go_wp2_with (first | (go_at_call 47; (with_reducible refine (sc_arguments.calls k a0 A1 c1 l1 e _ HR1.out HC1.out HE.out).mono ?_); rintro e w6 ⟨rfl, hb6⟩; have HB6 := Aside0.mk hb6; clear hb6))
    refine bodyPost_ret (results_list (rs := [.tmp 6, .tmp 7]) (vs := [.bool false, .int .i64 e]) rfl (by simp) (Vals.tmp (Vals.tmp Vals.nil))) rfl ?_
    exact ⟨rfl, HB6.out⟩
end Go.Proofs.Ytpkgckccfanchaa.M

namespace Go.Proofs.Ytpkgckccfanchaa.M
open Go.RowKit YtpkgckccfanchaaW.PrintWords YtpkgckccfanchaaW.PrintLast YtpkgckccfanchaaW.PrintMore
open Sims
set_option linter.unusedVariables false
set_option linter.unusedSimpArgs false
def SeenAt (w : World) (b : Nat) (xs : List Int) : Prop := ∃ es ck, w.heap[b]? = some (.map es ck) ∧ es.toList.map (fun e => (e.key, e.val)) = xs.map (fun x => (Value.int .i64 x, Value.bool true))
theorem seen_mem {es : Array MapEntry} {xs : List Int} (h : es.toList.map (fun e => (e.key, e.val)) = xs.map (fun x => (Value.int .i64 x, Value.bool true))) {e : MapEntry} (he : e ∈ es.toList) : ∃ x ∈ xs, e.key = .int .i64 x := by
  have h1 : (e.key, e.val) ∈ xs.map (fun x => (Value.int .i64 x, Value.bool true)) := h ▸ List.mem_map_of_mem (f := fun e : MapEntry => (e.key, e.val)) he
  obtain ⟨x, hx, e2⟩ := List.mem_map.1 h1
  exact ⟨x, hx, (congrArg Prod.fst e2).symm⟩
theorem seen_get {es : Array MapEntry} {xs : List Int} (h : es.toList.map (fun e => (e.key, e.val)) = xs.map (fun x => (Value.int .i64 x, Value.bool true))) {j : Nat} {x : Int} (hx : xs[j]? = some x) : ∃ e, es.toList[j]? = some e ∧ e.key = .int .i64 x ∧ e.val = .bool true := by
  have h1 : (es.toList.map (fun e => (e.key, e.val)))[j]? = some (Value.int .i64 x, Value.bool true) := by rw [h, List.getElem?_map, hx]; rfl
  rw [List.getElem?_map] at h1
  obtain ⟨e, he, e2⟩ := Option.map_eq_some_iff.1 h1
  exact ⟨e, he, congrArg Prod.fst e2, congrArg Prod.snd e2⟩
theorem int_key_inj {x y : Int} (h : Value.int .i64 x = Value.int .i64 y) : x = y := by cases h; rfl
theorem seen_ok {es : Array MapEntry} {xs : List Int} (h : es.toList.map (fun e => (e.key, e.val)) = xs.map (fun x => (Value.int .i64 x, Value.bool true))) (hr : ∀ x ∈ xs, 0 ≤ x ∧ x < 1000) : KeysOk Try.prog 3 es := by
  intro e he
  obtain ⟨x, hx, e2⟩ := seen_mem h he
  have := hr x hx
  rw [e2]
  exact ⟨_, key_int (by omega) (by omega)⟩
theorem seen_distinct {es : Array MapEntry} {xs : List Int} (h : es.toList.map (fun e => (e.key, e.val)) = xs.map (fun x => (Value.int .i64 x, Value.bool true))) (hn : xs.Nodup) : es.toList.Pairwise (fun x y => x.key ≠ y.key) := by
  have h1 : (es.toList.map (fun e => (e.key, e.val))).Pairwise (fun a b => a.1 ≠ b.1) := by
    rw [h, List.pairwise_map]
    exact hn.imp (fun hxy e => hxy (int_key_inj e))
  exact (List.pairwise_map (f := fun e : MapEntry => (e.key, e.val)) (R := fun a b => a.1 ≠ b.1)).1 h1
theorem seen_look {w : World} {b : Nat} {xs : List Int} (h : SeenAt w b xs) (hr : ∀ x ∈ xs, 0 ≤ x ∧ x < 1000) (hn : xs.Nodup) {x : Int} (h0 : 0 ≤ x) (h1 : x < 1000) :
    (Instr.lookup 129 (.map (some b)) (.int .i64 x) false).run Try.prog w = .ok (.bool (decide (x ∈ xs))) w := by
  obtain ⟨es, ck, hb, hm⟩ := h
  have hz : (zeroValue 4).run Try.prog w = .ok (.bool false) w := by kernel_rfl
  by_cases hx : x ∈ xs
  · obtain ⟨j, hj, e⟩ := List.getElem_of_mem hx
    obtain ⟨e0, he0, hk0, hv0⟩ := seen_get hm (show xs[j]? = some x by rw [List.getElem?_eq_getElem hj, e])
    rw [gm_look_some law_int Try.underlying129 hb (seen_ok hm hr) (seen_distinct hm hn) (key_int (by omega) (by omega)) he0 hk0 false, hv0, decide_eq_true hx]
    rfl
  · rw [gm_look_none law_int Try.underlying129 hz hb (seen_ok hm hr) (key_int (x := x) (by omega) (by omega)) (fun e he hke => by
      obtain ⟨y, hy, e2⟩ := seen_mem hm he
      rw [e2] at hke
      exact hx (int_key_inj hke ▸ hy)) false, decide_eq_false hx]
    rfl
theorem seen_put {w w0 : World} {b : Nat} {xs : List Int} (h : SeenAt w b xs) (hr : ∀ x ∈ xs, 0 ≤ x ∧ x < 1000) {x : Int} (h0 : 0 ≤ x) (h1 : x < 1000) (hx : x ∉ xs) (hB : Below w0.heap.size w0 w) (hb0 : w0.heap.size ≤ b) :
    ∃ w1, (Instr.mapUpdate 129 (.map (some b)) (.int .i64 x) (.bool true)).run Try.prog w = .ok () w1 ∧ SeenAt w1 b (xs ++ [x]) ∧ Below w0.heap.size w0 w1 := by
  obtain ⟨es, ck, hb, hm⟩ := h
  refine ⟨_, gm_store_new law_int Try.underlying129 hb (seen_ok hm hr) (key_int (x := x) (by omega) (by omega)) (fun e he hke => ?_) (.bool true), ⟨_, ck + 1, setBlock_at w b _ (lt_of_some hb), ?_⟩, ?_⟩
  · obtain ⟨y, hy, e2⟩ := seen_mem hm he
    rw [e2] at hke
    exact hx (int_key_inj hke ▸ hy)
  · rw [Array.toList_push, List.map_append, hm, List.map_append]
    rfl
  · exact ((Chg.of_below (S := fun _ => False) (w1 := w) (w := w0) hB).trans (Chg.block w b _) (fun k hk => Or.inr (by have e : k = b := hk; omega))).below (Nat.le_refl _) (fun k hk => hk.elim)
def diffB (n : Int) (l : List Int) : Bool := l.all (fun x => decide (0 ≤ x ∧ x < n)) && decide l.Nodup
theorem diffB_true {n : Int} {l : List Int} (h : diffB n l = true) : (∀ x ∈ l, 0 ≤ x ∧ x < n) ∧ l.Nodup := by
  simp only [diffB, Bool.and_eq_true, List.all_eq_true, decide_eq_true_eq] at h
  exact h
theorem diffB_range {n : Int} {l : List Int} {j : Nat} {x : Int} (hx : l[j]? = some x) (h : ¬ (0 ≤ x ∧ x < n)) : diffB n l = false := by
  rw [Bool.eq_false_iff]
  intro h2
  exact h ((diffB_true h2).1 x (List.mem_of_getElem? hx))
theorem diffB_twice {n : Int} {l : List Int} {j : Nat} {x : Int} (hx : l[j]? = some x) (h : x ∈ l.take j) : diffB n l = false := by
  rw [Bool.eq_false_iff]
  intro h2
  have hn := (diffB_true h2).2
  obtain ⟨i, hi, e⟩ := List.getElem_of_mem h
  obtain ⟨hj, e2⟩ := List.getElem?_eq_some_iff.1 hx
  rw [List.getElem_take] at e
  have hi2 : i < j := by simp at hi; omega
  exact (List.pairwise_iff_getElem.1 hn) i j (by omega) hj hi2 (e.trans e2.symm)
set_option maxHeartbeats 4000000 in
set_option maxRecDepth 100000 in
theorem different_calls {w : World} {A : Option Addr} {c : Nat} {l : List Int} {n : Nat} (hn : n ≤ 512) (hC : Kd.C (Kd.int .i64) w A l.length l) :
    Calls Try.prog 63 #[.int .i64 (n : Int), .slice A l.length c] w fun e w' => e = .returned (.bool (diffB n l)) ∧ Below w.heap.size w w' := by
  have HC := Aside0.mk hC
  clear hC
  have hmm := @run_makeMap Try.prog
  go_enter Try.func63, Try.ntmps63
  go_wp2
  have HS0 : Aside0 (SeenAt (w.alloc (.map #[] 0)) w.heap.size (l.take 0)) := ⟨⟨#[], 0, blk_new w _, rfl⟩⟩
  have HB0 : Aside0 (Below w.heap.size w (w.alloc (.map #[] 0))) := ⟨pzB (Below.refl _ _) _⟩
  go_loopw [11] (fun x wr => ∃ j : Nat, x = .int .i64 j ∧ j ≤ l.length ∧ Aside0 (∀ x ∈ l.take j, 0 ≤ x ∧ x < (n : Int)) ∧ Aside0 (l.take j).Nodup ∧ Aside0 (SeenAt wr w.heap.size (l.take j)) ∧ Aside0 (Below w.heap.size w wr)) (fun x _ => l.length - (intOf x).toNat)
  case atStart => exact ⟨0, rfl, by omega, ⟨fun x hx => by simp at hx⟩, ⟨by simp⟩, HS0, HB0⟩
  case round =>
    clear HS0 HB0 hmm
    obtain ⟨j, rfl, hj, HRG, HND, HS, HB⟩ := hrel
    by_cases hlt : j < l.length
    · obtain ⟨x, hx⟩ : ∃ x, l[j]? = some x := ⟨l[j]'hlt, List.getElem?_eq_getElem _⟩
      obtain ⟨ad, rfl, hc⟩ := Kd.at_int (Kd.C_below HC.out HB.out) (j : Int) (by omega) (by omega)
      have hrd : rd l (j : Int) = x := by simp [rd, List.getD_eq_getElem?_getD, hx]
      rw [hrd, Int.toNat_natCast] at hc
      have hlt2 : (j : Int) < (l.length : Int) := by omega
      have HX := Aside0.mk hx
      have HLN : Aside0 (l.length ≤ 9223372036854775807) := ⟨HC.out.2.1⟩
      clear hx hrd
      by_cases h0 : x < 0
      · have HF := Aside0.mk (diffB_range (n := n) HX.out (by omega))
        go_wp2
        go_ret
        exact ⟨by rw [HF.out]; rfl, HB.out⟩
      · by_cases h1 : (n : Int) ≤ x
        · have HF := Aside0.mk (diffB_range (n := n) HX.out (by omega))
          go_wp2
          go_ret
          exact ⟨by rw [HF.out]; rfl, HB.out⟩
        · have hlook := seen_look HS.out (fun y hy => by have := HRG.out y hy; omega) HND.out (x := x) (by omega) (by omega)
          by_cases hm : x ∈ l.take j
          · have HF := Aside0.mk (diffB_twice (n := n) HX.out hm)
            rw [decide_eq_true hm] at hlook
            go_wp2
            go_ret
            exact ⟨by rw [HF.out]; rfl, HB.out⟩
          · rw [decide_eq_false hm] at hlook
            obtain ⟨w1, hst, hs1, hb1⟩ := seen_put HS.out (fun y hy => by have := HRG.out y hy; omega) (x := x) (by omega) (by omega) hm HB.out (Nat.le_refl _)
            have ht : l.take (j + 1) = l.take j ++ [x] := by
              obtain ⟨q1, q2⟩ := List.getElem?_eq_some_iff.1 HX.out
              rw [List.take_succ_eq_append_getElem q1, q2]
            have HT := Aside0.mk ht
            have HS1 := Aside0.mk hs1
            have HB1 := Aside0.mk hb1
            have HM := Aside0.mk hm
            clear hs1 hb1 hm ht
            have hln := HLN.out
            have hw : wrap64 ((j : Int) + 1) = (j : Int) + 1 := by unfold wrap64; omega
            go_wp2
            go_roundw
            case rel =>
              refine ⟨j + 1, by go_num, by omega, ⟨?_⟩, ⟨?_⟩, ⟨?_⟩, HB1⟩
              · rw [HT.out]
                intro y hy
                rcases List.mem_append.1 hy with hy | hy
                · exact HRG.out y hy
                · rw [List.mem_singleton] at hy; omega
              · rw [HT.out]
                exact List.nodup_append.2 ⟨HND.out, by simp, fun a ha b hb e => by rw [List.mem_singleton] at hb; subst hb; exact HM.out (e ▸ ha)⟩
              · rw [HT.out]; exact HS1.out
            case measure => simp [intOf]; omega
    · obtain rfl : j = l.length := by omega
      have HF : Aside0 (diffB n l = true) := ⟨by
        have h1 := HRG.out
        have h2 := HND.out
        rw [List.take_length] at h1 h2
        simp only [diffB, Bool.and_eq_true, List.all_eq_true, decide_eq_true_eq]
        exact ⟨h1, h2⟩⟩
      go_wp2
      go_ret
      exact ⟨by rw [HF.out]; rfl, HB.out⟩
end Go.Proofs.Ytpkgckccfanchaa.M

namespace Go.Proofs.Ytpkgckccfanchaa.M
open Go.RowKit YtpkgckccfanchaaW.PrintWords YtpkgckccfanchaaW.PrintLast YtpkgckccfanchaaW.PrintMore
open Sims
set_option linter.unusedVariables false
set_option linter.unusedSimpArgs false
theorem group_base_len {n : Nat} {gens : List (List Int)} {base : List Int} {ls : List Lv} (hg : ∀ g ∈ gens, IsP n g) (hb : ∀ x ∈ base, 0 ≤ x ∧ x < n) (hbn : base.Nodup) (h : groupF n (n + 1) gens base = some ls) : base.length ≤ ls.length := by
  obtain ⟨ls', e, _, _, ⟨m, h4⟩, _⟩ := group_ok (Nat.le_refl _) hg hb hbn
  rw [e] at h
  cases h
  have := congrArg List.length h4
  simp at this
  omega
def sc_Lengths.f (k : Nat) (a0 : Int) (l1 : List (List Int)) (l2 : List Int) : Option (List Int × Int) := (sc_arguments.f k a0 l1).bind fun e => if e = 0 then (if okB a0 l1 = true then (if diffB a0 l2 = true then (groupF a0.toNat (a0.toNat + 1) l1 l2).bind fun ls => some ((lensF ls).take l2.length, 0) else some ([], 1)) else none) else some ([], e)
theorem sc_Lengths.mono : ∀ a0 a1 a2 k, LeO (sc_Lengths.f k a0 a1 a2) (sc_Lengths.f (k + 1) a0 a1 a2) := by
  intro a0 a1 a2 k
  unfold sc_Lengths.f
  exact LeO.bind (sc_arguments.mono a0 a1 k) (fun e => LeO.refl _)
set_option maxHeartbeats 4000000 in
set_option maxRecDepth 100000 in
theorem sc_Lengths.calls (k : Nat) (a0 : Int) (A1 : Option Addr) (c1 : Nat) (l1 : List (List Int)) (A2 : Option Addr) (c2 : Nat) (l2 : List Int) (r1 : List Int) (r2 : Int) (w : World) (hr1 : Kd.C (Kd.slice 3 (Kd.int .i64)) w A1 l1.length l1) (hc1 : l1.length ≤ c1) (hr2 : Kd.C (Kd.int .i64) w A2 l2.length l2) (hc2 : l2.length ≤ c2) (h : sc_Lengths.f k a0 l1 l2 = some (r1, r2)) :
    Calls Try.prog 30 #[.int .i64 a0, .slice A1 l1.length c1, .slice A2 l2.length c2] w fun e w' => ∃ v0_ : Value, e = .returned (.tuple #[v0_, .int .i64 r2]) ∧ Kd.R (Kd.int .i64) 3 w' w.heap.size (fun _ => True) v0_ r1 ∧ Below w.heap.size w w' := by
  unfold sc_Lengths.f at h
  obtain ⟨e, he, h⟩ := Option.bind_eq_some_iff.1 h
  have HR1 := Aside0.mk hr1
  have HC1 := Aside0.mk hc1
  have HR2 := Aside0.mk hr2
  have HC2 := Aside0.mk hc2
  have HE := Aside0.mk he
  clear hr1 hc1 hr2 hc2 he
  by_cases h0 : e = 0
  · rw [if_pos h0] at h
    by_cases hok : okB a0 l1 = true
    · rw [if_pos hok] at h
      obtain ⟨m, rfl, hm, hm11, hg, hl⟩ := okB_ok hok
      by_cases hd : diffB m l2 = true
      · rw [if_pos hd, Int.toNat_natCast] at h
        obtain ⟨ls, hls, h⟩ := Option.bind_eq_some_iff.1 h
        have h := Option.some.inj h
        simp only [Prod.mk.injEq] at h
        obtain ⟨e1, e2⟩ := h
        subst e1 e2 h0
        obtain ⟨hb, hbn⟩ := diffB_true hd
        have HM := Aside0.mk hm
        have HGN := Aside0.mk hg
        have HLS := Aside0.mk hls
        have HLN := Aside0.mk (group_len hg hb hbn hls)
        have hbl := group_base_len hg hb hbn hls
        have hbl2 : l2.length ≤ (lensF ls).length := by rw [lensF_length]; exact hbl
        have HL := Aside0.mk hl
        have HD := Aside0.mk hd
        have HBL := Aside0.mk hbl2
        clear hok hm hg hl hls hd hb hbn hbl
        go_enter Try.func30, Try.ntmps30
        go_wp2_with (first | (go_at_call 47; (with_reducible refine (sc_arguments.calls k (m : Int) A1 c1 l1 0 _ HR1.out HC1.out HE.out).mono ?_); rintro e w6 ⟨rfl, hb6⟩; have HB6 := Aside0.mk hb6; clear hb6) | (go_at_call 63; (with_reducible refine (different_calls (by omega) (Kd.C_below HR2.out HB6.out)).mono ?_); rintro e w7 ⟨rfl, hb7⟩; rw [HD.out]; have HB7 : Aside0 (Below w.heap.size w w7) := ⟨pzL (w := w) HB6.out hb7⟩; clear hb7) | (go_at_call 48; (with_reducible refine (newGroup_calls HM.out hm11 (Kd.C_below HR1.out HB7.out) (Kd.C_below HR2.out HB7.out) HGN.out (diffB_true HD.out).1 (diffB_true HD.out).2 HL.out HLS.out).mono ?_); rintro e w8 ⟨g, av, cs, PB, rfl, hG, hPC, hb8⟩; have HG8 := Aside0.mk hG; have HB8 : Aside0 (Below w.heap.size w w8) := ⟨pzL (w := w) HB7.out hb8⟩; clear hG hb8 hPC) | (go_at_call 64; (with_reducible refine (lengths_calls HG8.out (by have := HLN.out; omega)).mono ?_); rintro e w9 ⟨v, rfl, hR, hb9⟩; obtain ⟨A9, c9, rfl, hl9, hC9⟩ := Kd.R_reads hR; have HR9 := Aside0.mk hR; have hl92 : l2.length ≤ c9 := Nat.le_trans hbl2 hl9; have HB9 : Aside0 (Below w.heap.size w w9) := ⟨pzL (w := w) HB8.out hb9⟩; clear hR hb9 hC9))
        refine bodyPost_ret (results_list (rs := [.tmp 6, .tmp 7]) (vs := [.slice A9 l2.length c9, .int .i64 0]) rfl (by simp) (Vals.tmp (Vals.tmp Vals.nil))) rfl ?_
        exact ⟨_, rfl, Kd.R_lower (Kd.R_take HR9.out HBL.out) HB8.out.size, HB9.out⟩
      · rw [if_neg hd] at h
        have h := Option.some.inj h
        simp only [Prod.mk.injEq] at h
        obtain ⟨e1, e2⟩ := h
        subst e1 e2 h0
        have HD : Aside0 (diffB m l2 = false) := ⟨by simpa using hd⟩
        clear hd
        go_enter Try.func30, Try.ntmps30
        go_wp2_with (first | (go_at_call 47; (with_reducible refine (sc_arguments.calls k (m : Int) A1 c1 l1 0 _ HR1.out HC1.out HE.out).mono ?_); rintro e w6 ⟨rfl, hb6⟩; have HB6 := Aside0.mk hb6; clear hb6) | (go_at_call 63; (with_reducible refine (different_calls (by omega) (Kd.C_below HR2.out HB6.out)).mono ?_); rintro e w7 ⟨rfl, hb7⟩; rw [HD.out]; have HB7 : Aside0 (Below w.heap.size w w7) := ⟨pzL (w := w) HB6.out hb7⟩; clear hb7))
        refine bodyPost_ret (results_list (rs := [.tmp 6, .tmp 7]) (vs := [.slice none 0 0, .int .i64 1]) rfl (by simp) (Vals.tmp (Vals.tmp Vals.nil))) rfl ?_
        exact ⟨_, rfl, Kd.R_nil _ _ _ _ _, HB7.out⟩
    · rw [if_neg hok] at h
      cases h
  · rw [if_neg h0] at h
    have h := Option.some.inj h
    simp only [Prod.mk.injEq] at h
    obtain ⟨e1, e2⟩ := h
    subst e1 e2
    go_enter Try.func30, Try.ntmps30
    go_wp2_with (first | (go_at_call 47; (with_reducible refine (sc_arguments.calls k a0 A1 c1 l1 e _ HR1.out HC1.out HE.out).mono ?_); rintro e w6 ⟨rfl, hb6⟩; have HB6 := Aside0.mk hb6; clear hb6))
    refine bodyPost_ret (results_list (rs := [.tmp 6, .tmp 7]) (vs := [.slice none 0 0, .int .i64 e]) rfl (by simp) (Vals.tmp (Vals.tmp Vals.nil))) rfl ?_
    exact ⟨_, rfl, Kd.R_nil _ _ _ _ _, HB6.out⟩
end Go.Proofs.Ytpkgckccfanchaa.M

namespace Go.Proofs.Ytpkgckccfanchaa.M
open Go.RowKit YtpkgckccfanchaaW.PrintWords YtpkgckccfanchaaW.PrintLast YtpkgckccfanchaaW.PrintMore
attribute [local go_sem] pzW pzX pzY pzZ pzS pzT pzU pzV
set_option linter.unusedVariables false
set_option linter.unusedSimpArgs false
def rb_Same.l0 : Nat → List Int → List Int → Int → Int → Option (Bool)
  | 0, _, _, _, _ => none
  | k + 1, x0, x1, x12, x13 => if x13 < x12 then (if 0 ≤ x13 then (if x13 < (x0.length : Int) then (if x13 < (x1.length : Int) then (if (rd x0 x13) = (rd x1 x13) then (rb_Same.l0 k x0 x1 x12 (wrap64 (x13 + 1))) else (some false)) else (none)) else (none)) else (none)) else (some true)
def rb_Same.f (k : Nat) (l0 : List Int) (l1 : List Int) : Option (Bool) := if (l0.length : Int) = (l1.length : Int) then (rb_Same.l0 k l0 l1 (l0.length : Int) 0) else (some false)
theorem rb_Same.mono_l : ∀ k, (∀ y0 y1 y2 y3, LeO (rb_Same.l0 k y0 y1 y2 y3) (rb_Same.l0 (k + 1) y0 y1 y2 y3))
  | 0 => fun _ _ _ _ r h => by simp [rb_Same.l0] at h
  | k + 1 => by
    have ih0 := rb_Same.mono_l k
    · intro y0 y1 y2 y3
      unfold rb_Same.l0
      repeat' first
      | (with_reducible exact ih0 _ _ _ _)
      | (with_reducible exact LeO.refl _)
      | (with_reducible exact LeO.none _)
      | (with_reducible refine LeO.ite ?_ ?_)
      | (with_reducible refine LeO.bind ?_ (fun _ => ?_))
      | exact ih0 _ _ _ _
      | exact LeO.none _
      | refine LeO.ite ?_ ?_
      | refine LeO.bind ?_ (fun _ => ?_)
theorem rb_Same.mono : ∀ a0 a1 k, LeO (rb_Same.f k a0 a1) (rb_Same.f (k + 1) a0 a1) := by
  intro a0 a1 k; have ih0 := rb_Same.mono_l k
  unfold rb_Same.f
  repeat' first
      | (with_reducible exact ih0 _ _ _ _)
      | (with_reducible exact LeO.refl _)
      | (with_reducible exact LeO.none _)
      | (with_reducible refine LeO.ite ?_ ?_)
      | (with_reducible refine LeO.bind ?_ (fun _ => ?_))
      | exact ih0 _ _ _ _
      | exact LeO.none _
      | refine LeO.ite ?_ ?_
      | refine LeO.bind ?_ (fun _ => ?_)
set_option maxHeartbeats 8000000 in
set_option maxRecDepth 100000 in
theorem rb_Same.calls (k : Nat) (A0 : Option Addr) (c0 : Nat) (l0 : List Int) (A1 : Option Addr) (c1 : Nat) (l1 : List Int) (r : Bool) (w : World) (hr0 : Kd.C (Kd.int .i64) w A0 l0.length l0) (hc0 : l0.length ≤ c0) (hr1 : Kd.C (Kd.int .i64) w A1 l1.length l1) (hc1 : l1.length ≤ c1) (h : rb_Same.f k l0 l1 = some r) :
    Calls Try.prog 32 #[.slice A0 l0.length c0, .slice A1 l1.length c1] w fun e w' => e = .returned (.bool r) ∧ Drawn0 w w' := by
  have HR0 := Aside0.mk hr0; have HC0 := Aside0.mk hc0; clear hr0 hc0; have HR1 := Aside0.mk hr1; have HC1 := Aside0.mk hc1; clear hr1 hc1; have H : (if (l0.length : Int) = (l1.length : Int) then (rb_Same.l0 k l0 l1 (l0.length : Int) 0) else (some false)) = some r := h; clear h
  by_cases c3 : (l0.length : Int) = (l1.length : Int)
  · rw [if_pos c3] at H
    have c3b0 : ((l0.length : Int) == (l1.length : Int)) = true := beq_iff_eq.mpr c3; have c3b1 : ((l0.length : Int) != (l1.length : Int)) = false := bne_eq_false_iff_eq.mpr c3
    have c3b2 : (l0.length == l1.length) = true := by first | simpa using c3 | (simp at c3 ⊢; omega)
    clear c3; have H' := Aside0.mk H; clear H
    go_enter Try.func32, Try.ntmps32
    go_wp2
    repeat (go_quiet (fail); try go_wp2)
    go_loopg [13] k (fun kq v13 w' => ∃ (x13_1 : Int), v13 = .int .i64 x13_1 ∧ Aside0 (rb_Same.l0 kq l0 l1 (l0.length : Int) x13_1 = some r) ∧ Aside0 (kq ≤ k) ∧ Drawn0 w w')
    case atStart => exact ⟨(0), (by first | rfl | (simp; done) | (simp [*]; done)), H', ⟨Nat.le_refl _⟩, by repeat (first | exact Drawn0.refl _ | apply Drawn0.step)⟩
    case round =>
      clear H'
      try clear c1
      try clear p2
      try clear c3
      try clear c3b0
      try clear c3b1
      try clear c3b2
      obtain ⟨x13_1, rfl, HA, HK1, ⟨m1, rfl⟩⟩ := hrel; cases gk with
      | zero => exact absurd HA.out (by simp [rb_Same.l0])
      | succ k1 =>
        have H := HA.out; clear HA
        simp only [rb_Same.l0] at H
        by_cases c4 : x13_1 < (l0.length : Int)
        · rw [if_pos c4] at H
          have c4b0 : decide (x13_1 < (l0.length : Int)) = true := decide_eq_true c4; clear c4
          by_cases c5 : 0 ≤ x13_1
          · rw [if_pos c5] at H
            have c5b0 : decide (0 ≤ x13_1) = true := decide_eq_true c5; clear c5
            by_cases c6 : x13_1 < (l0.length : Int)
            · rw [if_pos c6] at H
              have c6b0 : decide (x13_1 < (l0.length : Int)) = true := decide_eq_true c6; clear c6
              by_cases c7 : x13_1 < (l1.length : Int)
              · rw [if_pos c7] at H
                have c7b0 : decide (x13_1 < (l1.length : Int)) = true := decide_eq_true c7; clear c7
                by_cases c8 : (rd l0 x13_1) = (rd l1 x13_1)
                · rw [if_pos c8] at H
                  have c8b0 : ((rd l0 x13_1) == (rd l1 x13_1)) = true := beq_iff_eq.mpr c8; have c8b1 : ((rd l0 x13_1) != (rd l1 x13_1)) = false := bne_eq_false_iff_eq.mpr c8; clear c8; have H' := Aside0.mk H; clear H; have p343 : 0 ≤ (x13_1 : Int) := of_decide_eq_true (by first | (with_reducible assumption) | assumption); have q343 : x13_1 < (l0.length : Int) := of_decide_eq_true (by first | (with_reducible assumption) | assumption); obtain ⟨ad343, e343, hx343_0⟩ := Kd.at_int HR0.out x13_1 p343 q343; cases e343; replace p343 := eq_true p343; replace q343 := eq_true q343; have p344 : 0 ≤ (x13_1 : Int) := of_decide_eq_true (by first | (with_reducible assumption) | assumption); have q344 : x13_1 < (l1.length : Int) := of_decide_eq_true (by first | (with_reducible assumption) | assumption); obtain ⟨ad344, e344, hx344_0⟩ := Kd.at_int HR1.out x13_1 p344 q344; cases e344; replace p344 := eq_true p344; replace q344 := eq_true q344
                  go_wp2
                  repeat (go_quiet (fail); try go_wp2)
                  go_roundg k1
                  case measure => have := HK1.out; omega
                  case rel => exact ⟨(wrap64 (x13_1 + 1)), (by first | rfl | (simp; done) | (simp [*]; done)), H', ⟨by have := HK1.out; omega⟩, by repeat (first | exact Drawn0.refl _ | apply Drawn0.step)⟩
                · rw [if_neg c8] at H
                  have c8b0 : ((rd l0 x13_1) == (rd l1 x13_1)) = false := beq_eq_false_iff_ne.mpr c8; have c8b1 : ((rd l0 x13_1) != (rd l1 x13_1)) = true := bne_iff_ne.mpr c8; obtain rfl := Option.some.inj H; have p343 : 0 ≤ (x13_1 : Int) := of_decide_eq_true (by first | (with_reducible assumption) | assumption); have q343 : x13_1 < (l0.length : Int) := of_decide_eq_true (by first | (with_reducible assumption) | assumption); obtain ⟨ad343, e343, hx343_0⟩ := Kd.at_int HR0.out x13_1 p343 q343; cases e343; replace p343 := eq_true p343; replace q343 := eq_true q343; have p344 : 0 ≤ (x13_1 : Int) := of_decide_eq_true (by first | (with_reducible assumption) | assumption); have q344 : x13_1 < (l1.length : Int) := of_decide_eq_true (by first | (with_reducible assumption) | assumption); obtain ⟨ad344, e344, hx344_0⟩ := Kd.at_int HR1.out x13_1 p344 q344; cases e344; replace p344 := eq_true p344; replace q344 := eq_true q344
                  go_wp2
                  repeat (go_quiet (fail); try go_wp2)
                  go_ret
                  exact ⟨by first | rfl | (simp; done) | (simp [*]; done), by repeat (first | exact Drawn0.refl _ | apply Drawn0.step)⟩
              · rw [if_neg c7] at H
                exact absurd H (by simp)
            · rw [if_neg c6] at H
              exact absurd H (by simp)
          · rw [if_neg c5] at H
            exact absurd H (by simp)
        · rw [if_neg c4] at H
          have c4b0 : decide (x13_1 < (l0.length : Int)) = false := decide_eq_false c4; clear c4; obtain rfl := Option.some.inj H
          go_wp2
          repeat (go_quiet (fail); try go_wp2)
          go_ret
          exact ⟨by first | rfl | (simp; done) | (simp [*]; done), by repeat (first | exact Drawn0.refl _ | apply Drawn0.step)⟩
  · rw [if_neg c3] at H
    have c3b0 : ((l0.length : Int) == (l1.length : Int)) = false := beq_eq_false_iff_ne.mpr c3; have c3b1 : ((l0.length : Int) != (l1.length : Int)) = true := bne_iff_ne.mpr c3
    have c3b2 : (l0.length == l1.length) = false := by first | simpa using c3 | (simp at c3 ⊢; omega)
    obtain rfl := Option.some.inj H
    go_enter Try.func32, Try.ntmps32
    go_wp2
    repeat (go_quiet (fail); try go_wp2)
    go_ret
    exact ⟨by first | rfl | (simp; done) | (simp [*]; done), by repeat (first | exact Drawn0.refl _ | apply Drawn0.step)⟩
end Go.Proofs.Ytpkgckccfanchaa.M
