/- Part of the proof of StabchainFactors: texts of this claim, merged and pruned by wip/tools/merge2.py. -/
import Derived.Test.YtpkgckccfanchaaBStabchainFactors3
import Derived.Test.YtpkgckccfanchaaBStabchainFactors9
import Derived.Test.YtpkgckccfanchaaBStabchainFactors8
import Derived.Test.YtpkgckccfanchaaBStabchainFactors7
import Derived.Test.YtpkgckccfanchaaBStabchainFactors5
import Derived.Test.YtpkgckccfanchaaBStabchainFactors6

namespace Go.Proofs.Ytpkgckccfanchaa.M
open Go.RowKit Go.Proofs.YtpkgckccfanchaaW.PrintWords Go.Proofs.YtpkgckccfanchaaW.PrintLast Go.Proofs.YtpkgckccfanchaaW.PrintMore
attribute [local go_sem] max2_int min2_int max_two min_two max_three min_three max_four min_four
set_option linter.unusedVariables false
set_option linter.unusedSimpArgs false
def quadformref01_Rem.f (a0_0 : Bool) (l0_1 : List Int) (a1_0 : Bool) (l1_1 : List Int) : Option (Bool × List Int) := (quadformref01_DivMod.f a0_0 l0_1 a1_0 l1_1).bind fun bt539 => (some (bt539.2.2.1, bt539.2.2.2.1))
set_option maxHeartbeats 8000000 in
set_option maxRecDepth 100000 in
theorem quadformref01_Rem.calls (a0_0 : Bool) (A0_1 : Option Addr) (c0_1 : Nat) (l0_1 : List Int) (a1_0 : Bool) (A1_1 : Option Addr) (c1_1 : Nat) (l1_1 : List Int) (r1 : Bool) (r2 : List Int) (w : World) (hr0_1 : Kd.C (Kd.int .u32) w A0_1 l0_1.length l0_1) (hc0_1 : l0_1.length ≤ c0_1) (hr1_1 : Kd.C (Kd.int .u32) w A1_1 l1_1.length l1_1) (hc1_1 : l1_1.length ≤ c1_1) (h : quadformref01_Rem.f a0_0 l0_1 a1_0 l1_1 = some (r1, r2)) :
    Calls Try.prog 62 #[.agg #[.bool a0_0, .slice A0_1 l0_1.length c0_1], .agg #[.bool a1_0, .slice A1_1 l1_1.length c1_1]] w fun e w' => ∃ v1_ : Value, e = .returned (.agg #[.bool r1, v1_]) ∧ Kd.R (Kd.int .u32) 98 w' w.heap.size (fun _ => True) v1_ r2 ∧ Below w.heap.size w w' := by
  have hu24 := Try.underlying24; have HR0_1 := Aside0.mk hr0_1; have HC0_1 := Aside0.mk hc0_1; clear hr0_1 hc0_1; have HR1_1 := Aside0.mk hr1_1; have HC1_1 := Aside0.mk hc1_1; clear hr1_1 hc1_1; have HB := Aside0.mk (Below.refl w.heap.size w); have H : ((quadformref01_DivMod.f a0_0 l0_1 a1_0 l1_1).bind fun bt539 => (some (bt539.2.2.1, bt539.2.2.2.1))) = some (r1, r2) := h; clear h; replace H := Option.bind_eq_some_iff.mp H; obtain ⟨⟨t539, t540, t543, t544, t547⟩, A30, H⟩ := H; replace H : (some (t543, t544)) = some (r1, r2) := H; have A3 := Aside0.mk A30; clear A30
  simp only [Option.some.injEq, Prod.mk.injEq] at H
  obtain ⟨rfl, rfl⟩ := H
  go_enter Try.func62, Try.ntmps62
  go_wp2_with (first | ((with_reducible refine gate_dst (N := 2) rfl ?_); refine box_event ?hg (N := 2) ?hd (cs := #[.bool a0_0, .slice A0_1 l0_1.length c0_1]) (t := 24) ?hr ?_; (case hd => rfl); (case hg => rfl); (case hr => first | (go_simp; done) | (go_simp; rfl)); intro gb536 hg w4 hbox hb; have n0_ := Aside0.mk (below_step (by repeat (first | (with_reducible first | exact HB.out | apply below_alloc | apply pw_below_drewN | apply below_drew1) | exact HB.out)) hb); have n1_ := Aside0.mk (hbox); have n2_ := Aside0.mk ((by rw [hg]; exact (below_size (by repeat (first | (with_reducible first | exact HB.out | apply below_alloc | apply pw_below_drewN | apply below_drew1) | exact HB.out))) : w.heap.size ≤ gb536)); have n3_ := Aside0.mk ((by rw [hg]; exact (below_size (by repeat (first | (with_reducible first | exact HB.out | apply below_alloc | apply pw_below_drewN | apply below_drew1) | exact HB.out))) : w.heap.size ≤ gb536)); clear HB; have HB := n0_; have BK536 := n1_; have GW536 := n2_; have GE536 := n3_; clear n0_ n1_ n2_ n3_; clear hb hbox hg) | ((with_reducible refine gate_dst (N := 3) rfl ?_); refine box_event ?hg (N := 3) ?hd (cs := #[.bool a1_0, .slice A1_1 l1_1.length c1_1]) (t := 24) ?hr ?_; (case hd => rfl); (case hg => rfl); (case hr => first | (go_simp; done) | (go_simp; rfl)); intro gb537 hg w5 hbox hb; have n0_ := Aside0.mk (blk_below (g := gb536) (o := .cells #[.bool a0_0, .slice A0_1 l0_1.length c0_1] 24 (0, 0)) (by (with_reducible repeat (first | refine blk_drewN ?_ _ | refine blk_drew ?_ | refine blk_alloc ?_ _)); exact BK536.out) hb); have n1_ := Aside0.mk (below_step (by repeat (first | (with_reducible first | exact HB.out | apply below_alloc | apply pw_below_drewN | apply below_drew1 | refine below_set ?_ GE536.out) | exact HB.out)) hb); have n2_ := Aside0.mk (hbox); have n3_ := Aside0.mk ((by rw [hg]; exact (below_size (by repeat (first | (with_reducible first | exact HB.out | apply below_alloc | apply pw_below_drewN | apply below_drew1 | refine below_set ?_ GE536.out) | exact HB.out))) : w.heap.size ≤ gb537)); have n4_ := Aside0.mk ((by rw [hg]; exact (below_size (by repeat (first | (with_reducible first | exact HB.out | apply below_alloc | apply pw_below_drewN | apply below_drew1 | refine below_set ?_ GE536.out) | exact HB.out))) : w.heap.size ≤ gb537)); have n5_ := Aside0.mk ((by rw [hg]; exact Nat.ne_of_lt (blk_lt (g := gb536) (o := .cells #[.bool a0_0, .slice A0_1 l0_1.length c0_1] 24 (0, 0)) (by (with_reducible repeat (first | refine blk_drewN ?_ _ | refine blk_drew ?_ | refine blk_alloc ?_ _)); exact BK536.out)) : gb536 ≠ gb537)); have n6_ := Aside0.mk ((by rw [hg]; exact Nat.ne_of_gt (blk_lt (g := gb536) (o := .cells #[.bool a0_0, .slice A0_1 l0_1.length c0_1] 24 (0, 0)) (by (with_reducible repeat (first | refine blk_drewN ?_ _ | refine blk_drew ?_ | refine blk_alloc ?_ _)); exact BK536.out)) : gb537 ≠ gb536)); clear BK536; clear HB; have BK536 := n0_; have HB := n1_; have BK537 := n2_; have GW537 := n3_; have GE537 := n4_; have NB536_537 := n5_; have NB537_536 := n6_; clear n0_ n1_ n2_ n3_ n4_ n5_ n6_; clear hb hbox hg) | ((with_reducible refine gate_dst (N := 4) rfl ?_); refine box_event ?hg (N := 4) ?hd (cs := #[.bool false, .slice none 0 0]) (t := 24) ?hr ?_; (case hd => rfl); (case hg => rfl); (case hr => first | (go_simp; done) | (go_simp; rfl)); intro gb538 hg w6 hbox hb; have n0_ := Aside0.mk (blk_below (g := gb536) (o := .cells #[.bool a0_0, .slice A0_1 l0_1.length c0_1] 24 (0, 0)) (by (with_reducible repeat (first | refine blk_drewN ?_ _ | refine blk_drew ?_ | refine blk_alloc ?_ _)); exact BK536.out) hb); have n1_ := Aside0.mk (blk_below (g := gb537) (o := .cells #[.bool a1_0, .slice A1_1 l1_1.length c1_1] 24 (0, 0)) (by (with_reducible repeat (first | refine blk_drewN ?_ _ | refine blk_drew ?_ | refine blk_alloc ?_ _)); exact BK537.out) hb); have n2_ := Aside0.mk (below_step (by repeat (first | (with_reducible first | exact HB.out | apply below_alloc | apply pw_below_drewN | apply below_drew1 | refine below_set ?_ GE536.out | refine below_set ?_ GE537.out) | exact HB.out)) hb); have n3_ := Aside0.mk (hbox); have n4_ := Aside0.mk ((by rw [hg]; exact (below_size (by repeat (first | (with_reducible first | exact HB.out | apply below_alloc | apply pw_below_drewN | apply below_drew1 | refine below_set ?_ GE536.out | refine below_set ?_ GE537.out) | exact HB.out))) : w.heap.size ≤ gb538)); have n5_ := Aside0.mk ((by rw [hg]; exact (below_size (by repeat (first | (with_reducible first | exact HB.out | apply below_alloc | apply pw_below_drewN | apply below_drew1 | refine below_set ?_ GE536.out | refine below_set ?_ GE537.out) | exact HB.out))) : w.heap.size ≤ gb538)); have n6_ := Aside0.mk ((by rw [hg]; exact Nat.ne_of_lt (blk_lt (g := gb536) (o := .cells #[.bool a0_0, .slice A0_1 l0_1.length c0_1] 24 (0, 0)) (by (with_reducible repeat (first | refine blk_drewN ?_ _ | refine blk_drew ?_ | refine blk_alloc ?_ _)); exact BK536.out)) : gb536 ≠ gb538)); have n7_ := Aside0.mk ((by rw [hg]; exact Nat.ne_of_gt (blk_lt (g := gb536) (o := .cells #[.bool a0_0, .slice A0_1 l0_1.length c0_1] 24 (0, 0)) (by (with_reducible repeat (first | refine blk_drewN ?_ _ | refine blk_drew ?_ | refine blk_alloc ?_ _)); exact BK536.out)) : gb538 ≠ gb536)); have n8_ := Aside0.mk ((by rw [hg]; exact Nat.ne_of_lt (blk_lt (g := gb537) (o := .cells #[.bool a1_0, .slice A1_1 l1_1.length c1_1] 24 (0, 0)) (by (with_reducible repeat (first | refine blk_drewN ?_ _ | refine blk_drew ?_ | refine blk_alloc ?_ _)); exact BK537.out)) : gb537 ≠ gb538)); have n9_ := Aside0.mk ((by rw [hg]; exact Nat.ne_of_gt (blk_lt (g := gb537) (o := .cells #[.bool a1_0, .slice A1_1 l1_1.length c1_1] 24 (0, 0)) (by (with_reducible repeat (first | refine blk_drewN ?_ _ | refine blk_drew ?_ | refine blk_alloc ?_ _)); exact BK537.out)) : gb538 ≠ gb537)); clear BK536; clear BK537; clear HB; have BK536 := n0_; have BK537 := n1_; have HB := n2_; have BK538 := n3_; have GW538 := n4_; have GE538 := n5_; have NB536_538 := n6_; have NB538_536 := n7_; have NB537_538 := n8_; have NB538_537 := n9_; clear n0_ n1_ n2_ n3_ n4_ n5_ n6_ n7_ n8_ n9_; clear hb hbox hg; have hnb7 := NB536_537.out; have hnc7 := NB537_536.out; have hnb8 := NB536_538.out; have hnc8 := NB538_536.out; have hcz9_0 : w6.cell? ⟨gb536, 0, none⟩ = some (.bool a0_0) := (blk_cell BK536.out 0).trans rfl; have hcz9_1 : w6.cell? ⟨gb536, 1, none⟩ = some (.slice A0_1 l0_1.length c0_1) := (blk_cell BK536.out 1).trans rfl; have hfz9_0 := blk_frozen BK536.out 0; have hfz9_1 := blk_frozen BK536.out 1; have hnb10 := NB537_538.out; have hnc10 := NB538_537.out; have hcz11_0 : w6.cell? ⟨gb537, 0, none⟩ = some (.bool a1_0) := (blk_cell BK537.out 0).trans rfl; have hcz11_1 : w6.cell? ⟨gb537, 1, none⟩ = some (.slice A1_1 l1_1.length c1_1) := (blk_cell BK537.out 1).trans rfl; have hfz11_0 := blk_frozen BK537.out 0; have hfz11_1 := blk_frozen BK537.out 1) | ((with_reducible refine gate_callee (f := 94) rfl ?_); refine goesL_ (some 11) rfl rfl Try.func94 (by kernel_rfl) rfl #[.agg #[.bool a0_0, .slice A0_1 l0_1.length c0_1], .agg #[.bool a1_0, .slice A1_1 l1_1.length c1_1]] rfl (by (try simp only [List.map_toArray, List.map_cons, List.map_nil]); first | done | rfl | (simp only [List.length_drop, List.length_take]; rfl)) ?_; (with_reducible refine (quadformref01_DivMod.calls a0_0 _ _ l0_1 a1_0 _ _ l1_1 t539 t540 t543 t544 t547 _ ?side1 ?side2 ?side3 ?side4 A3.out).mono ?_); (case side1 => repeat (first | exact (Kd.C_below HR0_1.out HB.out) | (with_reducible refine Kd.C_alloc ?_ _) | (with_reducible refine Kd.C_drewN ?_ _) | (with_reducible refine Kd.C_drew ?_))); (case side2 => exact HC0_1.out); (case side3 => repeat (first | exact (Kd.C_below HR1_1.out HB.out) | (with_reducible refine Kd.C_alloc ?_ _) | (with_reducible refine Kd.C_drewN ?_ _) | (with_reducible refine Kd.C_drew ?_))); (case side4 => exact HC1_1.out); rintro e w12 ⟨v541, v545, rfl, ho0, ho1, hb⟩; refine ⟨_, rfl, ?_⟩; have n0_ := Aside0.mk (Kd.R_lower ho0 (below_size (by repeat (first | (with_reducible first | exact HB.out | apply below_alloc | apply pw_below_drewN | apply below_drew1 | refine below_set ?_ GE536.out | refine below_set ?_ GE537.out | refine below_set ?_ GE538.out) | exact HB.out)))); have n1_ := Aside0.mk (Kd.R_lower ho1 (below_size (by repeat (first | (with_reducible first | exact HB.out | apply below_alloc | apply pw_below_drewN | apply below_drew1 | refine below_set ?_ GE536.out | refine below_set ?_ GE537.out | refine below_set ?_ GE538.out) | exact HB.out)))); have n2_ := Aside0.mk (blk_below (g := gb536) (o := .cells #[.bool a0_0, .slice A0_1 l0_1.length c0_1] 24 (0, 0)) (by (with_reducible repeat (first | refine blk_drewN ?_ _ | refine blk_drew ?_ | refine blk_alloc ?_ _)); exact BK536.out) hb); have n3_ := Aside0.mk (blk_below (g := gb537) (o := .cells #[.bool a1_0, .slice A1_1 l1_1.length c1_1] 24 (0, 0)) (by (with_reducible repeat (first | refine blk_drewN ?_ _ | refine blk_drew ?_ | refine blk_alloc ?_ _)); exact BK537.out) hb); have n4_ := Aside0.mk (blk_below (g := gb538) (o := .cells #[.bool false, .slice none 0 0] 24 (0, 0)) (by (with_reducible repeat (first | refine blk_drewN ?_ _ | refine blk_drew ?_ | refine blk_alloc ?_ _)); exact BK538.out) hb); have n5_ := Aside0.mk (below_step (by repeat (first | (with_reducible first | exact HB.out | apply below_alloc | apply pw_below_drewN | apply below_drew1 | refine below_set ?_ GE536.out | refine below_set ?_ GE537.out | refine below_set ?_ GE538.out) | exact HB.out)) hb); clear BK536; clear BK537; clear BK538; clear HB; have HO542 := n0_; have HO546 := n1_; have BK536 := n2_; have BK537 := n3_; have BK538 := n4_; have HB := n5_; clear n0_ n1_ n2_ n3_ n4_ n5_; (try clear hb); (try clear hb2); (try clear hk); (try clear hi); (try clear ho0); (try clear ho1)) | ((with_reducible refine gate_dst (N := 5) rfl ?_); refine box_event ?hg (N := 5) ?hd (cs := #[.bool false, .slice none 0 0]) (t := 24) ?hr ?_; (case hd => rfl); (case hg => rfl); (case hr => first | (go_simp; done) | (go_simp; rfl)); intro gb548 hg w13 hbox hb; have n0_ := Aside0.mk (Kd.R_below (by (with_reducible repeat (first | apply Kd.R_alloc | apply Kd.R_drewN | apply Kd.R_drew)); exact HO542.out) hb); have n1_ := Aside0.mk (Kd.R_below (by (with_reducible repeat (first | apply Kd.R_alloc | apply Kd.R_drewN | apply Kd.R_drew)); exact HO546.out) hb); have n2_ := Aside0.mk (blk_below (g := gb536) (o := .cells #[.bool a0_0, .slice A0_1 l0_1.length c0_1] 24 (0, 0)) (by (with_reducible repeat (first | refine blk_drewN ?_ _ | refine blk_drew ?_ | refine blk_alloc ?_ _)); exact BK536.out) hb); have n3_ := Aside0.mk (blk_below (g := gb537) (o := .cells #[.bool a1_0, .slice A1_1 l1_1.length c1_1] 24 (0, 0)) (by (with_reducible repeat (first | refine blk_drewN ?_ _ | refine blk_drew ?_ | refine blk_alloc ?_ _)); exact BK537.out) hb); have n4_ := Aside0.mk (blk_below (g := gb538) (o := .cells #[.bool false, .slice none 0 0] 24 (0, 0)) (by (with_reducible repeat (first | refine blk_drewN ?_ _ | refine blk_drew ?_ | refine blk_alloc ?_ _)); exact BK538.out) hb); have n5_ := Aside0.mk (below_step (by repeat (first | (with_reducible first | exact HB.out | apply below_alloc | apply pw_below_drewN | apply below_drew1 | refine below_set ?_ GE536.out | refine below_set ?_ GE537.out | refine below_set ?_ GE538.out) | exact HB.out)) hb); have n6_ := Aside0.mk (hbox); have n7_ := Aside0.mk ((by rw [hg]; exact (below_size (by repeat (first | (with_reducible first | exact HB.out | apply below_alloc | apply pw_below_drewN | apply below_drew1 | refine below_set ?_ GE536.out | refine below_set ?_ GE537.out | refine below_set ?_ GE538.out) | exact HB.out))) : w.heap.size ≤ gb548)); have n8_ := Aside0.mk ((by rw [hg]; exact (below_size (by repeat (first | (with_reducible first | exact HB.out | apply below_alloc | apply pw_below_drewN | apply below_drew1 | refine below_set ?_ GE536.out | refine below_set ?_ GE537.out | refine below_set ?_ GE538.out) | exact HB.out))) : w.heap.size ≤ gb548)); have n9_ := Aside0.mk ((by rw [hg]; exact Nat.ne_of_lt (blk_lt (g := gb536) (o := .cells #[.bool a0_0, .slice A0_1 l0_1.length c0_1] 24 (0, 0)) (by (with_reducible repeat (first | refine blk_drewN ?_ _ | refine blk_drew ?_ | refine blk_alloc ?_ _)); exact BK536.out)) : gb536 ≠ gb548)); have n10_ := Aside0.mk ((by rw [hg]; exact Nat.ne_of_gt (blk_lt (g := gb536) (o := .cells #[.bool a0_0, .slice A0_1 l0_1.length c0_1] 24 (0, 0)) (by (with_reducible repeat (first | refine blk_drewN ?_ _ | refine blk_drew ?_ | refine blk_alloc ?_ _)); exact BK536.out)) : gb548 ≠ gb536)); have n11_ := Aside0.mk ((by rw [hg]; exact Nat.ne_of_lt (blk_lt (g := gb537) (o := .cells #[.bool a1_0, .slice A1_1 l1_1.length c1_1] 24 (0, 0)) (by (with_reducible repeat (first | refine blk_drewN ?_ _ | refine blk_drew ?_ | refine blk_alloc ?_ _)); exact BK537.out)) : gb537 ≠ gb548)); have n12_ := Aside0.mk ((by rw [hg]; exact Nat.ne_of_gt (blk_lt (g := gb537) (o := .cells #[.bool a1_0, .slice A1_1 l1_1.length c1_1] 24 (0, 0)) (by (with_reducible repeat (first | refine blk_drewN ?_ _ | refine blk_drew ?_ | refine blk_alloc ?_ _)); exact BK537.out)) : gb548 ≠ gb537)); have n13_ := Aside0.mk ((by rw [hg]; exact Nat.ne_of_lt (blk_lt (g := gb538) (o := .cells #[.bool false, .slice none 0 0] 24 (0, 0)) (by (with_reducible repeat (first | refine blk_drewN ?_ _ | refine blk_drew ?_ | refine blk_alloc ?_ _)); exact BK538.out)) : gb538 ≠ gb548)); have n14_ := Aside0.mk ((by rw [hg]; exact Nat.ne_of_gt (blk_lt (g := gb538) (o := .cells #[.bool false, .slice none 0 0] 24 (0, 0)) (by (with_reducible repeat (first | refine blk_drewN ?_ _ | refine blk_drew ?_ | refine blk_alloc ?_ _)); exact BK538.out)) : gb548 ≠ gb538)); clear HO542; clear HO546; clear BK536; clear BK537; clear BK538; clear HB; have HO542 := n0_; have HO546 := n1_; have BK536 := n2_; have BK537 := n3_; have BK538 := n4_; have HB := n5_; have BK548 := n6_; have GW548 := n7_; have GE548 := n8_; have NB536_548 := n9_; have NB548_536 := n10_; have NB537_548 := n11_; have NB548_537 := n12_; have NB538_548 := n13_; have NB548_538 := n14_; clear n0_ n1_ n2_ n3_ n4_ n5_ n6_ n7_ n8_ n9_ n10_ n11_ n12_ n13_ n14_; clear hb hbox hg) | ((with_reducible refine gate_dst (N := 6) rfl ?_); refine box_event ?hg (N := 6) ?hd (cs := #[.bool false, .slice none 0 0]) (t := 24) ?hr ?_; (case hd => rfl); (case hg => rfl); (case hr => first | (go_simp; done) | (go_simp; rfl)); intro gb549 hg w14 hbox hb; have n0_ := Aside0.mk (Kd.R_below (by (with_reducible repeat (first | apply Kd.R_alloc | apply Kd.R_drewN | apply Kd.R_drew)); exact HO542.out) hb); have n1_ := Aside0.mk (Kd.R_below (by (with_reducible repeat (first | apply Kd.R_alloc | apply Kd.R_drewN | apply Kd.R_drew)); exact HO546.out) hb); have n2_ := Aside0.mk (blk_below (g := gb536) (o := .cells #[.bool a0_0, .slice A0_1 l0_1.length c0_1] 24 (0, 0)) (by (with_reducible repeat (first | refine blk_drewN ?_ _ | refine blk_drew ?_ | refine blk_alloc ?_ _)); exact BK536.out) hb); have n3_ := Aside0.mk (blk_below (g := gb537) (o := .cells #[.bool a1_0, .slice A1_1 l1_1.length c1_1] 24 (0, 0)) (by (with_reducible repeat (first | refine blk_drewN ?_ _ | refine blk_drew ?_ | refine blk_alloc ?_ _)); exact BK537.out) hb); have n4_ := Aside0.mk (blk_below (g := gb538) (o := .cells #[.bool false, .slice none 0 0] 24 (0, 0)) (by (with_reducible repeat (first | refine blk_drewN ?_ _ | refine blk_drew ?_ | refine blk_alloc ?_ _)); exact BK538.out) hb); have n5_ := Aside0.mk (blk_below (g := gb548) (o := .cells #[.bool false, .slice none 0 0] 24 (0, 0)) (by (with_reducible repeat (first | refine blk_drewN ?_ _ | refine blk_drew ?_ | refine blk_alloc ?_ _)); exact BK548.out) hb); have n6_ := Aside0.mk (below_step (by repeat (first | (with_reducible first | exact HB.out | apply below_alloc | apply pw_below_drewN | apply below_drew1 | refine below_set ?_ GE536.out | refine below_set ?_ GE537.out | refine below_set ?_ GE538.out | refine below_set ?_ GE548.out) | exact HB.out)) hb); have n7_ := Aside0.mk (hbox); have n8_ := Aside0.mk ((by rw [hg]; exact (below_size (by repeat (first | (with_reducible first | exact HB.out | apply below_alloc | apply pw_below_drewN | apply below_drew1 | refine below_set ?_ GE536.out | refine below_set ?_ GE537.out | refine below_set ?_ GE538.out | refine below_set ?_ GE548.out) | exact HB.out))) : w.heap.size ≤ gb549)); have n9_ := Aside0.mk ((by rw [hg]; exact (below_size (by repeat (first | (with_reducible first | exact HB.out | apply below_alloc | apply pw_below_drewN | apply below_drew1 | refine below_set ?_ GE536.out | refine below_set ?_ GE537.out | refine below_set ?_ GE538.out | refine below_set ?_ GE548.out) | exact HB.out))) : w.heap.size ≤ gb549)); have n10_ := Aside0.mk ((by rw [hg]; exact Nat.ne_of_lt (blk_lt (g := gb536) (o := .cells #[.bool a0_0, .slice A0_1 l0_1.length c0_1] 24 (0, 0)) (by (with_reducible repeat (first | refine blk_drewN ?_ _ | refine blk_drew ?_ | refine blk_alloc ?_ _)); exact BK536.out)) : gb536 ≠ gb549)); have n11_ := Aside0.mk ((by rw [hg]; exact Nat.ne_of_gt (blk_lt (g := gb536) (o := .cells #[.bool a0_0, .slice A0_1 l0_1.length c0_1] 24 (0, 0)) (by (with_reducible repeat (first | refine blk_drewN ?_ _ | refine blk_drew ?_ | refine blk_alloc ?_ _)); exact BK536.out)) : gb549 ≠ gb536)); have n12_ := Aside0.mk ((by rw [hg]; exact Nat.ne_of_lt (blk_lt (g := gb537) (o := .cells #[.bool a1_0, .slice A1_1 l1_1.length c1_1] 24 (0, 0)) (by (with_reducible repeat (first | refine blk_drewN ?_ _ | refine blk_drew ?_ | refine blk_alloc ?_ _)); exact BK537.out)) : gb537 ≠ gb549)); have n13_ := Aside0.mk ((by rw [hg]; exact Nat.ne_of_gt (blk_lt (g := gb537) (o := .cells #[.bool a1_0, .slice A1_1 l1_1.length c1_1] 24 (0, 0)) (by (with_reducible repeat (first | refine blk_drewN ?_ _ | refine blk_drew ?_ | refine blk_alloc ?_ _)); exact BK537.out)) : gb549 ≠ gb537)); have n14_ := Aside0.mk ((by rw [hg]; exact Nat.ne_of_lt (blk_lt (g := gb538) (o := .cells #[.bool false, .slice none 0 0] 24 (0, 0)) (by (with_reducible repeat (first | refine blk_drewN ?_ _ | refine blk_drew ?_ | refine blk_alloc ?_ _)); exact BK538.out)) : gb538 ≠ gb549)); have n15_ := Aside0.mk ((by rw [hg]; exact Nat.ne_of_gt (blk_lt (g := gb538) (o := .cells #[.bool false, .slice none 0 0] 24 (0, 0)) (by (with_reducible repeat (first | refine blk_drewN ?_ _ | refine blk_drew ?_ | refine blk_alloc ?_ _)); exact BK538.out)) : gb549 ≠ gb538)); have n16_ := Aside0.mk ((by rw [hg]; exact Nat.ne_of_lt (blk_lt (g := gb548) (o := .cells #[.bool false, .slice none 0 0] 24 (0, 0)) (by (with_reducible repeat (first | refine blk_drewN ?_ _ | refine blk_drew ?_ | refine blk_alloc ?_ _)); exact BK548.out)) : gb548 ≠ gb549)); have n17_ := Aside0.mk ((by rw [hg]; exact Nat.ne_of_gt (blk_lt (g := gb548) (o := .cells #[.bool false, .slice none 0 0] 24 (0, 0)) (by (with_reducible repeat (first | refine blk_drewN ?_ _ | refine blk_drew ?_ | refine blk_alloc ?_ _)); exact BK548.out)) : gb549 ≠ gb548)); clear HO542; clear HO546; clear BK536; clear BK537; clear BK538; clear BK548; clear HB; have HO542 := n0_; have HO546 := n1_; have BK536 := n2_; have BK537 := n3_; have BK538 := n4_; have BK548 := n5_; have HB := n6_; have BK549 := n7_; have GW549 := n8_; have GE549 := n9_; have NB536_549 := n10_; have NB549_536 := n11_; have NB537_549 := n12_; have NB549_537 := n13_; have NB538_549 := n14_; have NB549_538 := n15_; have NB548_549 := n16_; have NB549_548 := n17_; clear n0_ n1_ n2_ n3_ n4_ n5_ n6_ n7_ n8_ n9_ n10_ n11_ n12_ n13_ n14_ n15_ n16_ n17_; clear hb hbox hg; have hnb15 := NB548_536.out; have hnc15 := NB536_548.out; have hnb16 := NB548_537.out; have hnc16 := NB537_548.out; have hnb17 := NB548_538.out; have hnc17 := NB538_548.out; have hnb18 := NB548_549.out; have hnc18 := NB549_548.out; have hcz19_0 : w14.cell? ⟨gb548, 0, none⟩ = some (.bool false) := (blk_cell BK548.out 0).trans rfl; have hcz19_1 : w14.cell? ⟨gb548, 1, none⟩ = some (.slice none 0 0) := (blk_cell BK548.out 1).trans rfl; have hfz19_0 := blk_frozen BK548.out 0; have hfz19_1 := blk_frozen BK548.out 1; obtain ⟨Ao20, co20, eo20⟩ := Kd.R_slice HO542.out; subst eo20; have hnb21 := NB549_536.out; have hnc21 := NB536_549.out; have hnb22 := NB549_537.out; have hnc22 := NB537_549.out; have hnb23 := NB549_538.out; have hnc23 := NB538_549.out; have hcz24_0 : w14.cell? ⟨gb549, 0, none⟩ = some (.bool false) := (blk_cell BK549.out 0).trans rfl; have hcz24_1 : w14.cell? ⟨gb549, 1, none⟩ = some (.slice none 0 0) := (blk_cell BK549.out 1).trans rfl; have hfz24_0 := blk_frozen BK549.out 0; have hfz24_1 := blk_frozen BK549.out 1; obtain ⟨Ao25, co25, eo25⟩ := Kd.R_slice HO546.out; subst eo25; have hcz26_0 : w14.cell? ⟨gb538, 0, none⟩ = some (.bool false) := (blk_cell BK538.out 0).trans rfl; have hcz26_1 : w14.cell? ⟨gb538, 1, none⟩ = some (.slice none 0 0) := (blk_cell BK538.out 1).trans rfl; have hfz26_0 := blk_frozen BK538.out 0; have hfz26_1 := blk_frozen BK538.out 1))
  refine bodyPost_ret (results_cell_row rfl _ _ gb538 24 #[.bool t543, .slice Ao25 t544.length co25] (0, 0) _ rfl (by (with_reducible repeat (first | refine blk_drewN ?_ _ | refine blk_drew ?_ | refine blk_alloc ?_ _)); refine blk_put (cs := #[.bool t543, .slice none 0 0]) ?_ 1 _ rfl; (with_reducible repeat (first | refine blk_drewN ?_ _ | refine blk_drew ?_ | refine blk_alloc ?_ _)); refine blk_put (cs := #[.bool false, .slice none 0 0]) ?_ 0 _ rfl; (with_reducible repeat (first | refine blk_drewN ?_ _ | refine blk_drew ?_ | refine blk_alloc ?_ _)); refine blk_far ?_ NB538_549.out _; (with_reducible repeat (first | refine blk_drewN ?_ _ | refine blk_drew ?_ | refine blk_alloc ?_ _)); refine blk_far ?_ NB538_549.out _; (with_reducible repeat (first | refine blk_drewN ?_ _ | refine blk_drew ?_ | refine blk_alloc ?_ _)); refine blk_far ?_ NB538_548.out _; (with_reducible repeat (first | refine blk_drewN ?_ _ | refine blk_drew ?_ | refine blk_alloc ?_ _)); refine blk_far ?_ NB538_548.out _; (with_reducible repeat (first | refine blk_drewN ?_ _ | refine blk_drew ?_ | refine blk_alloc ?_ _)); exact BK538.out) Try.underlying24 rfl (by kernel_rfl)) rfl ?_
  exact ⟨_, by first | rfl | (simp [errW_none, errW_some] <;> rfl) | (simp [*, errW_none, errW_some] <;> rfl), by (with_reducible repeat (first | apply Kd.R_alloc | apply Kd.R_drewN | apply Kd.R_drew)); exact Kd.R_mono (Kd.R_far (p := ⟨gb538, 1, none⟩) (Kd.R_far (p := ⟨gb538, 0, none⟩) (Kd.R_far (p := ⟨gb549, 1, none⟩) (Kd.R_far (p := ⟨gb549, 0, none⟩) (Kd.R_far (p := ⟨gb548, 1, none⟩) (Kd.R_far (p := ⟨gb548, 0, none⟩) (Kd.R_types (Kd.R_types (Kd.R_types HO546.out BK548.out (by decide)) BK549.out (by decide)) BK538.out (by decide)) (fun _ hk => hk.1.1.2) (.bool t539)) (fun _ hk => hk.1.1.2) (.slice Ao20 t540.length co20)) (fun _ hk => hk.1.2) (.bool t543)) (fun _ hk => hk.1.2) (.slice Ao25 t544.length co25)) (fun _ hk => hk.2) (.bool t543)) (fun _ hk => hk.2) (.slice Ao25 t544.length co25)) (fun _ hk => trivial), by repeat (first | (with_reducible first | exact HB.out | apply below_alloc | apply pw_below_drewN | apply below_drew1 | refine below_set ?_ GE536.out | refine below_set ?_ GE537.out | refine below_set ?_ GE538.out | refine below_set ?_ GE548.out | refine below_set ?_ GE549.out) | exact HB.out)⟩
end Go.Proofs.Ytpkgckccfanchaa.M

namespace Go.Proofs.Ytpkgckccfanchaa.M
open Go.RowKit Go.Proofs.YtpkgckccfanchaaW.PrintWords Go.Proofs.YtpkgckccfanchaaW.PrintLast Go.Proofs.YtpkgckccfanchaaW.PrintMore
attribute [local go_sem] max2_int min2_int max_two min_two max_three min_three max_four min_four
set_option linter.unusedVariables false
set_option linter.unusedSimpArgs false
def quadformref01_Divides.f (a0_0 : Bool) (l0_1 : List Int) (a1_0 : Bool) (l1_1 : List Int) : Option (Bool) := (quadformref01_Sign.f a0_0 l0_1).bind fun t552 => (if t552 = 0 then ((quadformref01_Sign.f a1_0 l1_1).bind fun t553 => (some (t553 == 0))) else ((quadformref01_Rem.f a1_0 l1_1 a0_0 l0_1).bind fun bt554 => ((quadformref01_Sign.f bt554.1 bt554.2).bind fun t558 => (some (t558 == 0)))))
set_option maxHeartbeats 8000000 in
set_option maxRecDepth 100000 in
theorem quadformref01_Divides.calls (a0_0 : Bool) (A0_1 : Option Addr) (c0_1 : Nat) (l0_1 : List Int) (a1_0 : Bool) (A1_1 : Option Addr) (c1_1 : Nat) (l1_1 : List Int) (r : Bool) (w : World) (hr0_1 : Kd.C (Kd.int .u32) w A0_1 l0_1.length l0_1) (hc0_1 : l0_1.length ≤ c0_1) (hr1_1 : Kd.C (Kd.int .u32) w A1_1 l1_1.length l1_1) (hc1_1 : l1_1.length ≤ c1_1) (h : quadformref01_Divides.f a0_0 l0_1 a1_0 l1_1 = some r) :
    Calls Try.prog 29 #[.agg #[.bool a0_0, .slice A0_1 l0_1.length c0_1], .agg #[.bool a1_0, .slice A1_1 l1_1.length c1_1]] w fun e w' => e = .returned (.bool r) ∧ Below w.heap.size w w' := by
  have hu24 := Try.underlying24; have HR0_1 := Aside0.mk hr0_1; have HC0_1 := Aside0.mk hc0_1; clear hr0_1 hc0_1; have HR1_1 := Aside0.mk hr1_1; have HC1_1 := Aside0.mk hc1_1; clear hr1_1 hc1_1; have HB := Aside0.mk (Below.refl w.heap.size w); have H : ((quadformref01_Sign.f a0_0 l0_1).bind fun t552 => (if t552 = 0 then ((quadformref01_Sign.f a1_0 l1_1).bind fun t553 => (some (t553 == 0))) else ((quadformref01_Rem.f a1_0 l1_1 a0_0 l0_1).bind fun bt554 => ((quadformref01_Sign.f bt554.1 bt554.2).bind fun t558 => (some (t558 == 0)))))) = some r := h; clear h; replace H := Option.bind_eq_some_iff.mp H; obtain ⟨t552, A30, H⟩ := H; replace H : (if t552 = 0 then ((quadformref01_Sign.f a1_0 l1_1).bind fun t553 => (some (t553 == 0))) else ((quadformref01_Rem.f a1_0 l1_1 a0_0 l0_1).bind fun bt554 => ((quadformref01_Sign.f bt554.1 bt554.2).bind fun t558 => (some (t558 == 0))))) = some r := H; have A3 := Aside0.mk A30; clear A30
  by_cases c4 : t552 = 0
  · rw [if_pos c4] at H
    have c4b0 : (t552 == 0) = true := beq_iff_eq.mpr c4; have c4b1 : (t552 != 0) = false := bne_eq_false_iff_eq.mpr c4; clear c4; replace H := Option.bind_eq_some_iff.mp H; obtain ⟨t553, A50, H⟩ := H; replace H : (some (t553 == 0)) = some r := H; have A5 := Aside0.mk A50; clear A50; obtain rfl := Option.some.inj H
    go_enter Try.func29, Try.ntmps29
    go_wp2_with (first | ((with_reducible refine gate_dst (N := 2) rfl ?_); refine box_event ?hg (N := 2) ?hd (cs := #[.bool a0_0, .slice A0_1 l0_1.length c0_1]) (t := 24) ?hr ?_; (case hd => rfl); (case hg => rfl); (case hr => first | (go_simp; done) | (go_simp; rfl)); intro gb550 hg w6 hbox hb; have n0_ := Aside0.mk (below_step (by repeat (first | (with_reducible first | exact HB.out | apply below_alloc | apply pw_below_drewN | apply below_drew1) | exact HB.out)) hb); have n1_ := Aside0.mk (hbox); have n2_ := Aside0.mk ((by rw [hg]; exact (below_size (by repeat (first | (with_reducible first | exact HB.out | apply below_alloc | apply pw_below_drewN | apply below_drew1) | exact HB.out))) : w.heap.size ≤ gb550)); have n3_ := Aside0.mk ((by rw [hg]; exact (below_size (by repeat (first | (with_reducible first | exact HB.out | apply below_alloc | apply pw_below_drewN | apply below_drew1) | exact HB.out))) : w.heap.size ≤ gb550)); clear HB; have HB := n0_; have BK550 := n1_; have GW550 := n2_; have GE550 := n3_; clear n0_ n1_ n2_ n3_; clear hb hbox hg) | ((with_reducible refine gate_dst (N := 3) rfl ?_); refine box_event ?hg (N := 3) ?hd (cs := #[.bool a1_0, .slice A1_1 l1_1.length c1_1]) (t := 24) ?hr ?_; (case hd => rfl); (case hg => rfl); (case hr => first | (go_simp; done) | (go_simp; rfl)); intro gb551 hg w7 hbox hb; have n0_ := Aside0.mk (blk_below (g := gb550) (o := .cells #[.bool a0_0, .slice A0_1 l0_1.length c0_1] 24 (0, 0)) (by (with_reducible repeat (first | refine blk_drewN ?_ _ | refine blk_drew ?_ | refine blk_alloc ?_ _)); exact BK550.out) hb); have n1_ := Aside0.mk (below_step (by repeat (first | (with_reducible first | exact HB.out | apply below_alloc | apply pw_below_drewN | apply below_drew1 | refine below_set ?_ GE550.out) | exact HB.out)) hb); have n2_ := Aside0.mk (hbox); have n3_ := Aside0.mk ((by rw [hg]; exact (below_size (by repeat (first | (with_reducible first | exact HB.out | apply below_alloc | apply pw_below_drewN | apply below_drew1 | refine below_set ?_ GE550.out) | exact HB.out))) : w.heap.size ≤ gb551)); have n4_ := Aside0.mk ((by rw [hg]; exact (below_size (by repeat (first | (with_reducible first | exact HB.out | apply below_alloc | apply pw_below_drewN | apply below_drew1 | refine below_set ?_ GE550.out) | exact HB.out))) : w.heap.size ≤ gb551)); have n5_ := Aside0.mk ((by rw [hg]; exact Nat.ne_of_lt (blk_lt (g := gb550) (o := .cells #[.bool a0_0, .slice A0_1 l0_1.length c0_1] 24 (0, 0)) (by (with_reducible repeat (first | refine blk_drewN ?_ _ | refine blk_drew ?_ | refine blk_alloc ?_ _)); exact BK550.out)) : gb550 ≠ gb551)); have n6_ := Aside0.mk ((by rw [hg]; exact Nat.ne_of_gt (blk_lt (g := gb550) (o := .cells #[.bool a0_0, .slice A0_1 l0_1.length c0_1] 24 (0, 0)) (by (with_reducible repeat (first | refine blk_drewN ?_ _ | refine blk_drew ?_ | refine blk_alloc ?_ _)); exact BK550.out)) : gb551 ≠ gb550)); clear BK550; clear HB; have BK550 := n0_; have HB := n1_; have BK551 := n2_; have GW551 := n3_; have GE551 := n4_; have NB550_551 := n5_; have NB551_550 := n6_; clear n0_ n1_ n2_ n3_ n4_ n5_ n6_; clear hb hbox hg; have hnb8 := NB550_551.out; have hnc8 := NB551_550.out; have hcz9_0 : w7.cell? ⟨gb550, 0, none⟩ = some (.bool a0_0) := (blk_cell BK550.out 0).trans rfl; have hcz9_1 : w7.cell? ⟨gb550, 1, none⟩ = some (.slice A0_1 l0_1.length c0_1) := (blk_cell BK550.out 1).trans rfl; have hfz9_0 := blk_frozen BK550.out 0; have hfz9_1 := blk_frozen BK550.out 1) | ((with_reducible refine gate_callee (f := 28) rfl ?_); refine goesL_ (some 6) rfl rfl Try.func28 (by kernel_rfl) rfl #[.agg #[.bool a0_0, .slice A0_1 l0_1.length c0_1]] rfl (by (try simp only [List.map_toArray, List.map_cons, List.map_nil]); first | done | rfl | (simp only [List.length_drop, List.length_take]; rfl)) ?_; (with_reducible refine (quadformref01_Sign.calls a0_0 _ _ l0_1 t552 _ ?side1 ?side2 A3.out).mono ?_); (case side1 => repeat (first | exact (Kd.C_below HR0_1.out HB.out) | (with_reducible refine Kd.C_alloc ?_ _) | (with_reducible refine Kd.C_drewN ?_ _) | (with_reducible refine Kd.C_drew ?_))); (case side2 => exact HC0_1.out); rintro e w10 ⟨rfl, hb⟩; refine ⟨_, rfl, ?_⟩; have n0_ := Aside0.mk (blk_below (g := gb550) (o := .cells #[.bool a0_0, .slice A0_1 l0_1.length c0_1] 24 (0, 0)) (by (with_reducible repeat (first | refine blk_drewN ?_ _ | refine blk_drew ?_ | refine blk_alloc ?_ _)); exact BK550.out) hb); have n1_ := Aside0.mk (blk_below (g := gb551) (o := .cells #[.bool a1_0, .slice A1_1 l1_1.length c1_1] 24 (0, 0)) (by (with_reducible repeat (first | refine blk_drewN ?_ _ | refine blk_drew ?_ | refine blk_alloc ?_ _)); exact BK551.out) hb); have n2_ := Aside0.mk (below_step (by repeat (first | (with_reducible first | exact HB.out | apply below_alloc | apply pw_below_drewN | apply below_drew1 | refine below_set ?_ GE550.out | refine below_set ?_ GE551.out) | exact HB.out)) hb); clear BK550; clear BK551; clear HB; have BK550 := n0_; have BK551 := n1_; have HB := n2_; clear n0_ n1_ n2_; (try clear hb); (try clear hb2); (try clear hk); (try clear hi); have hcz11_0 : w10.cell? ⟨gb551, 0, none⟩ = some (.bool a1_0) := (blk_cell BK551.out 0).trans rfl; have hcz11_1 : w10.cell? ⟨gb551, 1, none⟩ = some (.slice A1_1 l1_1.length c1_1) := (blk_cell BK551.out 1).trans rfl; have hfz11_0 := blk_frozen BK551.out 0; have hfz11_1 := blk_frozen BK551.out 1) | ((with_reducible refine gate_callee (f := 28) rfl ?_); refine goesL_ (some 9) rfl rfl Try.func28 (by kernel_rfl) rfl #[.agg #[.bool a1_0, .slice A1_1 l1_1.length c1_1]] rfl (by (try simp only [List.map_toArray, List.map_cons, List.map_nil]); first | done | rfl | (simp only [List.length_drop, List.length_take]; rfl)) ?_; (with_reducible refine (quadformref01_Sign.calls a1_0 _ _ l1_1 t553 _ ?side1 ?side2 A5.out).mono ?_); (case side1 => repeat (first | exact (Kd.C_below HR1_1.out HB.out) | (with_reducible refine Kd.C_alloc ?_ _) | (with_reducible refine Kd.C_drewN ?_ _) | (with_reducible refine Kd.C_drew ?_))); (case side2 => exact HC1_1.out); rintro e w12 ⟨rfl, hb⟩; refine ⟨_, rfl, ?_⟩; have n0_ := Aside0.mk (blk_below (g := gb550) (o := .cells #[.bool a0_0, .slice A0_1 l0_1.length c0_1] 24 (0, 0)) (by (with_reducible repeat (first | refine blk_drewN ?_ _ | refine blk_drew ?_ | refine blk_alloc ?_ _)); exact BK550.out) hb); have n1_ := Aside0.mk (blk_below (g := gb551) (o := .cells #[.bool a1_0, .slice A1_1 l1_1.length c1_1] 24 (0, 0)) (by (with_reducible repeat (first | refine blk_drewN ?_ _ | refine blk_drew ?_ | refine blk_alloc ?_ _)); exact BK551.out) hb); have n2_ := Aside0.mk (below_step (by repeat (first | (with_reducible first | exact HB.out | apply below_alloc | apply pw_below_drewN | apply below_drew1 | refine below_set ?_ GE550.out | refine below_set ?_ GE551.out) | exact HB.out)) hb); clear BK550; clear BK551; clear HB; have BK550 := n0_; have BK551 := n1_; have HB := n2_; clear n0_ n1_ n2_; (try clear hb); (try clear hb2); (try clear hk); (try clear hi)))
    go_ret
    exact ⟨by first | rfl | (simp [errW_none, errW_some] <;> rfl) | (simp [*, errW_none, errW_some] <;> rfl), by repeat (first | (with_reducible first | exact HB.out | apply below_alloc | apply pw_below_drewN | apply below_drew1 | refine below_set ?_ GE550.out | refine below_set ?_ GE551.out) | exact HB.out)⟩
  · rw [if_neg c4] at H
    have c4b0 : (t552 == 0) = false := beq_eq_false_iff_ne.mpr c4; have c4b1 : (t552 != 0) = true := bne_iff_ne.mpr c4; replace H := Option.bind_eq_some_iff.mp H; obtain ⟨⟨t554, t555⟩, A130, H⟩ := H; replace H : ((quadformref01_Sign.f t554 t555).bind fun t558 => (some (t558 == 0))) = some r := H; have A13 := Aside0.mk A130; clear A130; replace H := Option.bind_eq_some_iff.mp H; obtain ⟨t558, A140, H⟩ := H; replace H : (some (t558 == 0)) = some r := H; have A14 := Aside0.mk A140; clear A140; obtain rfl := Option.some.inj H
    go_enter Try.func29, Try.ntmps29
    go_wp2_with (first | ((with_reducible refine gate_dst (N := 2) rfl ?_); refine box_event ?hg (N := 2) ?hd (cs := #[.bool a0_0, .slice A0_1 l0_1.length c0_1]) (t := 24) ?hr ?_; (case hd => rfl); (case hg => rfl); (case hr => first | (go_simp; done) | (go_simp; rfl)); intro gb550 hg w15 hbox hb; have n0_ := Aside0.mk (below_step (by repeat (first | (with_reducible first | exact HB.out | apply below_alloc | apply pw_below_drewN | apply below_drew1) | exact HB.out)) hb); have n1_ := Aside0.mk (hbox); have n2_ := Aside0.mk ((by rw [hg]; exact (below_size (by repeat (first | (with_reducible first | exact HB.out | apply below_alloc | apply pw_below_drewN | apply below_drew1) | exact HB.out))) : w.heap.size ≤ gb550)); have n3_ := Aside0.mk ((by rw [hg]; exact (below_size (by repeat (first | (with_reducible first | exact HB.out | apply below_alloc | apply pw_below_drewN | apply below_drew1) | exact HB.out))) : w.heap.size ≤ gb550)); clear HB; have HB := n0_; have BK550 := n1_; have GW550 := n2_; have GE550 := n3_; clear n0_ n1_ n2_ n3_; clear hb hbox hg) | ((with_reducible refine gate_dst (N := 3) rfl ?_); refine box_event ?hg (N := 3) ?hd (cs := #[.bool a1_0, .slice A1_1 l1_1.length c1_1]) (t := 24) ?hr ?_; (case hd => rfl); (case hg => rfl); (case hr => first | (go_simp; done) | (go_simp; rfl)); intro gb551 hg w16 hbox hb; have n0_ := Aside0.mk (blk_below (g := gb550) (o := .cells #[.bool a0_0, .slice A0_1 l0_1.length c0_1] 24 (0, 0)) (by (with_reducible repeat (first | refine blk_drewN ?_ _ | refine blk_drew ?_ | refine blk_alloc ?_ _)); exact BK550.out) hb); have n1_ := Aside0.mk (below_step (by repeat (first | (with_reducible first | exact HB.out | apply below_alloc | apply pw_below_drewN | apply below_drew1 | refine below_set ?_ GE550.out) | exact HB.out)) hb); have n2_ := Aside0.mk (hbox); have n3_ := Aside0.mk ((by rw [hg]; exact (below_size (by repeat (first | (with_reducible first | exact HB.out | apply below_alloc | apply pw_below_drewN | apply below_drew1 | refine below_set ?_ GE550.out) | exact HB.out))) : w.heap.size ≤ gb551)); have n4_ := Aside0.mk ((by rw [hg]; exact (below_size (by repeat (first | (with_reducible first | exact HB.out | apply below_alloc | apply pw_below_drewN | apply below_drew1 | refine below_set ?_ GE550.out) | exact HB.out))) : w.heap.size ≤ gb551)); have n5_ := Aside0.mk ((by rw [hg]; exact Nat.ne_of_lt (blk_lt (g := gb550) (o := .cells #[.bool a0_0, .slice A0_1 l0_1.length c0_1] 24 (0, 0)) (by (with_reducible repeat (first | refine blk_drewN ?_ _ | refine blk_drew ?_ | refine blk_alloc ?_ _)); exact BK550.out)) : gb550 ≠ gb551)); have n6_ := Aside0.mk ((by rw [hg]; exact Nat.ne_of_gt (blk_lt (g := gb550) (o := .cells #[.bool a0_0, .slice A0_1 l0_1.length c0_1] 24 (0, 0)) (by (with_reducible repeat (first | refine blk_drewN ?_ _ | refine blk_drew ?_ | refine blk_alloc ?_ _)); exact BK550.out)) : gb551 ≠ gb550)); clear BK550; clear HB; have BK550 := n0_; have HB := n1_; have BK551 := n2_; have GW551 := n3_; have GE551 := n4_; have NB550_551 := n5_; have NB551_550 := n6_; clear n0_ n1_ n2_ n3_ n4_ n5_ n6_; clear hb hbox hg; have hnb17 := NB550_551.out; have hnc17 := NB551_550.out; have hcz18_0 : w16.cell? ⟨gb550, 0, none⟩ = some (.bool a0_0) := (blk_cell BK550.out 0).trans rfl; have hcz18_1 : w16.cell? ⟨gb550, 1, none⟩ = some (.slice A0_1 l0_1.length c0_1) := (blk_cell BK550.out 1).trans rfl; have hfz18_0 := blk_frozen BK550.out 0; have hfz18_1 := blk_frozen BK550.out 1) | ((with_reducible refine gate_callee (f := 28) rfl ?_); refine goesL_ (some 6) rfl rfl Try.func28 (by kernel_rfl) rfl #[.agg #[.bool a0_0, .slice A0_1 l0_1.length c0_1]] rfl (by (try simp only [List.map_toArray, List.map_cons, List.map_nil]); first | done | rfl | (simp only [List.length_drop, List.length_take]; rfl)) ?_; (with_reducible refine (quadformref01_Sign.calls a0_0 _ _ l0_1 t552 _ ?side1 ?side2 A3.out).mono ?_); (case side1 => repeat (first | exact (Kd.C_below HR0_1.out HB.out) | (with_reducible refine Kd.C_alloc ?_ _) | (with_reducible refine Kd.C_drewN ?_ _) | (with_reducible refine Kd.C_drew ?_))); (case side2 => exact HC0_1.out); rintro e w19 ⟨rfl, hb⟩; refine ⟨_, rfl, ?_⟩; have n0_ := Aside0.mk (blk_below (g := gb550) (o := .cells #[.bool a0_0, .slice A0_1 l0_1.length c0_1] 24 (0, 0)) (by (with_reducible repeat (first | refine blk_drewN ?_ _ | refine blk_drew ?_ | refine blk_alloc ?_ _)); exact BK550.out) hb); have n1_ := Aside0.mk (blk_below (g := gb551) (o := .cells #[.bool a1_0, .slice A1_1 l1_1.length c1_1] 24 (0, 0)) (by (with_reducible repeat (first | refine blk_drewN ?_ _ | refine blk_drew ?_ | refine blk_alloc ?_ _)); exact BK551.out) hb); have n2_ := Aside0.mk (below_step (by repeat (first | (with_reducible first | exact HB.out | apply below_alloc | apply pw_below_drewN | apply below_drew1 | refine below_set ?_ GE550.out | refine below_set ?_ GE551.out) | exact HB.out)) hb); clear BK550; clear BK551; clear HB; have BK550 := n0_; have BK551 := n1_; have HB := n2_; clear n0_ n1_ n2_; (try clear hb); (try clear hb2); (try clear hk); (try clear hi); have hcz20_0 : w19.cell? ⟨gb551, 0, none⟩ = some (.bool a1_0) := (blk_cell BK551.out 0).trans rfl; have hcz20_1 : w19.cell? ⟨gb551, 1, none⟩ = some (.slice A1_1 l1_1.length c1_1) := (blk_cell BK551.out 1).trans rfl; have hfz20_0 := blk_frozen BK551.out 0; have hfz20_1 := blk_frozen BK551.out 1; have hcz21_0 : w19.cell? ⟨gb550, 0, none⟩ = some (.bool a0_0) := (blk_cell BK550.out 0).trans rfl; have hcz21_1 : w19.cell? ⟨gb550, 1, none⟩ = some (.slice A0_1 l0_1.length c0_1) := (blk_cell BK550.out 1).trans rfl; have hfz21_0 := blk_frozen BK550.out 0; have hfz21_1 := blk_frozen BK550.out 1) | ((with_reducible refine gate_callee (f := 62) rfl ?_); refine goesL_ (some 13) rfl rfl Try.func62 (by kernel_rfl) rfl #[.agg #[.bool a1_0, .slice A1_1 l1_1.length c1_1], .agg #[.bool a0_0, .slice A0_1 l0_1.length c0_1]] rfl (by (try simp only [List.map_toArray, List.map_cons, List.map_nil]); first | done | rfl | (simp only [List.length_drop, List.length_take]; rfl)) ?_; (with_reducible refine (quadformref01_Rem.calls a1_0 _ _ l1_1 a0_0 _ _ l0_1 t554 t555 _ ?side1 ?side2 ?side3 ?side4 A13.out).mono ?_); (case side1 => repeat (first | exact (Kd.C_below HR1_1.out HB.out) | (with_reducible refine Kd.C_alloc ?_ _) | (with_reducible refine Kd.C_drewN ?_ _) | (with_reducible refine Kd.C_drew ?_))); (case side2 => exact HC1_1.out); (case side3 => repeat (first | exact (Kd.C_below HR0_1.out HB.out) | (with_reducible refine Kd.C_alloc ?_ _) | (with_reducible refine Kd.C_drewN ?_ _) | (with_reducible refine Kd.C_drew ?_))); (case side4 => exact HC0_1.out); rintro e w22 ⟨v556, rfl, ho0, hb⟩; refine ⟨_, rfl, ?_⟩; have n0_ := Aside0.mk (Kd.R_lower ho0 (below_size (by repeat (first | (with_reducible first | exact HB.out | apply below_alloc | apply pw_below_drewN | apply below_drew1 | refine below_set ?_ GE550.out | refine below_set ?_ GE551.out) | exact HB.out)))); have n1_ := Aside0.mk (blk_below (g := gb550) (o := .cells #[.bool a0_0, .slice A0_1 l0_1.length c0_1] 24 (0, 0)) (by (with_reducible repeat (first | refine blk_drewN ?_ _ | refine blk_drew ?_ | refine blk_alloc ?_ _)); exact BK550.out) hb); have n2_ := Aside0.mk (blk_below (g := gb551) (o := .cells #[.bool a1_0, .slice A1_1 l1_1.length c1_1] 24 (0, 0)) (by (with_reducible repeat (first | refine blk_drewN ?_ _ | refine blk_drew ?_ | refine blk_alloc ?_ _)); exact BK551.out) hb); have n3_ := Aside0.mk (below_step (by repeat (first | (with_reducible first | exact HB.out | apply below_alloc | apply pw_below_drewN | apply below_drew1 | refine below_set ?_ GE550.out | refine below_set ?_ GE551.out) | exact HB.out)) hb); clear BK550; clear BK551; clear HB; have HO557 := n0_; have BK550 := n1_; have BK551 := n2_; have HB := n3_; clear n0_ n1_ n2_ n3_; (try clear hb); (try clear hb2); (try clear hk); (try clear hi); (try clear ho0); obtain ⟨Ao23, co23, eo23⟩ := Kd.R_slice HO557.out; subst eo23) | ((with_reducible refine gate_callee (f := 28) rfl ?_); refine goesL_ (some 14) rfl rfl Try.func28 (by kernel_rfl) rfl #[.agg #[.bool t554, .slice Ao23 t555.length co23]] rfl (by (try simp only [List.map_toArray, List.map_cons, List.map_nil]); first | done | rfl | (simp only [List.length_drop, List.length_take]; rfl)) ?_; (with_reducible refine (quadformref01_Sign.calls t554 _ _ t555 t558 _ ?side1 ?side2 A14.out).mono ?_); (case side1 => repeat (first | exact (Kd.R_reads' HO557.out).2.2 | (with_reducible refine Kd.C_alloc ?_ _) | (with_reducible refine Kd.C_drewN ?_ _) | (with_reducible refine Kd.C_drew ?_))); (case side2 => exact (Kd.R_reads' HO557.out).2.1); rintro e w24 ⟨rfl, hb⟩; refine ⟨_, rfl, ?_⟩; have n0_ := Aside0.mk (Kd.R_below (by (with_reducible repeat (first | apply Kd.R_alloc | apply Kd.R_drewN | apply Kd.R_drew)); exact HO557.out) hb); have n1_ := Aside0.mk (blk_below (g := gb550) (o := .cells #[.bool a0_0, .slice A0_1 l0_1.length c0_1] 24 (0, 0)) (by (with_reducible repeat (first | refine blk_drewN ?_ _ | refine blk_drew ?_ | refine blk_alloc ?_ _)); exact BK550.out) hb); have n2_ := Aside0.mk (blk_below (g := gb551) (o := .cells #[.bool a1_0, .slice A1_1 l1_1.length c1_1] 24 (0, 0)) (by (with_reducible repeat (first | refine blk_drewN ?_ _ | refine blk_drew ?_ | refine blk_alloc ?_ _)); exact BK551.out) hb); have n3_ := Aside0.mk (below_step (by repeat (first | (with_reducible first | exact HB.out | apply below_alloc | apply pw_below_drewN | apply below_drew1 | refine below_set ?_ GE550.out | refine below_set ?_ GE551.out) | exact HB.out)) hb); clear HO557; clear BK550; clear BK551; clear HB; have HO557 := n0_; have BK550 := n1_; have BK551 := n2_; have HB := n3_; clear n0_ n1_ n2_ n3_; (try clear hb); (try clear hb2); (try clear hk); (try clear hi)))
    go_ret
    exact ⟨by first | rfl | (simp [errW_none, errW_some] <;> rfl) | (simp [*, errW_none, errW_some] <;> rfl), by repeat (first | (with_reducible first | exact HB.out | apply below_alloc | apply pw_below_drewN | apply below_drew1 | refine below_set ?_ GE550.out | refine below_set ?_ GE551.out) | exact HB.out)⟩
end Go.Proofs.Ytpkgckccfanchaa.M

namespace Go.Proofs.Ytpkgckccfanchaa.M
open Go.RowKit Go.Proofs.YtpkgckccfanchaaW.PrintWords Go.Proofs.YtpkgckccfanchaaW.PrintLast Go.Proofs.YtpkgckccfanchaaW.PrintMore
open Sims
set_option linter.unusedVariables false
set_option linter.unusedSimpArgs false
theorem LeO.up {α : Type} {f : Nat → Option α} (h : ∀ k, LeO (f k) (f (k + 1))) {a b : Nat} (hab : a ≤ b) {r : α} (hr : f a = some r) : f b = some r := by
  induction b with
  | zero => obtain rfl : a = 0 := by omega
            exact hr
  | succ b ih =>
    rcases Nat.lt_or_ge b a with h1 | h1
    · obtain rfl : a = b + 1 := by omega
      exact hr
    · exact h b r (ih h1)
def divs : List Nat := [1, 2, 3, 4, 5, 6, 7, 8, 9, 10, 12, 14, 15, 16, 18, 20, 21, 24, 28, 30, 32, 35, 36, 40, 42, 45, 48, 56, 60, 63, 64, 70, 72, 80, 84, 90, 96, 105, 112, 120, 126, 128, 140, 144, 160, 168, 180, 192, 210, 224, 240, 252, 280, 288, 315, 320, 336, 360, 384, 420, 448, 480, 504, 560, 576, 630, 640, 672, 720, 840, 896, 960, 1008, 1120, 1152, 1260, 1344, 1440, 1680, 1920, 2016, 2240, 2520, 2688, 2880, 3360, 4032, 4480, 5040, 5760, 6720, 8064, 10080, 13440, 20160, 40320]
theorem divs_all : ((List.range 40321).all fun P => !(40320 % P == 0) || divs.contains P) = true := by decide +kernel
theorem divs_mem {P : Nat} (h : P ∣ 40320) : P ∈ divs := by
  have h1 : P ≤ 40320 := Nat.le_of_dvd (by omega) h
  have h2 := List.all_eq_true.1 divs_all P (List.mem_range.2 (by omega))
  have h3 : (40320 % P == 0) = true := by simpa using Nat.mod_eq_zero_of_dvd h
  rw [h3] at h2
  simpa using h2
theorem small_fin : ([1, 2, 3, 4, 5, 6, 7, 8].all fun b : Nat => decide (integer_Small.f b = some (false, [(b : Int)])) && decide (quadformref01_Small.f b = some (false, [(b : Int)]))) = true := by decide +kernel
theorem mul_fin : (divs.all fun P => [1, 2, 3, 4, 5, 6, 7, 8].all fun b : Nat => !(divs.contains (P * b)) || (decide (integer_Mul.f 40 false [(P : Int)] false [(b : Int)] = some (false, [((P * b : Nat) : Int)])) && decide (quadformref01_Mul.f 40 false [(P : Int)] false [(b : Int)] = some (false, [((P * b : Nat) : Int)])))) = true := by decide +kernel
theorem same_fin : (divs.all fun P => decide (quadformref01_Same.f 40 false [(P : Int)] false [(P : Int)] = some true)) = true := by decide +kernel
theorem div_fin : (divs.all fun P => divs.all fun Q => !(Q % P == 0) || decide (quadformref01_Divides.f false [(P : Int)] false [(Q : Int)] = some true)) = true := by decide +kernel
theorem mem8 {b : Nat} (h0 : 0 < b) (h8 : b ≤ 8) : b ∈ [1, 2, 3, 4, 5, 6, 7, 8] := by
  have : b = 1 ∨ b = 2 ∨ b = 3 ∨ b = 4 ∨ b = 5 ∨ b = 6 ∨ b = 7 ∨ b = 8 := by omega
  rcases this with h | h | h | h | h | h | h | h <;> subst h <;> simp
theorem small_ok {b : Nat} (h0 : 0 < b) (h8 : b ≤ 8) : integer_Small.f b = some (false, [(b : Int)]) ∧ quadformref01_Small.f b = some (false, [(b : Int)]) := by
  have h := List.all_eq_true.1 small_fin b (mem8 h0 h8)
  simpa only [Bool.and_eq_true, decide_eq_true_eq] using h
theorem mul_ok {P b : Nat} (h0 : 0 < b) (h8 : b ≤ 8) (h : P * b ∣ 40320) : integer_Mul.f 40 false [(P : Int)] false [(b : Int)] = some (false, [((P * b : Nat) : Int)]) ∧ quadformref01_Mul.f 40 false [(P : Int)] false [(b : Int)] = some (false, [((P * b : Nat) : Int)]) := by
  have h1 := List.all_eq_true.1 (List.all_eq_true.1 mul_fin P (divs_mem (Nat.dvd_trans ⟨b, rfl⟩ h))) b (mem8 h0 h8)
  have h2 : divs.contains (P * b) = true := by simpa using divs_mem h
  rw [h2] at h1
  simpa only [Bool.not_true, Bool.false_or, Bool.and_eq_true, decide_eq_true_eq] using h1
theorem mul_i {P b k : Nat} (h0 : 0 < b) (h8 : b ≤ 8) (h : P * b ∣ 40320) (hk : 40 ≤ k) : integer_Mul.f k false [(P : Int)] false [(b : Int)] = some (false, [((P * b : Nat) : Int)]) := LeO.up (fun k => integer_Mul.mono _ _ _ _ k) hk (mul_ok h0 h8 h).1
theorem mul_r {P b k : Nat} (h0 : 0 < b) (h8 : b ≤ 8) (h : P * b ∣ 40320) (hk : 40 ≤ k) : quadformref01_Mul.f k false [(P : Int)] false [(b : Int)] = some (false, [((P * b : Nat) : Int)]) := LeO.up (fun k => quadformref01_Mul.mono _ _ _ _ k) hk (mul_ok h0 h8 h).2
theorem same_r {P k : Nat} (h : P ∣ 40320) (hk : 40 ≤ k) : quadformref01_Same.f k false [(P : Int)] false [(P : Int)] = some true :=
  LeO.up (fun k => quadformref01_Same.mono _ _ _ _ k) hk (by simpa only [decide_eq_true_eq] using List.all_eq_true.1 same_fin P (divs_mem h))
theorem div_r {P Q : Nat} (h : P ∣ Q) (hQ : Q ∣ 40320) : quadformref01_Divides.f false [(P : Int)] false [(Q : Int)] = some true := by
  have h1 := List.all_eq_true.1 (List.all_eq_true.1 div_fin P (divs_mem (Nat.dvd_trans h hQ))) Q (divs_mem hQ)
  have h2 : (Q % P == 0) = true := by simpa using Nat.mod_eq_zero_of_dvd h
  rw [h2] at h1
  simpa only [Bool.not_true, Bool.false_or, decide_eq_true_eq] using h1
theorem fact_dvd {n : Nat} (h8 : n ≤ 8) : factN n ∣ 40320 := by
  have : n = 0 ∨ n = 1 ∨ n = 2 ∨ n = 3 ∨ n = 4 ∨ n = 5 ∨ n = 6 ∨ n = 7 ∨ n = 8 := by omega
  rcases this with h | h | h | h | h | h | h | h | h <;> subst h <;> decide
theorem reps_small {n : Nat} (h8 : n ≤ 8) {l : Lv} (h : LvOk n l) : 0 < l.reps.length ∧ l.reps.length ≤ 8 := by
  have e : (dom l).length = l.reps.length := by simp [dom]
  have h1 := pts_le h.nd h.rng
  have h2 := List.length_pos_of_mem h.first.1
  omega
theorem lens_at {ls : List Lv} {i : Nat} (h : i < ls.length) : rd (lensF ls) (i : Int) = ((ls[i].reps.length : Nat) : Int) := by
  simp [rd, lensF, List.getD_eq_getElem?_getD, h]
theorem szF_drop {ls : List Lv} {i : Nat} (h : i < ls.length) : szF (ls.drop i) = ls[i].reps.length * szF (ls.drop (i + 1)) := by
  rw [List.drop_eq_getElem_cons h]
  rfl
theorem product_go {n : Nat} (h8 : n ≤ 8) {ls : List Lv} (hls : ∀ l ∈ ls, LvOk n l) (hsz : szF ls ∣ 40320) (hlen : ls.length ≤ 8) : ∀ (d i P k : Nat), i + d = ls.length → P * szF (ls.drop i) = szF ls → d + 41 ≤ k →
    stabchain_product.l0 k (lensF ls) ((lensF ls).length : Int) (i : Int) false [(P : Int)] = some (false, [((szF ls : Nat) : Int)])
  | d, i, P, 0, _, _, hk => by omega
  | 0, i, P, k + 1, hi, hP, hk => by
    rw [List.drop_of_length_le (by omega)] at hP
    have hP2 : P = szF ls := by simpa [szF] using hP
    unfold stabchain_product.l0
    rw [if_neg (by rw [lensF_length]; omega), hP2]
  | d + 1, i, P, k + 1, hi, hP, hk => by
    have hil : i < ls.length := by omega
    obtain ⟨b0, b8⟩ := reps_small h8 (hls _ (List.getElem_mem hil))
    rw [szF_drop hil, ← Nat.mul_assoc] at hP
    unfold stabchain_product.l0
    rw [if_pos (by rw [lensF_length]; omega), if_pos (by omega), if_pos (by rw [lensF_length]; omega), lens_at hil, (small_ok b0 b8).1, Option.bind_some, mul_i b0 b8 (Nat.dvd_trans ⟨_, hP.symm⟩ hsz) (by omega), Option.bind_some]
    have hw : wrap64 ((i : Int) + 1) = ((i + 1 : Nat) : Int) := by unfold wrap64; omega
    rw [hw]
    exact product_go h8 hls hsz hlen d (i + 1) _ k (by omega) hP (by omega)
theorem product_ok {n : Nat} (h8 : n ≤ 8) {ls : List Lv} (hls : ∀ l ∈ ls, LvOk n l) (hsz : szF ls ∣ 40320) (hlen : ls.length ≤ 8) {k : Nat} (hk : 50 ≤ k) : stabchain_product.f k (lensF ls) = some (false, [((szF ls : Nat) : Int)]) := by
  have h1 := (small_ok (b := 1) (by omega) (by omega)).1
  unfold stabchain_product.f
  rw [show (1 : Int) = ((1 : Nat) : Int) from rfl, h1, Option.bind_some]
  exact product_go h8 hls hsz hlen ls.length 0 1 k (by omega) (by simp) (by omega)
theorem order_ok {n : Nat} (hn : 0 < n) (h8 : n ≤ 8) {gens : List (List Int)} (hg : ∀ g ∈ gens, IsP n g) (hl : gens.length ≤ 64) {k : Nat} (hk : gens.length + 50 ≤ k) :
    ∃ ls, groupF n (n + 1) gens [] = some ls ∧ PC n [] ls ∧ grp n ls = GL n gens ∧ szF ls ∣ factN n ∧ stabchain_Order.f k (n : Int) gens = some (false, [((szF ls : Nat) : Int)], 0) := by
  obtain ⟨ls, e, h1, h2, _, _⟩ := group_ok (Nat.le_refl _) hg (fun x hx => by simp at hx) List.nodup_nil
  have h3 : szF ls ∣ factN n := by rw [szF_size n ls]; exact size_dvd_fact (grp_sub n ls) (PC_chn h1)
  have h4 := PC_length h1 List.nodup_nil (fun x hx => by simp at hx)
  refine ⟨ls, e, h1, h2, h3, ?_⟩
  unfold stabchain_Order.f
  rw [args_ok hn h8 hg hl (by omega), Option.bind_some, if_pos rfl, if_pos (okB_mk hn (by omega) hg (by omega)), Int.toNat_natCast, e, Option.bind_some, product_ok h8 (PC_ok h1) (Nat.dvd_trans h3 (fact_dvd h8)) (by simp at h4; omega) (by omega)]
  rfl
end Go.Proofs.Ytpkgckccfanchaa.M

namespace Go.Proofs.Ytpkgckccfanchaa.M
open Go.RowKit Go.Proofs.YtpkgckccfanchaaW.PrintWords Go.Proofs.YtpkgckccfanchaaW.PrintLast Go.Proofs.YtpkgckccfanchaaW.PrintMore
open Sims
set_option linter.unusedVariables false
set_option linter.unusedSimpArgs false
theorem residue_zero {n : Nat} {p : List Int} {ok : Nat → Prop} {v : Value} {w : World} {B g : Nat} {PB : Nat → Prop} {av : Value} {cs : List LC} {ls : List Lv} (hn : 0 < n) (hn' : n ≤ 512) (hG : GrAt w B PB g n av cs ls) (hok : ∀ l ∈ ls, LvOk n l) (hv : PV w ok v p) (hp : IsP n p) (hlen : ls.length ≤ 1000000) :
    Calls Try.prog 93 #[.pointer (some ⟨g, 0, none⟩), .int .i64 0, v] w fun e w' => ∃ u, e = .returned u ∧ PV w' (fun _ => True) u (residF ls p) ∧ Below w.heap.size w w' :=
  residue_calls (k := 0) hn hn' hG (Nat.zero_le _) hok hv hp hlen
def inF (ls : List Lv) (p : List Int) : Bool := decide (movedL (residF ls p) < 0)
set_option maxHeartbeats 4000000 in
set_option maxRecDepth 100000 in
theorem has_calls {n : Nat} {p : List Int} {ok : Nat → Prop} {v : Value} {w : World} {B g : Nat} {PB : Nat → Prop} {av : Value} {cs : List LC} {ls : List Lv} (hn : 0 < n) (hn' : n ≤ 512) (hG : GrAt w B PB g n av cs ls) (hP : PC n [] ls) (hv : PV w ok v p) (hp : IsP n p) (hlen : ls.length ≤ 1000000) :
    Calls Try.prog 56 #[.pointer (some ⟨g, 0, none⟩), v] w fun e w' => e = .returned (.bool (inF ls p)) ∧ Below w.heap.size w w' := by
  have HG := Aside0.mk hG
  have HP := Aside0.mk hP
  have HV := Aside0.mk hv
  have HPP := Aside0.mk hp
  have HRI := Aside0.mk (resid_isP (PC_ok hP) hp)
  obtain ⟨A, c, rfl, -, -⟩ := PV.read hv
  clear hG hP hv hp
  go_enter Try.func56, Try.ntmps56
  go_wp2_with (first | (go_at_call 93; (with_reducible refine (residue_zero hn hn' HG.out (PC_ok HP.out) HV.out HPP.out hlen).mono ?_); rintro e w2 ⟨u, rfl, hU, hb⟩; have HU := Aside0.mk hU; have HB2 := Aside0.mk hb; clear hU hb) | (go_at_call 92; (with_reducible refine (moved_pv (by rw [HRI.out.len]; exact hn') HU.out).mono ?_); rintro e w3 ⟨rfl, hD⟩; have HD := Aside0.mk hD; clear hD))
  go_ret
  refine ⟨rfl, ?_⟩
  obtain ⟨nd, rfl⟩ := HD.out
  exact pw_below_drewN HB2.out nd
theorem C_one {w : World} {A : Option Addr} {c : Nat} {p : List Int} (h : Kd.C (Kd.int .i64) w A p.length p) (hc : p.length ≤ c) {W : World} (hb : Below w.heap.size w W) {g : Nat} (hg : W.heap[g]? = some (.cells #[.slice A p.length c] 28 (0, 0))) : Kd.C (Kd.slice 3 (Kd.int .i64)) W (some ⟨g, 0, none⟩) [p].length [p] := by
  refine ⟨rfl, by simp, fun _ => ⟨_, rfl, ?_⟩⟩
  intro j q hq
  match j, hq with
  | 0, hq =>
    cases hq
    refine ⟨[.slice A p.length c], rfl, ⟨A, c, rfl, hc, Kd.C_below h hb⟩, ?_⟩
    intro i u hu
    match i, hu with
    | 0, hu => cases hu; simpa [World.cell?, Addr.add] using by rw [hg]; rfl
theorem perms_one {k : Nat} {a0 : Int} {w W : World} {A : Option Addr} {c g : Nat} {p : List Int} {o : Bool} (h : Kd.C (Kd.int .i64) w A p.length p) (hc : p.length ≤ c) (hb : Below w.heap.size w W) (hg : W.heap[g]? = some (.cells #[.slice A p.length c] 28 (0, 0))) (hf : stabchain_permutations.f k a0 [p] = some o) :
    Calls Try.prog 55 #[.int .i64 a0, .slice (some ⟨g, 0, none⟩) 1 1] W fun e w' => e = .returned (.bool o) ∧ Below W.heap.size W w' :=
  stabchain_permutations.calls k a0 (some ⟨g, 0, none⟩) 1 [p] o W (C_one h hc hb hg) (Nat.le_refl _) hf
def stabchain_Contains.f (k : Nat) (a0 : Int) (l1 : List (List Int)) (l2 : List Int) : Option (Bool × Int) := (stabchain_arguments.f k a0 l1).bind fun e => if e = 0 then ((stabchain_permutations.f k a0 [l2]).bind fun o => if o = true then (if (okB a0 l1 && isPB a0.toNat l2) = true then (groupF a0.toNat (a0.toNat + 1) l1 []).bind fun ls => some (inF ls l2, 0) else none) else some (false, 3)) else some (false, e)
theorem stabchain_Contains.mono : ∀ a0 a1 a2 k, LeO (stabchain_Contains.f k a0 a1 a2) (stabchain_Contains.f (k + 1) a0 a1 a2) := by
  intro a0 a1 a2 k
  unfold stabchain_Contains.f
  exact LeO.bind (stabchain_arguments.mono a0 a1 k) (fun e => LeO.ite (LeO.bind (stabchain_permutations.mono a0 [a2] k) (fun o => LeO.refl _)) (LeO.refl _))
set_option maxHeartbeats 4000000 in
set_option maxRecDepth 100000 in
theorem stabchain_Contains.calls (k : Nat) (a0 : Int) (A1 : Option Addr) (c1 : Nat) (l1 : List (List Int)) (A2 : Option Addr) (c2 : Nat) (l2 : List Int) (r1 : Bool) (r2 : Int) (w : World) (hr1 : Kd.C (Kd.slice 3 (Kd.int .i64)) w A1 l1.length l1) (hc1 : l1.length ≤ c1) (hr2 : Kd.C (Kd.int .i64) w A2 l2.length l2) (hc2 : l2.length ≤ c2) (h : stabchain_Contains.f k a0 l1 l2 = some (r1, r2)) :
    Calls Try.prog 23 #[.int .i64 a0, .slice A1 l1.length c1, .slice A2 l2.length c2] w fun e w' => e = .returned (.tuple #[.bool r1, .int .i64 r2]) ∧ Below w.heap.size w w' := by
  unfold stabchain_Contains.f at h
  obtain ⟨e, he, h⟩ := Option.bind_eq_some_iff.1 h
  have HR1 := Aside0.mk hr1
  have HC1 := Aside0.mk hc1
  have HR2 := Aside0.mk hr2
  have HC2 := Aside0.mk hc2
  have HE := Aside0.mk he
  clear hr1 hc1 hr2 hc2 he
  by_cases h0 : e = 0
  · rw [if_pos h0] at h
    obtain ⟨o, ho, h⟩ := Option.bind_eq_some_iff.1 h
    have HO := Aside0.mk ho
    clear ho
    by_cases ho1 : o = true
    · rw [if_pos ho1] at h
      by_cases hok : (okB a0 l1 && isPB a0.toNat l2) = true
      · rw [if_pos hok] at h
        rw [Bool.and_eq_true] at hok
        obtain ⟨m, rfl, hm, hm11, hg, hl⟩ := okB_ok hok.1
        have hp2 := isPB_ok hok.2
        rw [Int.toNat_natCast] at h hp2
        obtain ⟨ls, hls, h⟩ := Option.bind_eq_some_iff.1 h
        have h := Option.some.inj h
        simp only [Prod.mk.injEq] at h
        obtain ⟨e1, e2⟩ := h
        subst e1 e2 h0 ho1
        have HM := Aside0.mk hm
        have HGN := Aside0.mk hg
        have HLS := Aside0.mk hls
        have HLN := Aside0.mk (group_len hg (fun x hx => by simp at hx) List.nodup_nil hls)
        have HL := Aside0.mk hl
        have HP2 := Aside0.mk hp2
        clear hok hm hg hl hls hp2
        go_enter Try.func23, Try.ntmps23
        go_wp2_with (first | (go_at_call 47; (with_reducible refine (stabchain_arguments.calls k (m : Int) A1 c1 l1 0 _ HR1.out HC1.out HE.out).mono ?_); rintro e w6 ⟨rfl, hb6⟩; have HB6 := Aside0.mk hb6; clear hb6) | (go_at_call 55; (with_reducible refine (perms_one (w := w) HR2.out HC2.out (below_alloc HB6.out _) (blk_new _ _) HO.out).mono ?_); rintro e w7 ⟨rfl, hb7⟩; have HB7 : Aside0 (Below w.heap.size w w7) := ⟨below_step (w := w) (below_alloc HB6.out _) hb7⟩; clear hb7) | (go_at_call 48; (with_reducible refine (newGroup_nil HM.out hm11 (Kd.C_below HR1.out HB7.out) HGN.out HL.out HLS.out).mono ?_); rintro e w8 ⟨g, av, cs, PB, rfl, hG, hPC, hb8⟩; have HG8 := Aside0.mk hG; have HPC := Aside0.mk hPC; have HB8 : Aside0 (Below w.heap.size w w8) := ⟨below_step (w := w) HB7.out hb8⟩; clear hG hb8 hPC) | (go_at_call 56; (with_reducible refine (has_calls HM.out (by omega) HG8.out HPC.out (pv_of_C (Kd.C_below HR2.out HB8.out) HC2.out) HP2.out (by have := HLN.out; omega)).mono ?_); rintro e w9 ⟨rfl, hb9⟩; have HB9 : Aside0 (Below w.heap.size w w9) := ⟨below_step (w := w) HB8.out hb9⟩; clear hb9))
        refine bodyPost_ret (results_list (rs := [.tmp 6, .tmp 7]) (vs := [.bool (inF ls l2), .int .i64 0]) rfl (by simp) (Vals.tmp (Vals.tmp Vals.nil))) rfl ?_
        exact ⟨rfl, HB9.out⟩
      · rw [if_neg hok] at h
        cases h
    · rw [if_neg ho1] at h
      have h := Option.some.inj h
      simp only [Prod.mk.injEq] at h
      obtain ⟨e1, e2⟩ := h
      subst e1 e2 h0
      have ho2 : o = false := by simpa using ho1
      subst ho2
      clear ho1
      go_enter Try.func23, Try.ntmps23
      go_wp2_with (first | (go_at_call 47; (with_reducible refine (stabchain_arguments.calls k a0 A1 c1 l1 0 _ HR1.out HC1.out HE.out).mono ?_); rintro e w6 ⟨rfl, hb6⟩; have HB6 := Aside0.mk hb6; clear hb6) | (go_at_call 55; (with_reducible refine (perms_one (w := w) HR2.out HC2.out (below_alloc HB6.out _) (blk_new _ _) HO.out).mono ?_); rintro e w7 ⟨rfl, hb7⟩; have HB7 : Aside0 (Below w.heap.size w w7) := ⟨below_step (w := w) (below_alloc HB6.out _) hb7⟩; clear hb7))
      refine bodyPost_ret (results_list (rs := [.tmp 6, .tmp 7]) (vs := [.bool false, .int .i64 3]) rfl (by simp) (Vals.tmp (Vals.tmp Vals.nil))) rfl ?_
      exact ⟨rfl, HB7.out⟩
  · rw [if_neg h0] at h
    have h := Option.some.inj h
    simp only [Prod.mk.injEq] at h
    obtain ⟨e1, e2⟩ := h
    subst e1 e2
    go_enter Try.func23, Try.ntmps23
    go_wp2_with (first | (go_at_call 47; (with_reducible refine (stabchain_arguments.calls k a0 A1 c1 l1 e _ HR1.out HC1.out HE.out).mono ?_); rintro e w6 ⟨rfl, hb6⟩; have HB6 := Aside0.mk hb6; clear hb6))
    refine bodyPost_ret (results_list (rs := [.tmp 6, .tmp 7]) (vs := [.bool false, .int .i64 e]) rfl (by simp) (Vals.tmp (Vals.tmp Vals.nil))) rfl ?_
    exact ⟨rfl, HB6.out⟩
end Go.Proofs.Ytpkgckccfanchaa.M

namespace Go.Proofs.Ytpkgckccfanchaa.M
open Go.RowKit Go.Proofs.YtpkgckccfanchaaW.PrintWords Go.Proofs.YtpkgckccfanchaaW.PrintLast Go.Proofs.YtpkgckccfanchaaW.PrintMore
open Sims
set_option linter.unusedVariables false
set_option linter.unusedSimpArgs false
def SeenAt (w : World) (b : Nat) (xs : List Int) : Prop := ∃ es ck, w.heap[b]? = some (.map es ck) ∧ es.toList.map (fun e => (e.key, e.val)) = xs.map (fun x => (Value.int .i64 x, Value.bool true))
theorem seen_mem {es : Array MapEntry} {xs : List Int} (h : es.toList.map (fun e => (e.key, e.val)) = xs.map (fun x => (Value.int .i64 x, Value.bool true))) {e : MapEntry} (he : e ∈ es.toList) : ∃ x ∈ xs, e.key = .int .i64 x := by
  have h1 : (e.key, e.val) ∈ xs.map (fun x => (Value.int .i64 x, Value.bool true)) := h ▸ List.mem_map_of_mem (f := fun e : MapEntry => (e.key, e.val)) he
  obtain ⟨x, hx, e2⟩ := List.mem_map.1 h1
  exact ⟨x, hx, (congrArg Prod.fst e2).symm⟩
theorem seen_get {es : Array MapEntry} {xs : List Int} (h : es.toList.map (fun e => (e.key, e.val)) = xs.map (fun x => (Value.int .i64 x, Value.bool true))) {j : Nat} {x : Int} (hx : xs[j]? = some x) : ∃ e, es.toList[j]? = some e ∧ e.key = .int .i64 x ∧ e.val = .bool true := by
  have h1 : (es.toList.map (fun e => (e.key, e.val)))[j]? = some (Value.int .i64 x, Value.bool true) := by rw [h, List.getElem?_map, hx]; rfl
  rw [List.getElem?_map] at h1
  obtain ⟨e, he, e2⟩ := Option.map_eq_some_iff.1 h1
  exact ⟨e, he, congrArg Prod.fst e2, congrArg Prod.snd e2⟩
theorem int_key_inj {x y : Int} (h : Value.int .i64 x = Value.int .i64 y) : x = y := by cases h; rfl
theorem seen_ok {es : Array MapEntry} {xs : List Int} (h : es.toList.map (fun e => (e.key, e.val)) = xs.map (fun x => (Value.int .i64 x, Value.bool true))) (hr : ∀ x ∈ xs, 0 ≤ x ∧ x < 1000) : KeysOk Try.prog 3 es := by
  intro e he
  obtain ⟨x, hx, e2⟩ := seen_mem h he
  have := hr x hx
  rw [e2]
  exact ⟨_, key_int (by omega) (by omega)⟩
theorem seen_distinct {es : Array MapEntry} {xs : List Int} (h : es.toList.map (fun e => (e.key, e.val)) = xs.map (fun x => (Value.int .i64 x, Value.bool true))) (hn : xs.Nodup) : es.toList.Pairwise (fun x y => x.key ≠ y.key) := by
  have h1 : (es.toList.map (fun e => (e.key, e.val))).Pairwise (fun a b => a.1 ≠ b.1) := by
    rw [h, List.pairwise_map]
    exact hn.imp (fun hxy e => hxy (int_key_inj e))
  exact (List.pairwise_map (f := fun e : MapEntry => (e.key, e.val)) (R := fun a b => a.1 ≠ b.1)).1 h1
theorem seen_look {w : World} {b : Nat} {xs : List Int} (h : SeenAt w b xs) (hr : ∀ x ∈ xs, 0 ≤ x ∧ x < 1000) (hn : xs.Nodup) {x : Int} (h0 : 0 ≤ x) (h1 : x < 1000) :
    (Instr.lookup 129 (.map (some b)) (.int .i64 x) false).run Try.prog w = .ok (.bool (decide (x ∈ xs))) w := by
  obtain ⟨es, ck, hb, hm⟩ := h
  have hz : (zeroValue 4).run Try.prog w = .ok (.bool false) w := by kernel_rfl
  by_cases hx : x ∈ xs
  · obtain ⟨j, hj, e⟩ := List.getElem_of_mem hx
    obtain ⟨e0, he0, hk0, hv0⟩ := seen_get hm (show xs[j]? = some x by rw [List.getElem?_eq_getElem hj, e])
    rw [gm_look_some law_int Try.underlying129 hb (seen_ok hm hr) (seen_distinct hm hn) (key_int (by omega) (by omega)) he0 hk0 false, hv0, decide_eq_true hx]
    rfl
  · rw [gm_look_none law_int Try.underlying129 hz hb (seen_ok hm hr) (key_int (x := x) (by omega) (by omega)) (fun e he hke => by
      obtain ⟨y, hy, e2⟩ := seen_mem hm he
      rw [e2] at hke
      exact hx (int_key_inj hke ▸ hy)) false, decide_eq_false hx]
    rfl
theorem seen_put {w w0 : World} {b : Nat} {xs : List Int} (h : SeenAt w b xs) (hr : ∀ x ∈ xs, 0 ≤ x ∧ x < 1000) {x : Int} (h0 : 0 ≤ x) (h1 : x < 1000) (hx : x ∉ xs) (hB : Below w0.heap.size w0 w) (hb0 : w0.heap.size ≤ b) :
    ∃ w1, (Instr.mapUpdate 129 (.map (some b)) (.int .i64 x) (.bool true)).run Try.prog w = .ok () w1 ∧ SeenAt w1 b (xs ++ [x]) ∧ Below w0.heap.size w0 w1 := by
  obtain ⟨es, ck, hb, hm⟩ := h
  refine ⟨_, gm_store_new law_int Try.underlying129 hb (seen_ok hm hr) (key_int (x := x) (by omega) (by omega)) (fun e he hke => ?_) (.bool true), ⟨_, ck + 1, setBlock_at w b _ (lt_of_some hb), ?_⟩, ?_⟩
  · obtain ⟨y, hy, e2⟩ := seen_mem hm he
    rw [e2] at hke
    exact hx (int_key_inj hke ▸ hy)
  · rw [Array.toList_push, List.map_append, hm, List.map_append]
    rfl
  · exact ((Chg.of_below (S := fun _ => False) (w1 := w) (w := w0) hB).trans (Chg.block w b _) (fun k hk => Or.inr (by have e : k = b := hk; omega))).below (Nat.le_refl _) (fun k hk => hk.elim)
def diffB (n : Int) (l : List Int) : Bool := l.all (fun x => decide (0 ≤ x ∧ x < n)) && decide l.Nodup
theorem diffB_true {n : Int} {l : List Int} (h : diffB n l = true) : (∀ x ∈ l, 0 ≤ x ∧ x < n) ∧ l.Nodup := by
  simp only [diffB, Bool.and_eq_true, List.all_eq_true, decide_eq_true_eq] at h
  exact h
theorem diffB_range {n : Int} {l : List Int} {j : Nat} {x : Int} (hx : l[j]? = some x) (h : ¬ (0 ≤ x ∧ x < n)) : diffB n l = false := by
  rw [Bool.eq_false_iff]
  intro h2
  exact h ((diffB_true h2).1 x (List.mem_of_getElem? hx))
theorem diffB_twice {n : Int} {l : List Int} {j : Nat} {x : Int} (hx : l[j]? = some x) (h : x ∈ l.take j) : diffB n l = false := by
  rw [Bool.eq_false_iff]
  intro h2
  have hn := (diffB_true h2).2
  obtain ⟨i, hi, e⟩ := List.getElem_of_mem h
  obtain ⟨hj, e2⟩ := List.getElem?_eq_some_iff.1 hx
  rw [List.getElem_take] at e
  have hi2 : i < j := by simp at hi; omega
  exact (List.pairwise_iff_getElem.1 hn) i j (by omega) hj hi2 (e.trans e2.symm)
set_option maxHeartbeats 4000000 in
set_option maxRecDepth 100000 in
theorem different_calls {w : World} {A : Option Addr} {c : Nat} {l : List Int} {n : Nat} (hn : n ≤ 512) (hC : Kd.C (Kd.int .i64) w A l.length l) :
    Calls Try.prog 63 #[.int .i64 (n : Int), .slice A l.length c] w fun e w' => e = .returned (.bool (diffB n l)) ∧ Below w.heap.size w w' := by
  have HC := Aside0.mk hC
  clear hC
  have hmm := @run_makeMap Try.prog
  go_enter Try.func63, Try.ntmps63
  go_wp2
  have HS0 : Aside0 (SeenAt (w.alloc (.map #[] 0)) w.heap.size (l.take 0)) := ⟨⟨#[], 0, blk_new w _, rfl⟩⟩
  have HB0 : Aside0 (Below w.heap.size w (w.alloc (.map #[] 0))) := ⟨below_alloc (Below.refl _ _) _⟩
  go_loopw [11] (fun x wr => ∃ j : Nat, x = .int .i64 j ∧ j ≤ l.length ∧ Aside0 (∀ x ∈ l.take j, 0 ≤ x ∧ x < (n : Int)) ∧ Aside0 (l.take j).Nodup ∧ Aside0 (SeenAt wr w.heap.size (l.take j)) ∧ Aside0 (Below w.heap.size w wr)) (fun x _ => l.length - (intOf x).toNat)
  case atStart => exact ⟨0, rfl, by omega, ⟨fun x hx => by simp at hx⟩, ⟨by simp⟩, HS0, HB0⟩
  case round =>
    clear HS0 HB0 hmm
    obtain ⟨j, rfl, hj, HRG, HND, HS, HB⟩ := hrel
    by_cases hlt : j < l.length
    · obtain ⟨x, hx⟩ : ∃ x, l[j]? = some x := ⟨l[j]'hlt, List.getElem?_eq_getElem _⟩
      obtain ⟨ad, rfl, hc⟩ := Kd.at_int (Kd.C_below HC.out HB.out) (j : Int) (by omega) (by omega)
      have hrd : rd l (j : Int) = x := by simp [rd, List.getD_eq_getElem?_getD, hx]
      rw [hrd, Int.toNat_natCast] at hc
      have hlt2 : (j : Int) < (l.length : Int) := by omega
      have HX := Aside0.mk hx
      have HLN : Aside0 (l.length ≤ 9223372036854775807) := ⟨HC.out.2.1⟩
      clear hx hrd
      by_cases h0 : x < 0
      · have HF := Aside0.mk (diffB_range (n := n) HX.out (by omega))
        go_wp2
        go_ret
        exact ⟨by rw [HF.out]; rfl, HB.out⟩
      · by_cases h1 : (n : Int) ≤ x
        · have HF := Aside0.mk (diffB_range (n := n) HX.out (by omega))
          go_wp2
          go_ret
          exact ⟨by rw [HF.out]; rfl, HB.out⟩
        · have hlook := seen_look HS.out (fun y hy => by have := HRG.out y hy; omega) HND.out (x := x) (by omega) (by omega)
          by_cases hm : x ∈ l.take j
          · have HF := Aside0.mk (diffB_twice (n := n) HX.out hm)
            rw [decide_eq_true hm] at hlook
            go_wp2
            go_ret
            exact ⟨by rw [HF.out]; rfl, HB.out⟩
          · rw [decide_eq_false hm] at hlook
            obtain ⟨w1, hst, hs1, hb1⟩ := seen_put HS.out (fun y hy => by have := HRG.out y hy; omega) (x := x) (by omega) (by omega) hm HB.out (Nat.le_refl _)
            have ht : l.take (j + 1) = l.take j ++ [x] := by
              obtain ⟨q1, q2⟩ := List.getElem?_eq_some_iff.1 HX.out
              rw [List.take_succ_eq_append_getElem q1, q2]
            have HT := Aside0.mk ht
            have HS1 := Aside0.mk hs1
            have HB1 := Aside0.mk hb1
            have HM := Aside0.mk hm
            clear hs1 hb1 hm ht
            have hln := HLN.out
            have hw : wrap64 ((j : Int) + 1) = (j : Int) + 1 := by unfold wrap64; omega
            go_wp2
            go_roundw
            case rel =>
              refine ⟨j + 1, by go_num, by omega, ⟨?_⟩, ⟨?_⟩, ⟨?_⟩, HB1⟩
              · rw [HT.out]
                intro y hy
                rcases List.mem_append.1 hy with hy | hy
                · exact HRG.out y hy
                · rw [List.mem_singleton] at hy; omega
              · rw [HT.out]
                exact List.nodup_append.2 ⟨HND.out, by simp, fun a ha b hb e => by rw [List.mem_singleton] at hb; subst hb; exact HM.out (e ▸ ha)⟩
              · rw [HT.out]; exact HS1.out
            case measure => simp [intOf]; omega
    · obtain rfl : j = l.length := by omega
      have HF : Aside0 (diffB n l = true) := ⟨by
        have h1 := HRG.out
        have h2 := HND.out
        rw [List.take_length] at h1 h2
        simp only [diffB, Bool.and_eq_true, List.all_eq_true, decide_eq_true_eq]
        exact ⟨h1, h2⟩⟩
      go_wp2
      go_ret
      exact ⟨by rw [HF.out]; rfl, HB.out⟩
end Go.Proofs.Ytpkgckccfanchaa.M

namespace Go.Proofs.Ytpkgckccfanchaa.M
open Go.RowKit Go.Proofs.YtpkgckccfanchaaW.PrintWords Go.Proofs.YtpkgckccfanchaaW.PrintLast Go.Proofs.YtpkgckccfanchaaW.PrintMore
open Sims
set_option linter.unusedVariables false
set_option linter.unusedSimpArgs false
theorem group_base_len {n : Nat} {gens : List (List Int)} {base : List Int} {ls : List Lv} (hg : ∀ g ∈ gens, IsP n g) (hb : ∀ x ∈ base, 0 ≤ x ∧ x < n) (hbn : base.Nodup) (h : groupF n (n + 1) gens base = some ls) : base.length ≤ ls.length := by
  obtain ⟨ls', e, _, _, ⟨m, h4⟩, _⟩ := group_ok (Nat.le_refl _) hg hb hbn
  rw [e] at h
  cases h
  have := congrArg List.length h4
  simp at this
  omega
def stabchain_Lengths.f (k : Nat) (a0 : Int) (l1 : List (List Int)) (l2 : List Int) : Option (List Int × Int) := (stabchain_arguments.f k a0 l1).bind fun e => if e = 0 then (if okB a0 l1 = true then (if diffB a0 l2 = true then (groupF a0.toNat (a0.toNat + 1) l1 l2).bind fun ls => some ((lensF ls).take l2.length, 0) else some ([], 1)) else none) else some ([], e)
theorem stabchain_Lengths.mono : ∀ a0 a1 a2 k, LeO (stabchain_Lengths.f k a0 a1 a2) (stabchain_Lengths.f (k + 1) a0 a1 a2) := by
  intro a0 a1 a2 k
  unfold stabchain_Lengths.f
  exact LeO.bind (stabchain_arguments.mono a0 a1 k) (fun e => LeO.refl _)
set_option maxHeartbeats 4000000 in
set_option maxRecDepth 100000 in
theorem stabchain_Lengths.calls (k : Nat) (a0 : Int) (A1 : Option Addr) (c1 : Nat) (l1 : List (List Int)) (A2 : Option Addr) (c2 : Nat) (l2 : List Int) (r1 : List Int) (r2 : Int) (w : World) (hr1 : Kd.C (Kd.slice 3 (Kd.int .i64)) w A1 l1.length l1) (hc1 : l1.length ≤ c1) (hr2 : Kd.C (Kd.int .i64) w A2 l2.length l2) (hc2 : l2.length ≤ c2) (h : stabchain_Lengths.f k a0 l1 l2 = some (r1, r2)) :
    Calls Try.prog 30 #[.int .i64 a0, .slice A1 l1.length c1, .slice A2 l2.length c2] w fun e w' => ∃ v0_ : Value, e = .returned (.tuple #[v0_, .int .i64 r2]) ∧ Kd.R (Kd.int .i64) 3 w' w.heap.size (fun _ => True) v0_ r1 ∧ Below w.heap.size w w' := by
  unfold stabchain_Lengths.f at h
  obtain ⟨e, he, h⟩ := Option.bind_eq_some_iff.1 h
  have HR1 := Aside0.mk hr1
  have HC1 := Aside0.mk hc1
  have HR2 := Aside0.mk hr2
  have HC2 := Aside0.mk hc2
  have HE := Aside0.mk he
  clear hr1 hc1 hr2 hc2 he
  by_cases h0 : e = 0
  · rw [if_pos h0] at h
    by_cases hok : okB a0 l1 = true
    · rw [if_pos hok] at h
      obtain ⟨m, rfl, hm, hm11, hg, hl⟩ := okB_ok hok
      by_cases hd : diffB m l2 = true
      · rw [if_pos hd, Int.toNat_natCast] at h
        obtain ⟨ls, hls, h⟩ := Option.bind_eq_some_iff.1 h
        have h := Option.some.inj h
        simp only [Prod.mk.injEq] at h
        obtain ⟨e1, e2⟩ := h
        subst e1 e2 h0
        obtain ⟨hb, hbn⟩ := diffB_true hd
        have HM := Aside0.mk hm
        have HGN := Aside0.mk hg
        have HLS := Aside0.mk hls
        have HLN := Aside0.mk (group_len hg hb hbn hls)
        have hbl := group_base_len hg hb hbn hls
        have hbl2 : l2.length ≤ (lensF ls).length := by rw [lensF_length]; exact hbl
        have HL := Aside0.mk hl
        have HD := Aside0.mk hd
        have HBL := Aside0.mk hbl2
        clear hok hm hg hl hls hd hb hbn hbl
        go_enter Try.func30, Try.ntmps30
        go_wp2_with (first | (go_at_call 47; (with_reducible refine (stabchain_arguments.calls k (m : Int) A1 c1 l1 0 _ HR1.out HC1.out HE.out).mono ?_); rintro e w6 ⟨rfl, hb6⟩; have HB6 := Aside0.mk hb6; clear hb6) | (go_at_call 63; (with_reducible refine (different_calls (by omega) (Kd.C_below HR2.out HB6.out)).mono ?_); rintro e w7 ⟨rfl, hb7⟩; rw [HD.out]; have HB7 : Aside0 (Below w.heap.size w w7) := ⟨below_step (w := w) HB6.out hb7⟩; clear hb7) | (go_at_call 48; (with_reducible refine (newGroup_calls HM.out hm11 (Kd.C_below HR1.out HB7.out) (Kd.C_below HR2.out HB7.out) HGN.out (diffB_true HD.out).1 (diffB_true HD.out).2 HL.out HLS.out).mono ?_); rintro e w8 ⟨g, av, cs, PB, rfl, hG, hPC, hb8⟩; have HG8 := Aside0.mk hG; have HB8 : Aside0 (Below w.heap.size w w8) := ⟨below_step (w := w) HB7.out hb8⟩; clear hG hb8 hPC) | (go_at_call 64; (with_reducible refine (lengths_calls HG8.out (by have := HLN.out; omega)).mono ?_); rintro e w9 ⟨v, rfl, hR, hb9⟩; obtain ⟨A9, c9, rfl, hl9, hC9⟩ := Kd.R_reads hR; have HR9 := Aside0.mk hR; have hl92 : l2.length ≤ c9 := Nat.le_trans hbl2 hl9; have HB9 : Aside0 (Below w.heap.size w w9) := ⟨below_step (w := w) HB8.out hb9⟩; clear hR hb9 hC9))
        refine bodyPost_ret (results_list (rs := [.tmp 6, .tmp 7]) (vs := [.slice A9 l2.length c9, .int .i64 0]) rfl (by simp) (Vals.tmp (Vals.tmp Vals.nil))) rfl ?_
        exact ⟨_, rfl, Kd.R_lower (Kd.R_take HR9.out HBL.out) HB8.out.size, HB9.out⟩
      · rw [if_neg hd] at h
        have h := Option.some.inj h
        simp only [Prod.mk.injEq] at h
        obtain ⟨e1, e2⟩ := h
        subst e1 e2 h0
        have HD : Aside0 (diffB m l2 = false) := ⟨by simpa using hd⟩
        clear hd
        go_enter Try.func30, Try.ntmps30
        go_wp2_with (first | (go_at_call 47; (with_reducible refine (stabchain_arguments.calls k (m : Int) A1 c1 l1 0 _ HR1.out HC1.out HE.out).mono ?_); rintro e w6 ⟨rfl, hb6⟩; have HB6 := Aside0.mk hb6; clear hb6) | (go_at_call 63; (with_reducible refine (different_calls (by omega) (Kd.C_below HR2.out HB6.out)).mono ?_); rintro e w7 ⟨rfl, hb7⟩; rw [HD.out]; have HB7 : Aside0 (Below w.heap.size w w7) := ⟨below_step (w := w) HB6.out hb7⟩; clear hb7))
        refine bodyPost_ret (results_list (rs := [.tmp 6, .tmp 7]) (vs := [.slice none 0 0, .int .i64 1]) rfl (by simp) (Vals.tmp (Vals.tmp Vals.nil))) rfl ?_
        exact ⟨_, rfl, Kd.R_nil _ _ _ _ _, HB7.out⟩
    · rw [if_neg hok] at h
      cases h
  · rw [if_neg h0] at h
    have h := Option.some.inj h
    simp only [Prod.mk.injEq] at h
    obtain ⟨e1, e2⟩ := h
    subst e1 e2
    go_enter Try.func30, Try.ntmps30
    go_wp2_with (first | (go_at_call 47; (with_reducible refine (stabchain_arguments.calls k a0 A1 c1 l1 e _ HR1.out HC1.out HE.out).mono ?_); rintro e w6 ⟨rfl, hb6⟩; have HB6 := Aside0.mk hb6; clear hb6))
    refine bodyPost_ret (results_list (rs := [.tmp 6, .tmp 7]) (vs := [.slice none 0 0, .int .i64 e]) rfl (by simp) (Vals.tmp (Vals.tmp Vals.nil))) rfl ?_
    exact ⟨_, rfl, Kd.R_nil _ _ _ _ _, HB6.out⟩
end Go.Proofs.Ytpkgckccfanchaa.M

namespace Go.Proofs.Ytpkgckccfanchaa.M
open Go.RowKit Go.Proofs.YtpkgckccfanchaaW.PrintWords Go.Proofs.YtpkgckccfanchaaW.PrintLast Go.Proofs.YtpkgckccfanchaaW.PrintMore
attribute [local go_sem] max2_int min2_int max_two min_two max_three min_three max_four min_four
set_option linter.unusedVariables false
set_option linter.unusedSimpArgs false
def quadformref16_Same.l0 : Nat → List Int → List Int → Int → Int → Option (Bool)
  | 0, _, _, _, _ => none
  | k + 1, x0, x1, x12, x13 => if x13 < x12 then (if 0 ≤ x13 then (if x13 < (x0.length : Int) then (if x13 < (x1.length : Int) then (if (rd x0 x13) = (rd x1 x13) then (quadformref16_Same.l0 k x0 x1 x12 (wrap64 (x13 + 1))) else (some false)) else (none)) else (none)) else (none)) else (some true)
def quadformref16_Same.f (k : Nat) (l0 : List Int) (l1 : List Int) : Option (Bool) := if (l0.length : Int) = (l1.length : Int) then (quadformref16_Same.l0 k l0 l1 (l0.length : Int) 0) else (some false)
theorem quadformref16_Same.mono_l : ∀ k, (∀ y0 y1 y2 y3, LeO (quadformref16_Same.l0 k y0 y1 y2 y3) (quadformref16_Same.l0 (k + 1) y0 y1 y2 y3))
  | 0 => fun _ _ _ _ r h => by simp [quadformref16_Same.l0] at h
  | k + 1 => by
    have ih0 := quadformref16_Same.mono_l k
    · intro y0 y1 y2 y3
      unfold quadformref16_Same.l0
      repeat' first
      | (with_reducible exact ih0 _ _ _ _)
      | (with_reducible exact LeO.refl _)
      | (with_reducible exact LeO.none _)
      | (with_reducible refine LeO.ite ?_ ?_)
      | (with_reducible refine LeO.bind ?_ (fun _ => ?_))
      | exact ih0 _ _ _ _
      | exact LeO.none _
      | refine LeO.ite ?_ ?_
      | refine LeO.bind ?_ (fun _ => ?_)
theorem quadformref16_Same.mono : ∀ a0 a1 k, LeO (quadformref16_Same.f k a0 a1) (quadformref16_Same.f (k + 1) a0 a1) := by
  intro a0 a1 k; have ih0 := quadformref16_Same.mono_l k
  unfold quadformref16_Same.f
  repeat' first
      | (with_reducible exact ih0 _ _ _ _)
      | (with_reducible exact LeO.refl _)
      | (with_reducible exact LeO.none _)
      | (with_reducible refine LeO.ite ?_ ?_)
      | (with_reducible refine LeO.bind ?_ (fun _ => ?_))
      | exact ih0 _ _ _ _
      | exact LeO.none _
      | refine LeO.ite ?_ ?_
      | refine LeO.bind ?_ (fun _ => ?_)
set_option maxHeartbeats 8000000 in
set_option maxRecDepth 100000 in
theorem quadformref16_Same.calls (k : Nat) (A0 : Option Addr) (c0 : Nat) (l0 : List Int) (A1 : Option Addr) (c1 : Nat) (l1 : List Int) (r : Bool) (w : World) (hr0 : Kd.C (Kd.int .i64) w A0 l0.length l0) (hc0 : l0.length ≤ c0) (hr1 : Kd.C (Kd.int .i64) w A1 l1.length l1) (hc1 : l1.length ≤ c1) (h : quadformref16_Same.f k l0 l1 = some r) :
    Calls Try.prog 32 #[.slice A0 l0.length c0, .slice A1 l1.length c1] w fun e w' => e = .returned (.bool r) ∧ Drawn0 w w' := by
  have HR0 := Aside0.mk hr0; have HC0 := Aside0.mk hc0; clear hr0 hc0; have HR1 := Aside0.mk hr1; have HC1 := Aside0.mk hc1; clear hr1 hc1; have H : (if (l0.length : Int) = (l1.length : Int) then (quadformref16_Same.l0 k l0 l1 (l0.length : Int) 0) else (some false)) = some r := h; clear h
  by_cases c3 : (l0.length : Int) = (l1.length : Int)
  · rw [if_pos c3] at H
    have c3b0 : ((l0.length : Int) == (l1.length : Int)) = true := beq_iff_eq.mpr c3; have c3b1 : ((l0.length : Int) != (l1.length : Int)) = false := bne_eq_false_iff_eq.mpr c3
    have c3b2 : (l0.length == l1.length) = true := by first | simpa using c3 | (simp at c3 ⊢; omega)
    clear c3; have H' := Aside0.mk H; clear H
    go_enter Try.func32, Try.ntmps32
    go_wp2
    repeat (go_quiet (fail); try go_wp2)
    go_loopg [13] k (fun kq v13 w' => ∃ (x13_1 : Int), v13 = .int .i64 x13_1 ∧ Aside0 (quadformref16_Same.l0 kq l0 l1 (l0.length : Int) x13_1 = some r) ∧ Aside0 (kq ≤ k) ∧ Drawn0 w w')
    case atStart => exact ⟨(0), (by first | rfl | (simp; done) | (simp [*]; done)), H', ⟨Nat.le_refl _⟩, by repeat (first | exact Drawn0.refl _ | apply Drawn0.step)⟩
    case round =>
      clear H'
      try clear c1
      try clear p2
      try clear c3
      try clear c3b0
      try clear c3b1
      try clear c3b2
      obtain ⟨x13_1, rfl, HA, HK1, ⟨m1, rfl⟩⟩ := hrel; cases gk with
      | zero => exact absurd HA.out (by simp [quadformref16_Same.l0])
      | succ k1 =>
        have H := HA.out; clear HA
        simp only [quadformref16_Same.l0] at H
        by_cases c4 : x13_1 < (l0.length : Int)
        · rw [if_pos c4] at H
          have c4b0 : decide (x13_1 < (l0.length : Int)) = true := decide_eq_true c4; clear c4
          by_cases c5 : 0 ≤ x13_1
          · rw [if_pos c5] at H
            have c5b0 : decide (0 ≤ x13_1) = true := decide_eq_true c5; clear c5
            by_cases c6 : x13_1 < (l0.length : Int)
            · rw [if_pos c6] at H
              have c6b0 : decide (x13_1 < (l0.length : Int)) = true := decide_eq_true c6; clear c6
              by_cases c7 : x13_1 < (l1.length : Int)
              · rw [if_pos c7] at H
                have c7b0 : decide (x13_1 < (l1.length : Int)) = true := decide_eq_true c7; clear c7
                by_cases c8 : (rd l0 x13_1) = (rd l1 x13_1)
                · rw [if_pos c8] at H
                  have c8b0 : ((rd l0 x13_1) == (rd l1 x13_1)) = true := beq_iff_eq.mpr c8; have c8b1 : ((rd l0 x13_1) != (rd l1 x13_1)) = false := bne_eq_false_iff_eq.mpr c8; clear c8; have H' := Aside0.mk H; clear H; have p300 : 0 ≤ (x13_1 : Int) := of_decide_eq_true (by first | (with_reducible assumption) | assumption); have q300 : x13_1 < (l0.length : Int) := of_decide_eq_true (by first | (with_reducible assumption) | assumption); obtain ⟨ad300, e300, hx300_0⟩ := Kd.at_int HR0.out x13_1 p300 q300; cases e300; replace p300 := eq_true p300; replace q300 := eq_true q300; have p301 : 0 ≤ (x13_1 : Int) := of_decide_eq_true (by first | (with_reducible assumption) | assumption); have q301 : x13_1 < (l1.length : Int) := of_decide_eq_true (by first | (with_reducible assumption) | assumption); obtain ⟨ad301, e301, hx301_0⟩ := Kd.at_int HR1.out x13_1 p301 q301; cases e301; replace p301 := eq_true p301; replace q301 := eq_true q301
                  go_wp2
                  repeat (go_quiet (fail); try go_wp2)
                  go_roundg k1
                  case measure => have := HK1.out; omega
                  case rel => exact ⟨(wrap64 (x13_1 + 1)), (by first | rfl | (simp; done) | (simp [*]; done)), H', ⟨by have := HK1.out; omega⟩, by repeat (first | exact Drawn0.refl _ | apply Drawn0.step)⟩
                · rw [if_neg c8] at H
                  have c8b0 : ((rd l0 x13_1) == (rd l1 x13_1)) = false := beq_eq_false_iff_ne.mpr c8; have c8b1 : ((rd l0 x13_1) != (rd l1 x13_1)) = true := bne_iff_ne.mpr c8; obtain rfl := Option.some.inj H; have p300 : 0 ≤ (x13_1 : Int) := of_decide_eq_true (by first | (with_reducible assumption) | assumption); have q300 : x13_1 < (l0.length : Int) := of_decide_eq_true (by first | (with_reducible assumption) | assumption); obtain ⟨ad300, e300, hx300_0⟩ := Kd.at_int HR0.out x13_1 p300 q300; cases e300; replace p300 := eq_true p300; replace q300 := eq_true q300; have p301 : 0 ≤ (x13_1 : Int) := of_decide_eq_true (by first | (with_reducible assumption) | assumption); have q301 : x13_1 < (l1.length : Int) := of_decide_eq_true (by first | (with_reducible assumption) | assumption); obtain ⟨ad301, e301, hx301_0⟩ := Kd.at_int HR1.out x13_1 p301 q301; cases e301; replace p301 := eq_true p301; replace q301 := eq_true q301
                  go_wp2
                  repeat (go_quiet (fail); try go_wp2)
                  go_ret
                  exact ⟨by first | rfl | (simp; done) | (simp [*]; done), by repeat (first | exact Drawn0.refl _ | apply Drawn0.step)⟩
              · rw [if_neg c7] at H
                exact absurd H (by simp)
            · rw [if_neg c6] at H
              exact absurd H (by simp)
          · rw [if_neg c5] at H
            exact absurd H (by simp)
        · rw [if_neg c4] at H
          have c4b0 : decide (x13_1 < (l0.length : Int)) = false := decide_eq_false c4; clear c4; obtain rfl := Option.some.inj H
          go_wp2
          repeat (go_quiet (fail); try go_wp2)
          go_ret
          exact ⟨by first | rfl | (simp; done) | (simp [*]; done), by repeat (first | exact Drawn0.refl _ | apply Drawn0.step)⟩
  · rw [if_neg c3] at H
    have c3b0 : ((l0.length : Int) == (l1.length : Int)) = false := beq_eq_false_iff_ne.mpr c3; have c3b1 : ((l0.length : Int) != (l1.length : Int)) = true := bne_iff_ne.mpr c3
    have c3b2 : (l0.length == l1.length) = false := by first | simpa using c3 | (simp at c3 ⊢; omega)
    obtain rfl := Option.some.inj H
    go_enter Try.func32, Try.ntmps32
    go_wp2
    repeat (go_quiet (fail); try go_wp2)
    go_ret
    exact ⟨by first | rfl | (simp; done) | (simp [*]; done), by repeat (first | exact Drawn0.refl _ | apply Drawn0.step)⟩
end Go.Proofs.Ytpkgckccfanchaa.M
