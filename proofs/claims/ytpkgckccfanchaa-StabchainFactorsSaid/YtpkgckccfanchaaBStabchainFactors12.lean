/- Part of the proof of StabchainFactors: texts of this claim, merged and pruned by wip/tools/merge2.py. -/
import Derived.Test.YtpkgckccfanchaaBStabchainFactors7
import Derived.Test.YtpkgckccfanchaaBStabchainFactors10
import Derived.Test.YtpkgckccfanchaaBStabchainFactors5
import Derived.Test.YtpkgckccfanchaaBStabchainFactors3
import Derived.Test.YtpkgckccfanchaaBStabchainFactors8
import Derived.Test.YtpkgckccfanchaaBStabchainFactors11

namespace Go.Proofs.Ytpkgckccfanchaa.M
open Go.RowKit Go.Proofs.YtpkgckccfanchaaW.PrintWords Go.Proofs.YtpkgckccfanchaaW.PrintLast Go.Proofs.YtpkgckccfanchaaW.PrintMore
attribute [local go_sem] max2_int min2_int max_two min_two max_three min_three max_four min_four
set_option linter.unusedVariables false
set_option linter.unusedSimpArgs false
mutual
def quadformlaw17_StabchainFactors.j0 : Nat → Int → List Int → Bool → Bool → List Int → Option (Bool)
  | 0, _, _, _, _, _ => none
  | k + 1, x5, x7, x46, x652000, x652001 => if x46 = true then (some false) else ((quadformref01_Small.f 1).bind fun bt652 => (quadformlaw17_StabchainFactors.l0 k x5 x7 (x7.length : Int) 0 x652000 x652001 bt652.1 bt652.2))
def quadformlaw17_StabchainFactors.l0 : Nat → Int → List Int → Int → Int → Bool → List Int → Bool → List Int → Option (Bool)
  | 0, _, _, _, _, _, _, _, _ => none
  | k + 1, x5, x48, x49, x50, x652000, x652001, x657000, x657001 => if x50 < x49 then (if 0 ≤ x50 then (if x50 < (x48.length : Int) then ((quadformref01_Small.f (rd x48 x50)).bind fun bt658 => ((quadformref01_Mul.f k x657000 x657001 bt658.1 bt658.2).bind fun bt662 => (quadformlaw17_StabchainFactors.l0 k x5 x48 x49 (wrap64 (x50 + 1)) x652000 x652001 bt662.1 bt662.2))) else (none)) else (none)) else ((quadformref01_Small.f 1).bind fun bt666 => (quadformlaw17_StabchainFactors.l1 k x5 1 x652000 x652001 x657000 x657001 bt666.1 bt666.2))
def quadformlaw17_StabchainFactors.l1 : Nat → Int → Int → Bool → List Int → Bool → List Int → Bool → List Int → Option (Bool)
  | 0, _, _, _, _, _, _, _, _ => none
  | k + 1, x5, x15, x652000, x652001, x657000, x657001, x671000, x671001 => if x15 ≤ x5 then ((quadformref01_Small.f x15).bind fun bt671 => ((quadformref01_Mul.f k x671000 x671001 bt671.1 bt671.2).bind fun bt675 => (quadformlaw17_StabchainFactors.l1 k x5 (wrap64 (x15 + 1)) x652000 x652001 x657000 x657001 bt675.1 bt675.2))) else ((quadformref01_Same.f k x657000 x657001 x652000 x652001).bind fun t679 => (if t679 = true then ((quadformref01_Divides.f x652000 x652001 x671000 x671001).bind fun t680 => (if t680 = true then ((quadformlaw17_awake.f k).bind fun t681 => (some t681)) else (some false))) else (some false)))
end
def quadformlaw17_StabchainFactors.f (k : Nat) (a0_0 : Int) (l0_1 : List (List Int)) (a0_2 : Bool) (l1 : List Int) : Option (Bool) := (quadformmake_Perms_Degree.f a0_0 l0_1 a0_2 8).bind fun t635 => ((quadformmake_Perms_Gens.f a0_0 l0_1 a0_2 8).bind fun t636 => ((quadformmake_Perm.f l1 t635).bind fun t639 => ((stabchain_Lengths.f k t635 t636 t639).bind fun bt642 => ((stabchain_Order.f k t635 t636).bind fun bt646 => (if bt642.2 = 0 then (if bt646.2.2 = 0 then (quadformlaw17_StabchainFactors.j0 k t635 bt642.1 ((bt642.1.length : Int) != t635) bt646.1 bt646.2.1) else (quadformlaw17_StabchainFactors.j0 k t635 bt642.1 true bt646.1 bt646.2.1)) else (quadformlaw17_StabchainFactors.j0 k t635 bt642.1 true bt646.1 bt646.2.1))))))
theorem quadformlaw17_StabchainFactors.mono_l : ∀ k, (∀ y0 y1 y2 y3 y4, LeO (quadformlaw17_StabchainFactors.j0 k y0 y1 y2 y3 y4) (quadformlaw17_StabchainFactors.j0 (k + 1) y0 y1 y2 y3 y4)) ∧ (∀ y0 y1 y2 y3 y4 y5 y6 y7, LeO (quadformlaw17_StabchainFactors.l0 k y0 y1 y2 y3 y4 y5 y6 y7) (quadformlaw17_StabchainFactors.l0 (k + 1) y0 y1 y2 y3 y4 y5 y6 y7)) ∧ (∀ y0 y1 y2 y3 y4 y5 y6 y7, LeO (quadformlaw17_StabchainFactors.l1 k y0 y1 y2 y3 y4 y5 y6 y7) (quadformlaw17_StabchainFactors.l1 (k + 1) y0 y1 y2 y3 y4 y5 y6 y7))
  | 0 => ⟨fun _ _ _ _ _ r h => by simp [quadformlaw17_StabchainFactors.j0] at h, fun _ _ _ _ _ _ _ _ r h => by simp [quadformlaw17_StabchainFactors.l0] at h, fun _ _ _ _ _ _ _ _ r h => by simp [quadformlaw17_StabchainFactors.l1] at h⟩
  | k + 1 => by
    obtain ⟨ih0, ih1, ih2⟩ := quadformlaw17_StabchainFactors.mono_l k; refine ⟨?_, ?_, ?_⟩
    · intro y0 y1 y2 y3 y4
      unfold quadformlaw17_StabchainFactors.j0
      repeat' first
      | (with_reducible exact ih0 _ _ _ _ _)
      | (with_reducible exact ih1 _ _ _ _ _ _ _ _)
      | (with_reducible exact ih2 _ _ _ _ _ _ _ _)
      | (with_reducible exact quadformlaw17_awake.mono _)
      | (with_reducible exact quadformref01_Mul.mono _ _ _ _ _)
      | (with_reducible exact quadformref01_Same.mono _ _ _ _ _)
      | (with_reducible exact stabchain_Lengths.mono _ _ _ _)
      | (with_reducible exact stabchain_Order.mono _ _ _)
      | (with_reducible exact LeO.refl _)
      | (with_reducible exact LeO.none _)
      | (with_reducible refine LeO.ite ?_ ?_)
      | (with_reducible refine LeO.bind ?_ (fun _ => ?_))
      | exact ih0 _ _ _ _ _
      | exact ih1 _ _ _ _ _ _ _ _
      | exact ih2 _ _ _ _ _ _ _ _
      | exact quadformlaw17_awake.mono _
      | exact quadformref01_Mul.mono _ _ _ _ _
      | exact quadformref01_Same.mono _ _ _ _ _
      | exact stabchain_Lengths.mono _ _ _ _
      | exact stabchain_Order.mono _ _ _
      | exact LeO.none _
      | refine LeO.ite ?_ ?_
      | refine LeO.bind ?_ (fun _ => ?_)
    · intro y0 y1 y2 y3 y4 y5 y6 y7
      unfold quadformlaw17_StabchainFactors.l0
      repeat' first
      | (with_reducible exact ih0 _ _ _ _ _)
      | (with_reducible exact ih1 _ _ _ _ _ _ _ _)
      | (with_reducible exact ih2 _ _ _ _ _ _ _ _)
      | (with_reducible exact quadformlaw17_awake.mono _)
      | (with_reducible exact quadformref01_Mul.mono _ _ _ _ _)
      | (with_reducible exact quadformref01_Same.mono _ _ _ _ _)
      | (with_reducible exact stabchain_Lengths.mono _ _ _ _)
      | (with_reducible exact stabchain_Order.mono _ _ _)
      | (with_reducible exact LeO.refl _)
      | (with_reducible exact LeO.none _)
      | (with_reducible refine LeO.ite ?_ ?_)
      | (with_reducible refine LeO.bind ?_ (fun _ => ?_))
      | exact ih0 _ _ _ _ _
      | exact ih1 _ _ _ _ _ _ _ _
      | exact ih2 _ _ _ _ _ _ _ _
      | exact quadformlaw17_awake.mono _
      | exact quadformref01_Mul.mono _ _ _ _ _
      | exact quadformref01_Same.mono _ _ _ _ _
      | exact stabchain_Lengths.mono _ _ _ _
      | exact stabchain_Order.mono _ _ _
      | exact LeO.none _
      | refine LeO.ite ?_ ?_
      | refine LeO.bind ?_ (fun _ => ?_)
    · intro y0 y1 y2 y3 y4 y5 y6 y7
      unfold quadformlaw17_StabchainFactors.l1
      repeat' first
      | (with_reducible exact ih0 _ _ _ _ _)
      | (with_reducible exact ih1 _ _ _ _ _ _ _ _)
      | (with_reducible exact ih2 _ _ _ _ _ _ _ _)
      | (with_reducible exact quadformlaw17_awake.mono _)
      | (with_reducible exact quadformref01_Mul.mono _ _ _ _ _)
      | (with_reducible exact quadformref01_Same.mono _ _ _ _ _)
      | (with_reducible exact stabchain_Lengths.mono _ _ _ _)
      | (with_reducible exact stabchain_Order.mono _ _ _)
      | (with_reducible exact LeO.refl _)
      | (with_reducible exact LeO.none _)
      | (with_reducible refine LeO.ite ?_ ?_)
      | (with_reducible refine LeO.bind ?_ (fun _ => ?_))
      | exact ih0 _ _ _ _ _
      | exact ih1 _ _ _ _ _ _ _ _
      | exact ih2 _ _ _ _ _ _ _ _
      | exact quadformlaw17_awake.mono _
      | exact quadformref01_Mul.mono _ _ _ _ _
      | exact quadformref01_Same.mono _ _ _ _ _
      | exact stabchain_Lengths.mono _ _ _ _
      | exact stabchain_Order.mono _ _ _
      | exact LeO.none _
      | refine LeO.ite ?_ ?_
      | refine LeO.bind ?_ (fun _ => ?_)
theorem quadformlaw17_StabchainFactors.mono : ∀ a0 a1 a2 a3 k, LeO (quadformlaw17_StabchainFactors.f k a0 a1 a2 a3) (quadformlaw17_StabchainFactors.f (k + 1) a0 a1 a2 a3) := by
  intro a0 a1 a2 a3 k; obtain ⟨ih0, ih1, ih2⟩ := quadformlaw17_StabchainFactors.mono_l k
  unfold quadformlaw17_StabchainFactors.f
  repeat' first
      | (with_reducible exact ih0 _ _ _ _ _)
      | (with_reducible exact ih1 _ _ _ _ _ _ _ _)
      | (with_reducible exact ih2 _ _ _ _ _ _ _ _)
      | (with_reducible exact quadformlaw17_awake.mono _)
      | (with_reducible exact quadformref01_Mul.mono _ _ _ _ _)
      | (with_reducible exact quadformref01_Same.mono _ _ _ _ _)
      | (with_reducible exact stabchain_Lengths.mono _ _ _ _)
      | (with_reducible exact stabchain_Order.mono _ _ _)
      | (with_reducible exact LeO.refl _)
      | (with_reducible exact LeO.none _)
      | (with_reducible refine LeO.ite ?_ ?_)
      | (with_reducible refine LeO.bind ?_ (fun _ => ?_))
      | exact ih0 _ _ _ _ _
      | exact ih1 _ _ _ _ _ _ _ _
      | exact ih2 _ _ _ _ _ _ _ _
      | exact quadformlaw17_awake.mono _
      | exact quadformref01_Mul.mono _ _ _ _ _
      | exact quadformref01_Same.mono _ _ _ _ _
      | exact stabchain_Lengths.mono _ _ _ _
      | exact stabchain_Order.mono _ _ _
      | exact LeO.none _
      | refine LeO.ite ?_ ?_
      | refine LeO.bind ?_ (fun _ => ?_)
set_option maxHeartbeats 8000000 in
set_option maxRecDepth 100000 in
theorem quadformlaw17_StabchainFactors.calls (k : Nat) (a0_0 : Int) (A0_1 : Option Addr) (c0_1 : Nat) (l0_1 : List (List Int)) (a0_2 : Bool) (A1 : Option Addr) (c1 : Nat) (l1 : List Int) (r : Bool) (w : World) (hr0_1 : Kd.C (Kd.slice 140 (Kd.int .i8)) w A0_1 l0_1.length l0_1) (hc0_1 : l0_1.length ≤ c0_1) (hr1 : Kd.C (Kd.int .i8) w A1 l1.length l1) (hc1 : l1.length ≤ c1) (h : quadformlaw17_StabchainFactors.f k a0_0 l0_1 a0_2 l1 = some r) (HTR0 : r = true) :
    Calls Try.prog 8 #[.agg #[.int .u8 a0_0, .slice A0_1 l0_1.length c0_1, .bool a0_2], .slice A1 l1.length c1] w fun e w' => e = .returned (.bool r) ∧ Below w.heap.size w w' := by
  have hu35 := Try.underlying35; have hu24 := Try.underlying24; have HR0_1 := Aside0.mk hr0_1; have HC0_1 := Aside0.mk hc0_1; clear hr0_1 hc0_1; have HR1 := Aside0.mk hr1; have HC1 := Aside0.mk hc1; clear hr1 hc1; have HTR := Aside0.mk HTR0; clear HTR0; have HB := Aside0.mk (Below.refl w.heap.size w); have H : ((quadformmake_Perms_Degree.f a0_0 l0_1 a0_2 8).bind fun t635 => ((quadformmake_Perms_Gens.f a0_0 l0_1 a0_2 8).bind fun t636 => ((quadformmake_Perm.f l1 t635).bind fun t639 => ((stabchain_Lengths.f k t635 t636 t639).bind fun bt642 => ((stabchain_Order.f k t635 t636).bind fun bt646 => (if bt642.2 = 0 then (if bt646.2.2 = 0 then (quadformlaw17_StabchainFactors.j0 k t635 bt642.1 ((bt642.1.length : Int) != t635) bt646.1 bt646.2.1) else (quadformlaw17_StabchainFactors.j0 k t635 bt642.1 true bt646.1 bt646.2.1)) else (quadformlaw17_StabchainFactors.j0 k t635 bt642.1 true bt646.1 bt646.2.1))))))) = some r := h; clear h; replace H := Option.bind_eq_some_iff.mp H; obtain ⟨t635, A30, H⟩ := H; replace H : ((quadformmake_Perms_Gens.f a0_0 l0_1 a0_2 8).bind fun t636 => ((quadformmake_Perm.f l1 t635).bind fun t639 => ((stabchain_Lengths.f k t635 t636 t639).bind fun bt642 => ((stabchain_Order.f k t635 t636).bind fun bt646 => (if bt642.2 = 0 then (if bt646.2.2 = 0 then (quadformlaw17_StabchainFactors.j0 k t635 bt642.1 ((bt642.1.length : Int) != t635) bt646.1 bt646.2.1) else (quadformlaw17_StabchainFactors.j0 k t635 bt642.1 true bt646.1 bt646.2.1)) else (quadformlaw17_StabchainFactors.j0 k t635 bt642.1 true bt646.1 bt646.2.1)))))) = some r := H; have A3 := Aside0.mk A30; clear A30; replace H := Option.bind_eq_some_iff.mp H; obtain ⟨t636, A40, H⟩ := H; replace H : ((quadformmake_Perm.f l1 t635).bind fun t639 => ((stabchain_Lengths.f k t635 t636 t639).bind fun bt642 => ((stabchain_Order.f k t635 t636).bind fun bt646 => (if bt642.2 = 0 then (if bt646.2.2 = 0 then (quadformlaw17_StabchainFactors.j0 k t635 bt642.1 ((bt642.1.length : Int) != t635) bt646.1 bt646.2.1) else (quadformlaw17_StabchainFactors.j0 k t635 bt642.1 true bt646.1 bt646.2.1)) else (quadformlaw17_StabchainFactors.j0 k t635 bt642.1 true bt646.1 bt646.2.1))))) = some r := H; have A4 := Aside0.mk A40; clear A40; replace H := Option.bind_eq_some_iff.mp H; obtain ⟨t639, A50, H⟩ := H; replace H : ((stabchain_Lengths.f k t635 t636 t639).bind fun bt642 => ((stabchain_Order.f k t635 t636).bind fun bt646 => (if bt642.2 = 0 then (if bt646.2.2 = 0 then (quadformlaw17_StabchainFactors.j0 k t635 bt642.1 ((bt642.1.length : Int) != t635) bt646.1 bt646.2.1) else (quadformlaw17_StabchainFactors.j0 k t635 bt642.1 true bt646.1 bt646.2.1)) else (quadformlaw17_StabchainFactors.j0 k t635 bt642.1 true bt646.1 bt646.2.1)))) = some r := H; have A5 := Aside0.mk A50; clear A50; replace H := Option.bind_eq_some_iff.mp H; obtain ⟨⟨t642, t643⟩, A60, H⟩ := H; replace H : ((stabchain_Order.f k t635 t636).bind fun bt646 => (if t643 = 0 then (if bt646.2.2 = 0 then (quadformlaw17_StabchainFactors.j0 k t635 t642 ((t642.length : Int) != t635) bt646.1 bt646.2.1) else (quadformlaw17_StabchainFactors.j0 k t635 t642 true bt646.1 bt646.2.1)) else (quadformlaw17_StabchainFactors.j0 k t635 t642 true bt646.1 bt646.2.1))) = some r := H; have A6 := Aside0.mk A60; clear A60; replace H := Option.bind_eq_some_iff.mp H; obtain ⟨⟨t646, t647, t650⟩, A70, H⟩ := H; replace H : (if t643 = 0 then (if t650 = 0 then (quadformlaw17_StabchainFactors.j0 k t635 t642 ((t642.length : Int) != t635) t646 t647) else (quadformlaw17_StabchainFactors.j0 k t635 t642 true t646 t647)) else (quadformlaw17_StabchainFactors.j0 k t635 t642 true t646 t647)) = some r := H; have A7 := Aside0.mk A70; clear A70; have HC8 := Aside0.mk H; clear H
  go_enter Try.func8, Try.ntmps8
  try go_wp2_with (first | ((with_reducible refine gate_dst (N := 2) rfl ?_); (try (refine gate_guard (by rfl) ?_; dsimp only)); refine box_event ?hg (N := 2) ?hd (cs := #[.int .u8 a0_0, .slice A0_1 l0_1.length c0_1, .bool a0_2]) (t := 35) ?hr ?_; (case hd => rfl); (case hg => rfl); (case hr => first | (go_simp; done) | (go_simp; rfl)); intro gb634 hg w9 hbox hb; have n0_ := Aside0.mk (below_step (by repeat (first | (with_reducible first | exact HB.out | apply below_alloc | apply pw_below_drewN | apply below_drew1) | exact HB.out)) hb); have n1_ := Aside0.mk (hbox); have n2_ := Aside0.mk ((by rw [hg]; exact (below_size (by repeat (first | (with_reducible first | exact HB.out | apply below_alloc | apply pw_below_drewN | apply below_drew1) | exact HB.out))) : w.heap.size ≤ gb634)); have n3_ := Aside0.mk ((by rw [hg]; exact (below_size (by repeat (first | (with_reducible first | exact HB.out | apply below_alloc | apply pw_below_drewN | apply below_drew1) | exact HB.out))) : w.heap.size ≤ gb634)); clear HB; have HB := n0_; have BK634 := n1_; have GW634 := n2_; have GE634 := n3_; clear n0_ n1_ n2_ n3_; clear hb hbox hg))
  have n0_ := Aside0.mk (blk_drew BK634.out); have n1_ := Aside0.mk (below_drew1 HB.out); clear BK634; clear HB; have BK634 := n0_; have HB := n1_; clear n0_ n1_; refine start_ (n := 6) (S := fun w' => w'.cell? ⟨gb634, 0, none⟩ = some (.int .u8 a0_0) ∧ w'.cell? ⟨gb634, 1, none⟩ = some (.slice A0_1 l0_1.length c0_1) ∧ w'.cell? ⟨gb634, 2, none⟩ = some (.bool a0_2)) (ds := []) #[false, false, false, false, false, false] (by kernel_rfl) rfl rfl ⟨(blk_cell BK634.out 0).trans rfl, (blk_cell BK634.out 1).trans rfl, (blk_cell BK634.out 2).trans rfl⟩ (fun hHeld => ?_)
  generalize w9.drew = w10 at BK634 HB hHeld ⊢
  refine take_ (i := 0) (N := some 16) (v := ?_) (a' := ?_) #[true, false, false, false, false, false] rfl rfl (by kernel_rfl) (fun _ _ _ h => h) (Or.inl ⟨by rfl, ?_⟩) hHeld ?_ ?_
  rotate_left
  · rintro w' ⟨s0, s1, s2⟩
    go_simp
    with_reducible rfl
  rotate_left
  · simp only [Act.put, List.setIfInBounds_toArray, List.set_cons_zero, List.set_cons_succ, i64_w, i32_w]
    rfl
  refine take_ (i := 2) (N := some 18) (v := ?_) (a' := ?_) #[true, false, true, false, false, false] rfl rfl (by kernel_rfl) (fun _ _ _ h => h) (Or.inl ⟨by rfl, ?_⟩) hHeld ?_ ?_
  rotate_left
  · rintro w' ⟨s0, s1, s2⟩
    go_simp
    with_reducible rfl
  rotate_left
  · simp only [Act.put, List.setIfInBounds_toArray, List.set_cons_zero, List.set_cons_succ, i64_w, i32_w]
    rfl
  refine one_ (i := 1) (N := some 17) #[true, true, true, false, false, false] rfl rfl (by kernel_rfl) (by decide) (fun K hK => ?_)
  refine goes_ Try.func18 (by kernel_rfl) rfl #[.agg #[.int .u8 a0_0, .slice A0_1 l0_1.length c0_1, .bool a0_2], .int .i64 8] (by rfl) rfl rfl (by (try simp only [List.map_toArray, List.map_cons, List.map_nil]); first | done | rfl | (simp only [List.length_drop, List.length_take]; rfl)) ?_
  with_reducible refine (quadformmake_Perms_Degree.calls a0_0 _ _ l0_1 a0_2 8 t635 _ ?side1 ?side2 A3.out).mono ?_
  (case side1 => repeat (first | exact (Kd.C_below HR0_1.out HB.out) | (with_reducible refine Kd.C_alloc ?_ _) | (with_reducible refine Kd.C_drewN ?_ _) | (with_reducible refine Kd.C_drew ?_)))
  (case side2 => exact HC0_1.out)
  rintro e w11 ⟨rfl, hb⟩; refine ⟨_, rfl, ?_⟩; have n0_ := Aside0.mk (blk_below BK634.out hb); have n1_ := Aside0.mk (below_step HB.out hb); clear BK634; clear HB; have BK634 := n0_; have HB := n1_; clear n0_ n1_
  (try clear hb)
  (try clear hb2)
  (try clear hk)
  (try clear hi)
  refine hK.out _ _ ⟨(blk_cell BK634.out 0).trans rfl, (blk_cell BK634.out 1).trans rfl, (blk_cell BK634.out 2).trans rfl⟩ (fun hHeld => ?_); clear hK K
  refine norm_ (a' := ?_) ?_ ?_
  rotate_left
  · show Act.put _ (some 17) _ = _
    simp only [Act.put, List.setIfInBounds_toArray, List.set_cons_zero, List.set_cons_succ, i64_w, i32_w]
    rfl
  refine one_ (i := 3) (N := some 19) #[true, true, true, true, false, false] rfl rfl (by kernel_rfl) (by decide) (fun K hK => ?_)
  refine goes_ Try.func19 (by kernel_rfl) rfl #[.agg #[.int .u8 a0_0, .slice A0_1 l0_1.length c0_1, .bool a0_2], .int .i64 8] (by rfl) rfl rfl (by (try simp only [List.map_toArray, List.map_cons, List.map_nil]); first | done | rfl | (simp only [List.length_drop, List.length_take]; rfl)) ?_
  with_reducible refine (quadformmake_Perms_Gens.calls a0_0 _ _ l0_1 a0_2 8 t636 _ ?side1 ?side2 A4.out).mono ?_
  (case side1 => repeat (first | exact (Kd.C_below HR0_1.out HB.out) | (with_reducible refine Kd.C_alloc ?_ _) | (with_reducible refine Kd.C_drewN ?_ _) | (with_reducible refine Kd.C_drew ?_)))
  (case side2 => exact HC0_1.out)
  rintro e w12 ⟨v637, rfl, ho0, hb⟩; refine ⟨_, rfl, ?_⟩; have n0_ := Aside0.mk (Kd.S_lower ho0 (below_size HB.out)); have n1_ := Aside0.mk (blk_below BK634.out hb); have n2_ := Aside0.mk (below_step HB.out hb); clear BK634; clear HB; have HO638 := n0_; have BK634 := n1_; have HB := n2_; clear n0_ n1_ n2_
  (try clear hb)
  (try clear hb2)
  (try clear hk)
  (try clear hi)
  (try clear ho0)
  refine hK.out _ _ ⟨(blk_cell BK634.out 0).trans rfl, (blk_cell BK634.out 1).trans rfl, (blk_cell BK634.out 2).trans rfl⟩ (fun hHeld => ?_); clear hK K
  refine norm_ (a' := ?_) ?_ ?_
  rotate_left
  · show Act.put _ (some 19) _ = _
    simp only [Act.put, List.setIfInBounds_toArray, List.set_cons_zero, List.set_cons_succ, i64_w, i32_w]
    rfl
  refine pure_ (i := 4) (N := some 5) (v := ?_) (a' := ?_) #[true, true, true, true, true, false] rfl rfl (by kernel_rfl) (fun _ _ _ h => h) (Or.inl ⟨by rfl, ?_⟩) ?_ ?_
  rotate_left
  · intro w'
    go_simp
    with_reducible rfl
  rotate_left
  · simp only [Act.put, List.setIfInBounds_toArray, List.set_cons_zero, List.set_cons_succ, i64_w, i32_w]
    rfl
  refine pure_ (i := 5) (N := some 6) (v := ?_) (a' := ?_) #[true, true, true, true, true, true] rfl rfl (by kernel_rfl) (fun _ _ _ h => h) (Or.inl ⟨by rfl, ?_⟩) ?_ ?_
  rotate_left
  · intro w'
    go_simp
    with_reducible rfl
  rotate_left
  · simp only [Act.put, List.setIfInBounds_toArray, List.set_cons_zero, List.set_cons_succ, i64_w, i32_w]
    rfl
  refine done_ (by kernel_rfl) ?_
  go_upto_region 4 with (first | ((with_reducible refine gate_callee (f := 22) rfl ?_); refine goesL_ (some 25) rfl rfl Try.func22 (by kernel_rfl) rfl #[.slice A1 l1.length c1, .int .i64 t635] rfl (by (try simp only [List.map_toArray, List.map_cons, List.map_nil]); first | done | rfl | (simp only [List.length_drop, List.length_take]; rfl)) ?_; (with_reducible refine (quadformmake_Perm.calls _ _ l1 t635 t639 _ ?side1 ?side2 A5.out).mono ?_); (case side1 => repeat (first | exact (Kd.C_below HR1.out HB.out) | (with_reducible refine Kd.C_alloc ?_ _) | (with_reducible refine Kd.C_drewN ?_ _) | (with_reducible refine Kd.C_drew ?_))); (case side2 => exact HC1.out); rintro e w13 ⟨v640, rfl, ho0, hb⟩; refine ⟨_, rfl, ?_⟩; have n0_ := Aside0.mk (Kd.S_elder' (by (with_reducible repeat (first | apply Kd.S_alloc | apply Kd.S_drewN | apply Kd.S_drew)); exact HO638.out) (Kd.R_base ho0) hb); have n1_ := Aside0.mk (Kd.R_lower ho0 (below_size (by repeat (first | (with_reducible first | exact HB.out | apply below_alloc | apply pw_below_drewN | apply below_drew1 | refine below_set ?_ GE634.out) | exact HB.out)))); have n2_ := Aside0.mk (blk_below (g := gb634) (o := .cells #[.int .u8 a0_0, .slice A0_1 l0_1.length c0_1, .bool a0_2] 35 (0, 0)) (by (with_reducible repeat (first | refine blk_drewN ?_ _ | refine blk_drew ?_ | refine blk_alloc ?_ _)); exact BK634.out) hb); have n3_ := Aside0.mk (below_step (by repeat (first | (with_reducible first | exact HB.out | apply below_alloc | apply pw_below_drewN | apply below_drew1 | refine below_set ?_ GE634.out) | exact HB.out)) hb); clear HO638; clear BK634; clear HB; have HO638 := n0_; have HO641 := n1_; have BK634 := n2_; have HB := n3_; clear n0_ n1_ n2_ n3_; (try clear hb); (try clear hb2); (try clear hk); (try clear hi); (try clear ho0); obtain ⟨Ao14, co14, eo14⟩ := Kd.S_slice HO638.out; subst eo14; obtain ⟨Ao15, co15, eo15⟩ := Kd.R_slice HO641.out; subst eo15) | ((with_reducible refine gate_callee (f := 30) rfl ?_); refine goesL_ (some 26) rfl rfl Try.func30 (by kernel_rfl) rfl #[.int .i64 t635, .slice Ao14 t636.length co14, .slice Ao15 t639.length co15] rfl (by (try simp only [List.map_toArray, List.map_cons, List.map_nil]); first | done | rfl | (simp only [List.length_drop, List.length_take]; rfl)) ?_; (with_reducible refine (stabchain_Lengths.calls k t635 _ _ t636 _ _ t639 t642 t643 _ ?side1 ?side2 ?side3 ?side4 A6.out).mono ?_); (case side1 => repeat (first | exact (Kd.S_reads' HO638.out).2.2 | (with_reducible refine Kd.C_alloc ?_ _) | (with_reducible refine Kd.C_drewN ?_ _) | (with_reducible refine Kd.C_drew ?_))); (case side2 => exact (Kd.S_reads' HO638.out).2.1); (case side3 => repeat (first | exact (Kd.R_reads' HO641.out).2.2 | (with_reducible refine Kd.C_alloc ?_ _) | (with_reducible refine Kd.C_drewN ?_ _) | (with_reducible refine Kd.C_drew ?_))); (case side4 => exact (Kd.R_reads' HO641.out).2.1); rintro e w16 ⟨v644, rfl, ho0, hb⟩; refine ⟨_, rfl, ?_⟩; have n0_ := Aside0.mk (Kd.S_elder' (by (with_reducible repeat (first | apply Kd.S_alloc | apply Kd.S_drewN | apply Kd.S_drew)); exact HO638.out) (Kd.R_base ho0) hb); have n1_ := Aside0.mk (Kd.R_elder' (by (with_reducible repeat (first | apply Kd.R_alloc | apply Kd.R_drewN | apply Kd.R_drew)); exact HO641.out) (Kd.R_base ho0) hb); have n2_ := Aside0.mk (Kd.R_lower (Kd.R_new' ho0 (Kd.R_lt (by (with_reducible repeat (first | apply Kd.R_alloc | apply Kd.R_drewN | apply Kd.R_drew)); exact HO641.out))) (below_size (by repeat (first | (with_reducible first | exact HB.out | apply below_alloc | apply pw_below_drewN | apply below_drew1 | refine below_set ?_ GE634.out) | exact HB.out)))); have n3_ := Aside0.mk (blk_below (g := gb634) (o := .cells #[.int .u8 a0_0, .slice A0_1 l0_1.length c0_1, .bool a0_2] 35 (0, 0)) (by (with_reducible repeat (first | refine blk_drewN ?_ _ | refine blk_drew ?_ | refine blk_alloc ?_ _)); exact BK634.out) hb); have n4_ := Aside0.mk (below_step (by repeat (first | (with_reducible first | exact HB.out | apply below_alloc | apply pw_below_drewN | apply below_drew1 | refine below_set ?_ GE634.out) | exact HB.out)) hb); clear HO638; clear HO641; clear BK634; clear HB; have HO638 := n0_; have HO641 := n1_; have HO645 := n2_; have BK634 := n3_; have HB := n4_; clear n0_ n1_ n2_ n3_ n4_; (try clear hb); (try clear hb2); (try clear hk); (try clear hi); (try clear ho0)) | ((with_reducible refine gate_callee (f := 15) rfl ?_); refine goesL_ (some 32) rfl rfl Try.func15 (by kernel_rfl) rfl #[.int .i64 t635, .slice Ao14 t636.length co14] rfl (by (try simp only [List.map_toArray, List.map_cons, List.map_nil]); first | done | rfl | (simp only [List.length_drop, List.length_take]; rfl)) ?_; (with_reducible refine (stabchain_Order.calls k t635 _ _ t636 t646 t647 t650 _ ?side1 ?side2 A7.out).mono ?_); (case side1 => repeat (first | exact (Kd.S_reads' HO638.out).2.2 | (with_reducible refine Kd.C_alloc ?_ _) | (with_reducible refine Kd.C_drewN ?_ _) | (with_reducible refine Kd.C_drew ?_))); (case side2 => exact (Kd.S_reads' HO638.out).2.1); rintro e w17 ⟨v648, rfl, ho0, hb⟩; refine ⟨_, rfl, ?_⟩; have n0_ := Aside0.mk (Kd.S_below (by (with_reducible repeat (first | apply Kd.S_alloc | apply Kd.S_drewN | apply Kd.S_drew)); exact HO638.out) hb); have n1_ := Aside0.mk (Kd.R_below (by (with_reducible repeat (first | apply Kd.R_alloc | apply Kd.R_drewN | apply Kd.R_drew)); exact HO641.out) hb); have n2_ := Aside0.mk (Kd.R_below (by (with_reducible repeat (first | apply Kd.R_alloc | apply Kd.R_drewN | apply Kd.R_drew)); exact HO645.out) hb); have n3_ := Aside0.mk (Kd.V_lower (Kd.V_mono (ok' := fun k_ => some k_ ≠ (.slice Ao14 t636.length co14 : Value).ownBlock ∧ some k_ ≠ (.slice Ao15 t639.length co15 : Value).ownBlock ∧ some k_ ≠ (v644 : Value).ownBlock ∧ k_ ≠ gb634) ho0 (fun k_ hk_ => ⟨(Kd.fresh' (Kd.S_lt (by (with_reducible repeat (first | apply Kd.S_alloc | apply Kd.S_drewN | apply Kd.S_drew)); exact HO638.out)) k_ hk_), (Kd.fresh' (Kd.R_lt (by (with_reducible repeat (first | apply Kd.R_alloc | apply Kd.R_drewN | apply Kd.R_drew)); exact HO641.out)) k_ hk_), (Kd.fresh' (Kd.R_lt (by (with_reducible repeat (first | apply Kd.R_alloc | apply Kd.R_drewN | apply Kd.R_drew)); exact HO645.out)) k_ hk_), (Kd.freshB (g := gb634) (o := .cells #[.int .u8 a0_0, .slice A0_1 l0_1.length c0_1, .bool a0_2] 35 (0, 0)) (by (with_reducible repeat (first | refine blk_drewN ?_ _ | refine blk_drew ?_ | refine blk_alloc ?_ _)); exact BK634.out) k_ hk_)⟩)) (below_size (by repeat (first | (with_reducible first | exact HB.out | apply below_alloc | apply pw_below_drewN | apply below_drew1 | refine below_set ?_ GE634.out) | exact HB.out)))); have n4_ := Aside0.mk (blk_below (g := gb634) (o := .cells #[.int .u8 a0_0, .slice A0_1 l0_1.length c0_1, .bool a0_2] 35 (0, 0)) (by (with_reducible repeat (first | refine blk_drewN ?_ _ | refine blk_drew ?_ | refine blk_alloc ?_ _)); exact BK634.out) hb); have n5_ := Aside0.mk (below_step (by repeat (first | (with_reducible first | exact HB.out | apply below_alloc | apply pw_below_drewN | apply below_drew1 | refine below_set ?_ GE634.out) | exact HB.out)) hb); clear HO638; clear HO641; clear HO645; clear BK634; clear HB; have HO638 := n0_; have HO641 := n1_; have HO645 := n2_; have HO649 := n3_; have BK634 := n4_; have HB := n5_; clear n0_ n1_ n2_ n3_ n4_ n5_; (try clear hb); (try clear hb2); (try clear hk); (try clear hi); (try clear ho0)) | ((with_reducible refine gate_dst (N := 9) rfl ?_); (try (refine gate_guard (by rfl) ?_; dsimp only)); refine box_event ?hg (N := 9) ?hd (cs := #[.bool false, .slice none 0 0]) (t := 24) ?hr ?_; (case hd => rfl); (case hg => rfl); (case hr => first | (go_simp; done) | (go_simp; rfl)); intro gb651 hg w18 hbox hb; have n0_ := Aside0.mk (Kd.S_below (by (with_reducible repeat (first | apply Kd.S_alloc | apply Kd.S_drewN | apply Kd.S_drew)); exact HO638.out) hb); have n1_ := Aside0.mk (Kd.R_below (by (with_reducible repeat (first | apply Kd.R_alloc | apply Kd.R_drewN | apply Kd.R_drew)); exact HO641.out) hb); have n2_ := Aside0.mk (Kd.R_below (by (with_reducible repeat (first | apply Kd.R_alloc | apply Kd.R_drewN | apply Kd.R_drew)); exact HO645.out) hb); have n3_ := Aside0.mk (Kd.V_below (Kd.V_elderB (by (with_reducible repeat (first | apply Kd.V_alloc | apply Kd.V_drewN | apply Kd.V_drew)); exact HO649.out) gb651 (Nat.le_of_eq hg.symm)) hb); have n4_ := Aside0.mk (blk_below (g := gb634) (o := .cells #[.int .u8 a0_0, .slice A0_1 l0_1.length c0_1, .bool a0_2] 35 (0, 0)) (by (with_reducible repeat (first | refine blk_drewN ?_ _ | refine blk_drew ?_ | refine blk_alloc ?_ _)); exact BK634.out) hb); have n5_ := Aside0.mk (below_step (by repeat (first | (with_reducible first | exact HB.out | apply below_alloc | apply pw_below_drewN | apply below_drew1 | refine below_set ?_ GE634.out) | exact HB.out)) hb); have n6_ := Aside0.mk (hbox); have n7_ := Aside0.mk ((by rw [hg]; exact (below_size (by repeat (first | (with_reducible first | exact HB.out | apply below_alloc | apply pw_below_drewN | apply below_drew1 | refine below_set ?_ GE634.out) | exact HB.out))) : w.heap.size ≤ gb651)); have n8_ := Aside0.mk ((by rw [hg]; exact (below_size (by repeat (first | (with_reducible first | exact HB.out | apply below_alloc | apply pw_below_drewN | apply below_drew1 | refine below_set ?_ GE634.out) | exact HB.out))) : w.heap.size ≤ gb651)); have n9_ := Aside0.mk ((by rw [hg]; exact Nat.ne_of_lt (blk_lt (g := gb634) (o := .cells #[.int .u8 a0_0, .slice A0_1 l0_1.length c0_1, .bool a0_2] 35 (0, 0)) (by (with_reducible repeat (first | refine blk_drewN ?_ _ | refine blk_drew ?_ | refine blk_alloc ?_ _)); exact BK634.out)) : gb634 ≠ gb651)); have n10_ := Aside0.mk ((by rw [hg]; exact Nat.ne_of_gt (blk_lt (g := gb634) (o := .cells #[.int .u8 a0_0, .slice A0_1 l0_1.length c0_1, .bool a0_2] 35 (0, 0)) (by (with_reducible repeat (first | refine blk_drewN ?_ _ | refine blk_drew ?_ | refine blk_alloc ?_ _)); exact BK634.out)) : gb651 ≠ gb634)); clear HO638; clear HO641; clear HO645; clear HO649; clear BK634; clear HB; have HO638 := n0_; have HO641 := n1_; have HO645 := n2_; have HO649 := n3_; have BK634 := n4_; have HB := n5_; have BK651 := n6_; have GW651 := n7_; have GE651 := n8_; have NB634_651 := n9_; have NB651_634 := n10_; clear n0_ n1_ n2_ n3_ n4_ n5_ n6_ n7_ n8_ n9_ n10_; clear hb hbox hg; have hnb19 := NB651_634.out; have hnc19 := NB634_651.out; have hcz20_0 : w18.cell? ⟨gb651, 0, none⟩ = some (.bool false) := (blk_cell BK651.out 0).trans rfl; have hcz20_1 : w18.cell? ⟨gb651, 1, none⟩ = some (.slice none 0 0) := (blk_cell BK651.out 1).trans rfl; have hfz20_0 := blk_frozen BK651.out 0; have hfz20_1 := blk_frozen BK651.out 1; obtain ⟨Ao21, co21, eo21⟩ := Kd.V_slice HO649.out; subst eo21))
  (try simp only [Act.put, List.setIfInBounds_toArray, List.set_cons_zero, List.set_cons_succ])
  go_cut [46] (fun v46 wc => ∃ (kq : Nat) (x46_7 : Bool), v46 = .bool x46_7 ∧ Aside0 (quadformlaw17_StabchainFactors.j0 kq t635 t642 x46_7 t646 t647 = some r) ∧ Aside0 (kq ≤ k) ∧ Aside0 (Kd.R (Kd.int .i64) 3 wc w.heap.size (fun _ => True) v644 t642) ∧ Aside0 (Kd.V (Kd.int .u32) 98 wc w.heap.size (fun k_ => some k_ ≠ (v644 : Value).ownBlock ∧ k_ ≠ gb634 ∧ k_ ≠ gb651) (.slice Ao21 t647.length co21) t647) ∧ Aside0 (wc.heap[gb634]? = some (.cells #[.int .u8 a0_0, (.slice A0_1 l0_1.length c0_1), .bool a0_2] 35 (0, 0))) ∧ Aside0 (wc.heap[gb651]? = some (.cells #[.bool t646, (.slice Ao21 t647.length co21)] 24 (0, 0))) ∧ Aside0 (Below w.heap.size w wc))
  case first =>
    have H := HC8.out; clear HC8
    by_cases c22 : t643 = 0
    · rw [if_pos c22] at H
      have c22b0 : (t643 == 0) = true := beq_iff_eq.mpr c22; have c22b1 : (t643 != 0) = false := bne_eq_false_iff_eq.mpr c22; clear c22
      (first | rw [c22b0] | (simp only [i64_w, i32_w]; rw [c22b0]) | skip)
      by_cases c23 : t650 = 0
      · rw [if_pos c23] at H
        have c23b0 : (t650 == 0) = true := beq_iff_eq.mpr c23; have c23b1 : (t650 != 0) = false := bne_eq_false_iff_eq.mpr c23; clear c23; have H' := Aside0.mk H; clear H; obtain ⟨Ao24, co24, eo24⟩ := Kd.R_slice HO645.out; subst eo24
        go_wp2
        go_meet
        case rel => exact ⟨_, (((t642.length : Int) != t635)), (by first | rfl | (simp; done) | (simp [*]; done)), H', ⟨by first | omega | exact Nat.le_refl _⟩, ⟨by (with_reducible repeat (first | apply Kd.R_alloc | apply Kd.R_drewN | apply Kd.R_drew)); exact Kd.R_mono (Kd.R_far (p := ⟨gb651, 1, none⟩) (Kd.R_far (p := ⟨gb651, 0, none⟩) (Kd.R_types HO645.out BK651.out (by decide)) (fun _ hk => hk.2) (.bool t646)) (fun _ hk => hk.2) (.slice Ao21 t647.length co21)) (fun _ hk => trivial)⟩, ⟨by (with_reducible repeat (first | apply Kd.V_alloc | apply Kd.V_drewN | apply Kd.V_drew)); exact Kd.V_mono (Kd.V_far (p := ⟨gb651, 1, none⟩) (Kd.V_far (p := ⟨gb651, 0, none⟩) (Kd.V_mono HO649.out (fun k_ hk => (⟨hk, hk.2⟩ : _ ∧ k_ ≠ gb651))) (fun _ hk => hk.2) (.bool t646)) (fun _ hk => hk.2) (.slice Ao21 t647.length co21)) (fun _ hk => ⟨hk.1.1.2.2.1, ⟨hk.1.1.2.2.2, hk.1.2⟩⟩)⟩, ⟨by (with_reducible repeat (first | refine blk_drewN ?_ _ | refine blk_drew ?_ | refine blk_alloc ?_ _)); refine blk_far ?_ NB634_651.out _; (with_reducible repeat (first | refine blk_drewN ?_ _ | refine blk_drew ?_ | refine blk_alloc ?_ _)); refine blk_far ?_ NB634_651.out _; (with_reducible repeat (first | refine blk_drewN ?_ _ | refine blk_drew ?_ | refine blk_alloc ?_ _)); exact BK634.out⟩, ⟨by (with_reducible repeat (first | refine blk_drewN ?_ _ | refine blk_drew ?_ | refine blk_alloc ?_ _)); refine blk_put (cs := #[.bool t646, .slice none 0 0]) ?_ 1 _ rfl; (with_reducible repeat (first | refine blk_drewN ?_ _ | refine blk_drew ?_ | refine blk_alloc ?_ _)); refine blk_put (cs := #[.bool false, .slice none 0 0]) ?_ 0 _ rfl; (with_reducible repeat (first | refine blk_drewN ?_ _ | refine blk_drew ?_ | refine blk_alloc ?_ _)); exact BK651.out⟩, ⟨by repeat (first | (with_reducible first | exact HB.out | apply below_alloc | apply pw_below_drewN | apply below_drew1 | refine below_set ?_ GE634.out | refine below_set ?_ GE651.out) | exact HB.out)⟩⟩
      · rw [if_neg c23] at H
        have c23b0 : (t650 == 0) = false := beq_eq_false_iff_ne.mpr c23; have c23b1 : (t650 != 0) = true := bne_iff_ne.mpr c23; have H' := Aside0.mk H; clear H
        go_wp2
        go_meet
        case rel => exact ⟨_, (true), (by first | rfl | (simp; done) | (simp [*]; done)), H', ⟨by first | omega | exact Nat.le_refl _⟩, ⟨by (with_reducible repeat (first | apply Kd.R_alloc | apply Kd.R_drewN | apply Kd.R_drew)); exact Kd.R_mono (Kd.R_far (p := ⟨gb651, 1, none⟩) (Kd.R_far (p := ⟨gb651, 0, none⟩) (Kd.R_types HO645.out BK651.out (by decide)) (fun _ hk => hk.2) (.bool t646)) (fun _ hk => hk.2) (.slice Ao21 t647.length co21)) (fun _ hk => trivial)⟩, ⟨by (with_reducible repeat (first | apply Kd.V_alloc | apply Kd.V_drewN | apply Kd.V_drew)); exact Kd.V_mono (Kd.V_far (p := ⟨gb651, 1, none⟩) (Kd.V_far (p := ⟨gb651, 0, none⟩) (Kd.V_mono HO649.out (fun k_ hk => (⟨hk, hk.2⟩ : _ ∧ k_ ≠ gb651))) (fun _ hk => hk.2) (.bool t646)) (fun _ hk => hk.2) (.slice Ao21 t647.length co21)) (fun _ hk => ⟨hk.1.1.2.2.1, ⟨hk.1.1.2.2.2, hk.1.2⟩⟩)⟩, ⟨by (with_reducible repeat (first | refine blk_drewN ?_ _ | refine blk_drew ?_ | refine blk_alloc ?_ _)); refine blk_far ?_ NB634_651.out _; (with_reducible repeat (first | refine blk_drewN ?_ _ | refine blk_drew ?_ | refine blk_alloc ?_ _)); refine blk_far ?_ NB634_651.out _; (with_reducible repeat (first | refine blk_drewN ?_ _ | refine blk_drew ?_ | refine blk_alloc ?_ _)); exact BK634.out⟩, ⟨by (with_reducible repeat (first | refine blk_drewN ?_ _ | refine blk_drew ?_ | refine blk_alloc ?_ _)); refine blk_put (cs := #[.bool t646, .slice none 0 0]) ?_ 1 _ rfl; (with_reducible repeat (first | refine blk_drewN ?_ _ | refine blk_drew ?_ | refine blk_alloc ?_ _)); refine blk_put (cs := #[.bool false, .slice none 0 0]) ?_ 0 _ rfl; (with_reducible repeat (first | refine blk_drewN ?_ _ | refine blk_drew ?_ | refine blk_alloc ?_ _)); exact BK651.out⟩, ⟨by repeat (first | (with_reducible first | exact HB.out | apply below_alloc | apply pw_below_drewN | apply below_drew1 | refine below_set ?_ GE634.out | refine below_set ?_ GE651.out) | exact HB.out)⟩⟩
    · rw [if_neg c22] at H
      have c22b0 : (t643 == 0) = false := beq_eq_false_iff_ne.mpr c22; have c22b1 : (t643 != 0) = true := bne_iff_ne.mpr c22
      (first | rw [c22b0] | (simp only [i64_w, i32_w]; rw [c22b0]) | skip)
      have H' := Aside0.mk H; clear H
      go_wp2
      go_meet
      case rel => exact ⟨_, (true), (by first | rfl | (simp; done) | (simp [*]; done)), H', ⟨by first | omega | exact Nat.le_refl _⟩, ⟨by (with_reducible repeat (first | apply Kd.R_alloc | apply Kd.R_drewN | apply Kd.R_drew)); exact Kd.R_mono (Kd.R_far (p := ⟨gb651, 1, none⟩) (Kd.R_far (p := ⟨gb651, 0, none⟩) (Kd.R_types HO645.out BK651.out (by decide)) (fun _ hk => hk.2) (.bool t646)) (fun _ hk => hk.2) (.slice Ao21 t647.length co21)) (fun _ hk => trivial)⟩, ⟨by (with_reducible repeat (first | apply Kd.V_alloc | apply Kd.V_drewN | apply Kd.V_drew)); exact Kd.V_mono (Kd.V_far (p := ⟨gb651, 1, none⟩) (Kd.V_far (p := ⟨gb651, 0, none⟩) (Kd.V_mono HO649.out (fun k_ hk => (⟨hk, hk.2⟩ : _ ∧ k_ ≠ gb651))) (fun _ hk => hk.2) (.bool t646)) (fun _ hk => hk.2) (.slice Ao21 t647.length co21)) (fun _ hk => ⟨hk.1.1.2.2.1, ⟨hk.1.1.2.2.2, hk.1.2⟩⟩)⟩, ⟨by (with_reducible repeat (first | refine blk_drewN ?_ _ | refine blk_drew ?_ | refine blk_alloc ?_ _)); refine blk_far ?_ NB634_651.out _; (with_reducible repeat (first | refine blk_drewN ?_ _ | refine blk_drew ?_ | refine blk_alloc ?_ _)); refine blk_far ?_ NB634_651.out _; (with_reducible repeat (first | refine blk_drewN ?_ _ | refine blk_drew ?_ | refine blk_alloc ?_ _)); exact BK634.out⟩, ⟨by (with_reducible repeat (first | refine blk_drewN ?_ _ | refine blk_drew ?_ | refine blk_alloc ?_ _)); refine blk_put (cs := #[.bool t646, .slice none 0 0]) ?_ 1 _ rfl; (with_reducible repeat (first | refine blk_drewN ?_ _ | refine blk_drew ?_ | refine blk_alloc ?_ _)); refine blk_put (cs := #[.bool false, .slice none 0 0]) ?_ 0 _ rfl; (with_reducible repeat (first | refine blk_drewN ?_ _ | refine blk_drew ?_ | refine blk_alloc ?_ _)); exact BK651.out⟩, ⟨by repeat (first | (with_reducible first | exact HB.out | apply below_alloc | apply pw_below_drewN | apply below_drew1 | refine below_set ?_ GE634.out | refine below_set ?_ GE651.out) | exact HB.out)⟩⟩
  case rest =>
    clear HC8
    try clear c1
    try clear c2
    try clear p2
    try clear c3
    try clear c8
    try clear c15
    try clear c18
    try clear c19
    try clear c22
    try clear c22b0
    try clear c22b1
    try clear c23
    try clear c23b0
    try clear c23b1
    try clear hcz20_0
    try clear hcz20_1
    try clear hfz20_0
    try clear hfz20_1
    obtain ⟨kq, x46_7, rfl, HA, HJ7, HO_7, HO_652001, BK634, BK651, HB⟩ := hcut; cases kq with
    | zero => exact absurd HA.out (by simp [quadformlaw17_StabchainFactors.j0])
    | succ kj7 =>
      have H := HA.out; clear HA
      simp only [quadformlaw17_StabchainFactors.j0] at H
      by_cases c25 : x46_7 = true
      · subst c25
        have H1 : (some false) = some r := by rw [if_pos rfl] at H; exact H
        clear H; have H := H1; clear H1; exact absurd ((Option.some.inj H).trans HTR.out) Bool.false_ne_true
      · replace c25 := Bool.eq_false_iff.mpr c25
        subst c25
        have H1 : ((quadformref01_Small.f 1).bind fun bt652 => (quadformlaw17_StabchainFactors.l0 kj7 t635 t642 (t642.length : Int) 0 t646 t647 bt652.1 bt652.2)) = some r := by rw [if_neg (show ¬ (false = true) by decide)] at H; exact H
        clear H; have H := H1; clear H1; replace H := Option.bind_eq_some_iff.mp H; obtain ⟨⟨t652, t653⟩, A260, H⟩ := H; replace H : (quadformlaw17_StabchainFactors.l0 kj7 t635 t642 (t642.length : Int) 0 t646 t647 t652 t653) = some r := H; have A26 := Aside0.mk A260; clear A260; have H' := Aside0.mk H; clear H
        go_wp2_with (first | ((with_reducible refine gate_callee (f := 17) rfl ?_); refine goesL_ (some 47) rfl rfl Try.func17 (by kernel_rfl) rfl #[.int .i64 1] rfl (by (try simp only [List.map_toArray, List.map_cons, List.map_nil]); first | done | rfl | (simp only [List.length_drop, List.length_take]; rfl)) ?_; (with_reducible refine (quadformref01_Small.calls 1 t652 t653 _ A26.out).mono ?_); rintro e w27 ⟨v654, rfl, ho0, hb⟩; refine ⟨_, rfl, ?_⟩; have n0_ := Aside0.mk (Kd.R_below (by (with_reducible repeat (first | apply Kd.R_alloc | apply Kd.R_drewN | apply Kd.R_drew)); exact HO_7.out) hb); have n1_ := Aside0.mk (Kd.V_elder' (by (with_reducible repeat (first | apply Kd.V_alloc | apply Kd.V_drewN | apply Kd.V_drew)); exact HO_652001.out) (Kd.R_base ho0) hb); have n2_ := Aside0.mk (Kd.R_lower ho0 (below_size (by repeat (first | (with_reducible first | exact HB.out | apply below_alloc | apply pw_below_drewN | apply below_drew1 | refine below_set ?_ GE634.out | refine below_set ?_ GE651.out) | exact HB.out)))); have n3_ := Aside0.mk (blk_below (g := gb634) (o := .cells #[.int .u8 a0_0, .slice A0_1 l0_1.length c0_1, .bool a0_2] 35 (0, 0)) (by (with_reducible repeat (first | refine blk_drewN ?_ _ | refine blk_drew ?_ | refine blk_alloc ?_ _)); exact BK634.out) hb); have n4_ := Aside0.mk (blk_below (g := gb651) (o := .cells #[.bool t646, .slice Ao21 t647.length co21] 24 (0, 0)) (by (with_reducible repeat (first | refine blk_drewN ?_ _ | refine blk_drew ?_ | refine blk_alloc ?_ _)); exact BK651.out) hb); have n5_ := Aside0.mk (below_step (by repeat (first | (with_reducible first | exact HB.out | apply below_alloc | apply pw_below_drewN | apply below_drew1 | refine below_set ?_ GE634.out | refine below_set ?_ GE651.out) | exact HB.out)) hb); clear HO_7; clear HO_652001; clear BK634; clear BK651; clear HB; have HO_7 := n0_; have HO_652001 := n1_; have HO655 := n2_; have BK634 := n3_; have BK651 := n4_; have HB := n5_; clear n0_ n1_ n2_ n3_ n4_ n5_; (try clear hb); (try clear hb2); (try clear hk); (try clear hi); (try clear ho0)) | ((with_reducible refine gate_dst (N := 11) rfl ?_); (try (refine gate_guard (by rfl) ?_; dsimp only)); refine box_event ?hg (N := 11) ?hd (cs := #[.bool false, .slice none 0 0]) (t := 24) ?hr ?_; (case hd => rfl); (case hg => rfl); (case hr => first | (go_simp; done) | (go_simp; rfl)); intro gb656 hg w28 hbox hb; have n0_ := Aside0.mk (Kd.R_below (by (with_reducible repeat (first | apply Kd.R_alloc | apply Kd.R_drewN | apply Kd.R_drew)); exact HO_7.out) hb); have n1_ := Aside0.mk (Kd.V_below (Kd.V_elderB (by (with_reducible repeat (first | apply Kd.V_alloc | apply Kd.V_drewN | apply Kd.V_drew)); exact HO_652001.out) gb656 (Nat.le_of_eq hg.symm)) hb); have n2_ := Aside0.mk (Kd.R_below (by (with_reducible repeat (first | apply Kd.R_alloc | apply Kd.R_drewN | apply Kd.R_drew)); exact HO655.out) hb); have n3_ := Aside0.mk (blk_below (g := gb634) (o := .cells #[.int .u8 a0_0, .slice A0_1 l0_1.length c0_1, .bool a0_2] 35 (0, 0)) (by (with_reducible repeat (first | refine blk_drewN ?_ _ | refine blk_drew ?_ | refine blk_alloc ?_ _)); exact BK634.out) hb); have n4_ := Aside0.mk (blk_below (g := gb651) (o := .cells #[.bool t646, .slice Ao21 t647.length co21] 24 (0, 0)) (by (with_reducible repeat (first | refine blk_drewN ?_ _ | refine blk_drew ?_ | refine blk_alloc ?_ _)); exact BK651.out) hb); have n5_ := Aside0.mk (below_step (by repeat (first | (with_reducible first | exact HB.out | apply below_alloc | apply pw_below_drewN | apply below_drew1 | refine below_set ?_ GE634.out | refine below_set ?_ GE651.out) | exact HB.out)) hb); have n6_ := Aside0.mk (hbox); have n7_ := Aside0.mk ((by rw [hg]; exact (below_size (by repeat (first | (with_reducible first | exact HB.out | apply below_alloc | apply pw_below_drewN | apply below_drew1 | refine below_set ?_ GE634.out | refine below_set ?_ GE651.out) | exact HB.out))) : w.heap.size ≤ gb656)); have n8_ := Aside0.mk ((by rw [hg]; exact (below_size (by repeat (first | (with_reducible first | exact HB.out | apply below_alloc | apply pw_below_drewN | apply below_drew1 | refine below_set ?_ GE634.out | refine below_set ?_ GE651.out) | exact HB.out))) : w.heap.size ≤ gb656)); have n9_ := Aside0.mk ((by rw [hg]; exact Nat.ne_of_lt (blk_lt (g := gb634) (o := .cells #[.int .u8 a0_0, .slice A0_1 l0_1.length c0_1, .bool a0_2] 35 (0, 0)) (by (with_reducible repeat (first | refine blk_drewN ?_ _ | refine blk_drew ?_ | refine blk_alloc ?_ _)); exact BK634.out)) : gb634 ≠ gb656)); have n10_ := Aside0.mk ((by rw [hg]; exact Nat.ne_of_gt (blk_lt (g := gb634) (o := .cells #[.int .u8 a0_0, .slice A0_1 l0_1.length c0_1, .bool a0_2] 35 (0, 0)) (by (with_reducible repeat (first | refine blk_drewN ?_ _ | refine blk_drew ?_ | refine blk_alloc ?_ _)); exact BK634.out)) : gb656 ≠ gb634)); have n11_ := Aside0.mk ((by rw [hg]; exact Nat.ne_of_lt (blk_lt (g := gb651) (o := .cells #[.bool t646, .slice Ao21 t647.length co21] 24 (0, 0)) (by (with_reducible repeat (first | refine blk_drewN ?_ _ | refine blk_drew ?_ | refine blk_alloc ?_ _)); exact BK651.out)) : gb651 ≠ gb656)); have n12_ := Aside0.mk ((by rw [hg]; exact Nat.ne_of_gt (blk_lt (g := gb651) (o := .cells #[.bool t646, .slice Ao21 t647.length co21] 24 (0, 0)) (by (with_reducible repeat (first | refine blk_drewN ?_ _ | refine blk_drew ?_ | refine blk_alloc ?_ _)); exact BK651.out)) : gb656 ≠ gb651)); clear HO_7; clear HO_652001; clear HO655; clear BK634; clear BK651; clear HB; have HO_7 := n0_; have HO_652001 := n1_; have HO655 := n2_; have BK634 := n3_; have BK651 := n4_; have HB := n5_; have BK656 := n6_; have GW656 := n7_; have GE656 := n8_; have NB634_656 := n9_; have NB656_634 := n10_; have NB651_656 := n11_; have NB656_651 := n12_; clear n0_ n1_ n2_ n3_ n4_ n5_ n6_ n7_ n8_ n9_ n10_ n11_ n12_; clear hb hbox hg; have hnb29 := NB656_634.out; have hnc29 := NB634_656.out; have hnb30 := NB656_651.out; have hnc30 := NB651_656.out; have hcz31_0 : w28.cell? ⟨gb656, 0, none⟩ = some (.bool false) := (blk_cell BK656.out 0).trans rfl; have hcz31_1 : w28.cell? ⟨gb656, 1, none⟩ = some (.slice none 0 0) := (blk_cell BK656.out 1).trans rfl; have hfz31_0 := blk_frozen BK656.out 0; have hfz31_1 := blk_frozen BK656.out 1; obtain ⟨Ao32, co32, eo32⟩ := Kd.R_slice HO655.out; subst eo32; obtain ⟨Ao33, co33, eo33⟩ := Kd.R_slice HO_7.out; subst eo33))
        go_loopg [50] kj7 (fun kq v50 w' => ∃ (x50_2 : Int) (x657000_2 : Bool) (x657001_2 : List Int) (u657001 : Value), v50 = .int .i64 x50_2 ∧ Aside0 (quadformlaw17_StabchainFactors.l0 kq t635 t642 (t642.length : Int) x50_2 t646 t647 x657000_2 x657001_2 = some r) ∧ Aside0 (kq ≤ kj7) ∧ Aside0 (Kd.R (Kd.int .i64) 3 w' w.heap.size (fun _ => True) (.slice Ao33 t642.length co33) t642) ∧ Aside0 (Kd.V (Kd.int .u32) 98 w' w.heap.size (fun k_ => some k_ ≠ ((.slice Ao33 t642.length co33) : Value).ownBlock ∧ some k_ ≠ (u657001 : Value).ownBlock ∧ k_ ≠ gb634 ∧ k_ ≠ gb651 ∧ k_ ≠ gb656) (.slice Ao21 t647.length co21) t647) ∧ Aside0 (Kd.R (Kd.int .u32) 98 w' w.heap.size (fun _ => True) u657001 x657001_2) ∧ Aside0 (w'.heap[gb634]? = some (.cells #[.int .u8 a0_0, (.slice A0_1 l0_1.length c0_1), .bool a0_2] 35 (0, 0))) ∧ Aside0 (w'.heap[gb651]? = some (.cells #[.bool t646, (.slice Ao21 t647.length co21)] 24 (0, 0))) ∧ Aside0 (w'.heap[gb656]? = some (.cells #[.bool x657000_2, u657001] 24 (0, 0))) ∧ Aside0 (Below w.heap.size w w'))
        case atStart => exact ⟨(0), (t652), (t653), (.slice Ao32 t653.length co32), (by first | rfl | (simp; done) | (simp [*]; done)), H', ⟨Nat.le_refl _⟩, ⟨by (with_reducible repeat (first | apply Kd.R_alloc | apply Kd.R_drewN | apply Kd.R_drew)); exact Kd.R_mono (Kd.R_far (p := ⟨gb656, 1, none⟩) (Kd.R_far (p := ⟨gb656, 0, none⟩) (Kd.R_types HO_7.out BK656.out (by decide)) (fun _ hk => hk.2) (.bool t652)) (fun _ hk => hk.2) (.slice Ao32 t653.length co32)) (fun _ hk => trivial)⟩, ⟨by (with_reducible repeat (first | apply Kd.V_alloc | apply Kd.V_drewN | apply Kd.V_drew)); exact Kd.V_mono (Kd.V_far (p := ⟨gb656, 1, none⟩) (Kd.V_far (p := ⟨gb656, 0, none⟩) (Kd.V_mono HO_652001.out (fun k_ hk => (⟨hk, hk.2⟩ : _ ∧ k_ ≠ gb656))) (fun _ hk => hk.2) (.bool t652)) (fun _ hk => hk.2) (.slice Ao32 t653.length co32)) (fun _ hk => ⟨hk.1.1.1.1, ⟨hk.1.1.2, ⟨hk.1.1.1.2.1, ⟨hk.1.1.1.2.2, hk.1.2⟩⟩⟩⟩)⟩, ⟨by (with_reducible repeat (first | apply Kd.R_alloc | apply Kd.R_drewN | apply Kd.R_drew)); exact Kd.R_mono (Kd.R_far (p := ⟨gb656, 1, none⟩) (Kd.R_far (p := ⟨gb656, 0, none⟩) (Kd.R_types HO655.out BK656.out (by decide)) (fun _ hk => hk.2) (.bool t652)) (fun _ hk => hk.2) (.slice Ao32 t653.length co32)) (fun _ hk => trivial)⟩, ⟨by (with_reducible repeat (first | refine blk_drewN ?_ _ | refine blk_drew ?_ | refine blk_alloc ?_ _)); refine blk_far ?_ NB634_656.out _; (with_reducible repeat (first | refine blk_drewN ?_ _ | refine blk_drew ?_ | refine blk_alloc ?_ _)); refine blk_far ?_ NB634_656.out _; (with_reducible repeat (first | refine blk_drewN ?_ _ | refine blk_drew ?_ | refine blk_alloc ?_ _)); exact BK634.out⟩, ⟨by (with_reducible repeat (first | refine blk_drewN ?_ _ | refine blk_drew ?_ | refine blk_alloc ?_ _)); refine blk_far ?_ NB651_656.out _; (with_reducible repeat (first | refine blk_drewN ?_ _ | refine blk_drew ?_ | refine blk_alloc ?_ _)); refine blk_far ?_ NB651_656.out _; (with_reducible repeat (first | refine blk_drewN ?_ _ | refine blk_drew ?_ | refine blk_alloc ?_ _)); exact BK651.out⟩, ⟨by (with_reducible repeat (first | refine blk_drewN ?_ _ | refine blk_drew ?_ | refine blk_alloc ?_ _)); refine blk_put (cs := #[.bool t652, .slice none 0 0]) ?_ 1 _ rfl; (with_reducible repeat (first | refine blk_drewN ?_ _ | refine blk_drew ?_ | refine blk_alloc ?_ _)); refine blk_put (cs := #[.bool false, .slice none 0 0]) ?_ 0 _ rfl; (with_reducible repeat (first | refine blk_drewN ?_ _ | refine blk_drew ?_ | refine blk_alloc ?_ _)); exact BK656.out⟩, ⟨by repeat (first | (with_reducible first | exact HB.out | apply below_alloc | apply pw_below_drewN | apply below_drew1 | refine below_set ?_ GE634.out | refine below_set ?_ GE651.out | refine below_set ?_ GE656.out) | exact HB.out)⟩⟩
        case round =>
          clear H'
          try clear c1
          try clear c2
          try clear p2
          try clear c3
          try clear c8
          try clear c15
          try clear c17
          try clear c18
          try clear c19
          try clear c22
          try clear c22b0
          try clear c22b1
          try clear c23
          try clear c23b0
          try clear c23b1
          try clear c25
          try clear c29
          try clear c30
          try clear hcz20_0
          try clear hcz20_1
          try clear hcz31_0
          try clear hcz31_1
          try clear hfz20_0
          try clear hfz20_1
          try clear hfz31_0
          try clear hfz31_1
          try clear p2
          obtain ⟨x50_2, x657000_2, x657001_2, u657001, rfl, HA, HK2, HO_48, HO_652001, HO_657001, BK634, BK651, BK656, HB⟩ := hrel; cases gk with
          | zero => exact absurd HA.out (by simp [quadformlaw17_StabchainFactors.l0])
          | succ k2 =>
            have H := HA.out; clear HA
            simp only [quadformlaw17_StabchainFactors.l0] at H
            by_cases c34 : x50_2 < (t642.length : Int)
            · rw [if_pos c34] at H
              have c34b0 : decide (x50_2 < (t642.length : Int)) = true := decide_eq_true c34; clear c34
              by_cases c35 : 0 ≤ x50_2
              · rw [if_pos c35] at H
                have c35b0 : decide (0 ≤ x50_2) = true := decide_eq_true c35; clear c35
                by_cases c36 : x50_2 < (t642.length : Int)
                · rw [if_pos c36] at H
                  have c36b0 : decide (x50_2 < (t642.length : Int)) = true := decide_eq_true c36; clear c36; replace H := Option.bind_eq_some_iff.mp H; obtain ⟨⟨t658, t659⟩, A370, H⟩ := H; replace H : ((quadformref01_Mul.f k2 x657000_2 x657001_2 t658 t659).bind fun bt662 => (quadformlaw17_StabchainFactors.l0 k2 t635 t642 (t642.length : Int) (wrap64 (x50_2 + 1)) t646 t647 bt662.1 bt662.2)) = some r := H; have A37 := Aside0.mk A370; clear A370; replace H := Option.bind_eq_some_iff.mp H; obtain ⟨⟨t662, t663⟩, A380, H⟩ := H; replace H : (quadformlaw17_StabchainFactors.l0 k2 t635 t642 (t642.length : Int) (wrap64 (x50_2 + 1)) t646 t647 t662 t663) = some r := H; have A38 := Aside0.mk A380; clear A380; have H' := Aside0.mk H; clear H; have p657 : 0 ≤ (x50_2 : Int) := of_decide_eq_true (by first | (with_reducible assumption) | assumption); have q657 : x50_2 < (t642.length : Int) := of_decide_eq_true (by first | (with_reducible assumption) | assumption); obtain ⟨ad657, e657, hx657_0⟩ := Kd.at_int (Kd.R_reads' HO_48.out).2.2 x50_2 p657 q657; cases e657; replace p657 := eq_true p657; replace q657 := eq_true q657
                  try go_wp2
                  have n0_ := Aside0.mk (Kd.R_drew HO_48.out); have n1_ := Aside0.mk (Kd.V_drew HO_652001.out); have n2_ := Aside0.mk (Kd.R_drew HO_657001.out); have n3_ := Aside0.mk (blk_drew BK634.out); have n4_ := Aside0.mk (blk_drew BK651.out); have n5_ := Aside0.mk (blk_drew BK656.out); have n6_ := Aside0.mk (below_drew1 HB.out); clear HO_48; clear HO_652001; clear HO_657001; clear BK634; clear BK651; clear BK656; clear HB; have HO_48 := n0_; have HO_652001 := n1_; have HO_657001 := n2_; have BK634 := n3_; have BK651 := n4_; have BK656 := n5_; have HB := n6_; clear n0_ n1_ n2_ n3_ n4_ n5_ n6_; refine start_ (n := 5) (S := fun w' => w'.cell? ⟨gb656, 0, none⟩ = some (.bool x657000_2) ∧ w'.cell? ⟨gb656, 1, none⟩ = some (u657001)) (ds := [4]) #[false, false, false, false, false] (by kernel_rfl) rfl rfl ⟨(blk_cell BK656.out 0).trans rfl, (blk_cell BK656.out 1).trans rfl⟩ (fun hHeld => ?_)
                  generalize wr.drew = w39 at HO_48 HO_652001 HO_657001 BK634 BK651 BK656 HB hHeld ⊢
                  refine pure_ (i := 1) (N := some 55) (v := ?_) (a' := ?_) #[false, true, false, false, false] rfl rfl (by kernel_rfl) (fun _ _ _ h => h) (Or.inl ⟨by rfl, ?_⟩) ?_ ?_
                  rotate_left
                  · intro w'
                    go_simp
                    with_reducible rfl
                  rotate_left
                  · simp only [Act.put, List.setIfInBounds_toArray, List.set_cons_zero, List.set_cons_succ, i64_w, i32_w]
                    rfl
                  refine take_ (i := 0) (N := some 54) (v := ?_) (a' := ?_) #[true, true, false, false, false] rfl rfl (by kernel_rfl) (fun _ _ _ h => h) (Or.inl ⟨by rfl, ?_⟩) hHeld ?_ ?_
                  rotate_left
                  · rintro w' ⟨s0, s1⟩
                    go_simp
                    with_reducible rfl
                  rotate_left
                  · simp only [Act.put, List.setIfInBounds_toArray, List.set_cons_zero, List.set_cons_succ, i64_w, i32_w]
                    rfl
                  refine one_ (i := 2) (N := some 56) #[true, true, true, false, false] rfl rfl (by kernel_rfl) (by decide) (fun K hK => ?_)
                  refine goes_ Try.func17 (by kernel_rfl) rfl #[.int .i64 (rd t642 x50_2)] (by rfl) rfl rfl (by (try simp only [List.map_toArray, List.map_cons, List.map_nil]); first | done | rfl | (simp only [List.length_drop, List.length_take]; rfl)) ?_
                  with_reducible refine (quadformref01_Small.calls (rd t642 x50_2) t658 t659 _ A37.out).mono ?_
                  rintro e w40 ⟨v660, rfl, ho0, hb⟩; refine ⟨_, rfl, ?_⟩; have n0_ := Aside0.mk (Kd.R_below HO_48.out hb); have n1_ := Aside0.mk (Kd.V_elder' HO_652001.out (Kd.R_base ho0) hb); have n2_ := Aside0.mk (Kd.R_elder' HO_657001.out (Kd.R_base ho0) hb); have n3_ := Aside0.mk (Kd.R_lower (Kd.R_new' ho0 (Kd.R_lt HO_657001.out)) (below_size HB.out)); have n4_ := Aside0.mk (blk_below BK634.out hb); have n5_ := Aside0.mk (blk_below BK651.out hb); have n6_ := Aside0.mk (blk_below BK656.out hb); have n7_ := Aside0.mk (below_step HB.out hb); clear HO_48; clear HO_652001; clear HO_657001; clear BK634; clear BK651; clear BK656; clear HB; have HO_48 := n0_; have HO_652001 := n1_; have HO_657001 := n2_; have HO661 := n3_; have BK634 := n4_; have BK651 := n5_; have BK656 := n6_; have HB := n7_; clear n0_ n1_ n2_ n3_ n4_ n5_ n6_ n7_
                  (try clear hb)
                  (try clear hb2)
                  (try clear hk)
                  (try clear hi)
                  (try clear ho0)
                  obtain ⟨Ao41, co41, eo41⟩ := Kd.R_slice HO_657001.out
                  (first | subst eo41 | (injection eo41 with f1_ f2_ f3_; have f4_ := f1_.symm; have f5_ := f3_.symm; clear f1_ f2_ f3_; subst f4_; subst f5_))
                  obtain ⟨Ao42, co42, eo42⟩ := Kd.R_slice HO661.out
                  (first | subst eo42 | (injection eo42 with f1_ f2_ f3_; have f4_ := f1_.symm; have f5_ := f3_.symm; clear f1_ f2_ f3_; subst f4_; subst f5_))
                  refine hK.out _ _ ⟨(blk_cell BK656.out 0).trans rfl, (blk_cell BK656.out 1).trans rfl⟩ (fun hHeld => ?_); clear hK K
                  refine norm_ (a' := ?_) ?_ ?_
                  rotate_left
                  · show Act.put _ (some 56) _ = _
                    simp only [Act.put, List.setIfInBounds_toArray, List.set_cons_zero, List.set_cons_succ, i64_w, i32_w]
                    rfl
                  refine one_ (i := 3) (N := some 57) #[true, true, true, true, false] rfl rfl (by kernel_rfl) (by decide) (fun K hK => ?_)
                  refine goes_ Try.func33 (by kernel_rfl) rfl #[.agg #[.bool x657000_2, .slice Ao41 x657001_2.length co41], .agg #[.bool t658, .slice Ao42 t659.length co42]] (by rfl) rfl rfl (by (try simp only [List.map_toArray, List.map_cons, List.map_nil]); first | done | rfl | (simp only [List.length_drop, List.length_take]; rfl)) ?_
                  with_reducible refine (quadformref01_Mul.calls k2 x657000_2 _ _ x657001_2 t658 _ _ t659 t662 t663 _ ?side1 ?side2 ?side3 ?side4 A38.out).mono ?_
                  (case side1 => repeat (first | exact (Kd.R_reads' HO_657001.out).2.2 | (with_reducible refine Kd.C_alloc ?_ _) | (with_reducible refine Kd.C_drewN ?_ _) | (with_reducible refine Kd.C_drew ?_)))
                  (case side2 => exact (Kd.R_reads' HO_657001.out).2.1)
                  (case side3 => repeat (first | exact (Kd.R_reads' HO661.out).2.2 | (with_reducible refine Kd.C_alloc ?_ _) | (with_reducible refine Kd.C_drewN ?_ _) | (with_reducible refine Kd.C_drew ?_)))
                  (case side4 => exact (Kd.R_reads' HO661.out).2.1)
                  rintro e w43 ⟨v664, rfl, ho0, hb⟩; refine ⟨_, rfl, ?_⟩; have n0_ := Aside0.mk (Kd.R_below HO_48.out hb); have n1_ := Aside0.mk (Kd.V_elder' HO_652001.out (Kd.R_base ho0) hb); have n2_ := Aside0.mk (Kd.R_elder' HO_657001.out (Kd.R_base ho0) hb); have n3_ := Aside0.mk (Kd.R_elder' HO661.out (Kd.R_base ho0) hb); have n4_ := Aside0.mk (Kd.R_lower (Kd.R_new' (Kd.R_new' ho0 (Kd.R_lt HO_657001.out)) (Kd.R_lt HO661.out)) (below_size HB.out)); have n5_ := Aside0.mk (blk_below BK634.out hb); have n6_ := Aside0.mk (blk_below BK651.out hb); have n7_ := Aside0.mk (blk_below BK656.out hb); have n8_ := Aside0.mk (below_step HB.out hb); clear HO_48; clear HO_652001; clear HO_657001; clear HO661; clear BK634; clear BK651; clear BK656; clear HB; have HO_48 := n0_; have HO_652001 := n1_; have HO_657001 := n2_; have HO661 := n3_; have HO665 := n4_; have BK634 := n5_; have BK651 := n6_; have BK656 := n7_; have HB := n8_; clear n0_ n1_ n2_ n3_ n4_ n5_ n6_ n7_ n8_
                  (try clear hb)
                  (try clear hb2)
                  (try clear hk)
                  (try clear hi)
                  (try clear ho0)
                  obtain ⟨Ao45, co45, eo45⟩ := Kd.R_slice HO665.out
                  (first | subst eo45 | (injection eo45 with f1_ f2_ f3_; have f4_ := f1_.symm; have f5_ := f3_.symm; clear f1_ f2_ f3_; subst f4_; subst f5_))
                  refine hK.out _ _ ⟨(blk_cell BK656.out 0).trans rfl, (blk_cell BK656.out 1).trans rfl⟩ (fun hHeld => ?_); clear hK K
                  refine norm_ (a' := ?_) ?_ ?_
                  rotate_left
                  · show Act.put _ (some 57) _ = _
                    simp only [Act.put, List.setIfInBounds_toArray, List.set_cons_zero, List.set_cons_succ, i64_w, i32_w]
                    rfl
                  refine last_ (i := 4) (N := none) #[true, true, true, true, true] rfl rfl (by kernel_rfl) (by decide) (fun K hK => ?_); have hs44 : w43.cell? ⟨gb656, 0, none⟩ = some (.bool x657000_2) := (blk_cell BK656.out 0).trans rfl; have hfs44 := blk_frozen BK656.out 0; have hns44_0 := NB634_656.out; have hns44_1 := NB651_656.out; have hms44_0 := NB656_634.out; have hms44_1 := NB656_651.out; have hs46 : w43.cell? ⟨gb656, 1, none⟩ = some (.slice Ao41 x657001_2.length co41) := (blk_cell BK656.out 1).trans rfl; have hfs46 := blk_frozen BK656.out 1; have hns46_0 := NB634_656.out; have hns46_1 := NB651_656.out; have hms46_0 := NB656_634.out; have hms46_1 := NB656_651.out
                  refine skip_ (w1 := ?_) (by rfl) rfl ?_ ?_
                  rotate_left
                  · go_simp
                    rfl
                  refine hK.out _ _ ?_
                  clear hK K
                  refine done_ (by kernel_rfl) ?_
                  try go_wp2
                  go_roundg k2
                  case measure => have := HJ7.out; have := HK2.out; omega
                  case rel => exact ⟨(wrap64 (x50_2 + 1)), (t662), (t663), (.slice Ao45 t663.length co45), (by first | rfl | (simp; done) | (simp [*]; done)), H', ⟨by have := HJ7.out; have := HK2.out; omega⟩, ⟨by (with_reducible repeat (first | apply Kd.R_alloc | apply Kd.R_drewN | apply Kd.R_drew)); exact Kd.R_mono (Kd.R_far (p := ⟨gb656, 1, none⟩) (Kd.R_far (p := ⟨gb656, 0, none⟩) (Kd.R_types HO_48.out BK656.out (by decide)) (fun _ hk => hk.2) (.bool t662)) (fun _ hk => hk.2) (.slice Ao45 t663.length co45)) (fun _ hk => trivial)⟩, ⟨by (with_reducible repeat (first | apply Kd.V_alloc | apply Kd.V_drewN | apply Kd.V_drew)); exact Kd.V_mono (Kd.V_far (p := ⟨gb656, 1, none⟩) (Kd.V_far (p := ⟨gb656, 0, none⟩) (Kd.V_mono HO_652001.out (fun k_ hk => (⟨hk, hk.1.1.2.2.2.2⟩ : _ ∧ k_ ≠ gb656))) (fun _ hk => hk.2) (.bool t662)) (fun _ hk => hk.2) (.slice Ao45 t663.length co45)) (fun _ hk => ⟨hk.1.1.1.1, ⟨hk.1.2, ⟨hk.1.1.1.2.2.1, ⟨hk.1.1.1.2.2.2.1, hk.1.1.1.2.2.2.2⟩⟩⟩⟩)⟩, ⟨by (with_reducible repeat (first | apply Kd.R_alloc | apply Kd.R_drewN | apply Kd.R_drew)); exact Kd.R_mono (Kd.R_far (p := ⟨gb656, 1, none⟩) (Kd.R_far (p := ⟨gb656, 0, none⟩) (Kd.R_types HO665.out BK656.out (by decide)) (fun _ hk => hk.2) (.bool t662)) (fun _ hk => hk.2) (.slice Ao45 t663.length co45)) (fun _ hk => trivial)⟩, ⟨by (with_reducible repeat (first | refine blk_drewN ?_ _ | refine blk_drew ?_ | refine blk_alloc ?_ _)); refine blk_far ?_ NB634_656.out _; (with_reducible repeat (first | refine blk_drewN ?_ _ | refine blk_drew ?_ | refine blk_alloc ?_ _)); refine blk_far ?_ NB634_656.out _; (with_reducible repeat (first | refine blk_drewN ?_ _ | refine blk_drew ?_ | refine blk_alloc ?_ _)); exact BK634.out⟩, ⟨by (with_reducible repeat (first | refine blk_drewN ?_ _ | refine blk_drew ?_ | refine blk_alloc ?_ _)); refine blk_far ?_ NB651_656.out _; (with_reducible repeat (first | refine blk_drewN ?_ _ | refine blk_drew ?_ | refine blk_alloc ?_ _)); refine blk_far ?_ NB651_656.out _; (with_reducible repeat (first | refine blk_drewN ?_ _ | refine blk_drew ?_ | refine blk_alloc ?_ _)); exact BK651.out⟩, ⟨by (with_reducible repeat (first | refine blk_drewN ?_ _ | refine blk_drew ?_ | refine blk_alloc ?_ _)); refine blk_put (cs := #[.bool t662, .slice Ao41 x657001_2.length co41]) ?_ 1 _ rfl; (with_reducible repeat (first | refine blk_drewN ?_ _ | refine blk_drew ?_ | refine blk_alloc ?_ _)); refine blk_put (cs := #[.bool x657000_2, .slice Ao41 x657001_2.length co41]) ?_ 0 _ rfl; (with_reducible repeat (first | refine blk_drewN ?_ _ | refine blk_drew ?_ | refine blk_alloc ?_ _)); exact BK656.out⟩, ⟨by repeat (first | (with_reducible first | exact HB.out | apply below_alloc | apply pw_below_drewN | apply below_drew1 | refine below_set ?_ GE634.out | refine below_set ?_ GE651.out | refine below_set ?_ GE656.out) | exact HB.out)⟩⟩
                · rw [if_neg c36] at H
                  exact absurd H (by simp)
              · rw [if_neg c35] at H
                exact absurd H (by simp)
            · rw [if_neg c34] at H
              have c34b0 : decide (x50_2 < (t642.length : Int)) = false := decide_eq_false c34; clear c34; replace H := Option.bind_eq_some_iff.mp H; obtain ⟨⟨t666, t667⟩, A470, H⟩ := H; replace H : (quadformlaw17_StabchainFactors.l1 k2 t635 1 t646 t647 x657000_2 x657001_2 t666 t667) = some r := H; have A47 := Aside0.mk A470; clear A470; have H' := Aside0.mk H; clear H
              go_wp2_with (first | ((with_reducible refine gate_callee (f := 17) rfl ?_); refine goesL_ (some 59) rfl rfl Try.func17 (by kernel_rfl) rfl #[.int .i64 1] rfl (by (try simp only [List.map_toArray, List.map_cons, List.map_nil]); first | done | rfl | (simp only [List.length_drop, List.length_take]; rfl)) ?_; (with_reducible refine (quadformref01_Small.calls 1 t666 t667 _ A47.out).mono ?_); rintro e w48 ⟨v668, rfl, ho0, hb⟩; refine ⟨_, rfl, ?_⟩; have n0_ := Aside0.mk (Kd.R_below (by (with_reducible repeat (first | apply Kd.R_alloc | apply Kd.R_drewN | apply Kd.R_drew)); exact HO_48.out) hb); have n1_ := Aside0.mk (Kd.V_elder' (by (with_reducible repeat (first | apply Kd.V_alloc | apply Kd.V_drewN | apply Kd.V_drew)); exact HO_652001.out) (Kd.R_base ho0) hb); have n2_ := Aside0.mk (Kd.R_elder' (by (with_reducible repeat (first | apply Kd.R_alloc | apply Kd.R_drewN | apply Kd.R_drew)); exact HO_657001.out) (Kd.R_base ho0) hb); have n3_ := Aside0.mk (Kd.R_lower (Kd.R_new' ho0 (Kd.R_lt (by (with_reducible repeat (first | apply Kd.R_alloc | apply Kd.R_drewN | apply Kd.R_drew)); exact HO_657001.out))) (below_size (by repeat (first | (with_reducible first | exact HB.out | apply below_alloc | apply pw_below_drewN | apply below_drew1 | refine below_set ?_ GE634.out | refine below_set ?_ GE651.out | refine below_set ?_ GE656.out) | exact HB.out)))); have n4_ := Aside0.mk (blk_below (g := gb634) (o := .cells #[.int .u8 a0_0, .slice A0_1 l0_1.length c0_1, .bool a0_2] 35 (0, 0)) (by (with_reducible repeat (first | refine blk_drewN ?_ _ | refine blk_drew ?_ | refine blk_alloc ?_ _)); exact BK634.out) hb); have n5_ := Aside0.mk (blk_below (g := gb651) (o := .cells #[.bool t646, .slice Ao21 t647.length co21] 24 (0, 0)) (by (with_reducible repeat (first | refine blk_drewN ?_ _ | refine blk_drew ?_ | refine blk_alloc ?_ _)); exact BK651.out) hb); have n6_ := Aside0.mk (blk_below (g := gb656) (o := .cells #[.bool x657000_2, u657001] 24 (0, 0)) (by (with_reducible repeat (first | refine blk_drewN ?_ _ | refine blk_drew ?_ | refine blk_alloc ?_ _)); exact BK656.out) hb); have n7_ := Aside0.mk (below_step (by repeat (first | (with_reducible first | exact HB.out | apply below_alloc | apply pw_below_drewN | apply below_drew1 | refine below_set ?_ GE634.out | refine below_set ?_ GE651.out | refine below_set ?_ GE656.out) | exact HB.out)) hb); clear HO_48; clear HO_652001; clear HO_657001; clear BK634; clear BK651; clear BK656; clear HB; have HO_48 := n0_; have HO_652001 := n1_; have HO_657001 := n2_; have HO669 := n3_; have BK634 := n4_; have BK651 := n5_; have BK656 := n6_; have HB := n7_; clear n0_ n1_ n2_ n3_ n4_ n5_ n6_ n7_; (try clear hb); (try clear hb2); (try clear hk); (try clear hi); (try clear ho0)) | ((with_reducible refine gate_dst (N := 14) rfl ?_); (try (refine gate_guard (by rfl) ?_; dsimp only)); refine box_event ?hg (N := 14) ?hd (cs := #[.bool false, .slice none 0 0]) (t := 24) ?hr ?_; (case hd => rfl); (case hg => rfl); (case hr => first | (go_simp; done) | (go_simp; rfl)); intro gb670 hg w49 hbox hb; have n0_ := Aside0.mk (Kd.R_below (by (with_reducible repeat (first | apply Kd.R_alloc | apply Kd.R_drewN | apply Kd.R_drew)); exact HO_48.out) hb); have n1_ := Aside0.mk (Kd.V_below (Kd.V_elderB (by (with_reducible repeat (first | apply Kd.V_alloc | apply Kd.V_drewN | apply Kd.V_drew)); exact HO_652001.out) gb670 (Nat.le_of_eq hg.symm)) hb); have n2_ := Aside0.mk (Kd.R_below (by (with_reducible repeat (first | apply Kd.R_alloc | apply Kd.R_drewN | apply Kd.R_drew)); exact HO_657001.out) hb); have n3_ := Aside0.mk (Kd.R_below (by (with_reducible repeat (first | apply Kd.R_alloc | apply Kd.R_drewN | apply Kd.R_drew)); exact HO669.out) hb); have n4_ := Aside0.mk (blk_below (g := gb634) (o := .cells #[.int .u8 a0_0, .slice A0_1 l0_1.length c0_1, .bool a0_2] 35 (0, 0)) (by (with_reducible repeat (first | refine blk_drewN ?_ _ | refine blk_drew ?_ | refine blk_alloc ?_ _)); exact BK634.out) hb); have n5_ := Aside0.mk (blk_below (g := gb651) (o := .cells #[.bool t646, .slice Ao21 t647.length co21] 24 (0, 0)) (by (with_reducible repeat (first | refine blk_drewN ?_ _ | refine blk_drew ?_ | refine blk_alloc ?_ _)); exact BK651.out) hb); have n6_ := Aside0.mk (blk_below (g := gb656) (o := .cells #[.bool x657000_2, u657001] 24 (0, 0)) (by (with_reducible repeat (first | refine blk_drewN ?_ _ | refine blk_drew ?_ | refine blk_alloc ?_ _)); exact BK656.out) hb); have n7_ := Aside0.mk (below_step (by repeat (first | (with_reducible first | exact HB.out | apply below_alloc | apply pw_below_drewN | apply below_drew1 | refine below_set ?_ GE634.out | refine below_set ?_ GE651.out | refine below_set ?_ GE656.out) | exact HB.out)) hb); have n8_ := Aside0.mk (hbox); have n9_ := Aside0.mk ((by rw [hg]; exact (below_size (by repeat (first | (with_reducible first | exact HB.out | apply below_alloc | apply pw_below_drewN | apply below_drew1 | refine below_set ?_ GE634.out | refine below_set ?_ GE651.out | refine below_set ?_ GE656.out) | exact HB.out))) : w.heap.size ≤ gb670)); have n10_ := Aside0.mk ((by rw [hg]; exact (below_size (by repeat (first | (with_reducible first | exact HB.out | apply below_alloc | apply pw_below_drewN | apply below_drew1 | refine below_set ?_ GE634.out | refine below_set ?_ GE651.out | refine below_set ?_ GE656.out) | exact HB.out))) : w.heap.size ≤ gb670)); have n11_ := Aside0.mk ((by rw [hg]; exact Nat.ne_of_lt (blk_lt (g := gb634) (o := .cells #[.int .u8 a0_0, .slice A0_1 l0_1.length c0_1, .bool a0_2] 35 (0, 0)) (by (with_reducible repeat (first | refine blk_drewN ?_ _ | refine blk_drew ?_ | refine blk_alloc ?_ _)); exact BK634.out)) : gb634 ≠ gb670)); have n12_ := Aside0.mk ((by rw [hg]; exact Nat.ne_of_gt (blk_lt (g := gb634) (o := .cells #[.int .u8 a0_0, .slice A0_1 l0_1.length c0_1, .bool a0_2] 35 (0, 0)) (by (with_reducible repeat (first | refine blk_drewN ?_ _ | refine blk_drew ?_ | refine blk_alloc ?_ _)); exact BK634.out)) : gb670 ≠ gb634)); have n13_ := Aside0.mk ((by rw [hg]; exact Nat.ne_of_lt (blk_lt (g := gb651) (o := .cells #[.bool t646, .slice Ao21 t647.length co21] 24 (0, 0)) (by (with_reducible repeat (first | refine blk_drewN ?_ _ | refine blk_drew ?_ | refine blk_alloc ?_ _)); exact BK651.out)) : gb651 ≠ gb670)); have n14_ := Aside0.mk ((by rw [hg]; exact Nat.ne_of_gt (blk_lt (g := gb651) (o := .cells #[.bool t646, .slice Ao21 t647.length co21] 24 (0, 0)) (by (with_reducible repeat (first | refine blk_drewN ?_ _ | refine blk_drew ?_ | refine blk_alloc ?_ _)); exact BK651.out)) : gb670 ≠ gb651)); have n15_ := Aside0.mk ((by rw [hg]; exact Nat.ne_of_lt (blk_lt (g := gb656) (o := .cells #[.bool x657000_2, u657001] 24 (0, 0)) (by (with_reducible repeat (first | refine blk_drewN ?_ _ | refine blk_drew ?_ | refine blk_alloc ?_ _)); exact BK656.out)) : gb656 ≠ gb670)); have n16_ := Aside0.mk ((by rw [hg]; exact Nat.ne_of_gt (blk_lt (g := gb656) (o := .cells #[.bool x657000_2, u657001] 24 (0, 0)) (by (with_reducible repeat (first | refine blk_drewN ?_ _ | refine blk_drew ?_ | refine blk_alloc ?_ _)); exact BK656.out)) : gb670 ≠ gb656)); clear HO_48; clear HO_652001; clear HO_657001; clear HO669; clear BK634; clear BK651; clear BK656; clear HB; have HO_48 := n0_; have HO_652001 := n1_; have HO_657001 := n2_; have HO669 := n3_; have BK634 := n4_; have BK651 := n5_; have BK656 := n6_; have HB := n7_; have BK670 := n8_; have GW670 := n9_; have GE670 := n10_; have NB634_670 := n11_; have NB670_634 := n12_; have NB651_670 := n13_; have NB670_651 := n14_; have NB656_670 := n15_; have NB670_656 := n16_; clear n0_ n1_ n2_ n3_ n4_ n5_ n6_ n7_ n8_ n9_ n10_ n11_ n12_ n13_ n14_ n15_ n16_; clear hb hbox hg; have hnb50 := NB670_634.out; have hnc50 := NB634_670.out; have hnb51 := NB670_651.out; have hnc51 := NB651_670.out; have hnb52 := NB670_656.out; have hnc52 := NB656_670.out; have hcz53_0 : w49.cell? ⟨gb670, 0, none⟩ = some (.bool false) := (blk_cell BK670.out 0).trans rfl; have hcz53_1 : w49.cell? ⟨gb670, 1, none⟩ = some (.slice none 0 0) := (blk_cell BK670.out 1).trans rfl; have hfz53_0 := blk_frozen BK670.out 0; have hfz53_1 := blk_frozen BK670.out 1; obtain ⟨Ao54, co54, eo54⟩ := Kd.R_slice HO669.out; subst eo54))
              go_loopg [15] k2 (fun kq v15 w' => ∃ (x15_3 : Int) (x671000_3 : Bool) (x671001_3 : List Int) (u671001 : Value), v15 = .int .i64 x15_3 ∧ Aside0 (quadformlaw17_StabchainFactors.l1 kq t635 x15_3 t646 t647 x657000_2 x657001_2 x671000_3 x671001_3 = some r) ∧ Aside0 (kq ≤ k2) ∧ Aside0 (Kd.V (Kd.int .u32) 98 w' w.heap.size (fun k_ => some k_ ≠ (u657001 : Value).ownBlock ∧ some k_ ≠ (u671001 : Value).ownBlock ∧ k_ ≠ gb634 ∧ k_ ≠ gb651 ∧ k_ ≠ gb656 ∧ k_ ≠ gb670) (.slice Ao21 t647.length co21) t647) ∧ Aside0 (Kd.R (Kd.int .u32) 98 w' w.heap.size (fun k_ => some k_ ≠ (u671001 : Value).ownBlock) u657001 x657001_2) ∧ Aside0 (Kd.R (Kd.int .u32) 98 w' w.heap.size (fun k_ => some k_ ≠ (u657001 : Value).ownBlock) u671001 x671001_3) ∧ Aside0 (w'.heap[gb634]? = some (.cells #[.int .u8 a0_0, (.slice A0_1 l0_1.length c0_1), .bool a0_2] 35 (0, 0))) ∧ Aside0 (w'.heap[gb651]? = some (.cells #[.bool t646, (.slice Ao21 t647.length co21)] 24 (0, 0))) ∧ Aside0 (w'.heap[gb656]? = some (.cells #[.bool x657000_2, u657001] 24 (0, 0))) ∧ Aside0 (w'.heap[gb670]? = some (.cells #[.bool x671000_3, u671001] 24 (0, 0))) ∧ Aside0 (Below w.heap.size w w'))
              case atStart => exact ⟨(1), (t666), (t667), (.slice Ao54 t667.length co54), (by first | rfl | (simp; done) | (simp [*]; done)), H', ⟨Nat.le_refl _⟩, ⟨by (with_reducible repeat (first | apply Kd.V_alloc | apply Kd.V_drewN | apply Kd.V_drew)); exact Kd.V_mono (Kd.V_far (p := ⟨gb670, 1, none⟩) (Kd.V_far (p := ⟨gb670, 0, none⟩) (Kd.V_mono HO_652001.out (fun k_ hk => (⟨hk, hk.2⟩ : _ ∧ k_ ≠ gb670))) (fun _ hk => hk.2) (.bool t666)) (fun _ hk => hk.2) (.slice Ao54 t667.length co54)) (fun _ hk => ⟨hk.1.1.1.2.1, ⟨hk.1.1.2, ⟨hk.1.1.1.2.2.1, ⟨hk.1.1.1.2.2.2.1, ⟨hk.1.1.1.2.2.2.2, hk.1.2⟩⟩⟩⟩⟩)⟩, ⟨by (with_reducible repeat (first | apply Kd.R_alloc | apply Kd.R_drewN | apply Kd.R_drew)); exact Kd.R_mono (Kd.R_far (p := ⟨gb670, 1, none⟩) (Kd.R_far (p := ⟨gb670, 0, none⟩) (Kd.R_types HO_657001.out BK670.out (by decide)) (fun _ hk => hk.2) (.bool t666)) (fun _ hk => hk.2) (.slice Ao54 t667.length co54)) (fun _ hk => hk.1.2)⟩, ⟨by (with_reducible repeat (first | apply Kd.R_alloc | apply Kd.R_drewN | apply Kd.R_drew)); exact Kd.R_mono (Kd.R_far (p := ⟨gb670, 1, none⟩) (Kd.R_far (p := ⟨gb670, 0, none⟩) (Kd.R_types HO669.out BK670.out (by decide)) (fun _ hk => hk.2) (.bool t666)) (fun _ hk => hk.2) (.slice Ao54 t667.length co54)) (fun _ hk => hk.1.2)⟩, ⟨by (with_reducible repeat (first | refine blk_drewN ?_ _ | refine blk_drew ?_ | refine blk_alloc ?_ _)); refine blk_far ?_ NB634_670.out _; (with_reducible repeat (first | refine blk_drewN ?_ _ | refine blk_drew ?_ | refine blk_alloc ?_ _)); refine blk_far ?_ NB634_670.out _; (with_reducible repeat (first | refine blk_drewN ?_ _ | refine blk_drew ?_ | refine blk_alloc ?_ _)); exact BK634.out⟩, ⟨by (with_reducible repeat (first | refine blk_drewN ?_ _ | refine blk_drew ?_ | refine blk_alloc ?_ _)); refine blk_far ?_ NB651_670.out _; (with_reducible repeat (first | refine blk_drewN ?_ _ | refine blk_drew ?_ | refine blk_alloc ?_ _)); refine blk_far ?_ NB651_670.out _; (with_reducible repeat (first | refine blk_drewN ?_ _ | refine blk_drew ?_ | refine blk_alloc ?_ _)); exact BK651.out⟩, ⟨by (with_reducible repeat (first | refine blk_drewN ?_ _ | refine blk_drew ?_ | refine blk_alloc ?_ _)); refine blk_far ?_ NB656_670.out _; (with_reducible repeat (first | refine blk_drewN ?_ _ | refine blk_drew ?_ | refine blk_alloc ?_ _)); refine blk_far ?_ NB656_670.out _; (with_reducible repeat (first | refine blk_drewN ?_ _ | refine blk_drew ?_ | refine blk_alloc ?_ _)); exact BK656.out⟩, ⟨by (with_reducible repeat (first | refine blk_drewN ?_ _ | refine blk_drew ?_ | refine blk_alloc ?_ _)); refine blk_put (cs := #[.bool t666, .slice none 0 0]) ?_ 1 _ rfl; (with_reducible repeat (first | refine blk_drewN ?_ _ | refine blk_drew ?_ | refine blk_alloc ?_ _)); refine blk_put (cs := #[.bool false, .slice none 0 0]) ?_ 0 _ rfl; (with_reducible repeat (first | refine blk_drewN ?_ _ | refine blk_drew ?_ | refine blk_alloc ?_ _)); exact BK670.out⟩, ⟨by repeat (first | (with_reducible first | exact HB.out | apply below_alloc | apply pw_below_drewN | apply below_drew1 | refine below_set ?_ GE634.out | refine below_set ?_ GE651.out | refine below_set ?_ GE656.out | refine below_set ?_ GE670.out) | exact HB.out)⟩⟩
              case round =>
                clear H'
                try clear c1
                try clear c2
                try clear p2
                try clear c3
                try clear c5
                try clear p6
                try clear q6
                try clear hx6
                try clear c8
                try clear c15
                try clear c17
                try clear c18
                try clear c19
                try clear c22
                try clear c22b0
                try clear c22b1
                try clear c23
                try clear c23b0
                try clear c23b1
                try clear c25
                try clear c29
                try clear c30
                try clear c33
                try clear c34
                try clear c34b0
                try clear c35
                try clear c35b0
                try clear c36
                try clear c36b0
                try clear c50
                try clear c51
                try clear c52
                try clear hcz20_0
                try clear hcz20_1
                try clear hcz31_0
                try clear hcz31_1
                try clear hcz53_0
                try clear hcz53_1
                try clear hfz20_0
                try clear hfz20_1
                try clear hfz31_0
                try clear hfz31_1
                try clear hfz53_0
                try clear hfz53_1
                try clear hx657_0
                try clear p2
                try clear p657
                try clear q657
                obtain ⟨x15_3, x671000_3, x671001_3, u671001, rfl, HA, HK3, HO_652001, HO_657001, HO_671001, BK634, BK651, BK656, BK670, HB⟩ := hrel; cases gk with
                | zero => exact absurd HA.out (by simp [quadformlaw17_StabchainFactors.l1])
                | succ k3 =>
                  have H := HA.out; clear HA
                  simp only [quadformlaw17_StabchainFactors.l1] at H
                  by_cases c55 : x15_3 ≤ t635
                  · rw [if_pos c55] at H
                    have c55b0 : decide (x15_3 ≤ t635) = true := decide_eq_true c55; clear c55; replace H := Option.bind_eq_some_iff.mp H; obtain ⟨⟨t671, t672⟩, A560, H⟩ := H; replace H : ((quadformref01_Mul.f k3 x671000_3 x671001_3 t671 t672).bind fun bt675 => (quadformlaw17_StabchainFactors.l1 k3 t635 (wrap64 (x15_3 + 1)) t646 t647 x657000_2 x657001_2 bt675.1 bt675.2)) = some r := H; have A56 := Aside0.mk A560; clear A560; replace H := Option.bind_eq_some_iff.mp H; obtain ⟨⟨t675, t676⟩, A570, H⟩ := H; replace H : (quadformlaw17_StabchainFactors.l1 k3 t635 (wrap64 (x15_3 + 1)) t646 t647 x657000_2 x657001_2 t675 t676) = some r := H; have A57 := Aside0.mk A570; clear A570; have H' := Aside0.mk H; clear H
                    try go_wp2
                    have n0_ := Aside0.mk (Kd.V_drew HO_652001.out); have n1_ := Aside0.mk (Kd.R_drew HO_657001.out); have n2_ := Aside0.mk (Kd.R_drew HO_671001.out); have n3_ := Aside0.mk (blk_drew BK634.out); have n4_ := Aside0.mk (blk_drew BK651.out); have n5_ := Aside0.mk (blk_drew BK656.out); have n6_ := Aside0.mk (blk_drew BK670.out); have n7_ := Aside0.mk (below_drew1 HB.out); clear HO_652001; clear HO_657001; clear HO_671001; clear BK634; clear BK651; clear BK656; clear BK670; clear HB; have HO_652001 := n0_; have HO_657001 := n1_; have HO_671001 := n2_; have BK634 := n3_; have BK651 := n4_; have BK656 := n5_; have BK670 := n6_; have HB := n7_; clear n0_ n1_ n2_ n3_ n4_ n5_ n6_ n7_; refine start_ (n := 5) (S := fun w' => w'.cell? ⟨gb670, 0, none⟩ = some (.bool x671000_3) ∧ w'.cell? ⟨gb670, 1, none⟩ = some (u671001)) (ds := [4]) #[false, false, false, false, false] (by kernel_rfl) rfl rfl ⟨(blk_cell BK670.out 0).trans rfl, (blk_cell BK670.out 1).trans rfl⟩ (fun hHeld => ?_)
                    generalize wr.drew = w58 at HO_652001 HO_657001 HO_671001 BK634 BK651 BK656 BK670 HB hHeld ⊢
                    refine pure_ (i := 1) (N := some 66) (v := ?_) (a' := ?_) #[false, true, false, false, false] rfl rfl (by kernel_rfl) (fun _ _ _ h => h) (Or.inl ⟨by rfl, ?_⟩) ?_ ?_
                    rotate_left
                    · intro w'
                      go_simp
                      with_reducible rfl
                    rotate_left
                    · simp only [Act.put, List.setIfInBounds_toArray, List.set_cons_zero, List.set_cons_succ, i64_w, i32_w]
                      rfl
                    refine take_ (i := 0) (N := some 65) (v := ?_) (a' := ?_) #[true, true, false, false, false] rfl rfl (by kernel_rfl) (fun _ _ _ h => h) (Or.inl ⟨by rfl, ?_⟩) hHeld ?_ ?_
                    rotate_left
                    · rintro w' ⟨s0, s1⟩
                      go_simp
                      with_reducible rfl
                    rotate_left
                    · simp only [Act.put, List.setIfInBounds_toArray, List.set_cons_zero, List.set_cons_succ, i64_w, i32_w]
                      rfl
                    refine one_ (i := 2) (N := some 67) #[true, true, true, false, false] rfl rfl (by kernel_rfl) (by decide) (fun K hK => ?_)
                    refine goes_ Try.func17 (by kernel_rfl) rfl #[.int .i64 x15_3] (by rfl) rfl rfl (by (try simp only [List.map_toArray, List.map_cons, List.map_nil]); first | done | rfl | (simp only [List.length_drop, List.length_take]; rfl)) ?_
                    with_reducible refine (quadformref01_Small.calls x15_3 t671 t672 _ A56.out).mono ?_
                    rintro e w59 ⟨v673, rfl, ho0, hb⟩; refine ⟨_, rfl, ?_⟩; have n0_ := Aside0.mk (Kd.V_elder' HO_652001.out (Kd.R_base ho0) hb); have n1_ := Aside0.mk (Kd.R_elder' HO_657001.out (Kd.R_base ho0) hb); have n2_ := Aside0.mk (Kd.R_elder' HO_671001.out (Kd.R_base ho0) hb); have n3_ := Aside0.mk (Kd.R_lower (Kd.R_new' (Kd.R_new' ho0 (Kd.R_lt HO_657001.out)) (Kd.R_lt HO_671001.out)) (below_size HB.out)); have n4_ := Aside0.mk (blk_below BK634.out hb); have n5_ := Aside0.mk (blk_below BK651.out hb); have n6_ := Aside0.mk (blk_below BK656.out hb); have n7_ := Aside0.mk (blk_below BK670.out hb); have n8_ := Aside0.mk (below_step HB.out hb); clear HO_652001; clear HO_657001; clear HO_671001; clear BK634; clear BK651; clear BK656; clear BK670; clear HB; have HO_652001 := n0_; have HO_657001 := n1_; have HO_671001 := n2_; have HO674 := n3_; have BK634 := n4_; have BK651 := n5_; have BK656 := n6_; have BK670 := n7_; have HB := n8_; clear n0_ n1_ n2_ n3_ n4_ n5_ n6_ n7_ n8_
                    (try clear hb)
                    (try clear hb2)
                    (try clear hk)
                    (try clear hi)
                    (try clear ho0)
                    obtain ⟨Ao60, co60, eo60⟩ := Kd.R_slice HO_671001.out
                    (first | subst eo60 | (injection eo60 with f1_ f2_ f3_; have f4_ := f1_.symm; have f5_ := f3_.symm; clear f1_ f2_ f3_; subst f4_; subst f5_))
                    obtain ⟨Ao61, co61, eo61⟩ := Kd.R_slice HO674.out
                    (first | subst eo61 | (injection eo61 with f1_ f2_ f3_; have f4_ := f1_.symm; have f5_ := f3_.symm; clear f1_ f2_ f3_; subst f4_; subst f5_))
                    refine hK.out _ _ ⟨(blk_cell BK670.out 0).trans rfl, (blk_cell BK670.out 1).trans rfl⟩ (fun hHeld => ?_); clear hK K
                    refine norm_ (a' := ?_) ?_ ?_
                    rotate_left
                    · show Act.put _ (some 67) _ = _
                      simp only [Act.put, List.setIfInBounds_toArray, List.set_cons_zero, List.set_cons_succ, i64_w, i32_w]
                      rfl
                    refine one_ (i := 3) (N := some 68) #[true, true, true, true, false] rfl rfl (by kernel_rfl) (by decide) (fun K hK => ?_)
                    refine goes_ Try.func33 (by kernel_rfl) rfl #[.agg #[.bool x671000_3, .slice Ao60 x671001_3.length co60], .agg #[.bool t671, .slice Ao61 t672.length co61]] (by rfl) rfl rfl (by (try simp only [List.map_toArray, List.map_cons, List.map_nil]); first | done | rfl | (simp only [List.length_drop, List.length_take]; rfl)) ?_
                    with_reducible refine (quadformref01_Mul.calls k3 x671000_3 _ _ x671001_3 t671 _ _ t672 t675 t676 _ ?side1 ?side2 ?side3 ?side4 A57.out).mono ?_
                    (case side1 => repeat (first | exact (Kd.R_reads' HO_671001.out).2.2 | (with_reducible refine Kd.C_alloc ?_ _) | (with_reducible refine Kd.C_drewN ?_ _) | (with_reducible refine Kd.C_drew ?_)))
                    (case side2 => exact (Kd.R_reads' HO_671001.out).2.1)
                    (case side3 => repeat (first | exact (Kd.R_reads' HO674.out).2.2 | (with_reducible refine Kd.C_alloc ?_ _) | (with_reducible refine Kd.C_drewN ?_ _) | (with_reducible refine Kd.C_drew ?_)))
                    (case side4 => exact (Kd.R_reads' HO674.out).2.1)
                    rintro e w62 ⟨v677, rfl, ho0, hb⟩; refine ⟨_, rfl, ?_⟩; have n0_ := Aside0.mk (Kd.V_elder' HO_652001.out (Kd.R_base ho0) hb); have n1_ := Aside0.mk (Kd.R_elder' HO_657001.out (Kd.R_base ho0) hb); have n2_ := Aside0.mk (Kd.R_elder' HO_671001.out (Kd.R_base ho0) hb); have n3_ := Aside0.mk (Kd.R_elder' HO674.out (Kd.R_base ho0) hb); have n4_ := Aside0.mk (Kd.R_lower (Kd.R_new' (Kd.R_new' (Kd.R_new' ho0 (Kd.R_lt HO_657001.out)) (Kd.R_lt HO_671001.out)) (Kd.R_lt HO674.out)) (below_size HB.out)); have n5_ := Aside0.mk (blk_below BK634.out hb); have n6_ := Aside0.mk (blk_below BK651.out hb); have n7_ := Aside0.mk (blk_below BK656.out hb); have n8_ := Aside0.mk (blk_below BK670.out hb); have n9_ := Aside0.mk (below_step HB.out hb); clear HO_652001; clear HO_657001; clear HO_671001; clear HO674; clear BK634; clear BK651; clear BK656; clear BK670; clear HB; have HO_652001 := n0_; have HO_657001 := n1_; have HO_671001 := n2_; have HO674 := n3_; have HO678 := n4_; have BK634 := n5_; have BK651 := n6_; have BK656 := n7_; have BK670 := n8_; have HB := n9_; clear n0_ n1_ n2_ n3_ n4_ n5_ n6_ n7_ n8_ n9_
                    (try clear hb)
                    (try clear hb2)
                    (try clear hk)
                    (try clear hi)
                    (try clear ho0)
                    obtain ⟨Ao64, co64, eo64⟩ := Kd.R_slice HO678.out
                    (first | subst eo64 | (injection eo64 with f1_ f2_ f3_; have f4_ := f1_.symm; have f5_ := f3_.symm; clear f1_ f2_ f3_; subst f4_; subst f5_))
                    refine hK.out _ _ ⟨(blk_cell BK670.out 0).trans rfl, (blk_cell BK670.out 1).trans rfl⟩ (fun hHeld => ?_); clear hK K
                    refine norm_ (a' := ?_) ?_ ?_
                    rotate_left
                    · show Act.put _ (some 68) _ = _
                      simp only [Act.put, List.setIfInBounds_toArray, List.set_cons_zero, List.set_cons_succ, i64_w, i32_w]
                      rfl
                    refine last_ (i := 4) (N := none) #[true, true, true, true, true] rfl rfl (by kernel_rfl) (by decide) (fun K hK => ?_); have hs63 : w62.cell? ⟨gb670, 0, none⟩ = some (.bool x671000_3) := (blk_cell BK670.out 0).trans rfl; have hfs63 := blk_frozen BK670.out 0; have hns63_0 := NB634_670.out; have hns63_1 := NB651_670.out; have hns63_2 := NB656_670.out; have hms63_0 := NB670_634.out; have hms63_1 := NB670_651.out; have hms63_2 := NB670_656.out; have hs65 : w62.cell? ⟨gb670, 1, none⟩ = some (.slice Ao60 x671001_3.length co60) := (blk_cell BK670.out 1).trans rfl; have hfs65 := blk_frozen BK670.out 1; have hns65_0 := NB634_670.out; have hns65_1 := NB651_670.out; have hns65_2 := NB656_670.out; have hms65_0 := NB670_634.out; have hms65_1 := NB670_651.out; have hms65_2 := NB670_656.out
                    refine skip_ (w1 := ?_) (by rfl) rfl ?_ ?_
                    rotate_left
                    · go_simp
                      rfl
                    refine hK.out _ _ ?_
                    clear hK K
                    refine done_ (by kernel_rfl) ?_
                    try go_wp2
                    go_roundg k3
                    case measure => have := HJ7.out; have := HK2.out; have := HK3.out; omega
                    case rel => exact ⟨(wrap64 (x15_3 + 1)), (t675), (t676), (.slice Ao64 t676.length co64), (by first | rfl | (simp; done) | (simp [*]; done)), H', ⟨by have := HJ7.out; have := HK2.out; have := HK3.out; omega⟩, ⟨by (with_reducible repeat (first | apply Kd.V_alloc | apply Kd.V_drewN | apply Kd.V_drew)); exact Kd.V_mono (Kd.V_far (p := ⟨gb670, 1, none⟩) (Kd.V_far (p := ⟨gb670, 0, none⟩) (Kd.V_mono HO_652001.out (fun k_ hk => (⟨hk, hk.1.1.2.2.2.2.2⟩ : _ ∧ k_ ≠ gb670))) (fun _ hk => hk.2) (.bool t675)) (fun _ hk => hk.2) (.slice Ao64 t676.length co64)) (fun _ hk => ⟨hk.1.1.1.1, ⟨hk.1.2, ⟨hk.1.1.1.2.2.1, ⟨hk.1.1.1.2.2.2.1, ⟨hk.1.1.1.2.2.2.2.1, hk.1.1.1.2.2.2.2.2⟩⟩⟩⟩⟩)⟩, ⟨by (with_reducible repeat (first | apply Kd.R_alloc | apply Kd.R_drewN | apply Kd.R_drew)); exact Kd.R_mono (Kd.R_far (p := ⟨gb670, 1, none⟩) (Kd.R_far (p := ⟨gb670, 0, none⟩) (Kd.R_types HO_657001.out BK670.out (by decide)) (fun _ hk => hk.2) (.bool t675)) (fun _ hk => hk.2) (.slice Ao64 t676.length co64)) (fun _ hk => hk.1.2)⟩, ⟨by (with_reducible repeat (first | apply Kd.R_alloc | apply Kd.R_drewN | apply Kd.R_drew)); exact Kd.R_mono (Kd.R_far (p := ⟨gb670, 1, none⟩) (Kd.R_far (p := ⟨gb670, 0, none⟩) (Kd.R_types HO678.out BK670.out (by decide)) (fun _ hk => hk.2) (.bool t675)) (fun _ hk => hk.2) (.slice Ao64 t676.length co64)) (fun _ hk => hk.1.1.1.2)⟩, ⟨by (with_reducible repeat (first | refine blk_drewN ?_ _ | refine blk_drew ?_ | refine blk_alloc ?_ _)); refine blk_far ?_ NB634_670.out _; (with_reducible repeat (first | refine blk_drewN ?_ _ | refine blk_drew ?_ | refine blk_alloc ?_ _)); refine blk_far ?_ NB634_670.out _; (with_reducible repeat (first | refine blk_drewN ?_ _ | refine blk_drew ?_ | refine blk_alloc ?_ _)); exact BK634.out⟩, ⟨by (with_reducible repeat (first | refine blk_drewN ?_ _ | refine blk_drew ?_ | refine blk_alloc ?_ _)); refine blk_far ?_ NB651_670.out _; (with_reducible repeat (first | refine blk_drewN ?_ _ | refine blk_drew ?_ | refine blk_alloc ?_ _)); refine blk_far ?_ NB651_670.out _; (with_reducible repeat (first | refine blk_drewN ?_ _ | refine blk_drew ?_ | refine blk_alloc ?_ _)); exact BK651.out⟩, ⟨by (with_reducible repeat (first | refine blk_drewN ?_ _ | refine blk_drew ?_ | refine blk_alloc ?_ _)); refine blk_far ?_ NB656_670.out _; (with_reducible repeat (first | refine blk_drewN ?_ _ | refine blk_drew ?_ | refine blk_alloc ?_ _)); refine blk_far ?_ NB656_670.out _; (with_reducible repeat (first | refine blk_drewN ?_ _ | refine blk_drew ?_ | refine blk_alloc ?_ _)); exact BK656.out⟩, ⟨by (with_reducible repeat (first | refine blk_drewN ?_ _ | refine blk_drew ?_ | refine blk_alloc ?_ _)); refine blk_put (cs := #[.bool t675, .slice Ao60 x671001_3.length co60]) ?_ 1 _ rfl; (with_reducible repeat (first | refine blk_drewN ?_ _ | refine blk_drew ?_ | refine blk_alloc ?_ _)); refine blk_put (cs := #[.bool x671000_3, .slice Ao60 x671001_3.length co60]) ?_ 0 _ rfl; (with_reducible repeat (first | refine blk_drewN ?_ _ | refine blk_drew ?_ | refine blk_alloc ?_ _)); exact BK670.out⟩, ⟨by repeat (first | (with_reducible first | exact HB.out | apply below_alloc | apply pw_below_drewN | apply below_drew1 | refine below_set ?_ GE634.out | refine below_set ?_ GE651.out | refine below_set ?_ GE656.out | refine below_set ?_ GE670.out) | exact HB.out)⟩⟩
                  · rw [if_neg c55] at H
                    have c55b0 : decide (x15_3 ≤ t635) = false := decide_eq_false c55; clear c55; replace H := Option.bind_eq_some_iff.mp H; obtain ⟨t679, A660, H⟩ := H; replace H : (if t679 = true then ((quadformref01_Divides.f t646 t647 x671000_3 x671001_3).bind fun t680 => (if t680 = true then ((quadformlaw17_awake.f k3).bind fun t681 => (some t681)) else (some false))) else (some false)) = some r := H; have A66 := Aside0.mk A660; clear A660
                    by_cases c67 : t679 = true
                    · subst c67
                      have H1 : ((quadformref01_Divides.f t646 t647 x671000_3 x671001_3).bind fun t680 => (if t680 = true then ((quadformlaw17_awake.f k3).bind fun t681 => (some t681)) else (some false))) = some r := by rw [if_pos rfl] at H; exact H
                      clear H; have H := H1; clear H1; replace H := Option.bind_eq_some_iff.mp H; obtain ⟨t680, A680, H⟩ := H; replace H : (if t680 = true then ((quadformlaw17_awake.f k3).bind fun t681 => (some t681)) else (some false)) = some r := H; have A68 := Aside0.mk A680; clear A680
                      by_cases c69 : t680 = true
                      · subst c69
                        have H1 : ((quadformlaw17_awake.f k3).bind fun t681 => (some t681)) = some r := by rw [if_pos rfl] at H; exact H
                        clear H; have H := H1; clear H1; replace H := Option.bind_eq_some_iff.mp H; obtain ⟨t681, A700, H⟩ := H; replace H : (some t681) = some r := H; have A70 := Aside0.mk A700; clear A700; obtain rfl := Option.some.inj H; have hnb71 := NB656_634.out; have hnc71 := NB634_656.out; have hnb72 := NB656_651.out; have hnc72 := NB651_656.out; have hnb73 := NB656_670.out; have hnc73 := NB670_656.out; have hcz74_0 : wr.cell? ⟨gb656, 0, none⟩ = some (.bool x657000_2) := (blk_cell BK656.out 0).trans rfl; have hcz74_1 : wr.cell? ⟨gb656, 1, none⟩ = some (u657001) := (blk_cell BK656.out 1).trans rfl; have hfz74_0 := blk_frozen BK656.out 0; have hfz74_1 := blk_frozen BK656.out 1; have hnb75 := NB651_634.out; have hnc75 := NB634_651.out; have hnb76 := NB651_670.out; have hnc76 := NB670_651.out; have hcz77_0 : wr.cell? ⟨gb651, 0, none⟩ = some (.bool t646) := (blk_cell BK651.out 0).trans rfl; have hcz77_1 : wr.cell? ⟨gb651, 1, none⟩ = some (.slice Ao21 t647.length co21) := (blk_cell BK651.out 1).trans rfl; have hfz77_0 := blk_frozen BK651.out 0; have hfz77_1 := blk_frozen BK651.out 1; obtain ⟨Ao78, co78, eo78⟩ := Kd.R_slice HO_657001.out; subst eo78
                        go_wp2_with (first | ((with_reducible refine gate_callee (f := 16) rfl ?_); refine goesL_ (some 71) rfl rfl Try.func16 (by kernel_rfl) rfl #[.agg #[.bool x657000_2, .slice Ao78 x657001_2.length co78], .agg #[.bool t646, .slice Ao21 t647.length co21]] rfl (by (try simp only [List.map_toArray, List.map_cons, List.map_nil]); first | done | rfl | (simp only [List.length_drop, List.length_take]; rfl)) ?_; (with_reducible refine (quadformref01_Same.calls k3 x657000_2 _ _ x657001_2 t646 _ _ t647 true _ ?side1 ?side2 ?side3 ?side4 A66.out).mono ?_); (case side1 => repeat (first | exact (Kd.R_reads' HO_657001.out).2.2 | (with_reducible refine Kd.C_alloc ?_ _) | (with_reducible refine Kd.C_drewN ?_ _) | (with_reducible refine Kd.C_drew ?_))); (case side2 => exact (Kd.R_reads' HO_657001.out).2.1); (case side3 => repeat (first | exact (Kd.V_reads' HO_652001.out).2.2 | (with_reducible refine Kd.C_alloc ?_ _) | (with_reducible refine Kd.C_drewN ?_ _) | (with_reducible refine Kd.C_drew ?_))); (case side4 => exact (Kd.V_reads' HO_652001.out).2.1); rintro e w79 ⟨rfl, hb⟩; refine ⟨_, rfl, ?_⟩; have n0_ := Aside0.mk (Kd.V_below (by (with_reducible repeat (first | apply Kd.V_alloc | apply Kd.V_drewN | apply Kd.V_drew)); exact HO_652001.out) hb); have n1_ := Aside0.mk (Kd.R_below (by (with_reducible repeat (first | apply Kd.R_alloc | apply Kd.R_drewN | apply Kd.R_drew)); exact HO_657001.out) hb); have n2_ := Aside0.mk (Kd.R_below (by (with_reducible repeat (first | apply Kd.R_alloc | apply Kd.R_drewN | apply Kd.R_drew)); exact HO_671001.out) hb); have n3_ := Aside0.mk (blk_below (g := gb634) (o := .cells #[.int .u8 a0_0, .slice A0_1 l0_1.length c0_1, .bool a0_2] 35 (0, 0)) (by (with_reducible repeat (first | refine blk_drewN ?_ _ | refine blk_drew ?_ | refine blk_alloc ?_ _)); exact BK634.out) hb); have n4_ := Aside0.mk (blk_below (g := gb651) (o := .cells #[.bool t646, .slice Ao21 t647.length co21] 24 (0, 0)) (by (with_reducible repeat (first | refine blk_drewN ?_ _ | refine blk_drew ?_ | refine blk_alloc ?_ _)); exact BK651.out) hb); have n5_ := Aside0.mk (blk_below (g := gb656) (o := .cells #[.bool x657000_2, .slice Ao78 x657001_2.length co78] 24 (0, 0)) (by (with_reducible repeat (first | refine blk_drewN ?_ _ | refine blk_drew ?_ | refine blk_alloc ?_ _)); exact BK656.out) hb); have n6_ := Aside0.mk (blk_below (g := gb670) (o := .cells #[.bool x671000_3, u671001] 24 (0, 0)) (by (with_reducible repeat (first | refine blk_drewN ?_ _ | refine blk_drew ?_ | refine blk_alloc ?_ _)); exact BK670.out) hb); have n7_ := Aside0.mk (below_step (by repeat (first | (with_reducible first | exact HB.out | apply below_alloc | apply pw_below_drewN | apply below_drew1 | refine below_set ?_ GE634.out | refine below_set ?_ GE651.out | refine below_set ?_ GE656.out | refine below_set ?_ GE670.out) | exact HB.out)) hb); clear HO_652001; clear HO_657001; clear HO_671001; clear BK634; clear BK651; clear BK656; clear BK670; clear HB; have HO_652001 := n0_; have HO_657001 := n1_; have HO_671001 := n2_; have BK634 := n3_; have BK651 := n4_; have BK656 := n5_; have BK670 := n6_; have HB := n7_; clear n0_ n1_ n2_ n3_ n4_ n5_ n6_ n7_; (try clear hb); (try clear hb2); (try clear hk); (try clear hi); have hcz80_0 : w79.cell? ⟨gb651, 0, none⟩ = some (.bool t646) := (blk_cell BK651.out 0).trans rfl; have hcz80_1 : w79.cell? ⟨gb651, 1, none⟩ = some (.slice Ao21 t647.length co21) := (blk_cell BK651.out 1).trans rfl; have hfz80_0 := blk_frozen BK651.out 0; have hfz80_1 := blk_frozen BK651.out 1; have hnb81 := NB670_634.out; have hnc81 := NB634_670.out; have hcz82_0 : w79.cell? ⟨gb670, 0, none⟩ = some (.bool x671000_3) := (blk_cell BK670.out 0).trans rfl; have hcz82_1 : w79.cell? ⟨gb670, 1, none⟩ = some (u671001) := (blk_cell BK670.out 1).trans rfl; have hfz82_0 := blk_frozen BK670.out 0; have hfz82_1 := blk_frozen BK670.out 1; obtain ⟨Ao83, co83, eo83⟩ := Kd.R_slice HO_671001.out; subst eo83) | (go_at_call 29; (with_reducible refine (quadformref01_Divides.calls t646 _ _ t647 x671000_3 _ _ x671001_3 true _ ?side1 ?side2 ?side3 ?side4 A68.out).mono ?_); (case side1 => repeat (first | exact (Kd.V_reads' HO_652001.out).2.2 | (with_reducible refine Kd.C_alloc ?_ _) | (with_reducible refine Kd.C_drewN ?_ _) | (with_reducible refine Kd.C_drew ?_))); (case side2 => exact (Kd.V_reads' HO_652001.out).2.1); (case side3 => repeat (first | exact (Kd.R_reads' HO_671001.out).2.2 | (with_reducible refine Kd.C_alloc ?_ _) | (with_reducible refine Kd.C_drewN ?_ _) | (with_reducible refine Kd.C_drew ?_))); (case side4 => exact (Kd.R_reads' HO_671001.out).2.1); rintro e w84 ⟨rfl, hb⟩; have n0_ := Aside0.mk (Kd.V_below (by (with_reducible repeat (first | apply Kd.V_alloc | apply Kd.V_drewN | apply Kd.V_drew)); exact HO_652001.out) hb); have n1_ := Aside0.mk (Kd.R_below (by (with_reducible repeat (first | apply Kd.R_alloc | apply Kd.R_drewN | apply Kd.R_drew)); exact HO_657001.out) hb); have n2_ := Aside0.mk (Kd.R_below (by (with_reducible repeat (first | apply Kd.R_alloc | apply Kd.R_drewN | apply Kd.R_drew)); exact HO_671001.out) hb); have n3_ := Aside0.mk (blk_below (g := gb634) (o := .cells #[.int .u8 a0_0, .slice A0_1 l0_1.length c0_1, .bool a0_2] 35 (0, 0)) (by (with_reducible repeat (first | refine blk_drewN ?_ _ | refine blk_drew ?_ | refine blk_alloc ?_ _)); exact BK634.out) hb); have n4_ := Aside0.mk (blk_below (g := gb651) (o := .cells #[.bool t646, .slice Ao21 t647.length co21] 24 (0, 0)) (by (with_reducible repeat (first | refine blk_drewN ?_ _ | refine blk_drew ?_ | refine blk_alloc ?_ _)); exact BK651.out) hb); have n5_ := Aside0.mk (blk_below (g := gb656) (o := .cells #[.bool x657000_2, .slice Ao78 x657001_2.length co78] 24 (0, 0)) (by (with_reducible repeat (first | refine blk_drewN ?_ _ | refine blk_drew ?_ | refine blk_alloc ?_ _)); exact BK656.out) hb); have n6_ := Aside0.mk (blk_below (g := gb670) (o := .cells #[.bool x671000_3, .slice Ao83 x671001_3.length co83] 24 (0, 0)) (by (with_reducible repeat (first | refine blk_drewN ?_ _ | refine blk_drew ?_ | refine blk_alloc ?_ _)); exact BK670.out) hb); have n7_ := Aside0.mk (below_step (by repeat (first | (with_reducible first | exact HB.out | apply below_alloc | apply pw_below_drewN | apply below_drew1 | refine below_set ?_ GE634.out | refine below_set ?_ GE651.out | refine below_set ?_ GE656.out | refine below_set ?_ GE670.out) | exact HB.out)) hb); clear HO_652001; clear HO_657001; clear HO_671001; clear BK634; clear BK651; clear BK656; clear BK670; clear HB; have HO_652001 := n0_; have HO_657001 := n1_; have HO_671001 := n2_; have BK634 := n3_; have BK651 := n4_; have BK656 := n5_; have BK670 := n6_; have HB := n7_; clear n0_ n1_ n2_ n3_ n4_ n5_ n6_ n7_; (try clear hb); (try clear hb2); (try clear hk); (try clear hi)) | (go_at_call 21; (with_reducible refine (quadformlaw17_awake.calls k3  t681 _ A70.out).mono ?_); rintro e w85 ⟨rfl, hb⟩; have n0_ := Aside0.mk (Kd.V_below (by (with_reducible repeat (first | apply Kd.V_alloc | apply Kd.V_drewN | apply Kd.V_drew)); exact HO_652001.out) hb); have n1_ := Aside0.mk (Kd.R_below (by (with_reducible repeat (first | apply Kd.R_alloc | apply Kd.R_drewN | apply Kd.R_drew)); exact HO_657001.out) hb); have n2_ := Aside0.mk (Kd.R_below (by (with_reducible repeat (first | apply Kd.R_alloc | apply Kd.R_drewN | apply Kd.R_drew)); exact HO_671001.out) hb); have n3_ := Aside0.mk (blk_below (g := gb634) (o := .cells #[.int .u8 a0_0, .slice A0_1 l0_1.length c0_1, .bool a0_2] 35 (0, 0)) (by (with_reducible repeat (first | refine blk_drewN ?_ _ | refine blk_drew ?_ | refine blk_alloc ?_ _)); exact BK634.out) hb); have n4_ := Aside0.mk (blk_below (g := gb651) (o := .cells #[.bool t646, .slice Ao21 t647.length co21] 24 (0, 0)) (by (with_reducible repeat (first | refine blk_drewN ?_ _ | refine blk_drew ?_ | refine blk_alloc ?_ _)); exact BK651.out) hb); have n5_ := Aside0.mk (blk_below (g := gb656) (o := .cells #[.bool x657000_2, .slice Ao78 x657001_2.length co78] 24 (0, 0)) (by (with_reducible repeat (first | refine blk_drewN ?_ _ | refine blk_drew ?_ | refine blk_alloc ?_ _)); exact BK656.out) hb); have n6_ := Aside0.mk (blk_below (g := gb670) (o := .cells #[.bool x671000_3, .slice Ao83 x671001_3.length co83] 24 (0, 0)) (by (with_reducible repeat (first | refine blk_drewN ?_ _ | refine blk_drew ?_ | refine blk_alloc ?_ _)); exact BK670.out) hb); have n7_ := Aside0.mk (below_step (by repeat (first | (with_reducible first | exact HB.out | apply below_alloc | apply pw_below_drewN | apply below_drew1 | refine below_set ?_ GE634.out | refine below_set ?_ GE651.out | refine below_set ?_ GE656.out | refine below_set ?_ GE670.out) | exact HB.out)) hb); clear HO_652001; clear HO_657001; clear HO_671001; clear BK634; clear BK651; clear BK656; clear BK670; clear HB; have HO_652001 := n0_; have HO_657001 := n1_; have HO_671001 := n2_; have BK634 := n3_; have BK651 := n4_; have BK656 := n5_; have BK670 := n6_; have HB := n7_; clear n0_ n1_ n2_ n3_ n4_ n5_ n6_ n7_; (try clear hb); (try clear hb2); (try clear hk); (try clear hi)))
                        go_ret
                        exact ⟨by first | rfl | (simp [errW_none, errW_some] <;> rfl) | (simp [*, errW_none, errW_some] <;> rfl), by repeat (first | (with_reducible first | exact HB.out | apply below_alloc | apply pw_below_drewN | apply below_drew1 | refine below_set ?_ GE634.out | refine below_set ?_ GE651.out | refine below_set ?_ GE656.out | refine below_set ?_ GE670.out) | exact HB.out)⟩
                      · replace c69 := Bool.eq_false_iff.mpr c69
                        subst c69
                        have H1 : (some false) = some r := by rw [if_neg (show ¬ (false = true) by decide)] at H; exact H
                        clear H; have H := H1; clear H1; exact absurd ((Option.some.inj H).trans HTR.out) Bool.false_ne_true
                    · replace c67 := Bool.eq_false_iff.mpr c67
                      subst c67
                      have H1 : (some false) = some r := by rw [if_neg (show ¬ (false = true) by decide)] at H; exact H
                      clear H; have H := H1; clear H1; exact absurd ((Option.some.inj H).trans HTR.out) Bool.false_ne_true
end Go.Proofs.Ytpkgckccfanchaa.M

namespace Go.Proofs.Ytpkgckccfanchaa.M
open Go.RowKit Go.Proofs.YtpkgckccfanchaaW.PrintWords Go.Proofs.YtpkgckccfanchaaW.PrintLast Go.Proofs.YtpkgckccfanchaaW.PrintMore
open Sims
set_option linter.unusedVariables false
set_option linter.unusedSimpArgs false
theorem factors_l1 {n T : Nat} (h8 : n ≤ 8) (hT : T ∣ factN n) : ∀ (d j k : Nat), j + d = n → d + 80 ≤ k → quadformlaw17_StabchainFactors.l1 k (n : Int) ((j + 1 : Nat) : Int) false [(T : Int)] false [(T : Int)] false [((factN j : Nat) : Int)] = some true
  | d, j, 0, _, hk => by omega
  | 0, j, k + 1, hj, hk => by
    obtain rfl : j = n := by omega
    unfold quadformlaw17_StabchainFactors.l1
    rw [if_neg (by omega), same_r (Nat.dvd_trans hT (fact_dvd h8)) (by omega), Option.bind_some, if_pos rfl, div_r hT (fact_dvd h8), Option.bind_some, if_pos rfl, LeO.up quadformlaw17_awake.mono (show 60 ≤ k by omega) quadformlaw17_awake.yes]
    rfl
  | d + 1, j, k + 1, hj, hk => by
    have hd : factN j * (j + 1) ∣ 40320 := by
      rw [Nat.mul_comm]
      exact fact_dvd (n := j + 1) (by omega)
    unfold quadformlaw17_StabchainFactors.l1
    rw [if_pos (by omega), (small_ok (b := j + 1) (by omega) (by omega)).2, Option.bind_some, mul_r (P := factN j) (b := j + 1) (by omega) (by omega) hd (by omega), Option.bind_some]
    have hw : wrap64 (((j + 1 : Nat) : Int) + 1) = ((j + 1 + 1 : Nat) : Int) := by unfold wrap64; omega
    rw [hw, Nat.mul_comm]
    exact factors_l1 h8 hT d (j + 1) k (by omega) (by omega)
theorem factors_l0 {n : Nat} (h8 : n ≤ 8) {ls : List Lv} (hls : ∀ l ∈ ls, LvOk n l) (hT : szF ls ∣ factN n) (hlen : ls.length ≤ 8) : ∀ (d i P k : Nat), i + d = ls.length → P * szF (ls.drop i) = szF ls → d + 100 ≤ k →
    quadformlaw17_StabchainFactors.l0 k (n : Int) (lensF ls) ((lensF ls).length : Int) (i : Int) false [((szF ls : Nat) : Int)] false [(P : Int)] = some true
  | d, i, P, 0, _, _, hk => by omega
  | 0, i, P, k + 1, hi, hP, hk => by
    rw [List.drop_of_length_le (by omega)] at hP
    have hP2 : P = szF ls := by simpa [szF] using hP
    have h1 := (small_ok (b := 1) (by omega) (by omega)).2
    unfold quadformlaw17_StabchainFactors.l0
    rw [if_neg (by rw [lensF_length]; omega), hP2, show (1 : Int) = ((1 : Nat) : Int) from rfl, h1, Option.bind_some]
    exact factors_l1 h8 hT n 0 k (by omega) (by omega)
  | d + 1, i, P, k + 1, hi, hP, hk => by
    have hil : i < ls.length := by omega
    obtain ⟨b0, b8⟩ := reps_small h8 (hls _ (List.getElem_mem hil))
    rw [szF_drop hil, ← Nat.mul_assoc] at hP
    unfold quadformlaw17_StabchainFactors.l0
    rw [if_pos (by rw [lensF_length]; omega), if_pos (by omega), if_pos (by rw [lensF_length]; omega), lens_at hil, (small_ok b0 b8).2, Option.bind_some, mul_r b0 b8 (Nat.dvd_trans ⟨_, hP.symm⟩ (Nat.dvd_trans hT (fact_dvd h8))) (by omega), Option.bind_some]
    have hw : wrap64 ((i : Int) + 1) = ((i + 1 : Nat) : Int) := by unfold wrap64; omega
    rw [hw]
    exact factors_l0 h8 hls hT hlen d (i + 1) _ k (by omega) hP (by omega)
theorem degree_ok {a0 : Int} (h0 : 0 ≤ a0) (h1 : a0 < 256) (l : List (List Int)) (b : Bool) {m : Nat} (hm : 0 < m) (hm2 : m ≤ 200) : ∃ n : Nat, 0 < n ∧ n ≤ m ∧ quadformmake_Perms_Degree.f a0 l b m = some (n : Int) ∧ (1 + a0 % m).toNat = n := by
  have e3 : a0 % m < m := Int.emod_lt_of_pos _ (by omega)
  have e4 : 0 ≤ a0 % m := Int.emod_nonneg _ (by omega)
  refine ⟨(1 + a0 % m).toNat, by omega, by omega, ?_, rfl⟩
  unfold quadformmake_Perms_Degree.f
  rw [if_neg (by omega)]
  have e1 : wrap64 a0 = a0 := by unfold wrap64; omega
  have e2 : Int.tmod a0 m = a0 % m := Int.tmod_eq_emod_of_nonneg h0
  rw [e1, e2]
  congr 1
  unfold wrap64
  omega
theorem gens_ok {a0 : Int} (h0 : 0 ≤ a0) (h1 : a0 < 256) {l : List (List Int)} (hl : ∀ x ∈ l, x.length ≤ 9223372036854775807) (b : Bool) {m n : Nat} (hm : 0 < m) (hm2 : m ≤ 200) (hn : 0 < n) (e : (1 + a0 % m).toNat = n) :
    ∃ gens, quadformmake_Perms_Gens.f a0 l b m = some gens ∧ (∀ g ∈ gens, IsP n g) ∧ gens.length ≤ 3 := by
  refine ⟨(l.take 3).map (genI b n), ?_, fun g hg => ?_, by simp; omega⟩
  · unfold quadformmake_Perms_Gens.f
    rw [if_pos ⟨h0, h1, by omega, by omega, by simpa using hl⟩, e]
  · obtain ⟨x, _, rfl⟩ := List.mem_map.1 hg
    exact genI_isP hn b x
theorem perm_ok {l : List Int} (hl : l.length ≤ 9223372036854775807) {n : Nat} (hn : 0 < n) (h2 : n ≤ 200) : ∃ p, quadformmake_Perm.f l (n : Int) = some p ∧ IsP n p := by
  refine ⟨permLoop l (n - 1) 0 (rangeI n), ?_, permLoop_isP l (n - 1) 0 _ (by omega) (oneL_isP n)⟩
  unfold quadformmake_Perm.f
  rw [if_pos ⟨by omega, by omega, hl⟩, Int.toNat_natCast]
theorem stabchainFactors_pure (a0 : Int) (l0 : List (List Int)) (b : Bool) (l1 : List Int) (h0 : 0 ≤ a0) (h1 : a0 < 256) (hl0 : ∀ x ∈ l0, x.length ≤ 9223372036854775807) (hl1 : l1.length ≤ 9223372036854775807) (_ : ∀ n ∈ l1, (Lit.int .i8 n).wf = true) : ∃ k, quadformlaw17_StabchainFactors.f k a0 l0 b l1 = some true := by
  obtain ⟨n, hn, h8, hd, en⟩ := degree_ok h0 h1 l0 b (m := 8) (by omega) (by omega)
  obtain ⟨gens, hgf, hg, hgl⟩ := gens_ok h0 h1 hl0 b (m := 8) (by omega) (by omega) hn en
  obtain ⟨p, hpf, hp⟩ := perm_ok hl1 hn (show n ≤ 200 by omega)
  obtain ⟨ls2, e2, q1, q2, q3, q4⟩ := order_ok hn h8 hg (by omega) (show gens.length + 50 ≤ 200 by omega)
  obtain ⟨ls, e, k1, k2, -, -⟩ := group_ok (Nat.le_refl (n + 1)) hg hp.rng hp.nd
  have hsz : szF ls2 = szF ls := by
    rw [szF_size n, szF_size n]
    refine size_eq (Gen.sub _) (H := GL n gens) ?_ ?_
    · have := PC_chn q1
      rwa [q2] at this
    · have := PC_chn k1
      rwa [k2] at this
  have hlen : ls.length ≤ n := group_len hg hp.rng hp.nd e
  have hlen2 : n ≤ ls.length := by have := group_base_len hg hp.rng hp.nd e; rw [hp.len] at this; exact this
  have hdf : diffB (n : Int) p = true := by
    simp only [diffB, Bool.and_eq_true, List.all_eq_true, decide_eq_true_eq]
    exact ⟨hp.rng, hp.nd⟩
  have hL : stabchain_Lengths.f 200 (n : Int) gens p = some (lensF ls, 0) := by
    unfold stabchain_Lengths.f
    rw [args_ok hn h8 hg (by omega) (by omega), Option.bind_some, if_pos rfl, if_pos (okB_mk hn (by omega) hg (by omega)), if_pos hdf, Int.toNat_natCast, e, Option.bind_some, List.take_of_length_le (by rw [lensF_length, hp.len]; exact hlen)]
  refine ⟨200, ?_⟩
  unfold quadformlaw17_StabchainFactors.f
  have hd' : quadformmake_Perms_Degree.f a0 l0 b 8 = some (n : Int) := hd
  have hgf' : quadformmake_Perms_Gens.f a0 l0 b 8 = some gens := hgf
  rw [hd', Option.bind_some, hgf', Option.bind_some, hpf, Option.bind_some, hL, Option.bind_some, q4, Option.bind_some, if_pos rfl, if_pos rfl]
  have hne : (((lensF ls).length : Int) != (n : Int)) = false := by
    rw [bne_eq_false_iff_eq, lensF_length]
    omega
  rw [hne, quadformlaw17_StabchainFactors.j0, if_neg (by simp), show (1 : Int) = ((1 : Nat) : Int) from rfl, (small_ok (b := 1) (by omega) (by omega)).2, Option.bind_some, hsz]
  exact factors_l0 h8 (PC_ok k1) (by rw [← hsz]; exact q3) (by omega) ls.length 0 1 199 (by omega) (by simp) (by omega)
end Go.Proofs.Ytpkgckccfanchaa.M
