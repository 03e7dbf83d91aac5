/- Part of the proof of StabchainProducts: merged and pruned by merge2.py. -/
import Derived.Test.YtpkgckccfanchaaBStabchainProducts3
import Derived.Test.YtpkgckccfanchaaBStabchainProducts5
import Derived.Test.YtpkgckccfanchaaBStabchainProducts1

namespace Go.Proofs.Ytpkgckccfanchaa.M
open Go.RowKit YtpkgckccfanchaaW.PrintWords YtpkgckccfanchaaW.PrintLast YtpkgckccfanchaaW.PrintMore
attribute [local go_sem] pzW pzX pzY pzZ pzS pzT pzU pzV
set_option linter.unusedVariables false
set_option linter.unusedSimpArgs false
def integer_Mul.f (k : Nat) (a0_0 : Bool) (l0_1 : List Int) (a1_0 : Bool) (l1_1 : List Int) : Option (Bool × List Int) := (integer_magnitude.f a0_0 l0_1).bind fun t149 => ((integer_magnitude.f a1_0 l1_1).bind fun t152 => ((integer_times.f k t149 t152).bind fun t155 => ((integer_signed.f (a0_0 != a1_0) t155).bind fun bt158 => (some (bt158.1, bt158.2)))))
theorem integer_Mul.mono : ∀ a0 a1 a2 a3 k, LeO (integer_Mul.f k a0 a1 a2 a3) (integer_Mul.f (k + 1) a0 a1 a2 a3) := by
  intro a0 a1 a2 a3 k
  unfold integer_Mul.f
  repeat' first
      | (with_reducible exact integer_times.mono _ _ _)
      | (with_reducible exact LeO.refl _)
      | (with_reducible exact LeO.none _)
      | (with_reducible refine LeO.ite ?_ ?_)
      | (with_reducible refine LeO.bind ?_ (fun _ => ?_))
      | exact integer_times.mono _ _ _
      | exact LeO.none _
      | refine LeO.ite ?_ ?_
      | refine LeO.bind ?_ (fun _ => ?_)
def integer_Mul.T1 : Bool × List (List Nat × List Nat) := (true, [([], []), ([0], [0]), ([], []), ([2], [2]), ([1, 3], [1, 3]), ([], []), ([5], [5]), ([], []), ([7, 6], [7]), ([6, 8, 8], [6, 8]), ([4, 9, 9], [4, 9]), ([10, 10, 0, 1, 2, 3, 4, 5, 6, 7, 8, 9, 10], [10])])
def integer_Mul.B1 : List Nat := [0, 1, 0, 4, 15, 0, 32, 0, 224, 480, 1023, 2047]
theorem integer_Mul.tab1 : rtab .any (opsOf Try.f96 1) = integer_Mul.T1 := by kernel_rfl
theorem integer_Mul.bits1 : waitsOk integer_Mul.T1.2 integer_Mul.B1 = true := by kernel_rfl
set_option maxHeartbeats 8000000 in
set_option maxRecDepth 100000 in
theorem integer_Mul.calls (k : Nat) (a0_0 : Bool) (P0_1_ : Nat → Prop) (A0_1 : Option Addr) (c0_1 : Nat) (l0_1 : List Int) (a1_0 : Bool) (P1_1_ : Nat → Prop) (A1_1 : Option Addr) (c1_1 : Nat) (l1_1 : List Int) (r1 : Bool) (r2 : List Int) (w : World) (hs0_1 : Kd.V (Kd.int .u32) 98 w w.heap.size (fun k_ => P0_1_ k_) (.slice A0_1 l0_1.length c0_1) l0_1) (hs1_1 : Kd.V (Kd.int .u32) 98 w w.heap.size (fun k_ => P1_1_ k_) (.slice A1_1 l1_1.length c1_1) l1_1) (h : integer_Mul.f k a0_0 l0_1 a1_0 l1_1 = some (r1, r2)) :
    Calls Try.prog 96 #[.agg #[.bool a0_0, .slice A0_1 l0_1.length c0_1], .agg #[.bool a1_0, .slice A1_1 l1_1.length c1_1]] w fun e w' => ∃ v1_ : Value, e = .returned (.agg #[.bool r1, v1_]) ∧ Kd.V (Kd.int .u32) 98 w' w.heap.size (fun k_ => ((P0_1_ k_ ∨ P1_1_ k_) ∨ w.heap.size ≤ k_)) v1_ r2 ∧ Below w.heap.size w w' := by
  have hu24 := Try.underlying24; have HO0_1 := Aside0.mk (show Kd.V (Kd.int .u32) 98 w w.heap.size (fun k_ => ((P0_1_ k_ ∨ P1_1_ k_) ∨ w.heap.size ≤ k_)) (.slice A0_1 l0_1.length c0_1) l0_1 from Kd.V_mono hs0_1 (fun k_ hk => .inl (.inl hk))); have HO1_1 := Aside0.mk (show Kd.V (Kd.int .u32) 98 w w.heap.size (fun k_ => ((P0_1_ k_ ∨ P1_1_ k_) ∨ w.heap.size ≤ k_)) (.slice A1_1 l1_1.length c1_1) l1_1 from Kd.V_mono hs1_1 (fun k_ hk => .inl (.inr hk))); have HB := Aside0.mk (Below.refl w.heap.size w); have H : ((integer_magnitude.f a0_0 l0_1).bind fun t149 => ((integer_magnitude.f a1_0 l1_1).bind fun t152 => ((integer_times.f k t149 t152).bind fun t155 => ((integer_signed.f (a0_0 != a1_0) t155).bind fun bt158 => (some (bt158.1, bt158.2)))))) = some (r1, r2) := h; clear h; replace H := Option.bind_eq_some_iff.mp H; obtain ⟨t149, A30, H⟩ := H; replace H : ((integer_magnitude.f a1_0 l1_1).bind fun t152 => ((integer_times.f k t149 t152).bind fun t155 => ((integer_signed.f (a0_0 != a1_0) t155).bind fun bt158 => (some (bt158.1, bt158.2))))) = some (r1, r2) := H; have A3 := Aside0.mk A30; clear A30; replace H := Option.bind_eq_some_iff.mp H; obtain ⟨t152, A40, H⟩ := H; replace H : ((integer_times.f k t149 t152).bind fun t155 => ((integer_signed.f (a0_0 != a1_0) t155).bind fun bt158 => (some (bt158.1, bt158.2)))) = some (r1, r2) := H; have A4 := Aside0.mk A40; clear A40; replace H := Option.bind_eq_some_iff.mp H; obtain ⟨t155, A50, H⟩ := H; replace H : ((integer_signed.f (a0_0 != a1_0) t155).bind fun bt158 => (some (bt158.1, bt158.2))) = some (r1, r2) := H; have A5 := Aside0.mk A50; clear A50; replace H := Option.bind_eq_some_iff.mp H; obtain ⟨⟨t158, t159⟩, A60, H⟩ := H; replace H : (some (t158, t159)) = some (r1, r2) := H; have A6 := Aside0.mk A60; clear A60
  simp only [Option.some.injEq, Prod.mk.injEq] at H
  obtain ⟨rfl, rfl⟩ := H
  go_enter Try.func96, Try.ntmps96
  try go_wp2_with (first | ((with_reducible refine pzQ (N := 2) rfl ?_); refine pzR ?hg (N := 2) ?hd (cs := #[.bool a0_0, .slice A0_1 l0_1.length c0_1]) (t := 24) ?hr ?_; (case hd => rfl); (case hg => rfl); (case hr => first | (go_simp; done) | (go_simp; rfl)); intro gb146 hg w7 hbox hb; have n0_ := Aside0.mk (Kd.V_below (Kd.V_elderB (by (with_reducible repeat (first | apply Kd.V_alloc | apply Kd.V_drewN | apply Kd.V_drew)); exact HO0_1.out) gb146 (Nat.le_of_eq hg.symm)) hb); have n1_ := Aside0.mk (Kd.V_below (Kd.V_elderB (by (with_reducible repeat (first | apply Kd.V_alloc | apply Kd.V_drewN | apply Kd.V_drew)); exact HO1_1.out) gb146 (Nat.le_of_eq hg.symm)) hb); have n2_ := Aside0.mk (pzL (by repeat (first | (with_reducible first | exact HB.out | apply pzB | apply pzA | apply pzC) | exact HB.out)) hb); have n3_ := Aside0.mk (hbox); have n4_ := Aside0.mk ((by rw [hg]; exact (pzJ (by repeat (first | (with_reducible first | exact HB.out | apply pzB | apply pzA | apply pzC) | exact HB.out))) : w.heap.size ≤ gb146)); have n5_ := Aside0.mk ((by rw [hg]; exact (pzJ (by repeat (first | (with_reducible first | exact HB.out | apply pzB | apply pzA | apply pzC) | exact HB.out))) : w.heap.size ≤ gb146)); clear HO0_1; clear HO1_1; clear HB; have HO0_1 := n0_; have HO1_1 := n1_; have HB := n2_; have BK146 := n3_; have GW146 := n4_; have GE146 := n5_; clear n0_ n1_ n2_ n3_ n4_ n5_; clear hb hbox hg) | ((with_reducible refine pzQ (N := 3) rfl ?_); refine pzR ?hg (N := 3) ?hd (cs := #[.bool a1_0, .slice A1_1 l1_1.length c1_1]) (t := 24) ?hr ?_; (case hd => rfl); (case hg => rfl); (case hr => first | (go_simp; done) | (go_simp; rfl)); intro gb147 hg w8 hbox hb; have n0_ := Aside0.mk (Kd.V_below (Kd.V_elderB (by (with_reducible repeat (first | apply Kd.V_alloc | apply Kd.V_drewN | apply Kd.V_drew)); exact HO0_1.out) gb147 (Nat.le_of_eq hg.symm)) hb); have n1_ := Aside0.mk (Kd.V_below (Kd.V_elderB (by (with_reducible repeat (first | apply Kd.V_alloc | apply Kd.V_drewN | apply Kd.V_drew)); exact HO1_1.out) gb147 (Nat.le_of_eq hg.symm)) hb); have n2_ := Aside0.mk (pzI (g := gb146) (o := .cells #[.bool a0_0, .slice A0_1 l0_1.length c0_1] 24 (0, 0)) (by (with_reducible repeat (first | refine pzF ?_ _ | refine pzG ?_ | refine pzE ?_ _)); exact BK146.out) hb); have n3_ := Aside0.mk (pzL (by repeat (first | (with_reducible first | exact HB.out | apply pzB | apply pzA | apply pzC | refine pzD ?_ GE146.out) | exact HB.out)) hb); have n4_ := Aside0.mk (hbox); have n5_ := Aside0.mk ((by rw [hg]; exact (pzJ (by repeat (first | (with_reducible first | exact HB.out | apply pzB | apply pzA | apply pzC | refine pzD ?_ GE146.out) | exact HB.out))) : w.heap.size ≤ gb147)); have n6_ := Aside0.mk ((by rw [hg]; exact (pzJ (by repeat (first | (with_reducible first | exact HB.out | apply pzB | apply pzA | apply pzC | refine pzD ?_ GE146.out) | exact HB.out))) : w.heap.size ≤ gb147)); have n7_ := Aside0.mk ((by rw [hg]; exact Nat.ne_of_lt (pzO (g := gb146) (o := .cells #[.bool a0_0, .slice A0_1 l0_1.length c0_1] 24 (0, 0)) (by (with_reducible repeat (first | refine pzF ?_ _ | refine pzG ?_ | refine pzE ?_ _)); exact BK146.out)) : gb146 ≠ gb147)); have n8_ := Aside0.mk ((by rw [hg]; exact Nat.ne_of_gt (pzO (g := gb146) (o := .cells #[.bool a0_0, .slice A0_1 l0_1.length c0_1] 24 (0, 0)) (by (with_reducible repeat (first | refine pzF ?_ _ | refine pzG ?_ | refine pzE ?_ _)); exact BK146.out)) : gb147 ≠ gb146)); clear HO0_1; clear HO1_1; clear BK146; clear HB; have HO0_1 := n0_; have HO1_1 := n1_; have BK146 := n2_; have HB := n3_; have BK147 := n4_; have GW147 := n5_; have GE147 := n6_; have NB146_147 := n7_; have NB147_146 := n8_; clear n0_ n1_ n2_ n3_ n4_ n5_ n6_ n7_ n8_; clear hb hbox hg) | ((with_reducible refine pzQ (N := 4) rfl ?_); refine pzR ?hg (N := 4) ?hd (cs := #[.bool false, .slice none 0 0]) (t := 24) ?hr ?_; (case hd => rfl); (case hg => rfl); (case hr => first | (go_simp; done) | (go_simp; rfl)); intro gb148 hg w9 hbox hb; have n0_ := Aside0.mk (Kd.V_below (Kd.V_elderB (by (with_reducible repeat (first | apply Kd.V_alloc | apply Kd.V_drewN | apply Kd.V_drew)); exact HO0_1.out) gb148 (Nat.le_of_eq hg.symm)) hb); have n1_ := Aside0.mk (Kd.V_below (Kd.V_elderB (by (with_reducible repeat (first | apply Kd.V_alloc | apply Kd.V_drewN | apply Kd.V_drew)); exact HO1_1.out) gb148 (Nat.le_of_eq hg.symm)) hb); have n2_ := Aside0.mk (pzI (g := gb146) (o := .cells #[.bool a0_0, .slice A0_1 l0_1.length c0_1] 24 (0, 0)) (by (with_reducible repeat (first | refine pzF ?_ _ | refine pzG ?_ | refine pzE ?_ _)); exact BK146.out) hb); have n3_ := Aside0.mk (pzI (g := gb147) (o := .cells #[.bool a1_0, .slice A1_1 l1_1.length c1_1] 24 (0, 0)) (by (with_reducible repeat (first | refine pzF ?_ _ | refine pzG ?_ | refine pzE ?_ _)); exact BK147.out) hb); have n4_ := Aside0.mk (pzL (by repeat (first | (with_reducible first | exact HB.out | apply pzB | apply pzA | apply pzC | refine pzD ?_ GE146.out | refine pzD ?_ GE147.out) | exact HB.out)) hb); have n5_ := Aside0.mk (hbox); have n6_ := Aside0.mk ((by rw [hg]; exact (pzJ (by repeat (first | (with_reducible first | exact HB.out | apply pzB | apply pzA | apply pzC | refine pzD ?_ GE146.out | refine pzD ?_ GE147.out) | exact HB.out))) : w.heap.size ≤ gb148)); have n7_ := Aside0.mk ((by rw [hg]; exact (pzJ (by repeat (first | (with_reducible first | exact HB.out | apply pzB | apply pzA | apply pzC | refine pzD ?_ GE146.out | refine pzD ?_ GE147.out) | exact HB.out))) : w.heap.size ≤ gb148)); have n8_ := Aside0.mk ((by rw [hg]; exact Nat.ne_of_lt (pzO (g := gb146) (o := .cells #[.bool a0_0, .slice A0_1 l0_1.length c0_1] 24 (0, 0)) (by (with_reducible repeat (first | refine pzF ?_ _ | refine pzG ?_ | refine pzE ?_ _)); exact BK146.out)) : gb146 ≠ gb148)); have n9_ := Aside0.mk ((by rw [hg]; exact Nat.ne_of_gt (pzO (g := gb146) (o := .cells #[.bool a0_0, .slice A0_1 l0_1.length c0_1] 24 (0, 0)) (by (with_reducible repeat (first | refine pzF ?_ _ | refine pzG ?_ | refine pzE ?_ _)); exact BK146.out)) : gb148 ≠ gb146)); have n10_ := Aside0.mk ((by rw [hg]; exact Nat.ne_of_lt (pzO (g := gb147) (o := .cells #[.bool a1_0, .slice A1_1 l1_1.length c1_1] 24 (0, 0)) (by (with_reducible repeat (first | refine pzF ?_ _ | refine pzG ?_ | refine pzE ?_ _)); exact BK147.out)) : gb147 ≠ gb148)); have n11_ := Aside0.mk ((by rw [hg]; exact Nat.ne_of_gt (pzO (g := gb147) (o := .cells #[.bool a1_0, .slice A1_1 l1_1.length c1_1] 24 (0, 0)) (by (with_reducible repeat (first | refine pzF ?_ _ | refine pzG ?_ | refine pzE ?_ _)); exact BK147.out)) : gb148 ≠ gb147)); clear HO0_1; clear HO1_1; clear BK146; clear BK147; clear HB; have HO0_1 := n0_; have HO1_1 := n1_; have BK146 := n2_; have BK147 := n3_; have HB := n4_; have BK148 := n5_; have GW148 := n6_; have GE148 := n7_; have NB146_148 := n8_; have NB148_146 := n9_; have NB147_148 := n10_; have NB148_147 := n11_; clear n0_ n1_ n2_ n3_ n4_ n5_ n6_ n7_ n8_ n9_ n10_ n11_; clear hb hbox hg))
  have n0_ := Aside0.mk (Kd.V_drew HO0_1.out); have n1_ := Aside0.mk (Kd.V_drew HO1_1.out); have n2_ := Aside0.mk (pzG BK146.out); have n3_ := Aside0.mk (pzG BK147.out); have n4_ := Aside0.mk (pzG BK148.out); have n5_ := Aside0.mk (pzC HB.out); clear HO0_1; clear HO1_1; clear BK146; clear BK147; clear BK148; clear HB; have HO0_1 := n0_; have HO1_1 := n1_; have BK146 := n2_; have BK147 := n3_; have BK148 := n4_; have HB := n5_; clear n0_ n1_ n2_ n3_ n4_ n5_
  refine start_ (n := 12) (S := fun w' => w'.cell? ⟨gb146, 0, none⟩ = some (.bool a0_0) ∧ w'.cell? ⟨gb146, 1, none⟩ = some (.slice A0_1 l0_1.length c0_1) ∧ w'.cell? ⟨gb147, 0, none⟩ = some (.bool a1_0) ∧ w'.cell? ⟨gb147, 1, none⟩ = some (.slice A1_1 l1_1.length c1_1)) (ds := []) #[false, false, false, false, false, false, false, false, false, false, false, false] (by kernel_rfl) rfl rfl ⟨(pzH BK146.out 0).trans rfl, (pzH BK146.out 1).trans rfl, (pzH BK147.out 0).trans rfl, (pzH BK147.out 1).trans rfl⟩ (fun hHeld => ?_); refine with_tabW integer_Mul.tab1 integer_Mul.bits1 (fun HT_ HW_ => ?_)
  generalize w9.drew = w10 at HO0_1 HO1_1 BK146 BK147 BK148 HB hHeld ⊢
  refine pure_ (i := 0) (N := some 5) (v := ?_) (a' := ?_) #[true, false, false, false, false, false, false, false, false, false, false, false] rfl rfl (any_of HT_.out (by kernel_rfl)) (fun _ _ _ h => h) (Or.inl ⟨by rfl, ?_⟩) ?_ ?_
  rotate_left
  · intro w'
    go_simp
    with_reducible rfl
  rotate_left
  · simp only [Act.put, List.setIfInBounds_toArray, List.set_cons_zero, List.set_cons_succ, i64_w, i32_w]
    rfl
  refine pure_ (i := 2) (N := some 7) (v := ?_) (a' := ?_) #[true, false, true, false, false, false, false, false, false, false, false, false] rfl rfl (any_of HT_.out (by kernel_rfl)) (fun _ _ _ h => h) (Or.inl ⟨by rfl, ?_⟩) ?_ ?_
  rotate_left
  · intro w'
    go_simp
    with_reducible rfl
  rotate_left
  · simp only [Act.put, List.setIfInBounds_toArray, List.set_cons_zero, List.set_cons_succ, i64_w, i32_w]
    rfl
  refine take_ (i := 1) (N := some 6) (v := ?_) (a' := ?_) #[true, true, true, false, false, false, false, false, false, false, false, false] rfl rfl (take_ofW HT_.out HW_.out (by kernel_rfl)) (fun _ _ _ h => h) (Or.inl ⟨by rfl, ?_⟩) hHeld ?_ ?_
  rotate_left
  · rintro w' ⟨s0, s1, s2, s3⟩
    go_simp
    with_reducible rfl
  rotate_left
  · simp only [Act.put, List.setIfInBounds_toArray, List.set_cons_zero, List.set_cons_succ, i64_w, i32_w]
    rfl
  refine take_ (i := 3) (N := some 8) (v := ?_) (a' := ?_) #[true, true, true, true, false, false, false, false, false, false, false, false] rfl rfl (take_ofW HT_.out HW_.out (by kernel_rfl)) (fun _ _ _ h => h) (Or.inl ⟨by rfl, ?_⟩) hHeld ?_ ?_
  rotate_left
  · rintro w' ⟨s0, s1, s2, s3⟩
    go_simp
    with_reducible rfl
  rotate_left
  · simp only [Act.put, List.setIfInBounds_toArray, List.set_cons_zero, List.set_cons_succ, i64_w, i32_w]
    rfl
  refine pure_ (i := 4) (N := some 9) (v := ?_) (a' := ?_) #[true, true, true, true, true, false, false, false, false, false, false, false] rfl rfl (any_of HT_.out (by kernel_rfl)) (fun _ _ _ h => h) (Or.inl ⟨by rfl, ?_⟩) ?_ ?_
  rotate_left
  · intro w'
    go_simp
    with_reducible rfl
  rotate_left
  · simp only [Act.put, List.setIfInBounds_toArray, List.set_cons_zero, List.set_cons_succ, i64_w, i32_w]
    rfl
  refine take_ (i := 5) (N := some 10) (v := ?_) (a' := ?_) #[true, true, true, true, true, true, false, false, false, false, false, false] rfl rfl (take_ofW HT_.out HW_.out (by kernel_rfl)) (fun _ _ _ h => h) (Or.inl ⟨by rfl, ?_⟩) hHeld ?_ ?_
  rotate_left
  · rintro w' ⟨s0, s1, s2, s3⟩
    go_simp
    with_reducible rfl
  rotate_left
  · simp only [Act.put, List.setIfInBounds_toArray, List.set_cons_zero, List.set_cons_succ, i64_w, i32_w]
    rfl
  refine take_ (i := 7) (N := some 12) (v := ?_) (a' := ?_) #[true, true, true, true, true, true, false, true, false, false, false, false] rfl rfl (take_ofW HT_.out HW_.out (by kernel_rfl)) (fun _ _ _ h => h) (Or.inl ⟨by rfl, ?_⟩) hHeld ?_ ?_
  rotate_left
  · rintro w' ⟨s0, s1, s2, s3⟩
    go_simp
    with_reducible rfl
  rotate_left
  · simp only [Act.put, List.setIfInBounds_toArray, List.set_cons_zero, List.set_cons_succ, i64_w, i32_w]
    rfl
  refine one_ (i := 6) (N := some 11) #[true, true, true, true, true, true, true, true, false, false, false, false] rfl rfl (one_of HT_.out (by kernel_rfl)) (by decide) (fun K hK => ?_)
  refine goes_ Try.func101 (by kernel_rfl) rfl #[.agg #[.bool a0_0, .slice A0_1 l0_1.length c0_1]] (by rfl) rfl rfl (by (try simp only [List.map_toArray, List.map_cons, List.map_nil]); first | done | rfl | (simp only [List.length_drop, List.length_take]; rfl)) ?_
  with_reducible refine (integer_magnitude.calls a0_0 (fun k_ => (((((P0_1_ k_ ∨ P1_1_ k_) ∨ w.heap.size ≤ k_) ∧ k_ ≠ gb146) ∧ k_ ≠ gb147) ∧ k_ ≠ gb148)) _ _ l0_1 t149 _ ?side1 A3.out).mono ?_
  (case side1 => exact HO0_1.out)
  rintro e w11 ⟨v150, rfl, ho0, hb⟩; refine ⟨_, rfl, ?_⟩; have n0_ := Aside0.mk (Kd.V_below (by (with_reducible repeat (first | apply Kd.V_alloc | apply Kd.V_drewN | apply Kd.V_drew)); exact HO0_1.out) hb); have n1_ := Aside0.mk (Kd.V_below (by (with_reducible repeat (first | apply Kd.V_alloc | apply Kd.V_drewN | apply Kd.V_drew)); exact HO1_1.out) hb); have n2_ := Aside0.mk (Kd.V_lower (Kd.V_mono (ok' := fun k_ => ((P0_1_ k_ ∨ P1_1_ k_) ∨ w.heap.size ≤ k_) ∧ k_ ≠ gb146 ∧ k_ ≠ gb147 ∧ k_ ≠ gb148) ho0 (fun k_ hk_ => ⟨Or.elim hk_ (fun hs_ => hs_.1.1.1) (fun hn_ => (.inr (Nat.le_trans (pzJ (by repeat (first | (with_reducible first | exact HB.out | apply pzB | apply pzA | apply pzC | refine pzD ?_ GE146.out | refine pzD ?_ GE147.out | refine pzD ?_ GE148.out) | exact HB.out))) hn_))), Or.elim hk_ (fun hs_ => hs_.1.1.2) (fun hn_ => (Kd.freshB (g := gb146) (o := .cells #[.bool a0_0, .slice A0_1 l0_1.length c0_1] 24 (0, 0)) (by (with_reducible repeat (first | refine pzF ?_ _ | refine pzG ?_ | refine pzE ?_ _)); exact BK146.out) k_ hn_)), Or.elim hk_ (fun hs_ => hs_.1.2) (fun hn_ => (Kd.freshB (g := gb147) (o := .cells #[.bool a1_0, .slice A1_1 l1_1.length c1_1] 24 (0, 0)) (by (with_reducible repeat (first | refine pzF ?_ _ | refine pzG ?_ | refine pzE ?_ _)); exact BK147.out) k_ hn_)), Or.elim hk_ (fun hs_ => hs_.2) (fun hn_ => (Kd.freshB (g := gb148) (o := .cells #[.bool false, .slice none 0 0] 24 (0, 0)) (by (with_reducible repeat (first | refine pzF ?_ _ | refine pzG ?_ | refine pzE ?_ _)); exact BK148.out) k_ hn_))⟩)) (pzJ (by repeat (first | (with_reducible first | exact HB.out | apply pzB | apply pzA | apply pzC | refine pzD ?_ GE146.out | refine pzD ?_ GE147.out | refine pzD ?_ GE148.out) | exact HB.out)))); have n3_ := Aside0.mk (pzI (g := gb146) (o := .cells #[.bool a0_0, .slice A0_1 l0_1.length c0_1] 24 (0, 0)) (by (with_reducible repeat (first | refine pzF ?_ _ | refine pzG ?_ | refine pzE ?_ _)); exact BK146.out) hb); have n4_ := Aside0.mk (pzI (g := gb147) (o := .cells #[.bool a1_0, .slice A1_1 l1_1.length c1_1] 24 (0, 0)) (by (with_reducible repeat (first | refine pzF ?_ _ | refine pzG ?_ | refine pzE ?_ _)); exact BK147.out) hb); have n5_ := Aside0.mk (pzI (g := gb148) (o := .cells #[.bool false, .slice none 0 0] 24 (0, 0)) (by (with_reducible repeat (first | refine pzF ?_ _ | refine pzG ?_ | refine pzE ?_ _)); exact BK148.out) hb); have n6_ := Aside0.mk (pzL (by repeat (first | (with_reducible first | exact HB.out | apply pzB | apply pzA | apply pzC | refine pzD ?_ GE146.out | refine pzD ?_ GE147.out | refine pzD ?_ GE148.out) | exact HB.out)) hb); clear HO0_1; clear HO1_1; clear BK146; clear BK147; clear BK148; clear HB; have HO0_1 := n0_; have HO1_1 := n1_; have HO151 := n2_; have BK146 := n3_; have BK147 := n4_; have BK148 := n5_; have HB := n6_; clear n0_ n1_ n2_ n3_ n4_ n5_ n6_
  (try clear hb)
  (try clear hb2)
  (try clear hk)
  (try clear hi)
  (try clear ho0)
  refine hK.out _ _ ⟨(pzH BK146.out 0).trans rfl, (pzH BK146.out 1).trans rfl, (pzH BK147.out 0).trans rfl, (pzH BK147.out 1).trans rfl⟩ (fun hHeld => ?_); clear hK K
  refine norm_ (a' := ?_) ?_ ?_
  rotate_left
  · show Act.put _ (some 11) _ = _
    simp only [Act.put, List.setIfInBounds_toArray, List.set_cons_zero, List.set_cons_succ, i64_w, i32_w]
    rfl
  refine one_ (i := 8) (N := some 13) #[true, true, true, true, true, true, true, true, true, false, false, false] rfl rfl (one_of HT_.out (by kernel_rfl)) (by decide) (fun K hK => ?_)
  refine goes_ Try.func101 (by kernel_rfl) rfl #[.agg #[.bool a1_0, .slice A1_1 l1_1.length c1_1]] (by rfl) rfl rfl (by (try simp only [List.map_toArray, List.map_cons, List.map_nil]); first | done | rfl | (simp only [List.length_drop, List.length_take]; rfl)) ?_
  with_reducible refine (integer_magnitude.calls a1_0 (fun k_ => (((((P0_1_ k_ ∨ P1_1_ k_) ∨ w.heap.size ≤ k_) ∧ k_ ≠ gb146) ∧ k_ ≠ gb147) ∧ k_ ≠ gb148)) _ _ l1_1 t152 _ ?side1 A4.out).mono ?_
  (case side1 => exact HO1_1.out)
  rintro e w12 ⟨v153, rfl, ho0, hb⟩; refine ⟨_, rfl, ?_⟩; have n0_ := Aside0.mk (Kd.V_below (by (with_reducible repeat (first | apply Kd.V_alloc | apply Kd.V_drewN | apply Kd.V_drew)); exact HO0_1.out) hb); have n1_ := Aside0.mk (Kd.V_below (by (with_reducible repeat (first | apply Kd.V_alloc | apply Kd.V_drewN | apply Kd.V_drew)); exact HO1_1.out) hb); have n2_ := Aside0.mk (Kd.V_below (by (with_reducible repeat (first | apply Kd.V_alloc | apply Kd.V_drewN | apply Kd.V_drew)); exact HO151.out) hb); have n3_ := Aside0.mk (Kd.V_lower (Kd.V_mono (ok' := fun k_ => ((P0_1_ k_ ∨ P1_1_ k_) ∨ w.heap.size ≤ k_) ∧ k_ ≠ gb146 ∧ k_ ≠ gb147 ∧ k_ ≠ gb148) ho0 (fun k_ hk_ => ⟨Or.elim hk_ (fun hs_ => hs_.1.1.1) (fun hn_ => (.inr (Nat.le_trans (pzJ (by repeat (first | (with_reducible first | exact HB.out | apply pzB | apply pzA | apply pzC | refine pzD ?_ GE146.out | refine pzD ?_ GE147.out | refine pzD ?_ GE148.out) | exact HB.out))) hn_))), Or.elim hk_ (fun hs_ => hs_.1.1.2) (fun hn_ => (Kd.freshB (g := gb146) (o := .cells #[.bool a0_0, .slice A0_1 l0_1.length c0_1] 24 (0, 0)) (by (with_reducible repeat (first | refine pzF ?_ _ | refine pzG ?_ | refine pzE ?_ _)); exact BK146.out) k_ hn_)), Or.elim hk_ (fun hs_ => hs_.1.2) (fun hn_ => (Kd.freshB (g := gb147) (o := .cells #[.bool a1_0, .slice A1_1 l1_1.length c1_1] 24 (0, 0)) (by (with_reducible repeat (first | refine pzF ?_ _ | refine pzG ?_ | refine pzE ?_ _)); exact BK147.out) k_ hn_)), Or.elim hk_ (fun hs_ => hs_.2) (fun hn_ => (Kd.freshB (g := gb148) (o := .cells #[.bool false, .slice none 0 0] 24 (0, 0)) (by (with_reducible repeat (first | refine pzF ?_ _ | refine pzG ?_ | refine pzE ?_ _)); exact BK148.out) k_ hn_))⟩)) (pzJ (by repeat (first | (with_reducible first | exact HB.out | apply pzB | apply pzA | apply pzC | refine pzD ?_ GE146.out | refine pzD ?_ GE147.out | refine pzD ?_ GE148.out) | exact HB.out)))); have n4_ := Aside0.mk (pzI (g := gb146) (o := .cells #[.bool a0_0, .slice A0_1 l0_1.length c0_1] 24 (0, 0)) (by (with_reducible repeat (first | refine pzF ?_ _ | refine pzG ?_ | refine pzE ?_ _)); exact BK146.out) hb); have n5_ := Aside0.mk (pzI (g := gb147) (o := .cells #[.bool a1_0, .slice A1_1 l1_1.length c1_1] 24 (0, 0)) (by (with_reducible repeat (first | refine pzF ?_ _ | refine pzG ?_ | refine pzE ?_ _)); exact BK147.out) hb); have n6_ := Aside0.mk (pzI (g := gb148) (o := .cells #[.bool false, .slice none 0 0] 24 (0, 0)) (by (with_reducible repeat (first | refine pzF ?_ _ | refine pzG ?_ | refine pzE ?_ _)); exact BK148.out) hb); have n7_ := Aside0.mk (pzL (by repeat (first | (with_reducible first | exact HB.out | apply pzB | apply pzA | apply pzC | refine pzD ?_ GE146.out | refine pzD ?_ GE147.out | refine pzD ?_ GE148.out) | exact HB.out)) hb); clear HO0_1; clear HO1_1; clear HO151; clear BK146; clear BK147; clear BK148; clear HB; have HO0_1 := n0_; have HO1_1 := n1_; have HO151 := n2_; have HO154 := n3_; have BK146 := n4_; have BK147 := n5_; have BK148 := n6_; have HB := n7_; clear n0_ n1_ n2_ n3_ n4_ n5_ n6_ n7_
  (try clear hb)
  (try clear hb2)
  (try clear hk)
  (try clear hi)
  (try clear ho0)
  obtain ⟨Ao13, co13, eo13⟩ := Kd.V_slice HO151.out
  (first | subst eo13 | (injection eo13 with f1_ f2_ f3_; have f4_ := f1_.symm; have f5_ := f3_.symm; clear f1_ f2_ f3_; subst f4_; subst f5_))
  obtain ⟨Ao14, co14, eo14⟩ := Kd.V_slice HO154.out
  (first | subst eo14 | (injection eo14 with f1_ f2_ f3_; have f4_ := f1_.symm; have f5_ := f3_.symm; clear f1_ f2_ f3_; subst f4_; subst f5_))
  refine hK.out _ _ ⟨(pzH BK146.out 0).trans rfl, (pzH BK146.out 1).trans rfl, (pzH BK147.out 0).trans rfl, (pzH BK147.out 1).trans rfl⟩ (fun hHeld => ?_); clear hK K
  refine norm_ (a' := ?_) ?_ ?_
  rotate_left
  · show Act.put _ (some 13) _ = _
    simp only [Act.put, List.setIfInBounds_toArray, List.set_cons_zero, List.set_cons_succ, i64_w, i32_w]
    rfl
  refine one_ (i := 9) (N := some 14) #[true, true, true, true, true, true, true, true, true, true, false, false] rfl rfl (one_of HT_.out (by kernel_rfl)) (by decide) (fun K hK => ?_)
  refine goes_ Try.func115 (by kernel_rfl) rfl #[.slice Ao13 t149.length co13, .slice Ao14 t152.length co14] (by rfl) rfl rfl (by (try simp only [List.map_toArray, List.map_cons, List.map_nil]); first | done | rfl | (simp only [List.length_drop, List.length_take]; rfl)) ?_
  with_reducible refine (integer_times.calls k _ _ t149 _ _ t152 t155 _ ?side1 ?side2 ?side3 ?side4 A5.out).mono ?_
  (case side1 => repeat (first | exact (Kd.V_reads' HO151.out).2.2 | (with_reducible refine Kd.C_alloc ?_ _) | (with_reducible refine Kd.C_drewN ?_ _) | (with_reducible refine Kd.C_drew ?_)))
  (case side2 => exact (Kd.V_reads' HO151.out).2.1)
  (case side3 => repeat (first | exact (Kd.V_reads' HO154.out).2.2 | (with_reducible refine Kd.C_alloc ?_ _) | (with_reducible refine Kd.C_drewN ?_ _) | (with_reducible refine Kd.C_drew ?_)))
  (case side4 => exact (Kd.V_reads' HO154.out).2.1)
  rintro e w15 ⟨v156, rfl, ho0, hb⟩; refine ⟨_, rfl, ?_⟩; have n0_ := Aside0.mk (Kd.V_below (by (with_reducible repeat (first | apply Kd.V_alloc | apply Kd.V_drewN | apply Kd.V_drew)); exact HO0_1.out) hb); have n1_ := Aside0.mk (Kd.V_below (by (with_reducible repeat (first | apply Kd.V_alloc | apply Kd.V_drewN | apply Kd.V_drew)); exact HO1_1.out) hb); have n2_ := Aside0.mk (Kd.V_below (by (with_reducible repeat (first | apply Kd.V_alloc | apply Kd.V_drewN | apply Kd.V_drew)); exact HO151.out) hb); have n3_ := Aside0.mk (Kd.V_below (by (with_reducible repeat (first | apply Kd.V_alloc | apply Kd.V_drewN | apply Kd.V_drew)); exact HO154.out) hb); have n4_ := Aside0.mk (Kd.V_lower (Kd.V_mono (ok' := fun k_ => ((P0_1_ k_ ∨ P1_1_ k_) ∨ w.heap.size ≤ k_) ∧ k_ ≠ gb146 ∧ k_ ≠ gb147 ∧ k_ ≠ gb148) ho0 (fun k_ hk_ => ⟨(.inr (Nat.le_trans (pzJ (by repeat (first | (with_reducible first | exact HB.out | apply pzB | apply pzA | apply pzC | refine pzD ?_ GE146.out | refine pzD ?_ GE147.out | refine pzD ?_ GE148.out) | exact HB.out))) hk_)), (Kd.freshB (g := gb146) (o := .cells #[.bool a0_0, .slice A0_1 l0_1.length c0_1] 24 (0, 0)) (by (with_reducible repeat (first | refine pzF ?_ _ | refine pzG ?_ | refine pzE ?_ _)); exact BK146.out) k_ hk_), (Kd.freshB (g := gb147) (o := .cells #[.bool a1_0, .slice A1_1 l1_1.length c1_1] 24 (0, 0)) (by (with_reducible repeat (first | refine pzF ?_ _ | refine pzG ?_ | refine pzE ?_ _)); exact BK147.out) k_ hk_), (Kd.freshB (g := gb148) (o := .cells #[.bool false, .slice none 0 0] 24 (0, 0)) (by (with_reducible repeat (first | refine pzF ?_ _ | refine pzG ?_ | refine pzE ?_ _)); exact BK148.out) k_ hk_)⟩)) (pzJ (by repeat (first | (with_reducible first | exact HB.out | apply pzB | apply pzA | apply pzC | refine pzD ?_ GE146.out | refine pzD ?_ GE147.out | refine pzD ?_ GE148.out) | exact HB.out)))); have n5_ := Aside0.mk (pzI (g := gb146) (o := .cells #[.bool a0_0, .slice A0_1 l0_1.length c0_1] 24 (0, 0)) (by (with_reducible repeat (first | refine pzF ?_ _ | refine pzG ?_ | refine pzE ?_ _)); exact BK146.out) hb); have n6_ := Aside0.mk (pzI (g := gb147) (o := .cells #[.bool a1_0, .slice A1_1 l1_1.length c1_1] 24 (0, 0)) (by (with_reducible repeat (first | refine pzF ?_ _ | refine pzG ?_ | refine pzE ?_ _)); exact BK147.out) hb); have n7_ := Aside0.mk (pzI (g := gb148) (o := .cells #[.bool false, .slice none 0 0] 24 (0, 0)) (by (with_reducible repeat (first | refine pzF ?_ _ | refine pzG ?_ | refine pzE ?_ _)); exact BK148.out) hb); have n8_ := Aside0.mk (pzL (by repeat (first | (with_reducible first | exact HB.out | apply pzB | apply pzA | apply pzC | refine pzD ?_ GE146.out | refine pzD ?_ GE147.out | refine pzD ?_ GE148.out) | exact HB.out)) hb); clear HO0_1; clear HO1_1; clear HO151; clear HO154; clear BK146; clear BK147; clear BK148; clear HB; have HO0_1 := n0_; have HO1_1 := n1_; have HO151 := n2_; have HO154 := n3_; have HO157 := n4_; have BK146 := n5_; have BK147 := n6_; have BK148 := n7_; have HB := n8_; clear n0_ n1_ n2_ n3_ n4_ n5_ n6_ n7_ n8_
  (try clear hb)
  (try clear hb2)
  (try clear hk)
  (try clear hi)
  (try clear ho0)
  obtain ⟨Ao16, co16, eo16⟩ := Kd.V_slice HO157.out
  (first | subst eo16 | (injection eo16 with f1_ f2_ f3_; have f4_ := f1_.symm; have f5_ := f3_.symm; clear f1_ f2_ f3_; subst f4_; subst f5_))
  refine hK.out _ _ ⟨(pzH BK146.out 0).trans rfl, (pzH BK146.out 1).trans rfl, (pzH BK147.out 0).trans rfl, (pzH BK147.out 1).trans rfl⟩ (fun hHeld => ?_); clear hK K
  refine norm_ (a' := ?_) ?_ ?_
  rotate_left
  · show Act.put _ (some 14) _ = _
    simp only [Act.put, List.setIfInBounds_toArray, List.set_cons_zero, List.set_cons_succ, i64_w, i32_w]
    rfl
  refine one_ (i := 10) (N := some 15) #[true, true, true, true, true, true, true, true, true, true, true, false] rfl rfl (one_of HT_.out (by kernel_rfl)) (by decide) (fun K hK => ?_)
  refine goes_ Try.func102 (by kernel_rfl) rfl #[.bool (a0_0 != a1_0), .slice Ao16 t155.length co16] (by rfl) rfl rfl (by (try simp only [List.map_toArray, List.map_cons, List.map_nil]); first | done | rfl | (simp only [List.length_drop, List.length_take]; rfl)) ?_
  with_reducible refine (integer_signed.calls (a0_0 != a1_0) (fun k_ => (((P0_1_ k_ ∨ P1_1_ k_) ∨ w.heap.size ≤ k_) ∧ (k_ ≠ gb146 ∧ (k_ ≠ gb147 ∧ k_ ≠ gb148)))) _ _ t155 t158 t159 _ ?side1 A6.out).mono ?_
  (case side1 => exact HO157.out)
  rintro e w17 ⟨v160, rfl, ho0, hb⟩; refine ⟨_, rfl, ?_⟩; have n0_ := Aside0.mk (Kd.V_below (by (with_reducible repeat (first | apply Kd.V_alloc | apply Kd.V_drewN | apply Kd.V_drew)); exact HO0_1.out) hb); have n1_ := Aside0.mk (Kd.V_below (by (with_reducible repeat (first | apply Kd.V_alloc | apply Kd.V_drewN | apply Kd.V_drew)); exact HO1_1.out) hb); have n2_ := Aside0.mk (Kd.V_below (by (with_reducible repeat (first | apply Kd.V_alloc | apply Kd.V_drewN | apply Kd.V_drew)); exact HO151.out) hb); have n3_ := Aside0.mk (Kd.V_below (by (with_reducible repeat (first | apply Kd.V_alloc | apply Kd.V_drewN | apply Kd.V_drew)); exact HO154.out) hb); have n4_ := Aside0.mk (Kd.V_below (by (with_reducible repeat (first | apply Kd.V_alloc | apply Kd.V_drewN | apply Kd.V_drew)); exact HO157.out) hb); have n5_ := Aside0.mk (Kd.V_lower (Kd.V_mono (ok' := fun k_ => ((P0_1_ k_ ∨ P1_1_ k_) ∨ w.heap.size ≤ k_) ∧ k_ ≠ gb146 ∧ k_ ≠ gb147 ∧ k_ ≠ gb148) ho0 (fun k_ hk_ => ⟨Or.elim hk_ (fun hs_ => hs_.1) (fun hn_ => (.inr (Nat.le_trans (pzJ (by repeat (first | (with_reducible first | exact HB.out | apply pzB | apply pzA | apply pzC | refine pzD ?_ GE146.out | refine pzD ?_ GE147.out | refine pzD ?_ GE148.out) | exact HB.out))) hn_))), Or.elim hk_ (fun hs_ => hs_.2.1) (fun hn_ => (Kd.freshB (g := gb146) (o := .cells #[.bool a0_0, .slice A0_1 l0_1.length c0_1] 24 (0, 0)) (by (with_reducible repeat (first | refine pzF ?_ _ | refine pzG ?_ | refine pzE ?_ _)); exact BK146.out) k_ hn_)), Or.elim hk_ (fun hs_ => hs_.2.2.1) (fun hn_ => (Kd.freshB (g := gb147) (o := .cells #[.bool a1_0, .slice A1_1 l1_1.length c1_1] 24 (0, 0)) (by (with_reducible repeat (first | refine pzF ?_ _ | refine pzG ?_ | refine pzE ?_ _)); exact BK147.out) k_ hn_)), Or.elim hk_ (fun hs_ => hs_.2.2.2) (fun hn_ => (Kd.freshB (g := gb148) (o := .cells #[.bool false, .slice none 0 0] 24 (0, 0)) (by (with_reducible repeat (first | refine pzF ?_ _ | refine pzG ?_ | refine pzE ?_ _)); exact BK148.out) k_ hn_))⟩)) (pzJ (by repeat (first | (with_reducible first | exact HB.out | apply pzB | apply pzA | apply pzC | refine pzD ?_ GE146.out | refine pzD ?_ GE147.out | refine pzD ?_ GE148.out) | exact HB.out)))); have n6_ := Aside0.mk (pzI (g := gb146) (o := .cells #[.bool a0_0, .slice A0_1 l0_1.length c0_1] 24 (0, 0)) (by (with_reducible repeat (first | refine pzF ?_ _ | refine pzG ?_ | refine pzE ?_ _)); exact BK146.out) hb); have n7_ := Aside0.mk (pzI (g := gb147) (o := .cells #[.bool a1_0, .slice A1_1 l1_1.length c1_1] 24 (0, 0)) (by (with_reducible repeat (first | refine pzF ?_ _ | refine pzG ?_ | refine pzE ?_ _)); exact BK147.out) hb); have n8_ := Aside0.mk (pzI (g := gb148) (o := .cells #[.bool false, .slice none 0 0] 24 (0, 0)) (by (with_reducible repeat (first | refine pzF ?_ _ | refine pzG ?_ | refine pzE ?_ _)); exact BK148.out) hb); have n9_ := Aside0.mk (pzL (by repeat (first | (with_reducible first | exact HB.out | apply pzB | apply pzA | apply pzC | refine pzD ?_ GE146.out | refine pzD ?_ GE147.out | refine pzD ?_ GE148.out) | exact HB.out)) hb); clear HO0_1; clear HO1_1; clear HO151; clear HO154; clear HO157; clear BK146; clear BK147; clear BK148; clear HB; have HO0_1 := n0_; have HO1_1 := n1_; have HO151 := n2_; have HO154 := n3_; have HO157 := n4_; have HO161 := n5_; have BK146 := n6_; have BK147 := n7_; have BK148 := n8_; have HB := n9_; clear n0_ n1_ n2_ n3_ n4_ n5_ n6_ n7_ n8_ n9_
  (try clear hb)
  (try clear hb2)
  (try clear hk)
  (try clear hi)
  (try clear ho0)
  obtain ⟨Ao19, co19, eo19⟩ := Kd.V_slice HO161.out
  (first | subst eo19 | (injection eo19 with f1_ f2_ f3_; have f4_ := f1_.symm; have f5_ := f3_.symm; clear f1_ f2_ f3_; subst f4_; subst f5_))
  refine hK.out _ _ ⟨(pzH BK146.out 0).trans rfl, (pzH BK146.out 1).trans rfl, (pzH BK147.out 0).trans rfl, (pzH BK147.out 1).trans rfl⟩ (fun hHeld => ?_); clear hK K
  refine norm_ (a' := ?_) ?_ ?_
  rotate_left
  · show Act.put _ (some 15) _ = _
    simp only [Act.put, List.setIfInBounds_toArray, List.set_cons_zero, List.set_cons_succ, i64_w, i32_w]
    rfl
  refine one_ (i := 11) (N := none) #[true, true, true, true, true, true, true, true, true, true, true, true] rfl rfl (one_of HT_.out (by kernel_rfl)) (by decide) (fun K hK => ?_); have hs18 : w17.cell? ⟨gb148, 0, none⟩ = some (.bool false) := (pzH BK148.out 0).trans rfl; have hfs18 := pzK BK148.out 0; have hns18_0 := NB146_148.out; have hns18_1 := NB147_148.out; have hms18_0 := NB148_146.out; have hms18_1 := NB148_147.out; have hs20 : w17.cell? ⟨gb148, 1, none⟩ = some (.slice none 0 0) := (pzH BK148.out 1).trans rfl; have hfs20 := pzK BK148.out 1; have hns20_0 := NB146_148.out; have hns20_1 := NB147_148.out; have hms20_0 := NB148_146.out; have hms20_1 := NB148_147.out
  refine skip_ (w1 := ?_) (by rfl) rfl ?_ ?_
  rotate_left
  · go_simp
    rfl
  refine hK.out _ _ ⟨((pyE (p := ⟨gb148, _, none⟩) NB146_148.out _).trans (((pyE (p := ⟨gb148, _, none⟩) NB146_148.out _).trans (hHeld.1)))), ((pyE (p := ⟨gb148, _, none⟩) NB146_148.out _).trans (((pyE (p := ⟨gb148, _, none⟩) NB146_148.out _).trans (hHeld.2.1)))), ((pyE (p := ⟨gb148, _, none⟩) NB147_148.out _).trans (((pyE (p := ⟨gb148, _, none⟩) NB147_148.out _).trans (hHeld.2.2.1)))), ((pyE (p := ⟨gb148, _, none⟩) NB147_148.out _).trans (((pyE (p := ⟨gb148, _, none⟩) NB147_148.out _).trans (hHeld.2.2.2))))⟩ (fun hHeld => ?_); clear hK K
  refine done_ (done_of HT_.out (by kernel_rfl)) ?_
  try go_wp2
  refine bodyPost_ret (results_cell_row rfl _ _ gb148 24 #[.bool t158, .slice Ao19 t159.length co19] (0, 0) _ rfl (by (with_reducible repeat (first | refine pzF ?_ _ | refine pzG ?_ | refine pzE ?_ _)); refine pyC (cs := #[.bool t158, .slice none 0 0]) ?_ 1 _ rfl; (with_reducible repeat (first | refine pzF ?_ _ | refine pzG ?_ | refine pzE ?_ _)); refine pyC (cs := #[.bool false, .slice none 0 0]) ?_ 0 _ rfl; (with_reducible repeat (first | refine pzF ?_ _ | refine pzG ?_ | refine pzE ?_ _)); exact BK148.out) Try.underlying24 rfl (by kernel_rfl)) rfl ?_
  exact ⟨_, by first | rfl | (simp [pzN, pzM] <;> rfl) | (simp [*, pzN, pzM] <;> rfl), by (with_reducible repeat (first | apply Kd.V_alloc | apply Kd.V_drewN | apply Kd.V_drew)); exact Kd.V_mono (Kd.V_far (p := ⟨gb148, 1, none⟩) (Kd.V_far (p := ⟨gb148, 0, none⟩) (Kd.V_mono HO161.out (fun k_ hk => (⟨hk, hk.2.2.2⟩ : _ ∧ k_ ≠ gb148))) (fun _ hk => hk.2) (.bool t158)) (fun _ hk => hk.2) (.slice Ao19 t159.length co19)) (fun _ hk => hk.1.1), by repeat (first | (with_reducible first | exact HB.out | apply pzB | apply pzA | apply pzC | refine pzD ?_ GE146.out | refine pzD ?_ GE147.out | refine pzD ?_ GE148.out) | exact HB.out)⟩
end Go.Proofs.Ytpkgckccfanchaa.M

namespace Go.Proofs.Ytpkgckccfanchaa.M
open Go.RowKit YtpkgckccfanchaaW.PrintWords YtpkgckccfanchaaW.PrintLast YtpkgckccfanchaaW.PrintMore
attribute [local go_sem] pzW pzX pzY pzZ pzS pzT pzU pzV
set_option linter.unusedVariables false
set_option linter.unusedSimpArgs false
def sc_product.l0 : Nat → List Int → Int → Int → Bool → List Int → Option (Bool × List Int)
  | 0, _, _, _, _, _ => none
  | k + 1, x7, x8, x9, x168000, x168001 => if x9 < x8 then (if 0 ≤ x9 then (if x9 < (x7.length : Int) then ((integer_Small.f (rd x7 x9)).bind fun bt169 => ((integer_Mul.f k x168000 x168001 bt169.1 bt169.2).bind fun bt173 => (sc_product.l0 k x7 x8 (wrap64 (x9 + 1)) bt173.1 bt173.2))) else (none)) else (none)) else (some (x168000, x168001))
def sc_product.f (k : Nat) (l0 : List Int) : Option (Bool × List Int) := (integer_Small.f 1).bind fun bt163 => (sc_product.l0 k l0 (l0.length : Int) 0 bt163.1 bt163.2)
theorem sc_product.mono_l : ∀ k, (∀ y0 y1 y2 y3 y4, LeO (sc_product.l0 k y0 y1 y2 y3 y4) (sc_product.l0 (k + 1) y0 y1 y2 y3 y4))
  | 0 => fun _ _ _ _ _ r h => by simp [sc_product.l0] at h
  | k + 1 => by
    have ih0 := sc_product.mono_l k
    · intro y0 y1 y2 y3 y4
      unfold sc_product.l0
      repeat' first
      | (with_reducible exact ih0 _ _ _ _ _)
      | (with_reducible exact integer_Mul.mono _ _ _ _ _)
      | (with_reducible exact LeO.refl _)
      | (with_reducible exact LeO.none _)
      | (with_reducible refine LeO.ite ?_ ?_)
      | (with_reducible refine LeO.bind ?_ (fun _ => ?_))
      | exact ih0 _ _ _ _ _
      | exact integer_Mul.mono _ _ _ _ _
      | exact LeO.none _
      | refine LeO.ite ?_ ?_
      | refine LeO.bind ?_ (fun _ => ?_)
theorem sc_product.mono : ∀ a0 k, LeO (sc_product.f k a0) (sc_product.f (k + 1) a0) := by
  intro a0 k; have ih0 := sc_product.mono_l k
  unfold sc_product.f
  repeat' first
      | (with_reducible exact ih0 _ _ _ _ _)
      | (with_reducible exact integer_Mul.mono _ _ _ _ _)
      | (with_reducible exact LeO.refl _)
      | (with_reducible exact LeO.none _)
      | (with_reducible refine LeO.ite ?_ ?_)
      | (with_reducible refine LeO.bind ?_ (fun _ => ?_))
      | exact ih0 _ _ _ _ _
      | exact integer_Mul.mono _ _ _ _ _
      | exact LeO.none _
      | refine LeO.ite ?_ ?_
      | refine LeO.bind ?_ (fun _ => ?_)
set_option maxHeartbeats 8000000 in
set_option maxRecDepth 100000 in
theorem sc_product.calls (k : Nat) (A0 : Option Addr) (c0 : Nat) (l0 : List Int) (r1 : Bool) (r2 : List Int) (w : World) (hr0 : Kd.C (Kd.int .i64) w A0 l0.length l0) (hc0 : l0.length ≤ c0) (h : sc_product.f k l0 = some (r1, r2)) :
    Calls Try.prog 68 #[.slice A0 l0.length c0] w fun e w' => ∃ v1_ : Value, e = .returned (.agg #[.bool r1, v1_]) ∧ Kd.V (Kd.int .u32) 98 w' w.heap.size (fun k_ => (w.heap.size ≤ k_)) v1_ r2 ∧ Below w.heap.size w w' := by
  have hu24 := Try.underlying24; have HR0 := Aside0.mk hr0; have HC0 := Aside0.mk hc0; clear hr0 hc0; have HB := Aside0.mk (Below.refl w.heap.size w); have H : ((integer_Small.f 1).bind fun bt163 => (sc_product.l0 k l0 (l0.length : Int) 0 bt163.1 bt163.2)) = some (r1, r2) := h; clear h; replace H := Option.bind_eq_some_iff.mp H; obtain ⟨⟨t163, t164⟩, A20, H⟩ := H; replace H : (sc_product.l0 k l0 (l0.length : Int) 0 t163 t164) = some (r1, r2) := H; have A2 := Aside0.mk A20; clear A20; have H' := Aside0.mk H; clear H
  go_enter Try.func68, Try.ntmps68
  go_wp2_with (first | ((with_reducible refine pzQ (N := 2) rfl ?_); refine pzR ?hg (N := 2) ?hd (cs := #[.bool false, .slice none 0 0]) (t := 24) ?hr ?_; (case hd => rfl); (case hg => rfl); (case hr => first | (go_simp; done) | (go_simp; rfl)); intro gb162 hg w3 hbox hb; have n0_ := Aside0.mk (pzL (by repeat (first | (with_reducible first | exact HB.out | apply pzB | apply pzA | apply pzC) | exact HB.out)) hb); have n1_ := Aside0.mk (hbox); have n2_ := Aside0.mk ((by rw [hg]; exact (pzJ (by repeat (first | (with_reducible first | exact HB.out | apply pzB | apply pzA | apply pzC) | exact HB.out))) : w.heap.size ≤ gb162)); have n3_ := Aside0.mk ((by rw [hg]; exact (pzJ (by repeat (first | (with_reducible first | exact HB.out | apply pzB | apply pzA | apply pzC) | exact HB.out))) : w.heap.size ≤ gb162)); clear HB; have HB := n0_; have BK162 := n1_; have GW162 := n2_; have GE162 := n3_; clear n0_ n1_ n2_ n3_; clear hb hbox hg) | ((with_reducible refine pzP (f := 71) rfl ?_); refine pyH (some 6) rfl rfl Try.func71 (by kernel_rfl) rfl #[.int .i64 1] rfl (by (try simp only [List.map_toArray, List.map_cons, List.map_nil]); first | done | rfl | (simp only [List.length_drop, List.length_take]; rfl)) ?_; (with_reducible refine (integer_Small.calls 1 t163 t164 _ A2.out).mono ?_); rintro e w4 ⟨v165, rfl, ho0, hb⟩; refine ⟨_, rfl, ?_⟩; have n0_ := Aside0.mk (Kd.V_lower (Kd.V_mono (ok' := fun k_ => (w.heap.size ≤ k_) ∧ k_ ≠ gb162) ho0 (fun k_ hk_ => ⟨(Nat.le_trans (pzJ (by repeat (first | (with_reducible first | exact HB.out | apply pzB | apply pzA | apply pzC | refine pzD ?_ GE162.out) | exact HB.out))) hk_), (Kd.freshB (g := gb162) (o := .cells #[.bool false, .slice none 0 0] 24 (0, 0)) (by (with_reducible repeat (first | refine pzF ?_ _ | refine pzG ?_ | refine pzE ?_ _)); exact BK162.out) k_ hk_)⟩)) (pzJ (by repeat (first | (with_reducible first | exact HB.out | apply pzB | apply pzA | apply pzC | refine pzD ?_ GE162.out) | exact HB.out)))); have n1_ := Aside0.mk (pzI (g := gb162) (o := .cells #[.bool false, .slice none 0 0] 24 (0, 0)) (by (with_reducible repeat (first | refine pzF ?_ _ | refine pzG ?_ | refine pzE ?_ _)); exact BK162.out) hb); have n2_ := Aside0.mk (pzL (by repeat (first | (with_reducible first | exact HB.out | apply pzB | apply pzA | apply pzC | refine pzD ?_ GE162.out) | exact HB.out)) hb); clear BK162; clear HB; have HO166 := n0_; have BK162 := n1_; have HB := n2_; clear n0_ n1_ n2_; (try clear hb); (try clear hb2); (try clear hk); (try clear hi); (try clear ho0)) | ((with_reducible refine pzQ (N := 3) rfl ?_); refine pzR ?hg (N := 3) ?hd (cs := #[.bool false, .slice none 0 0]) (t := 24) ?hr ?_; (case hd => rfl); (case hg => rfl); (case hr => first | (go_simp; done) | (go_simp; rfl)); intro gb167 hg w5 hbox hb; have n0_ := Aside0.mk (Kd.V_below (Kd.V_elderB (by (with_reducible repeat (first | apply Kd.V_alloc | apply Kd.V_drewN | apply Kd.V_drew)); exact HO166.out) gb167 (Nat.le_of_eq hg.symm)) hb); have n1_ := Aside0.mk (pzI (g := gb162) (o := .cells #[.bool false, .slice none 0 0] 24 (0, 0)) (by (with_reducible repeat (first | refine pzF ?_ _ | refine pzG ?_ | refine pzE ?_ _)); exact BK162.out) hb); have n2_ := Aside0.mk (pzL (by repeat (first | (with_reducible first | exact HB.out | apply pzB | apply pzA | apply pzC | refine pzD ?_ GE162.out) | exact HB.out)) hb); have n3_ := Aside0.mk (hbox); have n4_ := Aside0.mk ((by rw [hg]; exact (pzJ (by repeat (first | (with_reducible first | exact HB.out | apply pzB | apply pzA | apply pzC | refine pzD ?_ GE162.out) | exact HB.out))) : w.heap.size ≤ gb167)); have n5_ := Aside0.mk ((by rw [hg]; exact (pzJ (by repeat (first | (with_reducible first | exact HB.out | apply pzB | apply pzA | apply pzC | refine pzD ?_ GE162.out) | exact HB.out))) : w.heap.size ≤ gb167)); have n6_ := Aside0.mk ((by rw [hg]; exact Nat.ne_of_lt (pzO (g := gb162) (o := .cells #[.bool false, .slice none 0 0] 24 (0, 0)) (by (with_reducible repeat (first | refine pzF ?_ _ | refine pzG ?_ | refine pzE ?_ _)); exact BK162.out)) : gb162 ≠ gb167)); have n7_ := Aside0.mk ((by rw [hg]; exact Nat.ne_of_gt (pzO (g := gb162) (o := .cells #[.bool false, .slice none 0 0] 24 (0, 0)) (by (with_reducible repeat (first | refine pzF ?_ _ | refine pzG ?_ | refine pzE ?_ _)); exact BK162.out)) : gb167 ≠ gb162)); clear HO166; clear BK162; clear HB; have HO166 := n0_; have BK162 := n1_; have HB := n2_; have BK167 := n3_; have GW167 := n4_; have GE167 := n5_; have NB162_167 := n6_; have NB167_162 := n7_; clear n0_ n1_ n2_ n3_ n4_ n5_ n6_ n7_; clear hb hbox hg; have hnb6 := NB167_162.out; have hnc6 := NB162_167.out; have hcz7_0 : w5.cell? ⟨gb167, 0, none⟩ = some (.bool false) := (pzH BK167.out 0).trans rfl; have hcz7_1 : w5.cell? ⟨gb167, 1, none⟩ = some (.slice none 0 0) := (pzH BK167.out 1).trans rfl; have hfz7_0 := pzK BK167.out 0; have hfz7_1 := pzK BK167.out 1; obtain ⟨Ao8, co8, eo8⟩ := Kd.V_slice HO166.out; subst eo8))
  go_loopg [9] k (fun kq v9 w' => ∃ (x9_1 : Int) (x168000_1 : Bool) (x168001_1 : List Int) (u168001 : Value), v9 = .int .i64 x9_1 ∧ Aside0 (sc_product.l0 kq l0 (l0.length : Int) x9_1 x168000_1 x168001_1 = some (r1, r2)) ∧ Aside0 (kq ≤ k) ∧ Aside0 (Kd.V (Kd.int .u32) 98 w' w.heap.size (fun k_ => (w.heap.size ≤ k_) ∧ k_ ≠ gb162 ∧ k_ ≠ gb167) u168001 x168001_1) ∧ Aside0 (w'.heap[gb162]? = some (.cells #[.bool false, (.slice none 0 0)] 24 (0, 0))) ∧ Aside0 (w'.heap[gb167]? = some (.cells #[.bool x168000_1, u168001] 24 (0, 0))) ∧ Aside0 (Below w.heap.size w w'))
  case atStart => exact ⟨(0), (t163), (t164), (.slice Ao8 t164.length co8), (by first | rfl | (simp; done) | (simp [*]; done)), H', ⟨Nat.le_refl _⟩, ⟨by (with_reducible repeat (first | apply Kd.V_alloc | apply Kd.V_drewN | apply Kd.V_drew)); exact Kd.V_mono (Kd.V_far (p := ⟨gb167, 1, none⟩) (Kd.V_far (p := ⟨gb167, 0, none⟩) (Kd.V_mono HO166.out (fun k_ hk => (⟨hk, hk.2⟩ : _ ∧ k_ ≠ gb167))) (fun _ hk => hk.2) (.bool t163)) (fun _ hk => hk.2) (.slice Ao8 t164.length co8)) (fun _ hk => ⟨hk.1.1.1, ⟨hk.1.1.2, hk.1.2⟩⟩)⟩, ⟨by (with_reducible repeat (first | refine pzF ?_ _ | refine pzG ?_ | refine pzE ?_ _)); refine pyF ?_ NB162_167.out _; (with_reducible repeat (first | refine pzF ?_ _ | refine pzG ?_ | refine pzE ?_ _)); refine pyF ?_ NB162_167.out _; (with_reducible repeat (first | refine pzF ?_ _ | refine pzG ?_ | refine pzE ?_ _)); exact BK162.out⟩, ⟨by (with_reducible repeat (first | refine pzF ?_ _ | refine pzG ?_ | refine pzE ?_ _)); refine pyC (cs := #[.bool t163, .slice none 0 0]) ?_ 1 _ rfl; (with_reducible repeat (first | refine pzF ?_ _ | refine pzG ?_ | refine pzE ?_ _)); refine pyC (cs := #[.bool false, .slice none 0 0]) ?_ 0 _ rfl; (with_reducible repeat (first | refine pzF ?_ _ | refine pzG ?_ | refine pzE ?_ _)); exact BK167.out⟩, ⟨by repeat (first | (with_reducible first | exact HB.out | apply pzB | apply pzA | apply pzC | refine pzD ?_ GE162.out | refine pzD ?_ GE167.out) | exact HB.out)⟩⟩
  case round =>
    clear H'
    try clear p2
    try clear c6
    try clear c7
    try clear hcz7_0
    try clear hcz7_1
    try clear hfz7_0
    try clear hfz7_1
    obtain ⟨x9_1, x168000_1, x168001_1, u168001, rfl, HA, HK1, HO_168001, BK162, BK167, HB⟩ := hrel; cases gk with
    | zero => exact absurd HA.out (by simp [sc_product.l0])
    | succ k1 =>
      have H := HA.out; clear HA
      simp only [sc_product.l0] at H
      by_cases c9 : x9_1 < (l0.length : Int)
      · rw [if_pos c9] at H
        have c9b0 : decide (x9_1 < (l0.length : Int)) = true := decide_eq_true c9; clear c9
        by_cases c10 : 0 ≤ x9_1
        · rw [if_pos c10] at H
          have c10b0 : decide (0 ≤ x9_1) = true := decide_eq_true c10; clear c10
          by_cases c11 : x9_1 < (l0.length : Int)
          · rw [if_pos c11] at H
            have c11b0 : decide (x9_1 < (l0.length : Int)) = true := decide_eq_true c11; clear c11; replace H := Option.bind_eq_some_iff.mp H; obtain ⟨⟨t169, t170⟩, A120, H⟩ := H; replace H : ((integer_Mul.f k1 x168000_1 x168001_1 t169 t170).bind fun bt173 => (sc_product.l0 k1 l0 (l0.length : Int) (wrap64 (x9_1 + 1)) bt173.1 bt173.2)) = some (r1, r2) := H; have A12 := Aside0.mk A120; clear A120; replace H := Option.bind_eq_some_iff.mp H; obtain ⟨⟨t173, t174⟩, A130, H⟩ := H; replace H : (sc_product.l0 k1 l0 (l0.length : Int) (wrap64 (x9_1 + 1)) t173 t174) = some (r1, r2) := H; have A13 := Aside0.mk A130; clear A130; have H' := Aside0.mk H; clear H; have p168 : 0 ≤ (x9_1 : Int) := of_decide_eq_true (by first | (with_reducible assumption) | assumption); have q168 : x9_1 < (l0.length : Int) := of_decide_eq_true (by first | (with_reducible assumption) | assumption); obtain ⟨ad168, e168, hx168_0⟩ := Kd.at_int HR0.out x9_1 p168 q168; cases e168; replace hx168_0 := (HB.out.cell (World.block_lt_of_cell? w _ hx168_0)).trans hx168_0; replace p168 := eq_true p168; replace q168 := eq_true q168
            try go_wp2
            have n0_ := Aside0.mk (Kd.V_drew HO_168001.out); have n1_ := Aside0.mk (pzG BK162.out); have n2_ := Aside0.mk (pzG BK167.out); have n3_ := Aside0.mk (pzC HB.out); clear HO_168001; clear BK162; clear BK167; clear HB; have HO_168001 := n0_; have BK162 := n1_; have BK167 := n2_; have HB := n3_; clear n0_ n1_ n2_ n3_; refine start_ (n := 5) (S := fun w' => w'.cell? ⟨gb167, 0, none⟩ = some (.bool x168000_1) ∧ w'.cell? ⟨gb167, 1, none⟩ = some (u168001)) (ds := [4]) #[false, false, false, false, false] (by kernel_rfl) rfl rfl ⟨(pzH BK167.out 0).trans rfl, (pzH BK167.out 1).trans rfl⟩ (fun hHeld => ?_)
            generalize wr.drew = w14 at HO_168001 BK162 BK167 HB hHeld ⊢
            refine pure_ (i := 1) (N := some 14) (v := ?_) (a' := ?_) #[false, true, false, false, false] rfl rfl (by kernel_rfl) (fun _ _ _ h => h) (Or.inl ⟨by rfl, ?_⟩) ?_ ?_
            rotate_left
            · intro w'
              go_simp
              with_reducible rfl
            rotate_left
            · simp only [Act.put, List.setIfInBounds_toArray, List.set_cons_zero, List.set_cons_succ, i64_w, i32_w]
              rfl
            refine take_ (i := 0) (N := some 13) (v := ?_) (a' := ?_) #[true, true, false, false, false] rfl rfl (by kernel_rfl) (fun _ _ _ h => h) (Or.inl ⟨by rfl, ?_⟩) hHeld ?_ ?_
            rotate_left
            · rintro w' ⟨s0, s1⟩
              go_simp
              with_reducible rfl
            rotate_left
            · simp only [Act.put, List.setIfInBounds_toArray, List.set_cons_zero, List.set_cons_succ, i64_w, i32_w]
              rfl
            refine one_ (i := 2) (N := some 15) #[true, true, true, false, false] rfl rfl (by kernel_rfl) (by decide) (fun K hK => ?_)
            refine goes_ Try.func71 (by kernel_rfl) rfl #[.int .i64 (rd l0 x9_1)] (by rfl) rfl rfl (by (try simp only [List.map_toArray, List.map_cons, List.map_nil]); first | done | rfl | (simp only [List.length_drop, List.length_take]; rfl)) ?_
            with_reducible refine (integer_Small.calls (rd l0 x9_1) t169 t170 _ A12.out).mono ?_
            rintro e w15 ⟨v171, rfl, ho0, hb⟩; refine ⟨_, rfl, ?_⟩; have n0_ := Aside0.mk (Kd.V_below (by (with_reducible repeat (first | apply Kd.V_alloc | apply Kd.V_drewN | apply Kd.V_drew)); exact HO_168001.out) hb); have n1_ := Aside0.mk (Kd.V_lower (Kd.V_mono (ok' := fun k_ => (w.heap.size ≤ k_) ∧ k_ ≠ gb162 ∧ k_ ≠ gb167) ho0 (fun k_ hk_ => ⟨(Nat.le_trans (pzJ (by repeat (first | (with_reducible first | exact HB.out | apply pzB | apply pzA | apply pzC | refine pzD ?_ GE162.out | refine pzD ?_ GE167.out) | exact HB.out))) hk_), (Kd.freshB (g := gb162) (o := .cells #[.bool false, .slice none 0 0] 24 (0, 0)) (by (with_reducible repeat (first | refine pzF ?_ _ | refine pzG ?_ | refine pzE ?_ _)); exact BK162.out) k_ hk_), (Kd.freshB (g := gb167) (o := .cells #[.bool x168000_1, u168001] 24 (0, 0)) (by (with_reducible repeat (first | refine pzF ?_ _ | refine pzG ?_ | refine pzE ?_ _)); exact BK167.out) k_ hk_)⟩)) (pzJ (by repeat (first | (with_reducible first | exact HB.out | apply pzB | apply pzA | apply pzC | refine pzD ?_ GE162.out | refine pzD ?_ GE167.out) | exact HB.out)))); have n2_ := Aside0.mk (pzI (g := gb162) (o := .cells #[.bool false, .slice none 0 0] 24 (0, 0)) (by (with_reducible repeat (first | refine pzF ?_ _ | refine pzG ?_ | refine pzE ?_ _)); exact BK162.out) hb); have n3_ := Aside0.mk (pzI (g := gb167) (o := .cells #[.bool x168000_1, u168001] 24 (0, 0)) (by (with_reducible repeat (first | refine pzF ?_ _ | refine pzG ?_ | refine pzE ?_ _)); exact BK167.out) hb); have n4_ := Aside0.mk (pzL (by repeat (first | (with_reducible first | exact HB.out | apply pzB | apply pzA | apply pzC | refine pzD ?_ GE162.out | refine pzD ?_ GE167.out) | exact HB.out)) hb); clear HO_168001; clear BK162; clear BK167; clear HB; have HO_168001 := n0_; have HO172 := n1_; have BK162 := n2_; have BK167 := n3_; have HB := n4_; clear n0_ n1_ n2_ n3_ n4_
            (try clear hb)
            (try clear hb2)
            (try clear hk)
            (try clear hi)
            (try clear ho0)
            obtain ⟨Ao16, co16, eo16⟩ := Kd.V_slice HO_168001.out
            (first | subst eo16 | (injection eo16 with f1_ f2_ f3_; have f4_ := f1_.symm; have f5_ := f3_.symm; clear f1_ f2_ f3_; subst f4_; subst f5_))
            obtain ⟨Ao17, co17, eo17⟩ := Kd.V_slice HO172.out
            (first | subst eo17 | (injection eo17 with f1_ f2_ f3_; have f4_ := f1_.symm; have f5_ := f3_.symm; clear f1_ f2_ f3_; subst f4_; subst f5_))
            refine hK.out _ _ ⟨(pzH BK167.out 0).trans rfl, (pzH BK167.out 1).trans rfl⟩ (fun hHeld => ?_); clear hK K
            refine norm_ (a' := ?_) ?_ ?_
            rotate_left
            · show Act.put _ (some 15) _ = _
              simp only [Act.put, List.setIfInBounds_toArray, List.set_cons_zero, List.set_cons_succ, i64_w, i32_w]
              rfl
            refine one_ (i := 3) (N := some 16) #[true, true, true, true, false] rfl rfl (by kernel_rfl) (by decide) (fun K hK => ?_)
            refine goes_ Try.func96 (by kernel_rfl) rfl #[.agg #[.bool x168000_1, .slice Ao16 x168001_1.length co16], .agg #[.bool t169, .slice Ao17 t170.length co17]] (by rfl) rfl rfl (by (try simp only [List.map_toArray, List.map_cons, List.map_nil]); first | done | rfl | (simp only [List.length_drop, List.length_take]; rfl)) ?_
            with_reducible refine (integer_Mul.calls k1 x168000_1 (fun k_ => ((w.heap.size ≤ k_) ∧ (k_ ≠ gb162 ∧ k_ ≠ gb167))) _ _ x168001_1 t169 (fun k_ => ((w.heap.size ≤ k_) ∧ (k_ ≠ gb162 ∧ k_ ≠ gb167))) _ _ t170 t173 t174 _ ?side1 ?side2 A13.out).mono ?_
            (case side1 => exact HO_168001.out)
            (case side2 => exact HO172.out)
            rintro e w18 ⟨v175, rfl, ho0, hb⟩; refine ⟨_, rfl, ?_⟩; have n0_ := Aside0.mk (Kd.V_below (by (with_reducible repeat (first | apply Kd.V_alloc | apply Kd.V_drewN | apply Kd.V_drew)); exact HO_168001.out) hb); have n1_ := Aside0.mk (Kd.V_below (by (with_reducible repeat (first | apply Kd.V_alloc | apply Kd.V_drewN | apply Kd.V_drew)); exact HO172.out) hb); have n2_ := Aside0.mk (Kd.V_lower (Kd.V_mono (ok' := fun k_ => (w.heap.size ≤ k_) ∧ k_ ≠ gb162 ∧ k_ ≠ gb167) ho0 (fun k_ hk_ => ⟨Or.elim hk_ (fun hs_ => Or.elim hs_ (fun hs_ => hs_.1) (fun hs_ => hs_.1)) (fun hn_ => (Nat.le_trans (pzJ (by repeat (first | (with_reducible first | exact HB.out | apply pzB | apply pzA | apply pzC | refine pzD ?_ GE162.out | refine pzD ?_ GE167.out) | exact HB.out))) hn_)), Or.elim hk_ (fun hs_ => Or.elim hs_ (fun hs_ => hs_.2.1) (fun hs_ => hs_.2.1)) (fun hn_ => (Kd.freshB (g := gb162) (o := .cells #[.bool false, .slice none 0 0] 24 (0, 0)) (by (with_reducible repeat (first | refine pzF ?_ _ | refine pzG ?_ | refine pzE ?_ _)); exact BK162.out) k_ hn_)), Or.elim hk_ (fun hs_ => Or.elim hs_ (fun hs_ => hs_.2.2) (fun hs_ => hs_.2.2)) (fun hn_ => (Kd.freshB (g := gb167) (o := .cells #[.bool x168000_1, .slice Ao16 x168001_1.length co16] 24 (0, 0)) (by (with_reducible repeat (first | refine pzF ?_ _ | refine pzG ?_ | refine pzE ?_ _)); exact BK167.out) k_ hn_))⟩)) (pzJ (by repeat (first | (with_reducible first | exact HB.out | apply pzB | apply pzA | apply pzC | refine pzD ?_ GE162.out | refine pzD ?_ GE167.out) | exact HB.out)))); have n3_ := Aside0.mk (pzI (g := gb162) (o := .cells #[.bool false, .slice none 0 0] 24 (0, 0)) (by (with_reducible repeat (first | refine pzF ?_ _ | refine pzG ?_ | refine pzE ?_ _)); exact BK162.out) hb); have n4_ := Aside0.mk (pzI (g := gb167) (o := .cells #[.bool x168000_1, .slice Ao16 x168001_1.length co16] 24 (0, 0)) (by (with_reducible repeat (first | refine pzF ?_ _ | refine pzG ?_ | refine pzE ?_ _)); exact BK167.out) hb); have n5_ := Aside0.mk (pzL (by repeat (first | (with_reducible first | exact HB.out | apply pzB | apply pzA | apply pzC | refine pzD ?_ GE162.out | refine pzD ?_ GE167.out) | exact HB.out)) hb); clear HO_168001; clear HO172; clear BK162; clear BK167; clear HB; have HO_168001 := n0_; have HO172 := n1_; have HO176 := n2_; have BK162 := n3_; have BK167 := n4_; have HB := n5_; clear n0_ n1_ n2_ n3_ n4_ n5_
            (try clear hb)
            (try clear hb2)
            (try clear hk)
            (try clear hi)
            (try clear ho0)
            obtain ⟨Ao20, co20, eo20⟩ := Kd.V_slice HO176.out
            (first | subst eo20 | (injection eo20 with f1_ f2_ f3_; have f4_ := f1_.symm; have f5_ := f3_.symm; clear f1_ f2_ f3_; subst f4_; subst f5_))
            refine hK.out _ _ ⟨(pzH BK167.out 0).trans rfl, (pzH BK167.out 1).trans rfl⟩ (fun hHeld => ?_); clear hK K
            refine norm_ (a' := ?_) ?_ ?_
            rotate_left
            · show Act.put _ (some 16) _ = _
              simp only [Act.put, List.setIfInBounds_toArray, List.set_cons_zero, List.set_cons_succ, i64_w, i32_w]
              rfl
            refine last_ (i := 4) (N := none) #[true, true, true, true, true] rfl rfl (by kernel_rfl) (by decide) (fun K hK => ?_); have hs19 : w18.cell? ⟨gb167, 0, none⟩ = some (.bool x168000_1) := (pzH BK167.out 0).trans rfl; have hfs19 := pzK BK167.out 0; have hns19_0 := NB162_167.out; have hms19_0 := NB167_162.out; have hs21 : w18.cell? ⟨gb167, 1, none⟩ = some (.slice Ao16 x168001_1.length co16) := (pzH BK167.out 1).trans rfl; have hfs21 := pzK BK167.out 1; have hns21_0 := NB162_167.out; have hms21_0 := NB167_162.out
            refine skip_ (w1 := ?_) (by rfl) rfl ?_ ?_
            rotate_left
            · go_simp
              rfl
            refine hK.out _ _ ?_
            clear hK K
            refine done_ (by kernel_rfl) ?_
            try go_wp2
            go_roundg k1
            case measure => have := HK1.out; omega
            case rel => exact ⟨(wrap64 (x9_1 + 1)), (t173), (t174), (.slice Ao20 t174.length co20), (by first | rfl | (simp; done) | (simp [*]; done)), H', ⟨by have := HK1.out; omega⟩, ⟨by (with_reducible repeat (first | apply Kd.V_alloc | apply Kd.V_drewN | apply Kd.V_drew)); exact Kd.V_mono (Kd.V_far (p := ⟨gb167, 1, none⟩) (Kd.V_far (p := ⟨gb167, 0, none⟩) (Kd.V_mono HO176.out (fun k_ hk => (⟨hk, hk.2.2⟩ : _ ∧ k_ ≠ gb167))) (fun _ hk => hk.2) (.bool t173)) (fun _ hk => hk.2) (.slice Ao20 t174.length co20)) (fun _ hk => ⟨hk.1.1, ⟨hk.1.2.1, hk.1.2.2⟩⟩)⟩, ⟨by (with_reducible repeat (first | refine pzF ?_ _ | refine pzG ?_ | refine pzE ?_ _)); refine pyF ?_ NB162_167.out _; (with_reducible repeat (first | refine pzF ?_ _ | refine pzG ?_ | refine pzE ?_ _)); refine pyF ?_ NB162_167.out _; (with_reducible repeat (first | refine pzF ?_ _ | refine pzG ?_ | refine pzE ?_ _)); exact BK162.out⟩, ⟨by (with_reducible repeat (first | refine pzF ?_ _ | refine pzG ?_ | refine pzE ?_ _)); refine pyC (cs := #[.bool t173, .slice Ao16 x168001_1.length co16]) ?_ 1 _ rfl; (with_reducible repeat (first | refine pzF ?_ _ | refine pzG ?_ | refine pzE ?_ _)); refine pyC (cs := #[.bool x168000_1, .slice Ao16 x168001_1.length co16]) ?_ 0 _ rfl; (with_reducible repeat (first | refine pzF ?_ _ | refine pzG ?_ | refine pzE ?_ _)); exact BK167.out⟩, ⟨by repeat (first | (with_reducible first | exact HB.out | apply pzB | apply pzA | apply pzC | refine pzD ?_ GE162.out | refine pzD ?_ GE167.out) | exact HB.out)⟩⟩
          · rw [if_neg c11] at H
            exact absurd H (by simp)
        · rw [if_neg c10] at H
          exact absurd H (by simp)
      · rw [if_neg c9] at H
        have c9b0 : decide (x9_1 < (l0.length : Int)) = false := decide_eq_false c9; clear c9
        simp only [Option.some.injEq, Prod.mk.injEq] at H
        obtain ⟨rfl, rfl⟩ := H; have hnb22 := NB167_162.out; have hnc22 := NB162_167.out; have hcz23_0 : wr.cell? ⟨gb167, 0, none⟩ = some (.bool x168000_1) := (pzH BK167.out 0).trans rfl; have hcz23_1 : wr.cell? ⟨gb167, 1, none⟩ = some (u168001) := (pzH BK167.out 1).trans rfl; have hfz23_0 := pzK BK167.out 0; have hfz23_1 := pzK BK167.out 1; have hcz24_0 : wr.cell? ⟨gb162, 0, none⟩ = some (.bool false) := (pzH BK162.out 0).trans rfl; have hcz24_1 : wr.cell? ⟨gb162, 1, none⟩ = some (.slice none 0 0) := (pzH BK162.out 1).trans rfl; have hfz24_0 := pzK BK162.out 0; have hfz24_1 := pzK BK162.out 1; obtain ⟨Ao25, co25, eo25⟩ := Kd.V_slice HO_168001.out; subst eo25
        go_wp2
        refine bodyPost_ret (results_cell_row rfl _ _ gb162 24 #[.bool x168000_1, .slice Ao25 x168001_1.length co25] (0, 0) _ rfl (by (with_reducible repeat (first | refine pzF ?_ _ | refine pzG ?_ | refine pzE ?_ _)); refine pyC (cs := #[.bool x168000_1, .slice none 0 0]) ?_ 1 _ rfl; (with_reducible repeat (first | refine pzF ?_ _ | refine pzG ?_ | refine pzE ?_ _)); refine pyC (cs := #[.bool false, .slice none 0 0]) ?_ 0 _ rfl; (with_reducible repeat (first | refine pzF ?_ _ | refine pzG ?_ | refine pzE ?_ _)); exact BK162.out) Try.underlying24 rfl (by kernel_rfl)) rfl ?_
        exact ⟨_, by first | rfl | (simp [pzN, pzM] <;> rfl) | (simp [*, pzN, pzM] <;> rfl), by (with_reducible repeat (first | apply Kd.V_alloc | apply Kd.V_drewN | apply Kd.V_drew)); exact Kd.V_mono (Kd.V_far (p := ⟨gb162, 1, none⟩) (Kd.V_far (p := ⟨gb162, 0, none⟩) (Kd.V_mono HO_168001.out (fun k_ hk => (⟨hk, hk.2.1⟩ : _ ∧ k_ ≠ gb162))) (fun _ hk => hk.2) (.bool x168000_1)) (fun _ hk => hk.2) (.slice Ao25 x168001_1.length co25)) (fun _ hk => hk.1.1), by repeat (first | (with_reducible first | exact HB.out | apply pzB | apply pzA | apply pzC | refine pzD ?_ GE162.out | refine pzD ?_ GE167.out) | exact HB.out)⟩
end Go.Proofs.Ytpkgckccfanchaa.M

namespace Go.Proofs.Ytpkgckccfanchaa.M
open Go.RowKit YtpkgckccfanchaaW.PrintWords YtpkgckccfanchaaW.PrintLast YtpkgckccfanchaaW.PrintMore
open Sims
set_option linter.unusedVariables false
set_option linter.unusedSimpArgs false
def lensF (ls : List Lv) : List Int := ls.map (fun l => (l.reps.length : Int))
theorem lensF_take (ls : List Lv) {j : Nat} {l : Lv} (h : ls[j]? = some l) : lensF (ls.take (j + 1)) = lensF (ls.take j) ++ [(l.reps.length : Int)] := by
  obtain ⟨h1, h2⟩ := List.getElem?_eq_some_iff.1 h
  unfold lensF
  rw [List.take_succ_eq_append_getElem h1, h2, List.map_append]
  rfl
theorem lensF_length (ls : List Lv) : (lensF ls).length = ls.length := by simp [lensF]
set_option maxHeartbeats 4000000 in
set_option maxRecDepth 100000 in
theorem lengths_calls {w : World} {B g n : Nat} {PB : Nat → Prop} {av : Value} {cs : List LC} {ls : List Lv} (hG : GrAt w B PB g n av cs ls) (hln : ls.length ≤ 1000000) :
    Calls Try.prog 64 #[.pointer (some ⟨g, 0, none⟩)] w fun e w' => ∃ v, e = .returned v ∧ Kd.R (Kd.int .i64) 3 w' w.heap.size (fun _ => True) v (lensF ls) ∧ Below w.heap.size w w' := by
  obtain ⟨Aa, ca, rfl⟩ := own_slice hG.arr
  have hc1 : w.cell? ⟨g, 1, none⟩ = some (.slice Aa cs.length ca) := by simp [World.cell?, hG.cells]
  have HCL := Aside0.mk hG.len
  have HG := Aside0.mk hG
  obtain ⟨m, hm⟩ : ∃ m, cs.length = m := ⟨_, rfl⟩
  rw [hm] at hc1
  have HM := Aside0.mk hm
  have hmm : m ≤ 1000000 := by have := hG.len; omega
  have HBR := Aside0.mk (Below.refl w.heap.size w)
  clear hG hm hln
  go_enter Try.func64, Try.ntmps64
  go_wp2_with (fail)
  go_loopw [3, 11] (fun v i wr => ∃ j : Nat, i = .int .i64 j ∧ j ≤ m ∧ Aside0 (Kd.R (Kd.int .i64) 3 wr w.heap.size (fun _ => True) v (lensF (ls.take j))) ∧ Aside0 (Below w.heap.size w wr)) (fun _ i _ => m - (intOf i).toNat)
  case atStart => exact ⟨0, rfl, by omega, ⟨Kd.R_nil _ _ _ _ _⟩, HBR⟩
  case round =>
    clear HBR
    obtain ⟨j, rfl, hj, HO, HB⟩ := hrel
    by_cases hlt : j < m
    · obtain ⟨c, hcj⟩ : ∃ c, cs[j]? = some c := ⟨cs[j]'(by rw [HM.out]; exact hlt), List.getElem?_eq_getElem _⟩
      obtain ⟨l, hl, hlv⟩ := (HG.out.below HB.out).at_ hcj
      obtain ⟨-, ad, rfl, hcp⟩ := HG.out.ptr_at hcj
      have hcr := (HB.out.cell (World.block_lt_of_cell? w _ hcp)).trans hcp
      obtain ⟨-, -, hc2, -, -⟩ := hlv.cell
      obtain ⟨Ao, co, ho⟩ := own_slice hlv.orb
      have hdl : (dom l).length = l.reps.length := by simp [dom]
      rw [ho, hdl] at hc2
      have hlen : (lensF (ls.take j)).length = j := by rw [lensF_length, List.length_take]; have := HCL.out; have := HM.out; omega
      have hlt2 : (j : Int) < (m : Int) := by omega
      have HT := Aside0.mk (lensF_take ls hl)
      clear hl hlv hcp ho hdl hcj
      go_wp2_with ((with_reducible refine gate_builtin (b := .append) (xs := #[.tmp 15, .tmp 21]) rfl ?_); at_builtin; go_must (refine Kd.R_append (Kd.int .i64) (w0 := w) w.heap.size rfl (.tmp 15) (.tmp 21) 28 3 (.int .i64 0) 8 rfl Try.underlying28 info3 rfl (by decide) (by omega) u3 (lensF (ls.take j)) (l.reps.length : Int) [.int .i64 (l.reps.length : Int)] (fun _ => True) (fun _ => False) rfl rfl ?aP (fun _ hk => hk.elim) ?aF ?aO ?aB ?aS ?aL ?_); (case aP => go_must (exact rfl)); (case aB => go_must (exact HB.out)); (case aF => go_must (exact (fun _ _ => trivial))); (case aO => go_must (exact HO.out)); (case aS => go_must (exact pzJ HB.out)); (case aL => go_must (omega)); intro v1 w1 ho hb hg hat; go_must (rw [← HT.out] at ho); have ho2 := Aside0.mk ho; have hb2 := Aside0.mk hb; clear ho hb hg hat HO HB)
      go_roundw
      case rel => exact ⟨j + 1, by go_num, by omega, ho2, hb2⟩
      case measure => simp [intOf]; omega
    · obtain rfl : j = m := by omega
      clear hlt hj
      go_wp2_with (fail)
      go_ret
      have e1 : ls.take j = ls := List.take_of_length_le (by have := HM.out; have := HCL.out; omega)
      have ho := HO.out
      rw [e1] at ho
      exact ⟨_, rfl, ho, HB.out⟩
set_option maxHeartbeats 4000000 in
set_option maxRecDepth 100000 in
theorem order_calls {w : World} {B g n k : Nat} {PB : Nat → Prop} {av : Value} {cs : List LC} {ls : List Lv} {r1 : Bool} {r2 : List Int} (hG : GrAt w B PB g n av cs ls) (hln : ls.length ≤ 1000000) (h : sc_product.f k (lensF ls) = some (r1, r2)) :
    Calls Try.prog 49 #[.pointer (some ⟨g, 0, none⟩)] w fun e w' => ∃ v1_ : Value, e = .returned (.agg #[.bool r1, v1_]) ∧ Kd.V (Kd.int .u32) 98 w' w.heap.size (fun k_ => (w.heap.size ≤ k_)) v1_ r2 ∧ Below w.heap.size w w' := by
  have HG := Aside0.mk hG
  have H := Aside0.mk h
  clear hG h
  go_enter Try.func49, Try.ntmps49
  go_wp2_with (first | ((with_reducible refine pzQ (N := 2) rfl ?_); refine pzR ?hg (N := 2) ?hd (cs := #[.bool false, .slice none 0 0]) (t := 24) ?hr ?_; (case hd => rfl); (case hg => rfl); (case hr => first | (go_simp; done) | (go_simp; rfl)); intro gb hg w5 hbox hb; have GB := Aside0.mk hbox; have HB0 := Aside0.mk hb; have HGB : Aside0 (w.heap.size ≤ gb) := ⟨by rw [hg]; exact Nat.le_refl _⟩; clear hg hbox hb) | (go_at_call 64; (with_reducible refine (lengths_calls (HG.out.below HB0.out) hln).mono ?_); rintro e w6 ⟨v, rfl, hR, hb6⟩; obtain ⟨A6, c6, rfl, hl6, hC6⟩ := Kd.R_reads hR; have GB6 := Aside0.mk (pzI GB.out hb6); have HC6 := Aside0.mk hC6; have HL6 := Aside0.mk hl6; have HB6 := Aside0.mk hb6; clear hR hl6 hC6 hb6) | (go_at_call 68; (with_reducible refine (sc_product.calls k A6 c6 (lensF ls) r1 r2 w6 HC6.out HL6.out H.out).mono ?_); rintro e w7 ⟨v1, rfl, hV, hb7⟩; obtain ⟨A7, c7, rfl⟩ := Kd.V_slice hV; have GB7 := Aside0.mk (pzI GB6.out hb7); have hg0 := (pzH GB7.out 0).trans (show _ = some (Value.bool false) from rfl); have hg1 := (pzH GB7.out 1).trans (show _ = some (Value.slice none 0 0) from rfl); have hg2 := pzK GB7.out 0; have hg3 := pzK GB7.out 1; have HV7 := Aside0.mk hV; have HB7 := Aside0.mk hb7; clear hV hb7))
  have hs0 : w.heap.size ≤ w5.heap.size := HB0.out.size
  have hs6 : gb < w6.heap.size := pzO GB6.out
  refine bodyPost_ret (results_cell_row rfl _ _ gb 24 #[.bool r1, .slice A7 r2.length c7] (0, 0) _ rfl (by refine pyC (cs := #[.bool r1, .slice none 0 0]) ?_ 1 _ rfl; refine pyC (cs := #[.bool false, .slice none 0 0]) ?_ 0 _ rfl; exact GB7.out) Try.underlying24 rfl (by kernel_rfl)) rfl ?_
  refine ⟨_, rfl, ?_, ?_⟩
  · exact Kd.V_mono (Kd.V_far (p := ⟨gb, 1, none⟩) (Kd.V_far (p := ⟨gb, 0, none⟩) HV7.out (fun k hk e => by have e2 : k = gb := e; omega) (.bool r1)) (fun k hk e => by have e2 : k = gb := e; omega) _) (fun k hk => Nat.le_trans (Nat.le_trans hs0 HB6.out.size) hk)
  · exact pzD (pzD (pyD (pyD HB0.out hs0 HB6.out) (Nat.le_trans hs0 HB6.out.size) HB7.out) HGB.out) HGB.out
end Go.Proofs.Ytpkgckccfanchaa.M

namespace Go.Proofs.Ytpkgckccfanchaa.M
open Go.RowKit YtpkgckccfanchaaW.PrintWords YtpkgckccfanchaaW.PrintLast YtpkgckccfanchaaW.PrintMore
attribute [local go_sem] pzW pzX pzY pzZ pzS pzT pzU pzV
set_option linter.unusedVariables false
set_option linter.unusedSimpArgs false
def or8 (x : Int) (i : Nat) (v : Int) : Int := if (x / 64).toNat = i then bits BinOp.or .u64 v (IntKind.u64.wrap (2 ^ (x % 64).toNat)) else v
def pm_set_with.f (a0_0 a0_1 a0_2 a0_3 a0_4 a0_5 a0_6 a0_7 a1 : Int) : Option (Int × Int × Int × Int × Int × Int × Int × Int) := if 0 ≤ a1 ∧ a1 < 512 then some (or8 a1 0 a0_0, or8 a1 1 a0_1, or8 a1 2 a0_2, or8 a1 3 a0_3, or8 a1 4 a0_4, or8 a1 5 a0_5, or8 a1 6 a0_6, or8 a1 7 a0_7) else none
set_option maxHeartbeats 1000000 in
theorem pm_set_with.calls (a0_0 : Int) (a0_1 : Int) (a0_2 : Int) (a0_3 : Int) (a0_4 : Int) (a0_5 : Int) (a0_6 : Int) (a0_7 : Int) (a1 : Int) (r1 : Int) (r2 : Int) (r3 : Int) (r4 : Int) (r5 : Int) (r6 : Int) (r7 : Int) (r8 : Int) (w : World) (h : pm_set_with.f a0_0 a0_1 a0_2 a0_3 a0_4 a0_5 a0_6 a0_7 a1 = some (r1, r2, r3, r4, r5, r6, r7, r8)) :
    Calls Try.prog 110 #[.agg #[.int .u64 a0_0, .int .u64 a0_1, .int .u64 a0_2, .int .u64 a0_3, .int .u64 a0_4, .int .u64 a0_5, .int .u64 a0_6, .int .u64 a0_7], .int .i64 a1] w fun e w' => e = .returned (.agg #[.int .u64 r1, .int .u64 r2, .int .u64 r3, .int .u64 r4, .int .u64 r5, .int .u64 r6, .int .u64 r7, .int .u64 r8]) ∧ Below w.heap.size w w' := by
  unfold pm_set_with.f at h
  split at h
  case isFalse => simp at h
  case isTrue hx =>
  obtain ⟨h0, h1⟩ := hx; have hr := Option.some.inj h; clear h
  simp only [Prod.mk.injEq] at hr
  obtain ⟨rfl, rfl, rfl, rfl, rfl, rfl, rfl, rfl⟩ := hr
  have hs0 : 0 ≤ a1 % 64 := by omega
  have hs1 : a1 % 64 < 64 := by omega
  have hq : (a1 / 64).toNat = 0 ∨ (a1 / 64).toNat = 1 ∨ (a1 / 64).toNat = 2 ∨ (a1 / 64).toNat = 3 ∨ (a1 / 64).toNat = 4 ∨ (a1 / 64).toNat = 5 ∨ (a1 / 64).toNat = 6 ∨ (a1 / 64).toNat = 7 := by omega
  rcases hq with h | h | h | h | h | h | h | h
  all_goals
    simp only [or8, h, if_true, if_false, Nat.reduceEqDiff, reduceIte]
    go_enter Try.func110, Try.ntmps110
    go_wp2
    go_region
    go_wp2
    refine bodyPost_ret (v := .agg _) (by simp [results, Try.results110, go_sem]) rfl ⟨rfl, ?_⟩; exact pzC (pzB (pzB (Below.refl _ _) _) _)
end Go.Proofs.Ytpkgckccfanchaa.M

namespace Go.Proofs.Ytpkgckccfanchaa.M
open Go.RowKit YtpkgckccfanchaaW.PrintWords YtpkgckccfanchaaW.PrintLast YtpkgckccfanchaaW.PrintMore
attribute [local go_sem] pzW pzX pzY pzZ pzS pzT pzU pzV
set_option linter.unusedVariables false
set_option linter.unusedSimpArgs false
def pm_Valid.l0 : Nat → List Int → List Int → Int → Int → Int → Int → Int → Int → Int → Int → Int → Int → Option (Bool)
  | 0, _, _, _, _, _, _, _, _, _, _, _, _ => none
  | k + 1, x0, x6, x7, x8, x102000, x102001, x102002, x102003, x102004, x102005, x102006, x102007 => if x8 < x7 then (if 0 ≤ x8 then (if x8 < (x6.length : Int) then (if (x0.length : Int) > 512 then (some false) else (if (rd x6 x8) < 0 then (some false) else (if (rd x6 x8) ≥ (x0.length : Int) then (some false) else ((pm_set_has.f x102000 x102001 x102002 x102003 x102004 x102005 x102006 x102007 (rd x6 x8)).bind fun t103 => (if t103 = true then (some false) else ((pm_set_with.f x102000 x102001 x102002 x102003 x102004 x102005 x102006 x102007 (rd x6 x8)).bind fun bt104 => (pm_Valid.l0 k x0 x6 x7 (wrap64 (x8 + 1)) bt104.1 bt104.2.1 bt104.2.2.1 bt104.2.2.2.1 bt104.2.2.2.2.1 bt104.2.2.2.2.2.1 bt104.2.2.2.2.2.2.1 bt104.2.2.2.2.2.2.2))))))) else (none)) else (none)) else (some (decide ((x0.length : Int) > 0)))
def pm_Valid.f (k : Nat) (l0 : List Int) : Option (Bool) := pm_Valid.l0 k l0 l0 (l0.length : Int) 0 0 0 0 0 0 0 0 0
theorem pm_Valid.mono_l : ∀ k, (∀ y0 y1 y2 y3 y4 y5 y6 y7 y8 y9 y10 y11, LeO (pm_Valid.l0 k y0 y1 y2 y3 y4 y5 y6 y7 y8 y9 y10 y11) (pm_Valid.l0 (k + 1) y0 y1 y2 y3 y4 y5 y6 y7 y8 y9 y10 y11))
  | 0 => fun _ _ _ _ _ _ _ _ _ _ _ _ r h => by simp [pm_Valid.l0] at h
  | k + 1 => by
    have ih0 := pm_Valid.mono_l k
    · intro y0 y1 y2 y3 y4 y5 y6 y7 y8 y9 y10 y11
      unfold pm_Valid.l0
      repeat' first
      | (with_reducible exact ih0 _ _ _ _ _ _ _ _ _ _ _ _)
      | (with_reducible exact LeO.refl _)
      | (with_reducible exact LeO.none _)
      | (with_reducible refine LeO.ite ?_ ?_)
      | (with_reducible refine LeO.bind ?_ (fun _ => ?_))
      | exact ih0 _ _ _ _ _ _ _ _ _ _ _ _
      | exact LeO.none _
      | refine LeO.ite ?_ ?_
      | refine LeO.bind ?_ (fun _ => ?_)
theorem pm_Valid.mono : ∀ a0 k, LeO (pm_Valid.f k a0) (pm_Valid.f (k + 1) a0) := by
  intro a0 k; have ih0 := pm_Valid.mono_l k
  unfold pm_Valid.f
  repeat' first
      | (with_reducible exact ih0 _ _ _ _ _ _ _ _ _ _ _ _)
      | (with_reducible exact LeO.refl _)
      | (with_reducible exact LeO.none _)
      | (with_reducible refine LeO.ite ?_ ?_)
      | (with_reducible refine LeO.bind ?_ (fun _ => ?_))
      | exact ih0 _ _ _ _ _ _ _ _ _ _ _ _
      | exact LeO.none _
      | refine LeO.ite ?_ ?_
      | refine LeO.bind ?_ (fun _ => ?_)
set_option maxHeartbeats 8000000 in
set_option maxRecDepth 100000 in
theorem pm_Valid.calls (k : Nat) (A0 : Option Addr) (c0 : Nat) (l0 : List Int) (r : Bool) (w : World) (hr0 : Kd.C (Kd.int .i64) w A0 l0.length l0) (hc0 : l0.length ≤ c0) (h : pm_Valid.f k l0 = some r) :
    Calls Try.prog 91 #[.slice A0 l0.length c0] w fun e w' => e = .returned (.bool r) ∧ Below w.heap.size w w' := by
  have hu142 := Try.underlying142; have HR0 := Aside0.mk hr0; have HC0 := Aside0.mk hc0; clear hr0 hc0; have HB := Aside0.mk (Below.refl w.heap.size w); have H : (pm_Valid.l0 k l0 l0 (l0.length : Int) 0 0 0 0 0 0 0 0 0) = some r := h; clear h; have H' := Aside0.mk H; clear H
  go_enter Try.func91, Try.ntmps91
  go_wp2_with (first | ((with_reducible refine pzQ (N := 3) rfl ?_); (try (refine gate_guard (by rfl) ?_; dsimp only)); refine pzR ?hg (N := 3) ?hd (cs := #[.int .u64 0, .int .u64 0, .int .u64 0, .int .u64 0, .int .u64 0, .int .u64 0, .int .u64 0, .int .u64 0]) (t := 142) ?hr ?_; (case hd => rfl); (case hg => rfl); (case hr => first | (go_simp; done) | (go_simp; rfl)); intro gb101 hg w2 hbox hb; have n0_ := Aside0.mk (pzL (by repeat (first | (with_reducible first | exact HB.out | apply pzB | apply pzA | apply pzC) | exact HB.out)) hb); have n1_ := Aside0.mk (hbox); have n2_ := Aside0.mk ((by rw [hg]; exact (pzJ (by repeat (first | (with_reducible first | exact HB.out | apply pzB | apply pzA | apply pzC) | exact HB.out))) : w.heap.size ≤ gb101)); have n3_ := Aside0.mk ((by rw [hg]; exact (pzJ (by repeat (first | (with_reducible first | exact HB.out | apply pzB | apply pzA | apply pzC) | exact HB.out))) : w.heap.size ≤ gb101)); clear HB; have HB := n0_; have BK101 := n1_; have GW101 := n2_; have GE101 := n3_; clear n0_ n1_ n2_ n3_; clear hb hbox hg))
  go_loopg [8] k (fun kq v8 w' => ∃ (x8_1 : Int) (x102000_1 : Int) (x102001_1 : Int) (x102002_1 : Int) (x102003_1 : Int) (x102004_1 : Int) (x102005_1 : Int) (x102006_1 : Int) (x102007_1 : Int), v8 = .int .i64 x8_1 ∧ Aside0 (pm_Valid.l0 kq l0 l0 (l0.length : Int) x8_1 x102000_1 x102001_1 x102002_1 x102003_1 x102004_1 x102005_1 x102006_1 x102007_1 = some r) ∧ Aside0 (kq ≤ k) ∧ Aside0 (w'.heap[gb101]? = some (.cells #[.int .u64 x102000_1, .int .u64 x102001_1, .int .u64 x102002_1, .int .u64 x102003_1, .int .u64 x102004_1, .int .u64 x102005_1, .int .u64 x102006_1, .int .u64 x102007_1] 142 (0, 0))) ∧ Aside0 (Below w.heap.size w w'))
  case atStart => exact ⟨(0), (0), (0), (0), (0), (0), (0), (0), (0), (by first | rfl | (simp; done) | (simp [*]; done)), H', ⟨Nat.le_refl _⟩, ⟨by (with_reducible repeat (first | refine pzF ?_ _ | refine pzG ?_ | refine pzE ?_ _)); exact BK101.out⟩, ⟨by repeat (first | (with_reducible first | exact HB.out | apply pzB | apply pzA | apply pzC | refine pzD ?_ GE101.out) | exact HB.out)⟩⟩
  case round =>
    clear H'
    try clear p2
    obtain ⟨x8_1, x102000_1, x102001_1, x102002_1, x102003_1, x102004_1, x102005_1, x102006_1, x102007_1, rfl, HA, HK1, BK101, HB⟩ := hrel; cases gk with
    | zero => exact absurd HA.out (by simp [pm_Valid.l0])
    | succ k1 =>
      have H := HA.out; clear HA
      simp only [pm_Valid.l0] at H
      by_cases c3 : x8_1 < (l0.length : Int)
      · rw [if_pos c3] at H
        have c3b0 : decide (x8_1 < (l0.length : Int)) = true := decide_eq_true c3; clear c3
        by_cases c4 : 0 ≤ x8_1
        · rw [if_pos c4] at H
          have c4b0 : decide (0 ≤ x8_1) = true := decide_eq_true c4; clear c4
          by_cases c5 : x8_1 < (l0.length : Int)
          · rw [if_pos c5] at H
            have c5b0 : decide (x8_1 < (l0.length : Int)) = true := decide_eq_true c5; clear c5
            by_cases c6 : (l0.length : Int) > 512
            · rw [if_pos c6] at H
              have c6b0 : decide (512 < (l0.length : Int)) = true := decide_eq_true c6; have c6b1 : decide (512 < l0.length) = true := decide_eq_true (by omega); clear c6; obtain rfl := Option.some.inj H; have p102 : 0 ≤ (x8_1 : Int) := of_decide_eq_true (by first | (with_reducible assumption) | assumption); have q102 : x8_1 < (l0.length : Int) := of_decide_eq_true (by first | (with_reducible assumption) | assumption); obtain ⟨ad102, e102, hx102_0⟩ := Kd.at_int HR0.out x8_1 p102 q102; cases e102; replace hx102_0 := (HB.out.cell (World.block_lt_of_cell? w _ hx102_0)).trans hx102_0; replace p102 := eq_true p102; replace q102 := eq_true q102
              go_wp2
              go_ret
              exact ⟨by first | rfl | (simp [pzN, pzM] <;> rfl) | (simp [*, pzN, pzM] <;> rfl), by repeat (first | (with_reducible first | exact HB.out | apply pzB | apply pzA | apply pzC | refine pzD ?_ GE101.out) | exact HB.out)⟩
            · rw [if_neg c6] at H
              have c6b0 : decide (512 < (l0.length : Int)) = false := decide_eq_false c6; have c6b1 : decide (512 < l0.length) = false := decide_eq_false (by omega); clear c6
              by_cases c7 : (rd l0 x8_1) < 0
              · rw [if_pos c7] at H
                have c7b0 : decide ((rd l0 x8_1) < 0) = true := decide_eq_true c7; clear c7; obtain rfl := Option.some.inj H; have p102 : 0 ≤ (x8_1 : Int) := of_decide_eq_true (by first | (with_reducible assumption) | assumption); have q102 : x8_1 < (l0.length : Int) := of_decide_eq_true (by first | (with_reducible assumption) | assumption); obtain ⟨ad102, e102, hx102_0⟩ := Kd.at_int HR0.out x8_1 p102 q102; cases e102; replace hx102_0 := (HB.out.cell (World.block_lt_of_cell? w _ hx102_0)).trans hx102_0; replace p102 := eq_true p102; replace q102 := eq_true q102
                go_wp2
                go_ret
                exact ⟨by first | rfl | (simp [pzN, pzM] <;> rfl) | (simp [*, pzN, pzM] <;> rfl), by repeat (first | (with_reducible first | exact HB.out | apply pzB | apply pzA | apply pzC | refine pzD ?_ GE101.out) | exact HB.out)⟩
              · rw [if_neg c7] at H
                have c7b0 : decide ((rd l0 x8_1) < 0) = false := decide_eq_false c7; clear c7
                by_cases c8 : (rd l0 x8_1) ≥ (l0.length : Int)
                · rw [if_pos c8] at H
                  have c8b0 : decide ((l0.length : Int) ≤ (rd l0 x8_1)) = true := decide_eq_true c8; clear c8; obtain rfl := Option.some.inj H; have p102 : 0 ≤ (x8_1 : Int) := of_decide_eq_true (by first | (with_reducible assumption) | assumption); have q102 : x8_1 < (l0.length : Int) := of_decide_eq_true (by first | (with_reducible assumption) | assumption); obtain ⟨ad102, e102, hx102_0⟩ := Kd.at_int HR0.out x8_1 p102 q102; cases e102; replace hx102_0 := (HB.out.cell (World.block_lt_of_cell? w _ hx102_0)).trans hx102_0; replace p102 := eq_true p102; replace q102 := eq_true q102
                  go_wp2
                  go_ret
                  exact ⟨by first | rfl | (simp [pzN, pzM] <;> rfl) | (simp [*, pzN, pzM] <;> rfl), by repeat (first | (with_reducible first | exact HB.out | apply pzB | apply pzA | apply pzC | refine pzD ?_ GE101.out) | exact HB.out)⟩
                · rw [if_neg c8] at H
                  have c8b0 : decide ((l0.length : Int) ≤ (rd l0 x8_1)) = false := decide_eq_false c8; clear c8; replace H := Option.bind_eq_some_iff.mp H; obtain ⟨t103, A90, H⟩ := H; replace H : (if t103 = true then (some false) else ((pm_set_with.f x102000_1 x102001_1 x102002_1 x102003_1 x102004_1 x102005_1 x102006_1 x102007_1 (rd l0 x8_1)).bind fun bt104 => (pm_Valid.l0 k1 l0 l0 (l0.length : Int) (wrap64 (x8_1 + 1)) bt104.1 bt104.2.1 bt104.2.2.1 bt104.2.2.2.1 bt104.2.2.2.2.1 bt104.2.2.2.2.2.1 bt104.2.2.2.2.2.2.1 bt104.2.2.2.2.2.2.2))) = some r := H; have A9 := Aside0.mk A90; clear A90
                  by_cases c10 : t103 = true
                  · subst c10
                    have H1 : (some false) = some r := by rw [if_pos rfl] at H; exact H
                    clear H; have H := H1; clear H1; obtain rfl := Option.some.inj H; have p102 : 0 ≤ (x8_1 : Int) := of_decide_eq_true (by first | (with_reducible assumption) | assumption); have q102 : x8_1 < (l0.length : Int) := of_decide_eq_true (by first | (with_reducible assumption) | assumption); obtain ⟨ad102, e102, hx102_0⟩ := Kd.at_int HR0.out x8_1 p102 q102; cases e102; replace hx102_0 := (HB.out.cell (World.block_lt_of_cell? w _ hx102_0)).trans hx102_0; replace p102 := eq_true p102; replace q102 := eq_true q102; have hcz11_0 : wr.cell? ⟨gb101, 0, none⟩ = some (.int .u64 x102000_1) := (pzH BK101.out 0).trans rfl; have hcz11_1 : wr.cell? ⟨gb101, 1, none⟩ = some (.int .u64 x102001_1) := (pzH BK101.out 1).trans rfl; have hcz11_2 : wr.cell? ⟨gb101, 2, none⟩ = some (.int .u64 x102002_1) := (pzH BK101.out 2).trans rfl; have hcz11_3 : wr.cell? ⟨gb101, 3, none⟩ = some (.int .u64 x102003_1) := (pzH BK101.out 3).trans rfl; have hcz11_4 : wr.cell? ⟨gb101, 4, none⟩ = some (.int .u64 x102004_1) := (pzH BK101.out 4).trans rfl; have hcz11_5 : wr.cell? ⟨gb101, 5, none⟩ = some (.int .u64 x102005_1) := (pzH BK101.out 5).trans rfl; have hcz11_6 : wr.cell? ⟨gb101, 6, none⟩ = some (.int .u64 x102006_1) := (pzH BK101.out 6).trans rfl; have hcz11_7 : wr.cell? ⟨gb101, 7, none⟩ = some (.int .u64 x102007_1) := (pzH BK101.out 7).trans rfl; have hfz11_0 := pzK BK101.out 0; have hfz11_1 := pzK BK101.out 1; have hfz11_2 := pzK BK101.out 2; have hfz11_3 := pzK BK101.out 3; have hfz11_4 := pzK BK101.out 4; have hfz11_5 := pzK BK101.out 5; have hfz11_6 := pzK BK101.out 6; have hfz11_7 := pzK BK101.out 7
                    go_wp2_with (first | (go_at_call 109; (with_reducible refine (pm_set_has.calls x102000_1 x102001_1 x102002_1 x102003_1 x102004_1 x102005_1 x102006_1 x102007_1 (rd l0 x8_1) true _ A9.out).mono ?_); rintro e w12 ⟨rfl, hb⟩; have n0_ := Aside0.mk (pzI (g := gb101) (o := .cells #[.int .u64 x102000_1, .int .u64 x102001_1, .int .u64 x102002_1, .int .u64 x102003_1, .int .u64 x102004_1, .int .u64 x102005_1, .int .u64 x102006_1, .int .u64 x102007_1] 142 (0, 0)) (by (with_reducible repeat (first | refine pzF ?_ _ | refine pzG ?_ | refine pzE ?_ _)); exact BK101.out) hb); have n1_ := Aside0.mk (pzL (by repeat (first | (with_reducible first | exact HB.out | apply pzB | apply pzA | apply pzC | refine pzD ?_ GE101.out) | exact HB.out)) hb); clear BK101; clear HB; have BK101 := n0_; have HB := n1_; clear n0_ n1_; (try clear hb); (try clear hb2); (try clear hk); (try clear hi)))
                    go_ret
                    exact ⟨by first | rfl | (simp [pzN, pzM] <;> rfl) | (simp [*, pzN, pzM] <;> rfl), by repeat (first | (with_reducible first | exact HB.out | apply pzB | apply pzA | apply pzC | refine pzD ?_ GE101.out) | exact HB.out)⟩
                  · replace c10 := Bool.eq_false_iff.mpr c10
                    subst c10
                    have H1 : ((pm_set_with.f x102000_1 x102001_1 x102002_1 x102003_1 x102004_1 x102005_1 x102006_1 x102007_1 (rd l0 x8_1)).bind fun bt104 => (pm_Valid.l0 k1 l0 l0 (l0.length : Int) (wrap64 (x8_1 + 1)) bt104.1 bt104.2.1 bt104.2.2.1 bt104.2.2.2.1 bt104.2.2.2.2.1 bt104.2.2.2.2.2.1 bt104.2.2.2.2.2.2.1 bt104.2.2.2.2.2.2.2)) = some r := by rw [if_neg (show ¬ (false = true) by decide)] at H; exact H
                    clear H; have H := H1; clear H1; replace H := Option.bind_eq_some_iff.mp H; obtain ⟨⟨t104, t105, t106, t107, t108, t109, t110, t111⟩, A130, H⟩ := H; replace H : (pm_Valid.l0 k1 l0 l0 (l0.length : Int) (wrap64 (x8_1 + 1)) t104 t105 t106 t107 t108 t109 t110 t111) = some r := H; have A13 := Aside0.mk A130; clear A130; have H' := Aside0.mk H; clear H; have p102 : 0 ≤ (x8_1 : Int) := of_decide_eq_true (by first | (with_reducible assumption) | assumption); have q102 : x8_1 < (l0.length : Int) := of_decide_eq_true (by first | (with_reducible assumption) | assumption); obtain ⟨ad102, e102, hx102_0⟩ := Kd.at_int HR0.out x8_1 p102 q102; cases e102; replace hx102_0 := (HB.out.cell (World.block_lt_of_cell? w _ hx102_0)).trans hx102_0; replace p102 := eq_true p102; replace q102 := eq_true q102; have hcz14_0 : wr.cell? ⟨gb101, 0, none⟩ = some (.int .u64 x102000_1) := (pzH BK101.out 0).trans rfl; have hcz14_1 : wr.cell? ⟨gb101, 1, none⟩ = some (.int .u64 x102001_1) := (pzH BK101.out 1).trans rfl; have hcz14_2 : wr.cell? ⟨gb101, 2, none⟩ = some (.int .u64 x102002_1) := (pzH BK101.out 2).trans rfl; have hcz14_3 : wr.cell? ⟨gb101, 3, none⟩ = some (.int .u64 x102003_1) := (pzH BK101.out 3).trans rfl; have hcz14_4 : wr.cell? ⟨gb101, 4, none⟩ = some (.int .u64 x102004_1) := (pzH BK101.out 4).trans rfl; have hcz14_5 : wr.cell? ⟨gb101, 5, none⟩ = some (.int .u64 x102005_1) := (pzH BK101.out 5).trans rfl; have hcz14_6 : wr.cell? ⟨gb101, 6, none⟩ = some (.int .u64 x102006_1) := (pzH BK101.out 6).trans rfl; have hcz14_7 : wr.cell? ⟨gb101, 7, none⟩ = some (.int .u64 x102007_1) := (pzH BK101.out 7).trans rfl; have hfz14_0 := pzK BK101.out 0; have hfz14_1 := pzK BK101.out 1; have hfz14_2 := pzK BK101.out 2; have hfz14_3 := pzK BK101.out 3; have hfz14_4 := pzK BK101.out 4; have hfz14_5 := pzK BK101.out 5; have hfz14_6 := pzK BK101.out 6; have hfz14_7 := pzK BK101.out 7
                    go_wp2_with (first | (go_at_call 109; (with_reducible refine (pm_set_has.calls x102000_1 x102001_1 x102002_1 x102003_1 x102004_1 x102005_1 x102006_1 x102007_1 (rd l0 x8_1) false _ A9.out).mono ?_); rintro e w15 ⟨rfl, hb⟩; have n0_ := Aside0.mk (pzI (g := gb101) (o := .cells #[.int .u64 x102000_1, .int .u64 x102001_1, .int .u64 x102002_1, .int .u64 x102003_1, .int .u64 x102004_1, .int .u64 x102005_1, .int .u64 x102006_1, .int .u64 x102007_1] 142 (0, 0)) (by (with_reducible repeat (first | refine pzF ?_ _ | refine pzG ?_ | refine pzE ?_ _)); exact BK101.out) hb); have n1_ := Aside0.mk (pzL (by repeat (first | (with_reducible first | exact HB.out | apply pzB | apply pzA | apply pzC | refine pzD ?_ GE101.out) | exact HB.out)) hb); clear BK101; clear HB; have BK101 := n0_; have HB := n1_; clear n0_ n1_; (try clear hb); (try clear hb2); (try clear hk); (try clear hi); have hcz16_0 : w15.cell? ⟨gb101, 0, none⟩ = some (.int .u64 x102000_1) := (pzH BK101.out 0).trans rfl; have hcz16_1 : w15.cell? ⟨gb101, 1, none⟩ = some (.int .u64 x102001_1) := (pzH BK101.out 1).trans rfl; have hcz16_2 : w15.cell? ⟨gb101, 2, none⟩ = some (.int .u64 x102002_1) := (pzH BK101.out 2).trans rfl; have hcz16_3 : w15.cell? ⟨gb101, 3, none⟩ = some (.int .u64 x102003_1) := (pzH BK101.out 3).trans rfl; have hcz16_4 : w15.cell? ⟨gb101, 4, none⟩ = some (.int .u64 x102004_1) := (pzH BK101.out 4).trans rfl; have hcz16_5 : w15.cell? ⟨gb101, 5, none⟩ = some (.int .u64 x102005_1) := (pzH BK101.out 5).trans rfl; have hcz16_6 : w15.cell? ⟨gb101, 6, none⟩ = some (.int .u64 x102006_1) := (pzH BK101.out 6).trans rfl; have hcz16_7 : w15.cell? ⟨gb101, 7, none⟩ = some (.int .u64 x102007_1) := (pzH BK101.out 7).trans rfl; have hfz16_0 := pzK BK101.out 0; have hfz16_1 := pzK BK101.out 1; have hfz16_2 := pzK BK101.out 2; have hfz16_3 := pzK BK101.out 3; have hfz16_4 := pzK BK101.out 4; have hfz16_5 := pzK BK101.out 5; have hfz16_6 := pzK BK101.out 6; have hfz16_7 := pzK BK101.out 7) | ((with_reducible refine pzP (f := 110) rfl ?_); refine pyH (some 32) rfl rfl Try.func110 (by kernel_rfl) rfl #[.agg #[.int .u64 x102000_1, .int .u64 x102001_1, .int .u64 x102002_1, .int .u64 x102003_1, .int .u64 x102004_1, .int .u64 x102005_1, .int .u64 x102006_1, .int .u64 x102007_1], .int .i64 (rd l0 x8_1)] rfl (by (try simp only [List.map_toArray, List.map_cons, List.map_nil]); first | done | rfl | (simp only [List.length_drop, List.length_take]; rfl)) ?_; (with_reducible refine (pm_set_with.calls x102000_1 x102001_1 x102002_1 x102003_1 x102004_1 x102005_1 x102006_1 x102007_1 (rd l0 x8_1) t104 t105 t106 t107 t108 t109 t110 t111 _ A13.out).mono ?_); rintro e w17 ⟨rfl, hb⟩; refine ⟨_, rfl, ?_⟩; have n0_ := Aside0.mk (pzI (g := gb101) (o := .cells #[.int .u64 x102000_1, .int .u64 x102001_1, .int .u64 x102002_1, .int .u64 x102003_1, .int .u64 x102004_1, .int .u64 x102005_1, .int .u64 x102006_1, .int .u64 x102007_1] 142 (0, 0)) (by (with_reducible repeat (first | refine pzF ?_ _ | refine pzG ?_ | refine pzE ?_ _)); exact BK101.out) hb); have n1_ := Aside0.mk (pzL (by repeat (first | (with_reducible first | exact HB.out | apply pzB | apply pzA | apply pzC | refine pzD ?_ GE101.out) | exact HB.out)) hb); clear BK101; clear HB; have BK101 := n0_; have HB := n1_; clear n0_ n1_; (try clear hb); (try clear hb2); (try clear hk); (try clear hi); have hcz18_0 : w17.cell? ⟨gb101, 0, none⟩ = some (.int .u64 x102000_1) := (pzH BK101.out 0).trans rfl; have hcz18_1 : w17.cell? ⟨gb101, 1, none⟩ = some (.int .u64 x102001_1) := (pzH BK101.out 1).trans rfl; have hcz18_2 : w17.cell? ⟨gb101, 2, none⟩ = some (.int .u64 x102002_1) := (pzH BK101.out 2).trans rfl; have hcz18_3 : w17.cell? ⟨gb101, 3, none⟩ = some (.int .u64 x102003_1) := (pzH BK101.out 3).trans rfl; have hcz18_4 : w17.cell? ⟨gb101, 4, none⟩ = some (.int .u64 x102004_1) := (pzH BK101.out 4).trans rfl; have hcz18_5 : w17.cell? ⟨gb101, 5, none⟩ = some (.int .u64 x102005_1) := (pzH BK101.out 5).trans rfl; have hcz18_6 : w17.cell? ⟨gb101, 6, none⟩ = some (.int .u64 x102006_1) := (pzH BK101.out 6).trans rfl; have hcz18_7 : w17.cell? ⟨gb101, 7, none⟩ = some (.int .u64 x102007_1) := (pzH BK101.out 7).trans rfl; have hfz18_0 := pzK BK101.out 0; have hfz18_1 := pzK BK101.out 1; have hfz18_2 := pzK BK101.out 2; have hfz18_3 := pzK BK101.out 3; have hfz18_4 := pzK BK101.out 4; have hfz18_5 := pzK BK101.out 5; have hfz18_6 := pzK BK101.out 6; have hfz18_7 := pzK BK101.out 7))
                    go_roundg k1
                    case measure => have := HK1.out; omega
                    case rel => exact ⟨(wrap64 (x8_1 + 1)), (t104), (t105), (t106), (t107), (t108), (t109), (t110), (t111), (by first | rfl | (simp; done) | (simp [*]; done)), H', ⟨by have := HK1.out; omega⟩, ⟨by (with_reducible repeat (first | refine pzF ?_ _ | refine pzG ?_ | refine pzE ?_ _)); refine pyC (cs := #[.int .u64 t104, .int .u64 t105, .int .u64 t106, .int .u64 t107, .int .u64 t108, .int .u64 t109, .int .u64 t110, .int .u64 x102007_1]) ?_ 7 _ rfl; (with_reducible repeat (first | refine pzF ?_ _ | refine pzG ?_ | refine pzE ?_ _)); refine pyC (cs := #[.int .u64 t104, .int .u64 t105, .int .u64 t106, .int .u64 t107, .int .u64 t108, .int .u64 t109, .int .u64 x102006_1, .int .u64 x102007_1]) ?_ 6 _ rfl; (with_reducible repeat (first | refine pzF ?_ _ | refine pzG ?_ | refine pzE ?_ _)); refine pyC (cs := #[.int .u64 t104, .int .u64 t105, .int .u64 t106, .int .u64 t107, .int .u64 t108, .int .u64 x102005_1, .int .u64 x102006_1, .int .u64 x102007_1]) ?_ 5 _ rfl; (with_reducible repeat (first | refine pzF ?_ _ | refine pzG ?_ | refine pzE ?_ _)); refine pyC (cs := #[.int .u64 t104, .int .u64 t105, .int .u64 t106, .int .u64 t107, .int .u64 x102004_1, .int .u64 x102005_1, .int .u64 x102006_1, .int .u64 x102007_1]) ?_ 4 _ rfl; (with_reducible repeat (first | refine pzF ?_ _ | refine pzG ?_ | refine pzE ?_ _)); refine pyC (cs := #[.int .u64 t104, .int .u64 t105, .int .u64 t106, .int .u64 x102003_1, .int .u64 x102004_1, .int .u64 x102005_1, .int .u64 x102006_1, .int .u64 x102007_1]) ?_ 3 _ rfl; (with_reducible repeat (first | refine pzF ?_ _ | refine pzG ?_ | refine pzE ?_ _)); refine pyC (cs := #[.int .u64 t104, .int .u64 t105, .int .u64 x102002_1, .int .u64 x102003_1, .int .u64 x102004_1, .int .u64 x102005_1, .int .u64 x102006_1, .int .u64 x102007_1]) ?_ 2 _ rfl; (with_reducible repeat (first | refine pzF ?_ _ | refine pzG ?_ | refine pzE ?_ _)); refine pyC (cs := #[.int .u64 t104, .int .u64 x102001_1, .int .u64 x102002_1, .int .u64 x102003_1, .int .u64 x102004_1, .int .u64 x102005_1, .int .u64 x102006_1, .int .u64 x102007_1]) ?_ 1 _ rfl; (with_reducible repeat (first | refine pzF ?_ _ | refine pzG ?_ | refine pzE ?_ _)); refine pyC (cs := #[.int .u64 x102000_1, .int .u64 x102001_1, .int .u64 x102002_1, .int .u64 x102003_1, .int .u64 x102004_1, .int .u64 x102005_1, .int .u64 x102006_1, .int .u64 x102007_1]) ?_ 0 _ rfl; (with_reducible repeat (first | refine pzF ?_ _ | refine pzG ?_ | refine pzE ?_ _)); exact BK101.out⟩, ⟨by repeat (first | (with_reducible first | exact HB.out | apply pzB | apply pzA | apply pzC | refine pzD ?_ GE101.out) | exact HB.out)⟩⟩
          · rw [if_neg c5] at H
            exact absurd H (by simp)
        · rw [if_neg c4] at H
          exact absurd H (by simp)
      · rw [if_neg c3] at H
        have c3b0 : decide (x8_1 < (l0.length : Int)) = false := decide_eq_false c3; clear c3; obtain rfl := Option.some.inj H
        go_wp2
        go_ret
        exact ⟨by first | rfl | (simp [pzN, pzM] <;> rfl) | (simp [*, pzN, pzM] <;> rfl), by repeat (first | (with_reducible first | exact HB.out | apply pzB | apply pzA | apply pzC | refine pzD ?_ GE101.out) | exact HB.out)⟩
end Go.Proofs.Ytpkgckccfanchaa.M

namespace Go.Proofs.Ytpkgckccfanchaa.M
open Go.RowKit YtpkgckccfanchaaW.PrintWords YtpkgckccfanchaaW.PrintLast YtpkgckccfanchaaW.PrintMore
attribute [local go_sem] pzW pzX pzY pzZ pzS pzT pzU pzV
set_option linter.unusedVariables false
set_option linter.unusedSimpArgs false
def sc_permutations.l0 : Nat → Int → List (List Int) → Int → Int → Option (Bool)
  | 0, _, _, _, _ => none
  | k + 1, x0, x7, x8, x9 => if x9 < x8 then (if 0 ≤ x9 then (if x9 < (x7.length : Int) then (if ((rd_L1 x7 x9).length : Int) = x0 then ((pm_Valid.f k (rd_L1 x7 x9)).bind fun t113 => (if t113 = true then (sc_permutations.l0 k x0 x7 x8 (wrap64 (x9 + 1))) else (some false))) else (some false)) else (none)) else (none)) else (some true)
def sc_permutations.f (k : Nat) (a0 : Int) (l1 : List (List Int)) : Option (Bool) := sc_permutations.l0 k a0 l1 (l1.length : Int) 0
theorem sc_permutations.mono_l : ∀ k, (∀ y0 y1 y2 y3, LeO (sc_permutations.l0 k y0 y1 y2 y3) (sc_permutations.l0 (k + 1) y0 y1 y2 y3))
  | 0 => fun _ _ _ _ r h => by simp [sc_permutations.l0] at h
  | k + 1 => by
    have ih0 := sc_permutations.mono_l k
    · intro y0 y1 y2 y3
      unfold sc_permutations.l0
      repeat' first
      | (with_reducible exact ih0 _ _ _ _)
      | (with_reducible exact pm_Valid.mono _ _)
      | (with_reducible exact LeO.refl _)
      | (with_reducible exact LeO.none _)
      | (with_reducible refine LeO.ite ?_ ?_)
      | (with_reducible refine LeO.bind ?_ (fun _ => ?_))
      | exact ih0 _ _ _ _
      | exact pm_Valid.mono _ _
      | exact LeO.none _
      | refine LeO.ite ?_ ?_
      | refine LeO.bind ?_ (fun _ => ?_)
theorem sc_permutations.mono : ∀ a0 a1 k, LeO (sc_permutations.f k a0 a1) (sc_permutations.f (k + 1) a0 a1) := by
  intro a0 a1 k; have ih0 := sc_permutations.mono_l k
  unfold sc_permutations.f
  repeat' first
      | (with_reducible exact ih0 _ _ _ _)
      | (with_reducible exact pm_Valid.mono _ _)
      | (with_reducible exact LeO.refl _)
      | (with_reducible exact LeO.none _)
      | (with_reducible refine LeO.ite ?_ ?_)
      | (with_reducible refine LeO.bind ?_ (fun _ => ?_))
      | exact ih0 _ _ _ _
      | exact pm_Valid.mono _ _
      | exact LeO.none _
      | refine LeO.ite ?_ ?_
      | refine LeO.bind ?_ (fun _ => ?_)
set_option maxHeartbeats 8000000 in
set_option maxRecDepth 100000 in
theorem sc_permutations.calls (k : Nat) (a0 : Int) (A1 : Option Addr) (c1 : Nat) (l1 : List (List Int)) (r : Bool) (w : World) (hr1 : Kd.C (Kd.slice 3 (Kd.int .i64)) w A1 l1.length l1) (hc1 : l1.length ≤ c1) (h : sc_permutations.f k a0 l1 = some r) :
    Calls Try.prog 55 #[.int .i64 a0, .slice A1 l1.length c1] w fun e w' => e = .returned (.bool r) ∧ Below w.heap.size w w' := by
  have HR1 := Aside0.mk hr1; have HC1 := Aside0.mk hc1; clear hr1 hc1; have HB := Aside0.mk (Below.refl w.heap.size w); have H : (sc_permutations.l0 k a0 l1 (l1.length : Int) 0) = some r := h; clear h; have H' := Aside0.mk H; clear H
  go_enter Try.func55, Try.ntmps55
  go_wp2
  go_loopg [9] k (fun kq v9 w' => ∃ (x9_1 : Int), v9 = .int .i64 x9_1 ∧ Aside0 (sc_permutations.l0 kq a0 l1 (l1.length : Int) x9_1 = some r) ∧ Aside0 (kq ≤ k) ∧ Aside0 (Below w.heap.size w w'))
  case atStart => exact ⟨(0), (by first | rfl | (simp; done) | (simp [*]; done)), H', ⟨Nat.le_refl _⟩, ⟨by repeat (first | (with_reducible first | exact HB.out | apply pzB | apply pzA | apply pzC) | exact HB.out)⟩⟩
  case round =>
    clear H'
    try clear c1
    try clear p2
    obtain ⟨x9_1, rfl, HA, HK1, HB⟩ := hrel; cases gk with
    | zero => exact absurd HA.out (by simp [sc_permutations.l0])
    | succ k1 =>
      have H := HA.out; clear HA
      simp only [sc_permutations.l0] at H
      by_cases c3 : x9_1 < (l1.length : Int)
      · rw [if_pos c3] at H
        have c3b0 : decide (x9_1 < (l1.length : Int)) = true := decide_eq_true c3; clear c3
        by_cases c4 : 0 ≤ x9_1
        · rw [if_pos c4] at H
          have c4b0 : decide (0 ≤ x9_1) = true := decide_eq_true c4; clear c4
          by_cases c5 : x9_1 < (l1.length : Int)
          · rw [if_pos c5] at H
            have c5b0 : decide (x9_1 < (l1.length : Int)) = true := decide_eq_true c5; clear c5
            by_cases c6 : ((rd_L1 l1 x9_1).length : Int) = a0
            · rw [if_pos c6] at H
              have c6b0 : (((rd_L1 l1 x9_1).length : Int) == a0) = true := beq_iff_eq.mpr c6; have c6b1 : (((rd_L1 l1 x9_1).length : Int) != a0) = false := bne_eq_false_iff_eq.mpr c6; clear c6; replace H := Option.bind_eq_some_iff.mp H; obtain ⟨t113, A70, H⟩ := H; replace H : (if t113 = true then (sc_permutations.l0 k1 a0 l1 (l1.length : Int) (wrap64 (x9_1 + 1))) else (some false)) = some r := H; have A7 := Aside0.mk A70; clear A70
              by_cases c8 : t113 = true
              · subst c8
                have H1 : (sc_permutations.l0 k1 a0 l1 (l1.length : Int) (wrap64 (x9_1 + 1))) = some r := by rw [if_pos rfl] at H; exact H
                clear H; have H := H1; clear H1; have H' := Aside0.mk H; clear H; have p112 : 0 ≤ (x9_1 : Int) := of_decide_eq_true (by first | (with_reducible assumption) | assumption); have q112 : x9_1 < (l1.length : Int) := of_decide_eq_true (by first | (with_reducible assumption) | assumption); obtain ⟨ad112, A112_0, c112_0, e112, hx112_0, hl112_0, hi112_0⟩ := at_L1 HR1.out x9_1 p112 q112; cases e112; replace hx112_0 := (HB.out.cell (World.block_lt_of_cell? w _ hx112_0)).trans hx112_0; have HR112_0 := Aside0.mk hi112_0; have HC112_0 := Aside0.mk hl112_0; clear hi112_0 hl112_0; replace p112 := eq_true p112; replace q112 := eq_true q112
                go_wp2_with (first | (go_at_call 91; (with_reducible refine (pm_Valid.calls k1 _ _ (rd_L1 l1 x9_1) true _ ?side1 ?side2 A7.out).mono ?_); (case side1 => repeat (first | exact (Kd.C_below HR112_0.out HB.out) | (with_reducible refine Kd.C_alloc ?_ _) | (with_reducible refine Kd.C_drewN ?_ _) | (with_reducible refine Kd.C_drew ?_))); (case side2 => exact HC112_0.out); rintro e w9 ⟨rfl, hb⟩; have n0_ := Aside0.mk (pzL (by repeat (first | (with_reducible first | exact HB.out | apply pzB | apply pzA | apply pzC) | exact HB.out)) hb); clear HB; have HB := n0_; clear n0_; (try clear hb); (try clear hb2); (try clear hk); (try clear hi)))
                go_roundg k1
                case measure => have := HK1.out; omega
                case rel => exact ⟨(wrap64 (x9_1 + 1)), (by first | rfl | (simp; done) | (simp [*]; done)), H', ⟨by have := HK1.out; omega⟩, ⟨by repeat (first | (with_reducible first | exact HB.out | apply pzB | apply pzA | apply pzC) | exact HB.out)⟩⟩
              · replace c8 := Bool.eq_false_iff.mpr c8
                subst c8
                have H1 : (some false) = some r := by rw [if_neg (show ¬ (false = true) by decide)] at H; exact H
                clear H; have H := H1; clear H1; obtain rfl := Option.some.inj H; have p112 : 0 ≤ (x9_1 : Int) := of_decide_eq_true (by first | (with_reducible assumption) | assumption); have q112 : x9_1 < (l1.length : Int) := of_decide_eq_true (by first | (with_reducible assumption) | assumption); obtain ⟨ad112, A112_0, c112_0, e112, hx112_0, hl112_0, hi112_0⟩ := at_L1 HR1.out x9_1 p112 q112; cases e112; replace hx112_0 := (HB.out.cell (World.block_lt_of_cell? w _ hx112_0)).trans hx112_0; have HR112_0 := Aside0.mk hi112_0; have HC112_0 := Aside0.mk hl112_0; clear hi112_0 hl112_0; replace p112 := eq_true p112; replace q112 := eq_true q112
                go_wp2_with (first | (go_at_call 91; (with_reducible refine (pm_Valid.calls k1 _ _ (rd_L1 l1 x9_1) false _ ?side1 ?side2 A7.out).mono ?_); (case side1 => repeat (first | exact (Kd.C_below HR112_0.out HB.out) | (with_reducible refine Kd.C_alloc ?_ _) | (with_reducible refine Kd.C_drewN ?_ _) | (with_reducible refine Kd.C_drew ?_))); (case side2 => exact HC112_0.out); rintro e w10 ⟨rfl, hb⟩; have n0_ := Aside0.mk (pzL (by repeat (first | (with_reducible first | exact HB.out | apply pzB | apply pzA | apply pzC) | exact HB.out)) hb); clear HB; have HB := n0_; clear n0_; (try clear hb); (try clear hb2); (try clear hk); (try clear hi)))
                go_ret
                exact ⟨by first | rfl | (simp [pzN, pzM] <;> rfl) | (simp [*, pzN, pzM] <;> rfl), by repeat (first | (with_reducible first | exact HB.out | apply pzB | apply pzA | apply pzC) | exact HB.out)⟩
            · rw [if_neg c6] at H
              have c6b0 : (((rd_L1 l1 x9_1).length : Int) == a0) = false := beq_eq_false_iff_ne.mpr c6; have c6b1 : (((rd_L1 l1 x9_1).length : Int) != a0) = true := bne_iff_ne.mpr c6; obtain rfl := Option.some.inj H; have p112 : 0 ≤ (x9_1 : Int) := of_decide_eq_true (by first | (with_reducible assumption) | assumption); have q112 : x9_1 < (l1.length : Int) := of_decide_eq_true (by first | (with_reducible assumption) | assumption); obtain ⟨ad112, A112_0, c112_0, e112, hx112_0, hl112_0, hi112_0⟩ := at_L1 HR1.out x9_1 p112 q112; cases e112; replace hx112_0 := (HB.out.cell (World.block_lt_of_cell? w _ hx112_0)).trans hx112_0; have HR112_0 := Aside0.mk hi112_0; have HC112_0 := Aside0.mk hl112_0; clear hi112_0 hl112_0; replace p112 := eq_true p112; replace q112 := eq_true q112
              go_wp2
              go_ret
              exact ⟨by first | rfl | (simp [pzN, pzM] <;> rfl) | (simp [*, pzN, pzM] <;> rfl), by repeat (first | (with_reducible first | exact HB.out | apply pzB | apply pzA | apply pzC) | exact HB.out)⟩
          · rw [if_neg c5] at H
            exact absurd H (by simp)
        · rw [if_neg c4] at H
          exact absurd H (by simp)
      · rw [if_neg c3] at H
        have c3b0 : decide (x9_1 < (l1.length : Int)) = false := decide_eq_false c3; clear c3; obtain rfl := Option.some.inj H
        go_wp2
        go_ret
        exact ⟨by first | rfl | (simp [pzN, pzM] <;> rfl) | (simp [*, pzN, pzM] <;> rfl), by repeat (first | (with_reducible first | exact HB.out | apply pzB | apply pzA | apply pzC) | exact HB.out)⟩
end Go.Proofs.Ytpkgckccfanchaa.M

namespace Go.Proofs.Ytpkgckccfanchaa.M
open Go.RowKit YtpkgckccfanchaaW.PrintWords YtpkgckccfanchaaW.PrintLast YtpkgckccfanchaaW.PrintMore
attribute [local go_sem] pzW pzX pzY pzZ pzS pzT pzU pzV
set_option linter.unusedVariables false
set_option linter.unusedSimpArgs false
def sc_arguments.j0 : Nat → Int → List (List Int) → Bool → Option (Int)
  | 0, _, _, _ => none
  | k + 1, x0, x1, x10 => if x10 = true then (some 1) else (if (x1.length : Int) > 64 then (some 7) else ((sc_permutations.f k x0 x1).bind fun t114 => (if t114 = true then (some 0) else (some 3))))
def sc_arguments.f (k : Nat) (a0 : Int) (l1 : List (List Int)) : Option (Int) := if a0 < 1 then (sc_arguments.j0 k a0 l1 true) else (sc_arguments.j0 k a0 l1 (decide (a0 > 512)))
theorem sc_arguments.mono_l : ∀ k, (∀ y0 y1 y2, LeO (sc_arguments.j0 k y0 y1 y2) (sc_arguments.j0 (k + 1) y0 y1 y2))
  | 0 => fun _ _ _ r h => by simp [sc_arguments.j0] at h
  | k + 1 => by
    have ih0 := sc_arguments.mono_l k
    · intro y0 y1 y2
      unfold sc_arguments.j0
      repeat' first
      | (with_reducible exact ih0 _ _ _)
      | (with_reducible exact sc_permutations.mono _ _ _)
      | (with_reducible exact LeO.refl _)
      | (with_reducible exact LeO.none _)
      | (with_reducible refine LeO.ite ?_ ?_)
      | (with_reducible refine LeO.bind ?_ (fun _ => ?_))
      | exact ih0 _ _ _
      | exact sc_permutations.mono _ _ _
      | exact LeO.none _
      | refine LeO.ite ?_ ?_
      | refine LeO.bind ?_ (fun _ => ?_)
theorem sc_arguments.mono : ∀ a0 a1 k, LeO (sc_arguments.f k a0 a1) (sc_arguments.f (k + 1) a0 a1) := by
  intro a0 a1 k; have ih0 := sc_arguments.mono_l k
  unfold sc_arguments.f
  repeat' first
      | (with_reducible exact ih0 _ _ _)
      | (with_reducible exact sc_permutations.mono _ _ _)
      | (with_reducible exact LeO.refl _)
      | (with_reducible exact LeO.none _)
      | (with_reducible refine LeO.ite ?_ ?_)
      | (with_reducible refine LeO.bind ?_ (fun _ => ?_))
      | exact ih0 _ _ _
      | exact sc_permutations.mono _ _ _
      | exact LeO.none _
      | refine LeO.ite ?_ ?_
      | refine LeO.bind ?_ (fun _ => ?_)
set_option maxHeartbeats 8000000 in
set_option maxRecDepth 100000 in
theorem sc_arguments.calls (k : Nat) (a0 : Int) (A1 : Option Addr) (c1 : Nat) (l1 : List (List Int)) (r : Int) (w : World) (hr1 : Kd.C (Kd.slice 3 (Kd.int .i64)) w A1 l1.length l1) (hc1 : l1.length ≤ c1) (h : sc_arguments.f k a0 l1 = some r) :
    Calls Try.prog 47 #[.int .i64 a0, .slice A1 l1.length c1] w fun e w' => e = .returned (.int .i64 r) ∧ Below w.heap.size w w' := by
  have HR1 := Aside0.mk hr1; have HC1 := Aside0.mk hc1; clear hr1 hc1; have HB := Aside0.mk (Below.refl w.heap.size w); have H : (if a0 < 1 then (sc_arguments.j0 k a0 l1 true) else (sc_arguments.j0 k a0 l1 (decide (a0 > 512)))) = some r := h; clear h; have HC3 := Aside0.mk H; clear H
  go_enter Try.func47, Try.ntmps47
  go_upto_region 1 with (fail)
  go_cut [10] (fun v10 wc => ∃ (kq : Nat) (x10_2 : Bool), v10 = .bool x10_2 ∧ Aside0 (sc_arguments.j0 kq a0 l1 x10_2 = some r) ∧ Aside0 (kq ≤ k) ∧ Aside0 (Below w.heap.size w wc))
  case first =>
    have H := HC3.out; clear HC3
    by_cases c4 : a0 < 1
    · rw [if_pos c4] at H
      have c4b0 : decide (a0 < 1) = true := decide_eq_true c4; clear c4
      (first | rw [c4b0] | (simp only [i64_w, i32_w]; rw [c4b0]) | skip)
      have H' := Aside0.mk H; clear H
      go_wp2
      go_meet
      case rel => exact ⟨_, (true), (by first | rfl | (simp; done) | (simp [*]; done)), H', ⟨by first | omega | exact Nat.le_refl _⟩, ⟨by repeat (first | (with_reducible first | exact HB.out | apply pzB | apply pzA | apply pzC) | exact HB.out)⟩⟩
    · rw [if_neg c4] at H
      have c4b0 : decide (a0 < 1) = false := decide_eq_false c4; clear c4
      (first | rw [c4b0] | (simp only [i64_w, i32_w]; rw [c4b0]) | skip)
      have H' := Aside0.mk H; clear H
      go_wp2
      go_meet
      case rel => exact ⟨_, (decide (a0 > 512)), (by first | rfl | (simp; done) | (simp [*]; done)), H', ⟨by first | omega | exact Nat.le_refl _⟩, ⟨by repeat (first | (with_reducible first | exact HB.out | apply pzB | apply pzA | apply pzC) | exact HB.out)⟩⟩
  case rest =>
    clear HC3
    try clear c1
    try clear p2
    try clear c4
    try clear c4b0
    obtain ⟨kq, x10_2, rfl, HA, HJ2, HB⟩ := hcut; cases kq with
    | zero => exact absurd HA.out (by simp [sc_arguments.j0])
    | succ kj2 =>
      have H := HA.out; clear HA
      simp only [sc_arguments.j0] at H
      by_cases c5 : x10_2 = true
      · subst c5
        have H1 : (some 1) = some r := by rw [if_pos rfl] at H; exact H
        clear H; have H := H1; clear H1; obtain rfl := Option.some.inj H
        go_wp2
        go_ret
        exact ⟨by first | rfl | (simp [pzN, pzM] <;> rfl) | (simp [*, pzN, pzM] <;> rfl), by repeat (first | (with_reducible first | exact HB.out | apply pzB | apply pzA | apply pzC) | exact HB.out)⟩
      · replace c5 := Bool.eq_false_iff.mpr c5
        subst c5
        have H1 : (if (l1.length : Int) > 64 then (some 7) else ((sc_permutations.f kj2 a0 l1).bind fun t114 => (if t114 = true then (some 0) else (some 3)))) = some r := by rw [if_neg (show ¬ (false = true) by decide)] at H; exact H
        clear H; have H := H1; clear H1
        by_cases c6 : (l1.length : Int) > 64
        · rw [if_pos c6] at H
          have c6b0 : decide (64 < (l1.length : Int)) = true := decide_eq_true c6; have c6b1 : decide (64 < l1.length) = true := decide_eq_true (by omega); clear c6; obtain rfl := Option.some.inj H
          go_wp2
          go_ret
          exact ⟨by first | rfl | (simp [pzN, pzM] <;> rfl) | (simp [*, pzN, pzM] <;> rfl), by repeat (first | (with_reducible first | exact HB.out | apply pzB | apply pzA | apply pzC) | exact HB.out)⟩
        · rw [if_neg c6] at H
          have c6b0 : decide (64 < (l1.length : Int)) = false := decide_eq_false c6; have c6b1 : decide (64 < l1.length) = false := decide_eq_false (by omega); clear c6; replace H := Option.bind_eq_some_iff.mp H; obtain ⟨t114, A70, H⟩ := H; replace H : (if t114 = true then (some 0) else (some 3)) = some r := H; have A7 := Aside0.mk A70; clear A70
          by_cases c8 : t114 = true
          · subst c8
            have H1 : (some 0) = some r := by rw [if_pos rfl] at H; exact H
            clear H; have H := H1; clear H1; obtain rfl := Option.some.inj H
            go_wp2_with (first | ((with_reducible refine pzP (f := 55) rfl ?_); refine pyH (some 16) rfl rfl Try.func55 (by kernel_rfl) rfl #[.int .i64 a0, .slice A1 l1.length c1] rfl (by (try simp only [List.map_toArray, List.map_cons, List.map_nil]); first | done | rfl | (simp only [List.length_drop, List.length_take]; rfl)) ?_; (with_reducible refine (sc_permutations.calls kj2 a0 _ _ l1 true _ ?side1 ?side2 A7.out).mono ?_); (case side1 => repeat (first | exact (Kd.C_below HR1.out HB.out) | (with_reducible refine Kd.C_alloc ?_ _) | (with_reducible refine Kd.C_drewN ?_ _) | (with_reducible refine Kd.C_drew ?_))); (case side2 => exact HC1.out); rintro e w9 ⟨rfl, hb⟩; refine ⟨_, rfl, ?_⟩; have n0_ := Aside0.mk (pzL (by repeat (first | (with_reducible first | exact HB.out | apply pzB | apply pzA | apply pzC) | exact HB.out)) hb); clear HB; have HB := n0_; clear n0_; (try clear hb); (try clear hb2); (try clear hk); (try clear hi)))
            go_ret
            exact ⟨by first | rfl | (simp [pzN, pzM] <;> rfl) | (simp [*, pzN, pzM] <;> rfl), by repeat (first | (with_reducible first | exact HB.out | apply pzB | apply pzA | apply pzC) | exact HB.out)⟩
          · replace c8 := Bool.eq_false_iff.mpr c8
            subst c8
            have H1 : (some 3) = some r := by rw [if_neg (show ¬ (false = true) by decide)] at H; exact H
            clear H; have H := H1; clear H1; obtain rfl := Option.some.inj H
            go_wp2_with (first | ((with_reducible refine pzP (f := 55) rfl ?_); refine pyH (some 16) rfl rfl Try.func55 (by kernel_rfl) rfl #[.int .i64 a0, .slice A1 l1.length c1] rfl (by (try simp only [List.map_toArray, List.map_cons, List.map_nil]); first | done | rfl | (simp only [List.length_drop, List.length_take]; rfl)) ?_; (with_reducible refine (sc_permutations.calls kj2 a0 _ _ l1 false _ ?side1 ?side2 A7.out).mono ?_); (case side1 => repeat (first | exact (Kd.C_below HR1.out HB.out) | (with_reducible refine Kd.C_alloc ?_ _) | (with_reducible refine Kd.C_drewN ?_ _) | (with_reducible refine Kd.C_drew ?_))); (case side2 => exact HC1.out); rintro e w10 ⟨rfl, hb⟩; refine ⟨_, rfl, ?_⟩; have n0_ := Aside0.mk (pzL (by repeat (first | (with_reducible first | exact HB.out | apply pzB | apply pzA | apply pzC) | exact HB.out)) hb); clear HB; have HB := n0_; clear n0_; (try clear hb); (try clear hb2); (try clear hk); (try clear hi)))
            go_ret
            exact ⟨by first | rfl | (simp [pzN, pzM] <;> rfl) | (simp [*, pzN, pzM] <;> rfl), by repeat (first | (with_reducible first | exact HB.out | apply pzB | apply pzA | apply pzC) | exact HB.out)⟩
end Go.Proofs.Ytpkgckccfanchaa.M

namespace Go.Proofs.Ytpkgckccfanchaa.M
open Go.RowKit YtpkgckccfanchaaW.PrintWords YtpkgckccfanchaaW.PrintLast YtpkgckccfanchaaW.PrintMore
open Sims
set_option linter.unusedVariables false
set_option linter.unusedSimpArgs false
def isPB (n : Nat) (p : List Int) : Bool := decide (p.length = n) && p.all (fun x => decide (0 ≤ x ∧ x < n)) && decide p.Nodup
theorem isPB_ok {n : Nat} {p : List Int} (h : isPB n p = true) : IsP n p := by
  simp only [isPB, Bool.and_eq_true, decide_eq_true_eq, List.all_eq_true] at h
  exact ⟨h.1.1, h.1.2, h.2⟩
def okB (n : Int) (gens : List (List Int)) : Bool := decide (1 ≤ n ∧ n ≤ 11) && gens.all (isPB n.toNat) && decide (gens.length < 1000000)
theorem okB_ok {n : Int} {gens : List (List Int)} (h : okB n gens = true) : ∃ m : Nat, n = (m : Int) ∧ 0 < m ∧ m ≤ 11 ∧ (∀ g ∈ gens, IsP m g) ∧ gens.length < 1000000 := by
  simp only [okB, Bool.and_eq_true, decide_eq_true_eq, List.all_eq_true] at h
  obtain ⟨⟨⟨h1, h2⟩, h3⟩, h4⟩ := h
  refine ⟨n.toNat, by omega, by omega, by omega, fun g hg => isPB_ok (h3 g hg), h4⟩
theorem group_len {n : Nat} {gens : List (List Int)} {base : List Int} {ls : List Lv} (hg : ∀ g ∈ gens, IsP n g) (hb : ∀ x ∈ base, 0 ≤ x ∧ x < n) (hbn : base.Nodup) (h : groupF n (n + 1) gens base = some ls) : ls.length ≤ n := by
  obtain ⟨ls', e, h1, _⟩ := group_ok (Nat.le_refl _) hg hb hbn
  rw [e] at h
  cases h
  have := PC_length h1 List.nodup_nil (fun x hx => by simp at hx)
  simpa using this
theorem C_nil_int (w : World) : Kd.C (Kd.int .i64) w none ([] : List Int).length [] := Kd.C_nil _ _
set_option maxRecDepth 100000 in
theorem newGroup_nil {w : World} {A1 : Option Addr} {c1 n : Nat} {gens : List (List Int)} {ls : List Lv} (hn : 0 < n) (hn11 : n ≤ 11) (hr1 : Kd.C (Kd.slice 3 (Kd.int .i64)) w A1 gens.length gens) (hg : ∀ g ∈ gens, IsP n g) (hl : gens.length < 1000000) (h : groupF n (n + 1) gens [] = some ls) :
    Calls Try.prog 48 #[.int .i64 n, .slice A1 gens.length c1, .slice none 0 0] w fun e w' => ∃ g av cs PB, e = .returned (.pointer (some ⟨g, 0, none⟩)) ∧ GrAt w' w.heap.size PB g n av cs ls ∧ PC n [] ls ∧ Below w.heap.size w w' :=
  (newGroup_calls (base := []) (A2 := none) (c2 := 0) hn hn11 hr1 (C_nil_int _) hg (fun x hx => by simp at hx) List.nodup_nil hl h)
def sc_Order.f (k : Nat) (a0 : Int) (l1 : List (List Int)) : Option (Bool × List Int × Int) := (sc_arguments.f k a0 l1).bind fun e => if e = 0 then (if okB a0 l1 = true then (groupF a0.toNat (a0.toNat + 1) l1 []).bind fun ls => (sc_product.f k (lensF ls)).bind fun r => some (r.1, r.2, 0) else none) else some (false, [], e)
theorem sc_Order.mono : ∀ a0 a1 k, LeO (sc_Order.f k a0 a1) (sc_Order.f (k + 1) a0 a1) := by
  intro a0 a1 k
  unfold sc_Order.f
  refine LeO.bind (sc_arguments.mono a0 a1 k) (fun e => LeO.ite (LeO.ite (LeO.bind (LeO.refl _) (fun ls => LeO.bind (sc_product.mono (lensF ls) k) (fun r => LeO.refl _))) (LeO.refl _)) (LeO.refl _))
set_option maxHeartbeats 4000000 in
set_option maxRecDepth 100000 in
theorem sc_Order.calls (k : Nat) (a0 : Int) (A1 : Option Addr) (c1 : Nat) (l1 : List (List Int)) (r1 : Bool) (r2 : List Int) (r3 : Int) (w : World) (hr1 : Kd.C (Kd.slice 3 (Kd.int .i64)) w A1 l1.length l1) (hc1 : l1.length ≤ c1) (h : sc_Order.f k a0 l1 = some (r1, r2, r3)) :
    Calls Try.prog 15 #[.int .i64 a0, .slice A1 l1.length c1] w fun e w' => ∃ v1_ : Value, e = .returned (.tuple #[.agg #[.bool r1, v1_], .int .i64 r3]) ∧ Kd.V (Kd.int .u32) 98 w' w.heap.size (fun k_ => (w.heap.size ≤ k_)) v1_ r2 ∧ Below w.heap.size w w' := by
  unfold sc_Order.f at h
  obtain ⟨e, he, h⟩ := Option.bind_eq_some_iff.1 h
  have HR1 := Aside0.mk hr1
  have HC1 := Aside0.mk hc1
  have HE := Aside0.mk he
  clear hr1 hc1 he
  by_cases h0 : e = 0
  · rw [if_pos h0] at h
    by_cases hok : okB a0 l1 = true
    · rw [if_pos hok] at h
      obtain ⟨m, rfl, hm, hm11, hg, hl⟩ := okB_ok hok
      rw [Int.toNat_natCast] at h
      obtain ⟨ls, hls, h⟩ := Option.bind_eq_some_iff.1 h
      obtain ⟨r, hr, h⟩ := Option.bind_eq_some_iff.1 h
      have h := Option.some.inj h
      simp only [Prod.mk.injEq] at h
      obtain ⟨e1, e2, e3⟩ := h
      subst e1 e2 e3 h0
      have HM := Aside0.mk hm
      have HGN := Aside0.mk hg
      have HLS := Aside0.mk hls
      have HRR := Aside0.mk (show sc_product.f k (lensF ls) = some (r.1, r.2) from hr)
      have HLN := Aside0.mk (group_len hg (fun x hx => by simp at hx) List.nodup_nil hls)
      have HL := Aside0.mk hl
      clear hok hm hg hl hls hr
      go_enter Try.func15, Try.ntmps15
      go_wp2_with (first | ((with_reducible refine pzQ (N := 4) rfl ?_); refine pzR ?hg (N := 4) ?hd (cs := #[.bool false, .slice none 0 0]) (t := 24) ?hr ?_; (case hd => rfl); (case hg => rfl); (case hr => first | (go_simp; done) | (go_simp; rfl)); intro gb hg w5 hbox hb; have GB := Aside0.mk hbox; have HB0 := Aside0.mk hb; have HGB : Aside0 (w.heap.size ≤ gb) := ⟨by rw [hg]; exact Nat.le_refl _⟩; clear hg hbox hb) | (go_at_call 47; (with_reducible refine (sc_arguments.calls k (m : Int) A1 c1 l1 0 _ (Kd.C_below HR1.out HB0.out) HC1.out HE.out).mono ?_); rintro e w6 ⟨rfl, hb6⟩; have GB6 := Aside0.mk (pzI GB.out hb6); have HB6 := Aside0.mk hb6; clear hb6) | (go_at_call 48; (with_reducible refine (newGroup_nil HM.out hm11 (Kd.C_below (Kd.C_below HR1.out HB0.out) HB6.out) HGN.out HL.out HLS.out).mono ?_); rintro e w7 ⟨g, av, cs, PB, rfl, hG, -, hb7⟩; have GB7 := Aside0.mk (pzI GB6.out hb7); have HG7 := Aside0.mk hG; have HB7 := Aside0.mk hb7; clear hG hb7) | (go_at_call 49; (with_reducible refine (order_calls HG7.out (by have := HLN.out; omega) HRR.out).mono ?_); rintro e w8 ⟨v1, rfl, hV, hb8⟩; obtain ⟨A8, c8, rfl⟩ := Kd.V_slice hV; have GB8 := Aside0.mk (pzI GB7.out hb8); have hg0 := (pzH GB8.out 0).trans (show _ = some (Value.bool false) from rfl); have hg1 := (pzH GB8.out 1).trans (show _ = some (Value.slice none 0 0) from rfl); have hg2 := pzK GB8.out 0; have hg3 := pzK GB8.out 1; have HV8 := Aside0.mk hV; have HB8 := Aside0.mk hb8; clear hV hb8))
      have hs0 : w.heap.size ≤ w5.heap.size := HB0.out.size
      have hs5 : w5.heap.size ≤ w6.heap.size := HB6.out.size
      have hs7 : w6.heap.size ≤ w7.heap.size := HB7.out.size
      have hgb : gb < w7.heap.size := pzO GB7.out
      refine bodyPost_ret (results_list (rs := [.cell 4 24, .tmp 5]) (vs := [.agg #[.bool r.1, .slice A8 r.2.length c8], .int .i64 0]) rfl (by simp) (Vals.cell gb 24 _ (0, 0) _ rfl (by refine pyC (cs := #[.bool r.1, .slice none 0 0]) ?_ 1 _ rfl; refine pyC (cs := #[.bool false, .slice none 0 0]) ?_ 0 _ rfl; exact GB8.out) Try.underlying24 rfl (by kernel_rfl) (Vals.tmp Vals.nil))) rfl ?_
      refine ⟨_, rfl, ?_, ?_⟩
      · exact Kd.V_mono (Kd.V_far (p := ⟨gb, 1, none⟩) (Kd.V_far (p := ⟨gb, 0, none⟩) HV8.out (fun k hk e => by have e2 : k = gb := e; omega) (.bool r.1)) (fun k hk e => by have e2 : k = gb := e; omega) _) (fun k hk => by omega)
      · exact pzD (pzD (pyD (pyD (pyD HB0.out hs0 HB6.out) (Nat.le_trans hs0 hs5) HB7.out) (Nat.le_trans hs0 (Nat.le_trans hs5 hs7)) HB8.out) HGB.out) HGB.out
    · rw [if_neg hok] at h
      cases h
  · rw [if_neg h0] at h
    have h := Option.some.inj h
    simp only [Prod.mk.injEq] at h
    obtain ⟨e1, e2, e3⟩ := h
    subst e1 e2 e3
    go_enter Try.func15, Try.ntmps15
    go_wp2_with (first | ((with_reducible refine pzQ (N := 4) rfl ?_); refine pzR ?hg (N := 4) ?hd (cs := #[.bool false, .slice none 0 0]) (t := 24) ?hr ?_; (case hd => rfl); (case hg => rfl); (case hr => first | (go_simp; done) | (go_simp; rfl)); intro gb hg w5 hbox hb; have GB := Aside0.mk hbox; have HB0 := Aside0.mk hb; have HGB : Aside0 (w.heap.size ≤ gb) := ⟨by rw [hg]; exact Nat.le_refl _⟩; clear hg hbox hb) | (go_at_call 47; (with_reducible refine (sc_arguments.calls k a0 A1 c1 l1 e _ (Kd.C_below HR1.out HB0.out) HC1.out HE.out).mono ?_); rintro e w6 ⟨rfl, hb6⟩; have GB6 := Aside0.mk (pzI GB.out hb6); have hg0 := (pzH GB6.out 0).trans (show _ = some (Value.bool false) from rfl); have hg1 := (pzH GB6.out 1).trans (show _ = some (Value.slice none 0 0) from rfl); have hg2 := pzK GB6.out 0; have hg3 := pzK GB6.out 1; have HB6 := Aside0.mk hb6; clear hb6))
    have hs0 : w.heap.size ≤ w5.heap.size := HB0.out.size
    have hgb : gb < w6.heap.size := pzO GB6.out
    refine bodyPost_ret (results_list (rs := [.cell 4 24, .tmp 5]) (vs := [.agg #[.bool false, .slice none 0 0], .int .i64 e]) rfl (by simp) (Vals.cell gb 24 _ (0, 0) _ rfl (by refine pyC (cs := #[.bool false, .slice none 0 0]) ?_ 1 _ rfl; refine pyC (cs := #[.bool false, .slice none 0 0]) ?_ 0 _ rfl; exact GB6.out) Try.underlying24 rfl (by kernel_rfl) (Vals.tmp Vals.nil))) rfl ?_
    refine ⟨_, rfl, ?_, ?_⟩
    · exact Kd.V_nil _ _ _ _ _
    · exact pzD (pzD (pyD HB0.out hs0 HB6.out) HGB.out) HGB.out
end Go.Proofs.Ytpkgckccfanchaa.M

namespace Go.Proofs.Ytpkgckccfanchaa.M
open Go.RowKit YtpkgckccfanchaaW.PrintWords YtpkgckccfanchaaW.PrintLast YtpkgckccfanchaaW.PrintMore
open Sims
set_option linter.unusedVariables false
set_option linter.unusedSimpArgs false
theorem rdl_swap {n : Nat} {p : List Int} (hp : p.length = n) {i j : Nat} (hi : i < n) (hj : j < n) {x : Int} (h0 : 0 ≤ x) (h1 : x < n) : rdl (swapI p i j) x = rdl p (if x = j then (i : Int) else if x = i then (j : Int) else x) := by
  unfold rdl swapI
  obtain ⟨y, rfl⟩ := Int.eq_ofNat_of_zero_le h0
  simp only [Int.toNat_natCast, List.getD_eq_getElem?_getD]
  by_cases e1 : y = j
  · subst e1
    rw [if_pos rfl, List.getElem?_set_self (by simp; omega)]
    simp
  · rw [if_neg (by omega), List.getElem?_set_ne (fun e => e1 e.symm)]
    by_cases e2 : y = i
    · subst e2
      rw [if_pos rfl, List.getElem?_set_self (by omega)]
      simp
    · rw [if_neg (by omega), List.getElem?_set_ne (fun e => e2 e.symm)]
      simp
theorem swapI_isP {n : Nat} {p : List Int} (hp : IsP n p) {i j : Nat} (hi : i < n) (hj : j < n) : IsP n (swapI p i j) := by
  have hr : ∀ x : Int, 0 ≤ x → x < n → 0 ≤ (if x = j then (i : Int) else if x = i then (j : Int) else x) ∧ (if x = j then (i : Int) else if x = i then (j : Int) else x) < n := by
    intro x h0 h1
    split
    · omega
    · split <;> omega
  refine IsP.mk' (by rw [swapI_length, hp.len]) (fun x h0 h1 => ?_) (fun x y h0 h1 k0 k1 e => ?_)
  · rw [rdl_swap hp.len hi hj h0 h1]
    exact hp.rd (hr x h0 h1).1 (hr x h0 h1).2
  · rw [rdl_swap hp.len hi hj h0 h1, rdl_swap hp.len hi hj k0 k1] at e
    have e2 := hp.inj (hr x h0 h1).1 (hr x h0 h1).2 (hr y k0 k1).1 (hr y k0 k1).2 e
    split at e2 <;> split at e2 <;> (try split at e2) <;> (try split at e2) <;> omega
theorem permPick_le (l : List Int) (a i : Nat) : permPick l a i ≤ i := by unfold permPick; omega
theorem permLoop_isP {n : Nat} (l : List Int) : ∀ (i a : Nat) (out : List Int), i < n → IsP n out → IsP n (permLoop l i a out)
  | 0, _, _, _, h => h
  | i + 1, a, out, hi, h => permLoop_isP l i (a + 1) _ (by omega) (swapI_isP h hi (by have := permPick_le l a (i + 1); omega))
theorem tapeAt_lt (l : List Int) (a : Nat) {n : Nat} (hn : 0 < n) : tapeAt l a n < n := by
  have := tape_lt l a hn
  unfold tapeAt
  omega
theorem fewI_isP {n : Nat} (hn : 0 < n) (l : List Int) : ∀ k, IsP n (fewI l n k)
  | 0 => oneL_isP n
  | k + 1 => swapI_isP (fewI_isP hn l k) (tapeAt_lt l _ hn) (tapeAt_lt l _ hn)
theorem genI_isP {n : Nat} (hn : 0 < n) (b : Bool) (l : List Int) : IsP n (genI b n l) := by
  unfold genI
  split
  · exact fewI_isP hn l 2
  · exact permLoop_isP l (n - 1) 0 _ (by omega) (oneL_isP n)
theorem has_fin : ∀ m : Fin 256, ∀ y : Fin 8, pm_set_has.f (m.val : Int) 0 0 0 0 0 0 0 (y.val : Int) = some (m.val.testBit y.val) := by decide +kernel
theorem or8_fin : ∀ m : Fin 256, ∀ y : Fin 8, or8 (y.val : Int) 0 (m.val : Int) = ((m.val ||| 2 ^ y.val : Nat) : Int) := by decide +kernel
theorem with_fin (m : Fin 256) (y : Fin 8) : pm_set_with.f (m.val : Int) 0 0 0 0 0 0 0 (y.val : Int) = some (((m.val ||| 2 ^ y.val : Nat) : Int), 0, 0, 0, 0, 0, 0, 0) := by
  have hy := y.isLt
  have e : ((y.val : Int) / 64).toNat = 0 := by omega
  unfold pm_set_with.f
  rw [if_pos ⟨by omega, by omega⟩, or8_fin m y]
  simp [or8, e]
theorem valid_go {n : Nat} (hn : 0 < n) (h8 : n ≤ 8) {p : List Int} (hp : IsP n p) : ∀ (d i m k : Nat), i + d = n → d + 1 ≤ k → m < 256 → (∀ y : Nat, y < 8 → m.testBit y = decide ((y : Int) ∈ p.take i)) →
    pm_Valid.l0 k p p (p.length : Int) (i : Int) (m : Int) 0 0 0 0 0 0 0 = some true
  | d, i, m, 0, _, hk, _, _ => by omega
  | 0, i, m, k + 1, hi, hk, hm, hs => by
    unfold pm_Valid.l0
    rw [if_neg (by rw [hp.len]; omega), hp.len]
    congr 1
    simp; omega
  | d + 1, i, m, k + 1, hi, hk, hm, hs => by
    have hl := hp.len
    obtain ⟨h0, h1⟩ := hp.rd (x := (i : Int)) (by omega) (by omega)
    obtain ⟨y, hy⟩ : ∃ y : Nat, rdl p (i : Int) = y := ⟨(rdl p i).toNat, by omega⟩
    have hpi : p[i]? = some (y : Int) := by
      rw [← hy, rdl_eq (by omega) (by omega)]
      simp only [Int.toNat_natCast]
      exact List.getElem?_eq_getElem _
    have hnot : ¬ ((y : Int) ∈ p.take i) := by
      intro hm2
      obtain ⟨j, hj, e⟩ := List.getElem_of_mem hm2
      have hj2 : j < i := by simp at hj; omega
      rw [List.getElem_take] at e
      obtain ⟨q1, q2⟩ := List.getElem?_eq_some_iff.1 hpi
      have := nodup_inj hp.nd (by omega) q1 (e.trans q2.symm)
      omega
    have hy8 : y < 8 := by omega
    have e1 := has_fin ⟨m, hm⟩ ⟨y, hy8⟩
    have e2 := with_fin ⟨m, hm⟩ ⟨y, hy8⟩
    simp only at e1 e2
    rw [hs y hy8, decide_eq_false hnot] at e1
    unfold pm_Valid.l0
    rw [if_pos (by rw [hl]; omega), if_pos (by omega), if_pos (by rw [hl]; omega), if_neg (by rw [hl]; omega), rd_rdl, hy, if_neg (by omega), if_neg (by rw [hl]; omega), e1, Option.bind_some, if_neg (by simp), e2, Option.bind_some]
    have hw : wrap64 ((i : Int) + 1) = ((i + 1 : Nat) : Int) := by unfold wrap64; omega
    rw [hw]
    refine valid_go hn h8 hp d (i + 1) _ k (by omega) (by omega) ?_ ?_
    · exact Nat.or_lt_two_pow (n := 8) hm (Nat.pow_lt_pow_right (by omega) hy8)
    · intro z hz
      rw [Nat.testBit_or, hs z hz, Nat.testBit_two_pow]
      obtain ⟨q1, q2⟩ := List.getElem?_eq_some_iff.1 hpi
      rw [List.take_succ_eq_append_getElem q1, q2]
      by_cases h3 : (z : Int) ∈ p.take i
      · simp [h3]
      · by_cases h4 : y = z
        · subst h4; simp
        · have : (z : Int) ≠ (y : Int) := by omega
          simp [h3, h4, this]
theorem valid_ok {n : Nat} (hn : 0 < n) (h8 : n ≤ 8) {p : List Int} (hp : IsP n p) {k : Nat} (hk : 9 ≤ k) : pm_Valid.f k p = some true := by
  unfold pm_Valid.f
  exact valid_go hn h8 hp n 0 0 k (by omega) (by omega) (by omega) (fun y _ => by simp)
theorem perms_go {n : Nat} (hn : 0 < n) (h8 : n ≤ 8) {gens : List (List Int)} (hg : ∀ g ∈ gens, IsP n g) (hl : gens.length < 1000000) : ∀ (d i k : Nat), i + d = gens.length → d + 10 ≤ k → sc_permutations.l0 k (n : Int) gens (gens.length : Int) (i : Int) = some true
  | d, i, 0, _, hk => by omega
  | 0, i, k + 1, hi, hk => by
    unfold sc_permutations.l0
    rw [if_neg (by omega)]
  | d + 1, i, k + 1, hi, hk => by
    have hil : i < gens.length := by omega
    have e : rd_L1 gens (i : Int) = gens[i] := by simp [rd_L1, List.getD_eq_getElem?_getD, hil]
    have hp := hg _ (List.getElem_mem hil)
    unfold sc_permutations.l0
    rw [if_pos (by omega), if_pos (by omega), if_pos (by omega), e, if_pos (by rw [hp.len]), valid_ok hn h8 hp (by omega), Option.bind_some, if_pos rfl]
    have hw : wrap64 ((i : Int) + 1) = ((i + 1 : Nat) : Int) := by unfold wrap64; omega
    rw [hw]
    exact perms_go hn h8 hg hl d (i + 1) k (by omega) (by omega)
theorem perms_ok {n : Nat} (hn : 0 < n) (h8 : n ≤ 8) {gens : List (List Int)} (hg : ∀ g ∈ gens, IsP n g) (hl : gens.length < 1000000) {k : Nat} (hk : gens.length + 10 ≤ k) : sc_permutations.f k (n : Int) gens = some true := by
  unfold sc_permutations.f
  exact perms_go hn h8 hg hl gens.length 0 k (by omega) hk
theorem args_ok {n : Nat} (hn : 0 < n) (h8 : n ≤ 8) {gens : List (List Int)} (hg : ∀ g ∈ gens, IsP n g) (hl : gens.length ≤ 64) {k : Nat} (hk : gens.length + 11 ≤ k) : sc_arguments.f k (n : Int) gens = some 0 := by
  obtain ⟨k, rfl⟩ : ∃ j, k = j + 1 := ⟨k - 1, by omega⟩
  unfold sc_arguments.f
  rw [if_neg (by omega)]
  rw [sc_arguments.j0]
  rw [if_neg (by simp; omega), if_neg (by omega), perms_ok hn h8 hg (by omega) (by omega)]
  rfl
theorem okB_mk {n : Nat} (hn : 0 < n) (h11 : n ≤ 11) {gens : List (List Int)} (hg : ∀ g ∈ gens, IsP n g) (hl : gens.length < 1000000) : okB (n : Int) gens = true := by
  simp only [okB, isPB, Bool.and_eq_true, decide_eq_true_eq, List.all_eq_true, Int.toNat_natCast]
  exact ⟨⟨⟨by omega, by omega⟩, fun g hg' => ⟨⟨(hg g hg').len, (hg g hg').rng⟩, (hg g hg').nd⟩⟩, hl⟩
end Go.Proofs.Ytpkgckccfanchaa.M

namespace Go.Proofs.Ytpkgckccfanchaa.M
open Go.RowKit YtpkgckccfanchaaW.PrintWords YtpkgckccfanchaaW.PrintLast YtpkgckccfanchaaW.PrintMore
attribute [local go_sem] pzW pzX pzY pzZ pzS pzT pzU pzV
set_option linter.unusedVariables false
set_option linter.unusedSimpArgs false
def ra_trim.f (l0 : List Int) : Option (List Int) := if l0.length < 35184372088832 then some (trimZ l0) else none
theorem ra_trim.calls (A0 : Option Addr) (c0 : Nat) (l0 : List Int) (r : List Int) (w : World) (hr0 : Kd.C (Kd.int .u32) w A0 l0.length l0) (hc0 : l0.length ≤ c0) (h : ra_trim.f l0 = some r) :
    Calls Try.prog 61 #[.slice A0 l0.length c0] w fun e w' => ∃ v0_ : Value, e = .returned (v0_) ∧ Kd.R (Kd.int .u32) 98 w' w.heap.size (fun _ => True) v0_ r ∧ Below w.heap.size w w' := by
  have hl : l0.length < 35184372088832 := by unfold ra_trim.f at h; split at h <;> simp_all
  have hr : trimZ l0 = r := by unfold ra_trim.f at h; rw [if_pos hl] at h; exact Option.some.inj h
  clear h; have HR0 := Aside0.mk hr0; clear hr0; have H := Aside0.mk hr; clear hr
  go_enter Try.func61, Try.ntmps61
  go_wp2
  go_loop [3] (fun v => ∃ k : Nat, k ≤ l0.length ∧ v = .int .i64 k ∧ Aside0 (trimZ (l0.take k) = r)) (fun v => (intOf v).toNat)
  case atStart => exact ⟨l0.length, Nat.le_refl _, rfl, ⟨by rw [List.take_length]; exact H.out⟩⟩
  case round =>
    obtain ⟨k, hk, rfl, HE⟩ := hrel
    by_cases h0 : 0 < k
    · obtain ⟨k, rfl⟩ : ∃ j, k = j + 1 := ⟨k - 1, by omega⟩
      obtain ⟨ad, e1, hx⟩ := Kd.at_int HR0.out (k : Int) (by omega) (by omega); cases e1
      simp only [Int.toNat_natCast] at hx
      have ht := take_snoc_rd l0 k hk
      by_cases hz : rd l0 (k : Int) = 0
      · have hz0 : (rd l0 (k : Int) == 0) = true := by simp [hz]
        have HE2 : Aside0 (trimZ (l0.take k) = r) := ⟨by have := HE.out; rw [ht, hz, trimZ_snoc0] at this; exact this⟩
        clear HE ht hz
        go_wp2
        exact ⟨⟨k, by omega, rfl, HE2⟩, by simp [intOf]⟩
      · have hz0 : (rd l0 (k : Int) == 0) = false := by simp [hz]
        have HE2 : Aside0 (l0.take (k + 1) = r) := ⟨by have := HE.out; rw [ht, trimZ_snoc _ _ hz, ← ht] at this; exact this⟩
        clear HE ht hz; obtain ⟨i0, hi, hz0', hz1, hz2⟩ := info_parts info98; obtain ⟨hrun, hcut, hcl⟩ := print_take_int (P := Try.prog) (k := .u32) 22 98 Try.underlying22 hi hz1 (some ad) c0 l0 ((k : Int) + 1) (by omega) (by omega) hc0
        have e2 : ((k : Int) + 1).toNat = k + 1 := by omega
        rw [e2] at hrun hcut hcl
        clear e2; have hC := hcut w (Kd.reads_of_C HR0.out)
        rw [HE2.out] at hrun hC hcl
        have hrl : r.length ≤ l0.length := by rw [← HE2.out, List.length_take]; omega
        have HC := Aside0.mk hC; clear hC hcut HE2 hi hz0' hz1 hz2 H h0
        go_wp2_with ((with_reducible refine gate_builtin (b := .append) (xs := #[.const (.slice none 0 0), .tmp 20]) rfl ?_); at_builtin; go_must (refine Kd.R_append_row (Value.int .u32) 0 (h1 := fun _ => rfl) (w0 := w) w.heap.size rfl (.const (.slice none 0 0)) (.tmp 20) 22 98 (.int .u32 0) 4 rfl Try.underlying22 info98 rfl (by decide) (.slice none 0 0) [] r (some ad) _ c0 (fun _ => True) rfl rfl (fun _ _ => trivial) (Kd.R_nil _ _ _ _ _) ?c1 (Below.refl _ _) (Nat.le_refl _) ?c2 ?_); (case c1 => exact Kd.C_of_reads HC.out); (case c2 => (simp only [List.length_nil]; omega)); intro v1 w1 hown hb hg hat)
        go_ret
        exact ⟨_, rfl, hown, hb⟩
    · obtain rfl : k = 0 := by omega
      have HE2 : Aside0 (l0.take 0 = r) := ⟨by have := HE.out; simpa [trimZ_nil] using this⟩
      clear HE; obtain ⟨i0, hi, hz0', hz1, hz2⟩ := info_parts info98; obtain ⟨hrun, hcut, hcl⟩ := print_take_int (P := Try.prog) (k := .u32) 22 98 Try.underlying22 hi hz1 A0 c0 l0 (0 : Int) (by omega) (by omega) hc0
      have e2 : (0 : Int).toNat = 0 := by omega
      rw [e2] at hrun hcut hcl
      clear e2; have hC := hcut w (Kd.reads_of_C HR0.out)
      rw [HE2.out] at hrun hC hcl
      have hrl : r.length ≤ l0.length := by rw [← HE2.out, List.length_take]; omega
      have HC := Aside0.mk hC; clear hC hcut HE2 hi hz0' hz1 hz2 H h0
      go_wp2_with ((with_reducible refine gate_builtin (b := .append) (xs := #[.const (.slice none 0 0), .tmp 20]) rfl ?_); at_builtin; go_must (refine Kd.R_append_row (Value.int .u32) 0 (h1 := fun _ => rfl) (w0 := w) w.heap.size rfl (.const (.slice none 0 0)) (.tmp 20) 22 98 (.int .u32 0) 4 rfl Try.underlying22 info98 rfl (by decide) (.slice none 0 0) [] r A0 _ c0 (fun _ => True) rfl rfl (fun _ _ => trivial) (Kd.R_nil _ _ _ _ _) ?c1 (Below.refl _ _) (Nat.le_refl _) ?c2 ?_); (case c1 => exact Kd.C_of_reads HC.out); (case c2 => (simp only [List.length_nil]; omega)); intro v1 w1 hown hb hg hat)
      go_ret
      exact ⟨_, rfl, hown, hb⟩
end Go.Proofs.Ytpkgckccfanchaa.M
