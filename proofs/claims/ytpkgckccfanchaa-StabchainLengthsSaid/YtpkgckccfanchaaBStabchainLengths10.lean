/- Part of the proof of StabchainLengths: texts of this claim, merged and pruned by wip/tools/merge2.py. -/
import Derived.Test.YtpkgckccfanchaaBStabchainLengths6
import Derived.Test.YtpkgckccfanchaaBStabchainLengths9
import Derived.Test.YtpkgckccfanchaaBStabchainLengths3
import Derived.Test.YtpkgckccfanchaaBStabchainLengths7
import Derived.Test.YtpkgckccfanchaaBStabchainLengths5
import Derived.Test.YtpkgckccfanchaaBStabchainLengths4

namespace Go.Proofs.Ytpkgckccfanchaa.M
open Go.RowKit Go.Proofs.YtpkgckccfanchaaW.PrintWords Go.Proofs.YtpkgckccfanchaaW.PrintLast Go.Proofs.YtpkgckccfanchaaW.PrintMore
attribute [local go_sem] max2_int min2_int max_two min_two max_three min_three max_four min_four
set_option linter.unusedVariables false
set_option linter.unusedSimpArgs false
def quadformlaw17_awake.f (k : Nat)  : Option (Bool) := (some (([(([1, 2, 0] : List Int)), (([1, 0, 2] : List Int))] : List (List Int)) : List (List Int))).bind fun y351 => ((stabchain_Order.f k 3 y351).bind fun bt354 => ((stabchain_Lengths.f k 3 y351 (([0, 1] : List Int))).bind fun bt363 => ((stabchain_Contains.f k 4 (([(([1, 2, 3, 0] : List Int))] : List (List Int))) (([2, 3, 0, 1] : List Int))).bind fun bt376 => ((stabchain_Contains.f k 4 (([(([1, 2, 3, 0] : List Int))] : List (List Int))) (([1, 0, 2, 3] : List Int))).bind fun bt387 => (if bt354.2.2 = 0 then (if bt363.2 = 0 then (if bt376.2 = 0 then (if bt387.2 = 0 then ((quadformref01_Small.f 6).bind fun bt389 => ((quadformref01_Same.f k bt354.1 bt354.2.1 bt389.1 bt389.2).bind fun t393 => (if t393 = true then ((quadformref16_Same.f k bt363.1 (([3, 2] : List Int))).bind fun t397 => (if t397 = true then (if bt376.1 = true then (some (!bt387.1)) else (some false)) else (some false))) else (some false)))) else (some false)) else (some false)) else (some false)) else (some false))))))
theorem quadformlaw17_awake.mono : ∀ k, LeO (quadformlaw17_awake.f k ) (quadformlaw17_awake.f (k + 1) ) := by
  intro  k
  unfold quadformlaw17_awake.f
  repeat' first
      | (with_reducible exact quadformref01_Same.mono _ _ _ _ _)
      | (with_reducible exact quadformref16_Same.mono _ _ _)
      | (with_reducible exact stabchain_Contains.mono _ _ _ _)
      | (with_reducible exact stabchain_Lengths.mono _ _ _ _)
      | (with_reducible exact stabchain_Order.mono _ _ _)
      | (with_reducible exact LeO.refl _)
      | (with_reducible exact LeO.none _)
      | (with_reducible refine LeO.ite ?_ ?_)
      | (with_reducible refine LeO.bind ?_ (fun _ => ?_))
      | exact quadformref01_Same.mono _ _ _ _ _
      | exact quadformref16_Same.mono _ _ _
      | exact stabchain_Contains.mono _ _ _ _
      | exact stabchain_Lengths.mono _ _ _ _
      | exact stabchain_Order.mono _ _ _
      | exact LeO.none _
      | refine LeO.ite ?_ ?_
      | refine LeO.bind ?_ (fun _ => ?_)
def quadformlaw17_awake.T6 : Bool × List (List Nat × List Nat) := (true, [([], []), ([0], [0]), ([1], [1]), ([2], [2]), ([3, 2], [2, 3]), ([2, 4], [2, 4]), ([5, 2], [5]), ([6], [6]), ([7, 6], [6, 7]), ([6, 8], [6, 8]), ([9, 6], [9]), ([10], [10]), ([11, 10], [10, 11]), ([10, 12], [10, 12]), ([13, 10], [13]), ([14], [14]), ([14, 14], [14]), ([15, 16, 16, 14], [14, 15, 16]), ([14, 17], [14, 17]), ([18, 17], [18]), ([19], [19]), ([19], [19]), ([20, 21, 19, 19], [19, 20, 21]), ([19, 22], [19, 22]), ([23, 22], [23]), ([24], [24]), ([24, 25], [24, 25]), ([26, 24], [26]), ([27], [27]), ([28, 27], [27, 28]), ([27, 29], [27, 29]), ([30, 27, 0, 1, 2, 3, 4, 5, 6, 7, 8, 9, 10, 11, 12, 13, 14, 15, 16, 17, 18, 19, 20, 21, 22, 23, 24, 25, 26, 27, 28, 29, 30], [30])])
def quadformlaw17_awake.B6 : List Nat := [0, 1, 3, 7, 15, 31, 63, 127, 255, 511, 1023, 2047, 4095, 8191, 16383, 32767, 32767, 131071, 262143, 524287, 1048575, 1048575, 4194303, 8388607, 16777215, 33554431, 67108863, 134217727, 268435455, 536870911, 1073741823, 2147483647]
theorem quadformlaw17_awake.tab6 : rtab .any (opsOf Try.f21 6) = quadformlaw17_awake.T6 := by kernel_rfl
theorem quadformlaw17_awake.bits6 : waitsOk quadformlaw17_awake.T6.2 quadformlaw17_awake.B6 = true := by kernel_rfl
set_option maxHeartbeats 8000000 in
set_option maxRecDepth 100000 in
theorem quadformlaw17_awake.calls1 (k : Nat)  (r : Bool) (w : World) (h : quadformlaw17_awake.f k  = some r) (HTR0 : r = true) :
    Calls Try.prog 21 #[] w fun e w' => e = .returned (.bool r) ∧ Below w.heap.size w w' := by
  have hu24 := Try.underlying24; have HTR := Aside0.mk HTR0; clear HTR0; have HB := Aside0.mk (Below.refl w.heap.size w); have H : ((some (([(([1, 2, 0] : List Int)), (([1, 0, 2] : List Int))] : List (List Int)) : List (List Int))).bind fun y351 => ((stabchain_Order.f k 3 y351).bind fun bt354 => ((stabchain_Lengths.f k 3 y351 (([0, 1] : List Int))).bind fun bt363 => ((stabchain_Contains.f k 4 (([(([1, 2, 3, 0] : List Int))] : List (List Int))) (([2, 3, 0, 1] : List Int))).bind fun bt376 => ((stabchain_Contains.f k 4 (([(([1, 2, 3, 0] : List Int))] : List (List Int))) (([1, 0, 2, 3] : List Int))).bind fun bt387 => (if bt354.2.2 = 0 then (if bt363.2 = 0 then (if bt376.2 = 0 then (if bt387.2 = 0 then ((quadformref01_Small.f 6).bind fun bt389 => ((quadformref01_Same.f k bt354.1 bt354.2.1 bt389.1 bt389.2).bind fun t393 => (if t393 = true then ((quadformref16_Same.f k bt363.1 (([3, 2] : List Int))).bind fun t397 => (if t397 = true then (if bt376.1 = true then (some (!bt387.1)) else (some false)) else (some false))) else (some false)))) else (some false)) else (some false)) else (some false)) else (some false))))))) = some r := h; clear h
  obtain ⟨y345, hy345⟩ : ∃ y_ : List Int, y_ = (([1, 2, 0] : List Int)) := ⟨_, rfl⟩
  replace H : ((some (([y345, (([1, 0, 2] : List Int))] : List (List Int)) : List (List Int))).bind fun y351 => ((stabchain_Order.f k 3 y351).bind fun bt354 => ((stabchain_Lengths.f k 3 y351 (([0, 1] : List Int))).bind fun bt363 => ((stabchain_Contains.f k 4 (([(([1, 2, 3, 0] : List Int))] : List (List Int))) (([2, 3, 0, 1] : List Int))).bind fun bt376 => ((stabchain_Contains.f k 4 (([(([1, 2, 3, 0] : List Int))] : List (List Int))) (([1, 0, 2, 3] : List Int))).bind fun bt387 => (if bt354.2.2 = 0 then (if bt363.2 = 0 then (if bt376.2 = 0 then (if bt387.2 = 0 then ((quadformref01_Small.f 6).bind fun bt389 => ((quadformref01_Same.f k bt354.1 bt354.2.1 bt389.1 bt389.2).bind fun t393 => (if t393 = true then ((quadformref16_Same.f k bt363.1 (([3, 2] : List Int))).bind fun t397 => (if t397 = true then (if bt376.1 = true then (some (!bt387.1)) else (some false)) else (some false))) else (some false)))) else (some false)) else (some false)) else (some false)) else (some false))))))) = some r := by first | (rw [hy345]; with_reducible exact H) | (have H2_ := (Option.bind_some _ _).symm.trans H; rw [hy345]; with_reducible exact H2_) | (have H2_ := (Option.bind_some _ _).symm.trans H; with_reducible exact H2_) | with_reducible exact H | (rw [hy345]; exact H) | exact H
  have Ny345 := Aside0.mk hy345; clear hy345
  obtain ⟨y348, hy348⟩ : ∃ y_ : List Int, y_ = (([1, 0, 2] : List Int)) := ⟨_, rfl⟩
  replace H : ((some (([y345, y348] : List (List Int)) : List (List Int))).bind fun y351 => ((stabchain_Order.f k 3 y351).bind fun bt354 => ((stabchain_Lengths.f k 3 y351 (([0, 1] : List Int))).bind fun bt363 => ((stabchain_Contains.f k 4 (([(([1, 2, 3, 0] : List Int))] : List (List Int))) (([2, 3, 0, 1] : List Int))).bind fun bt376 => ((stabchain_Contains.f k 4 (([(([1, 2, 3, 0] : List Int))] : List (List Int))) (([1, 0, 2, 3] : List Int))).bind fun bt387 => (if bt354.2.2 = 0 then (if bt363.2 = 0 then (if bt376.2 = 0 then (if bt387.2 = 0 then ((quadformref01_Small.f 6).bind fun bt389 => ((quadformref01_Same.f k bt354.1 bt354.2.1 bt389.1 bt389.2).bind fun t393 => (if t393 = true then ((quadformref16_Same.f k bt363.1 (([3, 2] : List Int))).bind fun t397 => (if t397 = true then (if bt376.1 = true then (some (!bt387.1)) else (some false)) else (some false))) else (some false)))) else (some false)) else (some false)) else (some false)) else (some false))))))) = some r := by first | (rw [hy348]; with_reducible exact H) | (have H2_ := (Option.bind_some _ _).symm.trans H; rw [hy348]; with_reducible exact H2_) | (have H2_ := (Option.bind_some _ _).symm.trans H; with_reducible exact H2_) | with_reducible exact H | (rw [hy348]; exact H) | exact H
  have Ny348 := Aside0.mk hy348; clear hy348
  obtain ⟨y351, hy351⟩ : ∃ y_ : List (List Int), y_ = (([y345, y348] : List (List Int))) := ⟨_, rfl⟩
  replace H : ((stabchain_Order.f k 3 y351).bind fun bt354 => ((stabchain_Lengths.f k 3 y351 (([0, 1] : List Int))).bind fun bt363 => ((stabchain_Contains.f k 4 (([(([1, 2, 3, 0] : List Int))] : List (List Int))) (([2, 3, 0, 1] : List Int))).bind fun bt376 => ((stabchain_Contains.f k 4 (([(([1, 2, 3, 0] : List Int))] : List (List Int))) (([1, 0, 2, 3] : List Int))).bind fun bt387 => (if bt354.2.2 = 0 then (if bt363.2 = 0 then (if bt376.2 = 0 then (if bt387.2 = 0 then ((quadformref01_Small.f 6).bind fun bt389 => ((quadformref01_Same.f k bt354.1 bt354.2.1 bt389.1 bt389.2).bind fun t393 => (if t393 = true then ((quadformref16_Same.f k bt363.1 (([3, 2] : List Int))).bind fun t397 => (if t397 = true then (if bt376.1 = true then (some (!bt387.1)) else (some false)) else (some false))) else (some false)))) else (some false)) else (some false)) else (some false)) else (some false)))))) = some r := by first | (rw [hy351]; with_reducible exact H) | (have H2_ := (Option.bind_some _ _).symm.trans H; rw [hy351]; with_reducible exact H2_) | (have H2_ := (Option.bind_some _ _).symm.trans H; with_reducible exact H2_) | with_reducible exact H | (rw [hy351]; exact H) | exact H
  have Ny351 := Aside0.mk hy351; clear hy351; replace H := Option.bind_eq_some_iff.mp H; obtain ⟨⟨t354, t355, t358⟩, A10, H⟩ := H; replace H : ((stabchain_Lengths.f k 3 y351 (([0, 1] : List Int))).bind fun bt363 => ((stabchain_Contains.f k 4 (([(([1, 2, 3, 0] : List Int))] : List (List Int))) (([2, 3, 0, 1] : List Int))).bind fun bt376 => ((stabchain_Contains.f k 4 (([(([1, 2, 3, 0] : List Int))] : List (List Int))) (([1, 0, 2, 3] : List Int))).bind fun bt387 => (if t358 = 0 then (if bt363.2 = 0 then (if bt376.2 = 0 then (if bt387.2 = 0 then ((quadformref01_Small.f 6).bind fun bt389 => ((quadformref01_Same.f k t354 t355 bt389.1 bt389.2).bind fun t393 => (if t393 = true then ((quadformref16_Same.f k bt363.1 (([3, 2] : List Int))).bind fun t397 => (if t397 = true then (if bt376.1 = true then (some (!bt387.1)) else (some false)) else (some false))) else (some false)))) else (some false)) else (some false)) else (some false)) else (some false))))) = some r := H; have A1 := Aside0.mk A10; clear A10
  obtain ⟨y360, hy360⟩ : ∃ y_ : List Int, y_ = (([0, 1] : List Int)) := ⟨_, rfl⟩
  replace H : ((stabchain_Lengths.f k 3 y351 y360).bind fun bt363 => ((stabchain_Contains.f k 4 (([(([1, 2, 3, 0] : List Int))] : List (List Int))) (([2, 3, 0, 1] : List Int))).bind fun bt376 => ((stabchain_Contains.f k 4 (([(([1, 2, 3, 0] : List Int))] : List (List Int))) (([1, 0, 2, 3] : List Int))).bind fun bt387 => (if t358 = 0 then (if bt363.2 = 0 then (if bt376.2 = 0 then (if bt387.2 = 0 then ((quadformref01_Small.f 6).bind fun bt389 => ((quadformref01_Same.f k t354 t355 bt389.1 bt389.2).bind fun t393 => (if t393 = true then ((quadformref16_Same.f k bt363.1 (([3, 2] : List Int))).bind fun t397 => (if t397 = true then (if bt376.1 = true then (some (!bt387.1)) else (some false)) else (some false))) else (some false)))) else (some false)) else (some false)) else (some false)) else (some false))))) = some r := by first | (rw [hy360]; with_reducible exact H) | (have H2_ := (Option.bind_some _ _).symm.trans H; rw [hy360]; with_reducible exact H2_) | (have H2_ := (Option.bind_some _ _).symm.trans H; with_reducible exact H2_) | with_reducible exact H | (rw [hy360]; exact H) | exact H
  have Ny360 := Aside0.mk hy360; clear hy360; replace H := Option.bind_eq_some_iff.mp H; obtain ⟨⟨t363, t364⟩, A20, H⟩ := H; replace H : ((stabchain_Contains.f k 4 (([(([1, 2, 3, 0] : List Int))] : List (List Int))) (([2, 3, 0, 1] : List Int))).bind fun bt376 => ((stabchain_Contains.f k 4 (([(([1, 2, 3, 0] : List Int))] : List (List Int))) (([1, 0, 2, 3] : List Int))).bind fun bt387 => (if t358 = 0 then (if t364 = 0 then (if bt376.2 = 0 then (if bt387.2 = 0 then ((quadformref01_Small.f 6).bind fun bt389 => ((quadformref01_Same.f k t354 t355 bt389.1 bt389.2).bind fun t393 => (if t393 = true then ((quadformref16_Same.f k t363 (([3, 2] : List Int))).bind fun t397 => (if t397 = true then (if bt376.1 = true then (some (!bt387.1)) else (some false)) else (some false))) else (some false)))) else (some false)) else (some false)) else (some false)) else (some false)))) = some r := H; have A2 := Aside0.mk A20; clear A20
  obtain ⟨y367, hy367⟩ : ∃ y_ : List Int, y_ = (([1, 2, 3, 0] : List Int)) := ⟨_, rfl⟩
  replace H : ((stabchain_Contains.f k 4 (([y367] : List (List Int))) (([2, 3, 0, 1] : List Int))).bind fun bt376 => ((stabchain_Contains.f k 4 (([(([1, 2, 3, 0] : List Int))] : List (List Int))) (([1, 0, 2, 3] : List Int))).bind fun bt387 => (if t358 = 0 then (if t364 = 0 then (if bt376.2 = 0 then (if bt387.2 = 0 then ((quadformref01_Small.f 6).bind fun bt389 => ((quadformref01_Same.f k t354 t355 bt389.1 bt389.2).bind fun t393 => (if t393 = true then ((quadformref16_Same.f k t363 (([3, 2] : List Int))).bind fun t397 => (if t397 = true then (if bt376.1 = true then (some (!bt387.1)) else (some false)) else (some false))) else (some false)))) else (some false)) else (some false)) else (some false)) else (some false)))) = some r := by first | (rw [hy367]; with_reducible exact H) | (have H2_ := (Option.bind_some _ _).symm.trans H; rw [hy367]; with_reducible exact H2_) | (have H2_ := (Option.bind_some _ _).symm.trans H; with_reducible exact H2_) | with_reducible exact H | (rw [hy367]; exact H) | exact H
  have Ny367 := Aside0.mk hy367; clear hy367
  obtain ⟨y370, hy370⟩ : ∃ y_ : List (List Int), y_ = (([y367] : List (List Int))) := ⟨_, rfl⟩
  replace H : ((stabchain_Contains.f k 4 y370 (([2, 3, 0, 1] : List Int))).bind fun bt376 => ((stabchain_Contains.f k 4 (([(([1, 2, 3, 0] : List Int))] : List (List Int))) (([1, 0, 2, 3] : List Int))).bind fun bt387 => (if t358 = 0 then (if t364 = 0 then (if bt376.2 = 0 then (if bt387.2 = 0 then ((quadformref01_Small.f 6).bind fun bt389 => ((quadformref01_Same.f k t354 t355 bt389.1 bt389.2).bind fun t393 => (if t393 = true then ((quadformref16_Same.f k t363 (([3, 2] : List Int))).bind fun t397 => (if t397 = true then (if bt376.1 = true then (some (!bt387.1)) else (some false)) else (some false))) else (some false)))) else (some false)) else (some false)) else (some false)) else (some false)))) = some r := by first | (rw [hy370]; with_reducible exact H) | (have H2_ := (Option.bind_some _ _).symm.trans H; rw [hy370]; with_reducible exact H2_) | (have H2_ := (Option.bind_some _ _).symm.trans H; with_reducible exact H2_) | with_reducible exact H | (rw [hy370]; exact H) | exact H
  have Ny370 := Aside0.mk hy370; clear hy370
  obtain ⟨y373, hy373⟩ : ∃ y_ : List Int, y_ = (([2, 3, 0, 1] : List Int)) := ⟨_, rfl⟩
  replace H : ((stabchain_Contains.f k 4 y370 y373).bind fun bt376 => ((stabchain_Contains.f k 4 (([(([1, 2, 3, 0] : List Int))] : List (List Int))) (([1, 0, 2, 3] : List Int))).bind fun bt387 => (if t358 = 0 then (if t364 = 0 then (if bt376.2 = 0 then (if bt387.2 = 0 then ((quadformref01_Small.f 6).bind fun bt389 => ((quadformref01_Same.f k t354 t355 bt389.1 bt389.2).bind fun t393 => (if t393 = true then ((quadformref16_Same.f k t363 (([3, 2] : List Int))).bind fun t397 => (if t397 = true then (if bt376.1 = true then (some (!bt387.1)) else (some false)) else (some false))) else (some false)))) else (some false)) else (some false)) else (some false)) else (some false)))) = some r := by first | (rw [hy373]; with_reducible exact H) | (have H2_ := (Option.bind_some _ _).symm.trans H; rw [hy373]; with_reducible exact H2_) | (have H2_ := (Option.bind_some _ _).symm.trans H; with_reducible exact H2_) | with_reducible exact H | (rw [hy373]; exact H) | exact H
  have Ny373 := Aside0.mk hy373; clear hy373; replace H := Option.bind_eq_some_iff.mp H; obtain ⟨⟨t376, t377⟩, A30, H⟩ := H; replace H : ((stabchain_Contains.f k 4 (([(([1, 2, 3, 0] : List Int))] : List (List Int))) (([1, 0, 2, 3] : List Int))).bind fun bt387 => (if t358 = 0 then (if t364 = 0 then (if t377 = 0 then (if bt387.2 = 0 then ((quadformref01_Small.f 6).bind fun bt389 => ((quadformref01_Same.f k t354 t355 bt389.1 bt389.2).bind fun t393 => (if t393 = true then ((quadformref16_Same.f k t363 (([3, 2] : List Int))).bind fun t397 => (if t397 = true then (if t376 = true then (some (!bt387.1)) else (some false)) else (some false))) else (some false)))) else (some false)) else (some false)) else (some false)) else (some false))) = some r := H; have A3 := Aside0.mk A30; clear A30
  obtain ⟨y378, hy378⟩ : ∃ y_ : List Int, y_ = (([1, 2, 3, 0] : List Int)) := ⟨_, rfl⟩
  replace H : ((stabchain_Contains.f k 4 (([y378] : List (List Int))) (([1, 0, 2, 3] : List Int))).bind fun bt387 => (if t358 = 0 then (if t364 = 0 then (if t377 = 0 then (if bt387.2 = 0 then ((quadformref01_Small.f 6).bind fun bt389 => ((quadformref01_Same.f k t354 t355 bt389.1 bt389.2).bind fun t393 => (if t393 = true then ((quadformref16_Same.f k t363 (([3, 2] : List Int))).bind fun t397 => (if t397 = true then (if t376 = true then (some (!bt387.1)) else (some false)) else (some false))) else (some false)))) else (some false)) else (some false)) else (some false)) else (some false))) = some r := by first | (rw [hy378]; with_reducible exact H) | (have H2_ := (Option.bind_some _ _).symm.trans H; rw [hy378]; with_reducible exact H2_) | (have H2_ := (Option.bind_some _ _).symm.trans H; with_reducible exact H2_) | with_reducible exact H | (rw [hy378]; exact H) | exact H
  have Ny378 := Aside0.mk hy378; clear hy378
  obtain ⟨y381, hy381⟩ : ∃ y_ : List (List Int), y_ = (([y378] : List (List Int))) := ⟨_, rfl⟩
  replace H : ((stabchain_Contains.f k 4 y381 (([1, 0, 2, 3] : List Int))).bind fun bt387 => (if t358 = 0 then (if t364 = 0 then (if t377 = 0 then (if bt387.2 = 0 then ((quadformref01_Small.f 6).bind fun bt389 => ((quadformref01_Same.f k t354 t355 bt389.1 bt389.2).bind fun t393 => (if t393 = true then ((quadformref16_Same.f k t363 (([3, 2] : List Int))).bind fun t397 => (if t397 = true then (if t376 = true then (some (!bt387.1)) else (some false)) else (some false))) else (some false)))) else (some false)) else (some false)) else (some false)) else (some false))) = some r := by first | (rw [hy381]; with_reducible exact H) | (have H2_ := (Option.bind_some _ _).symm.trans H; rw [hy381]; with_reducible exact H2_) | (have H2_ := (Option.bind_some _ _).symm.trans H; with_reducible exact H2_) | with_reducible exact H | (rw [hy381]; exact H) | exact H
  have Ny381 := Aside0.mk hy381; clear hy381
  obtain ⟨y384, hy384⟩ : ∃ y_ : List Int, y_ = (([1, 0, 2, 3] : List Int)) := ⟨_, rfl⟩
  replace H : ((stabchain_Contains.f k 4 y381 y384).bind fun bt387 => (if t358 = 0 then (if t364 = 0 then (if t377 = 0 then (if bt387.2 = 0 then ((quadformref01_Small.f 6).bind fun bt389 => ((quadformref01_Same.f k t354 t355 bt389.1 bt389.2).bind fun t393 => (if t393 = true then ((quadformref16_Same.f k t363 (([3, 2] : List Int))).bind fun t397 => (if t397 = true then (if t376 = true then (some (!bt387.1)) else (some false)) else (some false))) else (some false)))) else (some false)) else (some false)) else (some false)) else (some false))) = some r := by first | (rw [hy384]; with_reducible exact H) | (have H2_ := (Option.bind_some _ _).symm.trans H; rw [hy384]; with_reducible exact H2_) | (have H2_ := (Option.bind_some _ _).symm.trans H; with_reducible exact H2_) | with_reducible exact H | (rw [hy384]; exact H) | exact H
  have Ny384 := Aside0.mk hy384; clear hy384; replace H := Option.bind_eq_some_iff.mp H; obtain ⟨⟨t387, t388⟩, A40, H⟩ := H; replace H : (if t358 = 0 then (if t364 = 0 then (if t377 = 0 then (if t388 = 0 then ((quadformref01_Small.f 6).bind fun bt389 => ((quadformref01_Same.f k t354 t355 bt389.1 bt389.2).bind fun t393 => (if t393 = true then ((quadformref16_Same.f k t363 (([3, 2] : List Int))).bind fun t397 => (if t397 = true then (if t376 = true then (some (!t387)) else (some false)) else (some false))) else (some false)))) else (some false)) else (some false)) else (some false)) else (some false)) = some r := H; have A4 := Aside0.mk A40; clear A40
  by_cases c5 : t358 = 0
  · rw [if_pos c5] at H
    have c5b0 : (t358 == 0) = true := beq_iff_eq.mpr c5; have c5b1 : (t358 != 0) = false := bne_eq_false_iff_eq.mpr c5; clear c5
    by_cases c6 : t364 = 0
    · rw [if_pos c6] at H
      have c6b0 : (t364 == 0) = true := beq_iff_eq.mpr c6; have c6b1 : (t364 != 0) = false := bne_eq_false_iff_eq.mpr c6; clear c6
      by_cases c7 : t377 = 0
      · rw [if_pos c7] at H
        have c7b0 : (t377 == 0) = true := beq_iff_eq.mpr c7; have c7b1 : (t377 != 0) = false := bne_eq_false_iff_eq.mpr c7; clear c7
        by_cases c8 : t388 = 0
        · rw [if_pos c8] at H
          have c8b0 : (t388 == 0) = true := beq_iff_eq.mpr c8; have c8b1 : (t388 != 0) = false := bne_eq_false_iff_eq.mpr c8; clear c8; replace H := Option.bind_eq_some_iff.mp H; obtain ⟨⟨t389, t390⟩, A90, H⟩ := H; replace H : ((quadformref01_Same.f k t354 t355 t389 t390).bind fun t393 => (if t393 = true then ((quadformref16_Same.f k t363 (([3, 2] : List Int))).bind fun t397 => (if t397 = true then (if t376 = true then (some (!t387)) else (some false)) else (some false))) else (some false))) = some r := H; have A9 := Aside0.mk A90; clear A90; replace H := Option.bind_eq_some_iff.mp H; obtain ⟨t393, A100, H⟩ := H; replace H : (if t393 = true then ((quadformref16_Same.f k t363 (([3, 2] : List Int))).bind fun t397 => (if t397 = true then (if t376 = true then (some (!t387)) else (some false)) else (some false))) else (some false)) = some r := H; have A10 := Aside0.mk A100; clear A100
          by_cases c11 : t393 = true
          · subst c11
            have H1 : ((quadformref16_Same.f k t363 (([3, 2] : List Int))).bind fun t397 => (if t397 = true then (if t376 = true then (some (!t387)) else (some false)) else (some false))) = some r := by rw [if_pos rfl] at H; exact H
            clear H; have H := H1; clear H1
            obtain ⟨y394, hy394⟩ : ∃ y_ : List Int, y_ = (([3, 2] : List Int)) := ⟨_, rfl⟩
            replace H : ((quadformref16_Same.f k t363 y394).bind fun t397 => (if t397 = true then (if t376 = true then (some (!t387)) else (some false)) else (some false))) = some r := by first | (rw [hy394]; with_reducible exact H) | (have H2_ := (Option.bind_some _ _).symm.trans H; rw [hy394]; with_reducible exact H2_) | (have H2_ := (Option.bind_some _ _).symm.trans H; with_reducible exact H2_) | with_reducible exact H | (rw [hy394]; exact H) | exact H
            have Ny394 := Aside0.mk hy394; clear hy394; replace H := Option.bind_eq_some_iff.mp H; obtain ⟨t397, A120, H⟩ := H; replace H : (if t397 = true then (if t376 = true then (some (!t387)) else (some false)) else (some false)) = some r := H; have A12 := Aside0.mk A120; clear A120
            by_cases c13 : t397 = true
            · subst c13
              have H1 : (if t376 = true then (some (!t387)) else (some false)) = some r := by rw [if_pos rfl] at H; exact H
              clear H; have H := H1; clear H1
              by_cases c14 : t376 = true
              · subst c14
                have H1 : (some (!t387)) = some r := by rw [if_pos rfl] at H; exact H
                clear H; have H := H1; clear H1; obtain rfl := Option.some.inj H
                go_enter Try.func21, Try.ntmps21
                try go_wp2_with (first | ((with_reducible refine gate_dst (N := 10) rfl ?_); (try (refine gate_guard (by rfl) ?_; dsimp only)); refine Kd.R_lit (Kd.int .i64) _ 3 ?hg (N := 10) ?hd (xs := ([1, 2, 0] : List Int)) (inner := [.int .i64 1, .int .i64 2, .int .i64 0]) (ok := fun _ => True) (okp := fun _ => True) ?hr ?hp (fun _ hk => hk) trivial (Below.refl _ _) (Nat.le_refl _) (by simp) ?_; (case hd => rfl); (case hg => rfl); (case hr => first | (go_simp; done) | (go_simp; rfl)); (case hp => exact (Reps.one (show Kd.M (Kd.int .i64) _ _ _ 1 [.int .i64 1] from rfl) (Reps.one (show Kd.M (Kd.int .i64) _ _ _ 2 [.int .i64 2] from rfl) (Reps.one (show Kd.M (Kd.int .i64) _ _ _ 0 [.int .i64 0] from rfl) (Reps.none _ _))))); intro v346 w15 ho16 hb hg_ hnew_; clear hg_ hnew_; (first | rw [← Ny345.out] at ho16 | (simp only [Int.reduceToNat] at ho16; rw [← Ny345.out] at ho16)); have n0_ := Aside0.mk (Kd.R_lower ho16 (below_size (by repeat (first | (with_reducible first | exact HB.out | apply below_alloc | apply pw_below_drewN | apply below_drew1) | exact HB.out)))); have n1_ := Aside0.mk (below_step (by repeat (first | (with_reducible first | exact HB.out | apply below_alloc | apply pw_below_drewN | apply below_drew1) | exact HB.out)) hb); clear HB; have HO347 := n0_; have HB := n1_; clear n0_ n1_; clear hb ho16) | ((with_reducible refine gate_dst (N := 11) rfl ?_); (try (refine gate_guard (by rfl) ?_; dsimp only)); refine Kd.R_lit (Kd.int .i64) _ 3 ?hg (N := 11) ?hd (xs := ([1, 0, 2] : List Int)) (inner := [.int .i64 1, .int .i64 0, .int .i64 2]) (ok := fun _ => True) (okp := fun _ => True) ?hr ?hp (fun _ hk => hk) trivial (Below.refl _ _) (Nat.le_refl _) (by simp) ?_; (case hd => rfl); (case hg => rfl); (case hr => first | (go_simp; done) | (go_simp; rfl)); (case hp => exact (Reps.one (show Kd.M (Kd.int .i64) _ _ _ 1 [.int .i64 1] from rfl) (Reps.one (show Kd.M (Kd.int .i64) _ _ _ 0 [.int .i64 0] from rfl) (Reps.one (show Kd.M (Kd.int .i64) _ _ _ 2 [.int .i64 2] from rfl) (Reps.none _ _))))); intro v349 w17 ho18 hb hg_ hnew_; clear hg_ hnew_; (first | rw [← Ny348.out] at ho18 | (simp only [Int.reduceToNat] at ho18; rw [← Ny348.out] at ho18)); have n0_ := Aside0.mk (Kd.R_elder' (by (with_reducible repeat (first | apply Kd.R_alloc | apply Kd.R_drewN | apply Kd.R_drew)); exact HO347.out) (Kd.R_base ho18) hb); have n1_ := Aside0.mk (Kd.R_lower (Kd.R_new' ho18 (Kd.R_lt (by (with_reducible repeat (first | apply Kd.R_alloc | apply Kd.R_drewN | apply Kd.R_drew)); exact HO347.out))) (below_size (by repeat (first | (with_reducible first | exact HB.out | apply below_alloc | apply pw_below_drewN | apply below_drew1) | exact HB.out)))); have n2_ := Aside0.mk (below_step (by repeat (first | (with_reducible first | exact HB.out | apply below_alloc | apply pw_below_drewN | apply below_drew1) | exact HB.out)) hb); clear HO347; clear HB; have HO347 := n0_; have HO350 := n1_; have HB := n2_; clear n0_ n1_ n2_; clear hb ho18; obtain ⟨Ao19, co19, eo19⟩ := Kd.R_slice HO347.out; subst eo19; obtain ⟨Ao20, co20, eo20⟩ := Kd.R_slice HO350.out; subst eo20) | ((with_reducible refine gate_dst (N := 12) rfl ?_); (try (refine gate_guard (by rfl) ?_; dsimp only)); refine Kd.N_lit (Kd.slice 3 (Kd.int .i64)) _ 28 ?hg (N' := 12) ?hd (xs := ([y345, y348] : List (List Int))) (inner := [.slice Ao19 y345.length co19, .slice Ao20 y348.length co20]) (ok := (fun _ => True)) (okp := (fun _ => True)) ?hr ?hp (fun _ hk => hk) ((show ∀ k_, w17.heap.size ≤ k_ → (fun _ => True) k_ from fun k_ hk => trivial) _ (Nat.le_refl _)) (Below.refl _ _) (Nat.le_refl _) (by simp) ?_; (case hd => rfl); (case hg => rfl); (case hr => first | (go_simp; done) | (go_simp; rfl)); (case hp => exact (Reps.one (show Kd.FK (Kd.slice 3 (Kd.int .i64)) _ _ y345 [.slice Ao19 y345.length co19] from (Kd.FK_slice_mk (Kd.R_reads' (Kd.R_mono (ok' := (fun _ => True)) (HO347.out) (fun k_ hk => trivial))).2.1 (Kd.R_F (Kd.R_mono (ok' := (fun _ => True)) (HO347.out) (fun k_ hk => trivial))))) (Reps.one (show Kd.FK (Kd.slice 3 (Kd.int .i64)) _ _ y348 [.slice Ao20 y348.length co20] from (Kd.FK_slice_mk (Kd.R_reads' (Kd.R_mono (ok' := (fun _ => True)) (HO350.out) (fun k_ hk => trivial))).2.1 (Kd.R_F (Kd.R_mono (ok' := (fun _ => True)) (HO350.out) (fun k_ hk => trivial))))) (Reps.none _ _)))); intro v352 w21 ho22 hb hg_ hnew_; clear hg_ hnew_; (first | rw [← Ny351.out] at ho22 | (simp only [Int.reduceToNat] at ho22; rw [← Ny351.out] at ho22)); have n0_ := Aside0.mk (Kd.N_lower ho22 (below_size (by repeat (first | (with_reducible first | exact HB.out | apply below_alloc | apply pw_below_drewN | apply below_drew1) | exact HB.out)))); have n1_ := Aside0.mk (below_step (by repeat (first | (with_reducible first | exact HB.out | apply below_alloc | apply pw_below_drewN | apply below_drew1) | exact HB.out)) hb); clear HB; clear HO347; clear HO350; have HO353 := n0_; have HB := n1_; clear n0_ n1_; clear hb ho22; obtain ⟨Ao23, co23, eo23⟩ := Kd.N_slice HO353.out; subst eo23) | ((with_reducible refine gate_callee (f := 15) rfl ?_); refine goesL_ (some 15) rfl rfl Try.func15 (by kernel_rfl) rfl #[.int .i64 3, .slice Ao23 y351.length co23] rfl (by (try simp only [List.map_toArray, List.map_cons, List.map_nil]); first | done | rfl | (simp only [List.length_drop, List.length_take]; rfl)) ?_; (with_reducible refine (stabchain_Order.calls k 3 _ _ y351 t354 t355 t358 _ ?side1 ?side2 A1.out).mono ?_); (case side1 => repeat (first | exact (Kd.N_reads' HO353.out).2.2 | (with_reducible refine Kd.C_alloc ?_ _) | (with_reducible refine Kd.C_drewN ?_ _) | (with_reducible refine Kd.C_drew ?_))); (case side2 => exact (Kd.N_reads' HO353.out).2.1); rintro e w24 ⟨v356, rfl, ho0, hb⟩; refine ⟨_, rfl, ?_⟩; have n0_ := Aside0.mk (Kd.N_below (by (with_reducible repeat (first | apply Kd.N_alloc | apply Kd.N_drewN | apply Kd.N_drew)); exact HO353.out) hb); have n1_ := Aside0.mk (Kd.V_lower (Kd.V_mono (ok' := fun k_ => some k_ ≠ (.slice Ao23 y351.length co23 : Value).ownBlock) ho0 (fun k_ hk_ => (Kd.fresh' (Kd.N_lt (by (with_reducible repeat (first | apply Kd.N_alloc | apply Kd.N_drewN | apply Kd.N_drew)); exact HO353.out)) k_ hk_))) (below_size (by repeat (first | (with_reducible first | exact HB.out | apply below_alloc | apply pw_below_drewN | apply below_drew1) | exact HB.out)))); have n2_ := Aside0.mk (below_step (by repeat (first | (with_reducible first | exact HB.out | apply below_alloc | apply pw_below_drewN | apply below_drew1) | exact HB.out)) hb); clear HO353; clear HB; have HO353 := n0_; have HO357 := n1_; have HB := n2_; clear n0_ n1_ n2_; (try clear hb); (try clear hb2); (try clear hk); (try clear hi); (try clear ho0)) | ((with_reducible refine gate_dst (N := 2) rfl ?_); (try (refine gate_guard (by rfl) ?_; dsimp only)); refine box_event ?hg (N := 2) ?hd (cs := #[.bool false, .slice none 0 0]) (t := 24) ?hr ?_; (case hd => rfl); (case hg => rfl); (case hr => first | (go_simp; done) | (go_simp; rfl)); intro gb359 hg w25 hbox hb; have n0_ := Aside0.mk (Kd.N_below (Kd.N_elderB (by (with_reducible repeat (first | apply Kd.N_alloc | apply Kd.N_drewN | apply Kd.N_drew)); exact HO353.out) gb359 (Nat.le_of_eq hg.symm)) hb); have n1_ := Aside0.mk (Kd.V_below (Kd.V_elderB (by (with_reducible repeat (first | apply Kd.V_alloc | apply Kd.V_drewN | apply Kd.V_drew)); exact HO357.out) gb359 (Nat.le_of_eq hg.symm)) hb); have n2_ := Aside0.mk (below_step (by repeat (first | (with_reducible first | exact HB.out | apply below_alloc | apply pw_below_drewN | apply below_drew1) | exact HB.out)) hb); have n3_ := Aside0.mk (hbox); have n4_ := Aside0.mk ((by rw [hg]; exact (below_size (by repeat (first | (with_reducible first | exact HB.out | apply below_alloc | apply pw_below_drewN | apply below_drew1) | exact HB.out))) : w.heap.size ≤ gb359)); have n5_ := Aside0.mk ((by rw [hg]; exact (below_size (by repeat (first | (with_reducible first | exact HB.out | apply below_alloc | apply pw_below_drewN | apply below_drew1) | exact HB.out))) : w.heap.size ≤ gb359)); clear HO353; clear HO357; clear HB; have HO353 := n0_; have HO357 := n1_; have HB := n2_; have BK359 := n3_; have GW359 := n4_; have GE359 := n5_; clear n0_ n1_ n2_ n3_ n4_ n5_; clear hb hbox hg; have hcz26_0 : w25.cell? ⟨gb359, 0, none⟩ = some (.bool false) := (blk_cell BK359.out 0).trans rfl; have hcz26_1 : w25.cell? ⟨gb359, 1, none⟩ = some (.slice none 0 0) := (blk_cell BK359.out 1).trans rfl; have hfz26_0 := blk_frozen BK359.out 0; have hfz26_1 := blk_frozen BK359.out 1; obtain ⟨Ao27, co27, eo27⟩ := Kd.V_slice HO357.out; subst eo27) | ((with_reducible refine gate_dst (N := 20) rfl ?_); (try (refine gate_guard (by rfl) ?_; dsimp only)); refine Kd.R_lit (Kd.int .i64) _ 3 ?hg (N := 20) ?hd (xs := ([0, 1] : List Int)) (inner := [.int .i64 0, .int .i64 1]) (ok := fun _ => True) (okp := fun _ => True) ?hr ?hp (fun _ hk => hk) trivial (Below.refl _ _) (Nat.le_refl _) (by simp) ?_; (case hd => rfl); (case hg => rfl); (case hr => first | (go_simp; done) | (go_simp; rfl)); (case hp => exact (Reps.one (show Kd.M (Kd.int .i64) _ _ _ 0 [.int .i64 0] from rfl) (Reps.one (show Kd.M (Kd.int .i64) _ _ _ 1 [.int .i64 1] from rfl) (Reps.none _ _)))); intro v361 w28 ho29 hb hg_ hnew_; clear hg_ hnew_; (first | rw [← Ny360.out] at ho29 | (simp only [Int.reduceToNat] at ho29; rw [← Ny360.out] at ho29)); have n0_ := Aside0.mk (Kd.N_elder' (by (with_reducible repeat (first | apply Kd.N_alloc | apply Kd.N_drewN | apply Kd.N_drew)); exact (Kd.N_mono (Kd.N_far (p := ⟨gb359, 1, none⟩) (Kd.N_far (p := ⟨gb359, 0, none⟩) (Kd.N_mono HO353.out (fun k_ hk => (⟨hk, hk.2⟩ : _ ∧ k_ ≠ gb359))) (fun _ hk => hk.2) (.bool t354)) (fun _ hk => hk.2) (.slice Ao27 t355.length co27)) (fun _ h_ => h_.1))) (Kd.R_base ho29) hb); have n1_ := Aside0.mk (Kd.V_elder' (by (with_reducible repeat (first | apply Kd.V_alloc | apply Kd.V_drewN | apply Kd.V_drew)); exact (Kd.V_mono (Kd.V_far (p := ⟨gb359, 1, none⟩) (Kd.V_far (p := ⟨gb359, 0, none⟩) (Kd.V_mono HO357.out (fun k_ hk => (⟨hk, hk.2⟩ : _ ∧ k_ ≠ gb359))) (fun _ hk => hk.2) (.bool t354)) (fun _ hk => hk.2) (.slice Ao27 t355.length co27)) (fun _ h_ => h_.1))) (Kd.R_base ho29) hb); have n2_ := Aside0.mk (Kd.R_lower ho29 (below_size (by repeat (first | (with_reducible first | exact HB.out | apply below_alloc | apply pw_below_drewN | apply below_drew1 | refine below_set ?_ GE359.out) | exact HB.out)))); have n3_ := Aside0.mk (blk_below (g := gb359) (o := .cells #[.bool t354, .slice Ao27 t355.length co27] 24 (0, 0)) (by (with_reducible repeat (first | refine blk_drewN ?_ _ | refine blk_drew ?_ | refine blk_alloc ?_ _)); refine blk_put (cs := #[.bool t354, .slice none 0 0]) ?_ 1 _ rfl; (with_reducible repeat (first | refine blk_drewN ?_ _ | refine blk_drew ?_ | refine blk_alloc ?_ _)); refine blk_put (cs := #[.bool false, .slice none 0 0]) ?_ 0 _ rfl; (with_reducible repeat (first | refine blk_drewN ?_ _ | refine blk_drew ?_ | refine blk_alloc ?_ _)); exact BK359.out) hb); have n4_ := Aside0.mk (below_step (by repeat (first | (with_reducible first | exact HB.out | apply below_alloc | apply pw_below_drewN | apply below_drew1 | refine below_set ?_ GE359.out) | exact HB.out)) hb); clear HO353; clear HO357; clear BK359; clear HB; have HO353 := n0_; have HO357 := n1_; have HO362 := n2_; have BK359 := n3_; have HB := n4_; clear n0_ n1_ n2_ n3_ n4_; clear hb ho29; obtain ⟨Ao30, co30, eo30⟩ := Kd.R_slice HO362.out; subst eo30) | ((with_reducible refine gate_callee (f := 30) rfl ?_); refine goesL_ (some 21) rfl rfl Try.func30 (by kernel_rfl) rfl #[.int .i64 3, .slice Ao23 y351.length co23, .slice Ao30 y360.length co30] rfl (by (try simp only [List.map_toArray, List.map_cons, List.map_nil]); first | done | rfl | (simp only [List.length_drop, List.length_take]; rfl)) ?_; (with_reducible refine (stabchain_Lengths.calls k 3 _ _ y351 _ _ y360 t363 t364 _ ?side1 ?side2 ?side3 ?side4 A2.out).mono ?_); (case side1 => repeat (first | exact (Kd.N_reads' HO353.out).2.2 | (with_reducible refine Kd.C_alloc ?_ _) | (with_reducible refine Kd.C_drewN ?_ _) | (with_reducible refine Kd.C_drew ?_))); (case side2 => exact (Kd.N_reads' HO353.out).2.1); (case side3 => repeat (first | exact (Kd.R_reads' HO362.out).2.2 | (with_reducible refine Kd.C_alloc ?_ _) | (with_reducible refine Kd.C_drewN ?_ _) | (with_reducible refine Kd.C_drew ?_))); (case side4 => exact (Kd.R_reads' HO362.out).2.1); rintro e w31 ⟨v365, rfl, ho0, hb⟩; refine ⟨_, rfl, ?_⟩; have n0_ := Aside0.mk (Kd.N_elder' (by (with_reducible repeat (first | apply Kd.N_alloc | apply Kd.N_drewN | apply Kd.N_drew)); exact HO353.out) (Kd.R_base ho0) hb); have n1_ := Aside0.mk (Kd.V_elder' (by (with_reducible repeat (first | apply Kd.V_alloc | apply Kd.V_drewN | apply Kd.V_drew)); exact HO357.out) (Kd.R_base ho0) hb); have n2_ := Aside0.mk (Kd.R_elder' (by (with_reducible repeat (first | apply Kd.R_alloc | apply Kd.R_drewN | apply Kd.R_drew)); exact HO362.out) (Kd.R_base ho0) hb); have n3_ := Aside0.mk (Kd.R_lower (Kd.R_new' ho0 (Kd.R_lt (by (with_reducible repeat (first | apply Kd.R_alloc | apply Kd.R_drewN | apply Kd.R_drew)); exact HO362.out))) (below_size (by repeat (first | (with_reducible first | exact HB.out | apply below_alloc | apply pw_below_drewN | apply below_drew1 | refine below_set ?_ GE359.out) | exact HB.out)))); have n4_ := Aside0.mk (blk_below (g := gb359) (o := .cells #[.bool t354, .slice Ao27 t355.length co27] 24 (0, 0)) (by (with_reducible repeat (first | refine blk_drewN ?_ _ | refine blk_drew ?_ | refine blk_alloc ?_ _)); exact BK359.out) hb); have n5_ := Aside0.mk (below_step (by repeat (first | (with_reducible first | exact HB.out | apply below_alloc | apply pw_below_drewN | apply below_drew1 | refine below_set ?_ GE359.out) | exact HB.out)) hb); clear HO353; clear HO357; clear HO362; clear BK359; clear HB; have HO353 := n0_; have HO357 := n1_; have HO362 := n2_; have HO366 := n3_; have BK359 := n4_; have HB := n5_; clear n0_ n1_ n2_ n3_ n4_ n5_; (try clear hb); (try clear hb2); (try clear hk); (try clear hi); (try clear ho0)) | ((with_reducible refine gate_dst (N := 25) rfl ?_); (try (refine gate_guard (by rfl) ?_; dsimp only)); refine Kd.R_lit (Kd.int .i64) _ 3 ?hg (N := 25) ?hd (xs := ([1, 2, 3, 0] : List Int)) (inner := [.int .i64 1, .int .i64 2, .int .i64 3, .int .i64 0]) (ok := fun _ => True) (okp := fun _ => True) ?hr ?hp (fun _ hk => hk) trivial (Below.refl _ _) (Nat.le_refl _) (by simp) ?_; (case hd => rfl); (case hg => rfl); (case hr => first | (go_simp; done) | (go_simp; rfl)); (case hp => exact (Reps.one (show Kd.M (Kd.int .i64) _ _ _ 1 [.int .i64 1] from rfl) (Reps.one (show Kd.M (Kd.int .i64) _ _ _ 2 [.int .i64 2] from rfl) (Reps.one (show Kd.M (Kd.int .i64) _ _ _ 3 [.int .i64 3] from rfl) (Reps.one (show Kd.M (Kd.int .i64) _ _ _ 0 [.int .i64 0] from rfl) (Reps.none _ _)))))); intro v368 w32 ho33 hb hg_ hnew_; clear hg_ hnew_; (first | rw [← Ny367.out] at ho33 | (simp only [Int.reduceToNat] at ho33; rw [← Ny367.out] at ho33)); have n0_ := Aside0.mk (Kd.N_elder' (by (with_reducible repeat (first | apply Kd.N_alloc | apply Kd.N_drewN | apply Kd.N_drew)); exact HO353.out) (Kd.R_base ho33) hb); have n1_ := Aside0.mk (Kd.V_elder' (by (with_reducible repeat (first | apply Kd.V_alloc | apply Kd.V_drewN | apply Kd.V_drew)); exact HO357.out) (Kd.R_base ho33) hb); have n2_ := Aside0.mk (Kd.R_elder' (by (with_reducible repeat (first | apply Kd.R_alloc | apply Kd.R_drewN | apply Kd.R_drew)); exact HO362.out) (Kd.R_base ho33) hb); have n3_ := Aside0.mk (Kd.R_elder' (by (with_reducible repeat (first | apply Kd.R_alloc | apply Kd.R_drewN | apply Kd.R_drew)); exact HO366.out) (Kd.R_base ho33) hb); have n4_ := Aside0.mk (Kd.R_lower (Kd.R_new' (Kd.R_new' ho33 (Kd.R_lt (by (with_reducible repeat (first | apply Kd.R_alloc | apply Kd.R_drewN | apply Kd.R_drew)); exact HO362.out))) (Kd.R_lt (by (with_reducible repeat (first | apply Kd.R_alloc | apply Kd.R_drewN | apply Kd.R_drew)); exact HO366.out))) (below_size (by repeat (first | (with_reducible first | exact HB.out | apply below_alloc | apply pw_below_drewN | apply below_drew1 | refine below_set ?_ GE359.out) | exact HB.out)))); have n5_ := Aside0.mk (blk_below (g := gb359) (o := .cells #[.bool t354, .slice Ao27 t355.length co27] 24 (0, 0)) (by (with_reducible repeat (first | refine blk_drewN ?_ _ | refine blk_drew ?_ | refine blk_alloc ?_ _)); exact BK359.out) hb); have n6_ := Aside0.mk (below_step (by repeat (first | (with_reducible first | exact HB.out | apply below_alloc | apply pw_below_drewN | apply below_drew1 | refine below_set ?_ GE359.out) | exact HB.out)) hb); clear HO353; clear HO357; clear HO362; clear HO366; clear BK359; clear HB; have HO353 := n0_; have HO357 := n1_; have HO362 := n2_; have HO366 := n3_; have HO369 := n4_; have BK359 := n5_; have HB := n6_; clear n0_ n1_ n2_ n3_ n4_ n5_ n6_; clear hb ho33; obtain ⟨Ao34, co34, eo34⟩ := Kd.R_slice HO369.out; subst eo34) | ((with_reducible refine gate_dst (N := 26) rfl ?_); (try (refine gate_guard (by rfl) ?_; dsimp only)); refine Kd.N_lit (Kd.slice 3 (Kd.int .i64)) _ 28 ?hg (N' := 26) ?hd (xs := ([y367] : List (List Int))) (inner := [.slice Ao34 y367.length co34]) (ok := (fun k_ => some k_ ≠ (.slice Ao23 y351.length co23 : Value).ownBlock ∧ some k_ ≠ (.slice Ao30 y360.length co30 : Value).ownBlock ∧ some k_ ≠ (v365 : Value).ownBlock ∧ k_ ≠ gb359)) (okp := (fun k_ => some k_ ≠ (.slice Ao23 y351.length co23 : Value).ownBlock ∧ some k_ ≠ (.slice Ao30 y360.length co30 : Value).ownBlock ∧ some k_ ≠ (v365 : Value).ownBlock ∧ k_ ≠ gb359)) ?hr ?hp (fun _ hk => hk) ((show ∀ k_, w32.heap.size ≤ k_ → (fun k_ => some k_ ≠ (.slice Ao23 y351.length co23 : Value).ownBlock ∧ some k_ ≠ (.slice Ao30 y360.length co30 : Value).ownBlock ∧ some k_ ≠ (v365 : Value).ownBlock ∧ k_ ≠ gb359) k_ from fun k_ hk => ⟨Kd.fresh' (Kd.N_lt (by (with_reducible repeat (first | apply Kd.N_alloc | apply Kd.N_drewN | apply Kd.N_drew)); exact HO353.out)) k_ hk, Kd.fresh' (Kd.R_lt (by (with_reducible repeat (first | apply Kd.R_alloc | apply Kd.R_drewN | apply Kd.R_drew)); exact HO362.out)) k_ hk, Kd.fresh' (Kd.R_lt (by (with_reducible repeat (first | apply Kd.R_alloc | apply Kd.R_drewN | apply Kd.R_drew)); exact HO366.out)) k_ hk, Kd.freshB (g := gb359) (o := .cells #[.bool t354, .slice Ao27 t355.length co27] 24 (0, 0)) (by (with_reducible repeat (first | refine blk_drewN ?_ _ | refine blk_drew ?_ | refine blk_alloc ?_ _)); exact BK359.out) k_ hk⟩) _ (Nat.le_refl _)) (Below.refl _ _) (Nat.le_refl _) (by simp) ?_; (case hd => rfl); (case hg => rfl); (case hr => first | (go_simp; done) | (go_simp; rfl)); (case hp => exact (Reps.one (show Kd.FK (Kd.slice 3 (Kd.int .i64)) _ _ y367 [.slice Ao34 y367.length co34] from (Kd.FK_slice_mk (Kd.R_reads' (Kd.R_mono (ok' := (fun k_ => some k_ ≠ (.slice Ao23 y351.length co23 : Value).ownBlock ∧ some k_ ≠ (.slice Ao30 y360.length co30 : Value).ownBlock ∧ some k_ ≠ (v365 : Value).ownBlock ∧ k_ ≠ gb359)) (Kd.R_types (Kd.R_apart' (HO369.out) (Kd.N_typed HO353.out) (by decide)) BK359.out (by decide)) (fun k_ hk => ⟨hk.1.2, ⟨hk.1.1.1.2, ⟨hk.1.1.2, hk.2⟩⟩⟩))).2.1 (Kd.R_F (Kd.R_mono (ok' := (fun k_ => some k_ ≠ (.slice Ao23 y351.length co23 : Value).ownBlock ∧ some k_ ≠ (.slice Ao30 y360.length co30 : Value).ownBlock ∧ some k_ ≠ (v365 : Value).ownBlock ∧ k_ ≠ gb359)) (Kd.R_types (Kd.R_apart' (HO369.out) (Kd.N_typed HO353.out) (by decide)) BK359.out (by decide)) (fun k_ hk => ⟨hk.1.2, ⟨hk.1.1.1.2, ⟨hk.1.1.2, hk.2⟩⟩⟩))))) (Reps.none _ _))); intro v371 w35 ho36 hb hg_ hnew_; clear hg_ hnew_; (first | rw [← Ny370.out] at ho36 | (simp only [Int.reduceToNat] at ho36; rw [← Ny370.out] at ho36)); have n0_ := Aside0.mk (Kd.N_elder' (by (with_reducible repeat (first | apply Kd.N_alloc | apply Kd.N_drewN | apply Kd.N_drew)); exact HO353.out) (Kd.N_base ho36) hb); have n1_ := Aside0.mk (Kd.V_elder' (by (with_reducible repeat (first | apply Kd.V_alloc | apply Kd.V_drewN | apply Kd.V_drew)); exact HO357.out) (Kd.N_base ho36) hb); have n2_ := Aside0.mk (Kd.R_below (by (with_reducible repeat (first | apply Kd.R_alloc | apply Kd.R_drewN | apply Kd.R_drew)); exact HO362.out) hb); have n3_ := Aside0.mk (Kd.R_below (by (with_reducible repeat (first | apply Kd.R_alloc | apply Kd.R_drewN | apply Kd.R_drew)); exact HO366.out) hb); have n4_ := Aside0.mk (Kd.N_lower ho36 (below_size (by repeat (first | (with_reducible first | exact HB.out | apply below_alloc | apply pw_below_drewN | apply below_drew1 | refine below_set ?_ GE359.out) | exact HB.out)))); have n5_ := Aside0.mk (blk_below (g := gb359) (o := .cells #[.bool t354, .slice Ao27 t355.length co27] 24 (0, 0)) (by (with_reducible repeat (first | refine blk_drewN ?_ _ | refine blk_drew ?_ | refine blk_alloc ?_ _)); exact BK359.out) hb); have n6_ := Aside0.mk (below_step (by repeat (first | (with_reducible first | exact HB.out | apply below_alloc | apply pw_below_drewN | apply below_drew1 | refine below_set ?_ GE359.out) | exact HB.out)) hb); clear HO353; clear HO357; clear HO362; clear HO366; clear BK359; clear HB; clear HO369; have HO353 := n0_; have HO357 := n1_; have HO362 := n2_; have HO366 := n3_; have HO372 := n4_; have BK359 := n5_; have HB := n6_; clear n0_ n1_ n2_ n3_ n4_ n5_ n6_; clear hb ho36) | ((with_reducible refine gate_dst (N := 27) rfl ?_); (try (refine gate_guard (by rfl) ?_; dsimp only)); refine Kd.R_lit (Kd.int .i64) _ 3 ?hg (N := 27) ?hd (xs := ([2, 3, 0, 1] : List Int)) (inner := [.int .i64 2, .int .i64 3, .int .i64 0, .int .i64 1]) (ok := fun _ => True) (okp := fun _ => True) ?hr ?hp (fun _ hk => hk) trivial (Below.refl _ _) (Nat.le_refl _) (by simp) ?_; (case hd => rfl); (case hg => rfl); (case hr => first | (go_simp; done) | (go_simp; rfl)); (case hp => exact (Reps.one (show Kd.M (Kd.int .i64) _ _ _ 2 [.int .i64 2] from rfl) (Reps.one (show Kd.M (Kd.int .i64) _ _ _ 3 [.int .i64 3] from rfl) (Reps.one (show Kd.M (Kd.int .i64) _ _ _ 0 [.int .i64 0] from rfl) (Reps.one (show Kd.M (Kd.int .i64) _ _ _ 1 [.int .i64 1] from rfl) (Reps.none _ _)))))); intro v374 w37 ho38 hb hg_ hnew_; clear hg_ hnew_; (first | rw [← Ny373.out] at ho38 | (simp only [Int.reduceToNat] at ho38; rw [← Ny373.out] at ho38)); have n0_ := Aside0.mk (Kd.N_elder' (by (with_reducible repeat (first | apply Kd.N_alloc | apply Kd.N_drewN | apply Kd.N_drew)); exact HO353.out) (Kd.R_base ho38) hb); have n1_ := Aside0.mk (Kd.V_elder' (by (with_reducible repeat (first | apply Kd.V_alloc | apply Kd.V_drewN | apply Kd.V_drew)); exact HO357.out) (Kd.R_base ho38) hb); have n2_ := Aside0.mk (Kd.R_elder' (by (with_reducible repeat (first | apply Kd.R_alloc | apply Kd.R_drewN | apply Kd.R_drew)); exact HO362.out) (Kd.R_base ho38) hb); have n3_ := Aside0.mk (Kd.R_elder' (by (with_reducible repeat (first | apply Kd.R_alloc | apply Kd.R_drewN | apply Kd.R_drew)); exact HO366.out) (Kd.R_base ho38) hb); have n4_ := Aside0.mk (Kd.N_elder' (by (with_reducible repeat (first | apply Kd.N_alloc | apply Kd.N_drewN | apply Kd.N_drew)); exact HO372.out) (Kd.R_base ho38) hb); have n5_ := Aside0.mk (Kd.R_lower (Kd.R_new' (Kd.R_new' ho38 (Kd.R_lt (by (with_reducible repeat (first | apply Kd.R_alloc | apply Kd.R_drewN | apply Kd.R_drew)); exact HO362.out))) (Kd.R_lt (by (with_reducible repeat (first | apply Kd.R_alloc | apply Kd.R_drewN | apply Kd.R_drew)); exact HO366.out))) (below_size (by repeat (first | (with_reducible first | exact HB.out | apply below_alloc | apply pw_below_drewN | apply below_drew1 | refine below_set ?_ GE359.out) | exact HB.out)))); have n6_ := Aside0.mk (blk_below (g := gb359) (o := .cells #[.bool t354, .slice Ao27 t355.length co27] 24 (0, 0)) (by (with_reducible repeat (first | refine blk_drewN ?_ _ | refine blk_drew ?_ | refine blk_alloc ?_ _)); exact BK359.out) hb); have n7_ := Aside0.mk (below_step (by repeat (first | (with_reducible first | exact HB.out | apply below_alloc | apply pw_below_drewN | apply below_drew1 | refine below_set ?_ GE359.out) | exact HB.out)) hb); clear HO353; clear HO357; clear HO362; clear HO366; clear HO372; clear BK359; clear HB; have HO353 := n0_; have HO357 := n1_; have HO362 := n2_; have HO366 := n3_; have HO372 := n4_; have HO375 := n5_; have BK359 := n6_; have HB := n7_; clear n0_ n1_ n2_ n3_ n4_ n5_ n6_ n7_; clear hb ho38; obtain ⟨Ao39, co39, eo39⟩ := Kd.N_slice HO372.out; subst eo39; obtain ⟨Ao40, co40, eo40⟩ := Kd.R_slice HO375.out; subst eo40) | ((with_reducible refine gate_callee (f := 23) rfl ?_); refine goesL_ (some 28) rfl rfl Try.func23 (by kernel_rfl) rfl #[.int .i64 4, .slice Ao39 y370.length co39, .slice Ao40 y373.length co40] rfl (by (try simp only [List.map_toArray, List.map_cons, List.map_nil]); first | done | rfl | (simp only [List.length_drop, List.length_take]; rfl)) ?_; (with_reducible refine (stabchain_Contains.calls k 4 _ _ y370 _ _ y373 true t377 _ ?side1 ?side2 ?side3 ?side4 A3.out).mono ?_); (case side1 => repeat (first | exact (Kd.N_reads' HO372.out).2.2 | (with_reducible refine Kd.C_alloc ?_ _) | (with_reducible refine Kd.C_drewN ?_ _) | (with_reducible refine Kd.C_drew ?_))); (case side2 => exact (Kd.N_reads' HO372.out).2.1); (case side3 => repeat (first | exact (Kd.R_reads' HO375.out).2.2 | (with_reducible refine Kd.C_alloc ?_ _) | (with_reducible refine Kd.C_drewN ?_ _) | (with_reducible refine Kd.C_drew ?_))); (case side4 => exact (Kd.R_reads' HO375.out).2.1); rintro e w41 ⟨rfl, hb⟩; refine ⟨_, rfl, ?_⟩; have n0_ := Aside0.mk (Kd.N_below (by (with_reducible repeat (first | apply Kd.N_alloc | apply Kd.N_drewN | apply Kd.N_drew)); exact HO353.out) hb); have n1_ := Aside0.mk (Kd.V_below (by (with_reducible repeat (first | apply Kd.V_alloc | apply Kd.V_drewN | apply Kd.V_drew)); exact HO357.out) hb); have n2_ := Aside0.mk (Kd.R_below (by (with_reducible repeat (first | apply Kd.R_alloc | apply Kd.R_drewN | apply Kd.R_drew)); exact HO362.out) hb); have n3_ := Aside0.mk (Kd.R_below (by (with_reducible repeat (first | apply Kd.R_alloc | apply Kd.R_drewN | apply Kd.R_drew)); exact HO366.out) hb); have n4_ := Aside0.mk (Kd.N_below (by (with_reducible repeat (first | apply Kd.N_alloc | apply Kd.N_drewN | apply Kd.N_drew)); exact HO372.out) hb); have n5_ := Aside0.mk (Kd.R_below (by (with_reducible repeat (first | apply Kd.R_alloc | apply Kd.R_drewN | apply Kd.R_drew)); exact HO375.out) hb); have n6_ := Aside0.mk (blk_below (g := gb359) (o := .cells #[.bool t354, .slice Ao27 t355.length co27] 24 (0, 0)) (by (with_reducible repeat (first | refine blk_drewN ?_ _ | refine blk_drew ?_ | refine blk_alloc ?_ _)); exact BK359.out) hb); have n7_ := Aside0.mk (below_step (by repeat (first | (with_reducible first | exact HB.out | apply below_alloc | apply pw_below_drewN | apply below_drew1 | refine below_set ?_ GE359.out) | exact HB.out)) hb); clear HO353; clear HO357; clear HO362; clear HO366; clear HO372; clear HO375; clear BK359; clear HB; have HO353 := n0_; have HO357 := n1_; have HO362 := n2_; have HO366 := n3_; have HO372 := n4_; have HO375 := n5_; have BK359 := n6_; have HB := n7_; clear n0_ n1_ n2_ n3_ n4_ n5_ n6_ n7_; (try clear hb); (try clear hb2); (try clear hk); (try clear hi)) | ((with_reducible refine gate_dst (N := 32) rfl ?_); (try (refine gate_guard (by rfl) ?_; dsimp only)); refine Kd.R_lit (Kd.int .i64) _ 3 ?hg (N := 32) ?hd (xs := ([1, 2, 3, 0] : List Int)) (inner := [.int .i64 1, .int .i64 2, .int .i64 3, .int .i64 0]) (ok := fun _ => True) (okp := fun _ => True) ?hr ?hp (fun _ hk => hk) trivial (Below.refl _ _) (Nat.le_refl _) (by simp) ?_; (case hd => rfl); (case hg => rfl); (case hr => first | (go_simp; done) | (go_simp; rfl)); (case hp => exact (Reps.one (show Kd.M (Kd.int .i64) _ _ _ 1 [.int .i64 1] from rfl) (Reps.one (show Kd.M (Kd.int .i64) _ _ _ 2 [.int .i64 2] from rfl) (Reps.one (show Kd.M (Kd.int .i64) _ _ _ 3 [.int .i64 3] from rfl) (Reps.one (show Kd.M (Kd.int .i64) _ _ _ 0 [.int .i64 0] from rfl) (Reps.none _ _)))))); intro v379 w42 ho43 hb hg_ hnew_; clear hg_ hnew_; (first | rw [← Ny378.out] at ho43 | (simp only [Int.reduceToNat] at ho43; rw [← Ny378.out] at ho43)); have n0_ := Aside0.mk (Kd.N_elder' (by (with_reducible repeat (first | apply Kd.N_alloc | apply Kd.N_drewN | apply Kd.N_drew)); exact HO353.out) (Kd.R_base ho43) hb); have n1_ := Aside0.mk (Kd.V_elder' (by (with_reducible repeat (first | apply Kd.V_alloc | apply Kd.V_drewN | apply Kd.V_drew)); exact HO357.out) (Kd.R_base ho43) hb); have n2_ := Aside0.mk (Kd.R_elder' (by (with_reducible repeat (first | apply Kd.R_alloc | apply Kd.R_drewN | apply Kd.R_drew)); exact HO362.out) (Kd.R_base ho43) hb); have n3_ := Aside0.mk (Kd.R_elder' (by (with_reducible repeat (first | apply Kd.R_alloc | apply Kd.R_drewN | apply Kd.R_drew)); exact HO366.out) (Kd.R_base ho43) hb); have n4_ := Aside0.mk (Kd.N_elder' (by (with_reducible repeat (first | apply Kd.N_alloc | apply Kd.N_drewN | apply Kd.N_drew)); exact HO372.out) (Kd.R_base ho43) hb); have n5_ := Aside0.mk (Kd.R_elder' (by (with_reducible repeat (first | apply Kd.R_alloc | apply Kd.R_drewN | apply Kd.R_drew)); exact HO375.out) (Kd.R_base ho43) hb); have n6_ := Aside0.mk (Kd.R_lower (Kd.R_new' (Kd.R_new' (Kd.R_new' ho43 (Kd.R_lt (by (with_reducible repeat (first | apply Kd.R_alloc | apply Kd.R_drewN | apply Kd.R_drew)); exact HO362.out))) (Kd.R_lt (by (with_reducible repeat (first | apply Kd.R_alloc | apply Kd.R_drewN | apply Kd.R_drew)); exact HO366.out))) (Kd.R_lt (by (with_reducible repeat (first | apply Kd.R_alloc | apply Kd.R_drewN | apply Kd.R_drew)); exact HO375.out))) (below_size (by repeat (first | (with_reducible first | exact HB.out | apply below_alloc | apply pw_below_drewN | apply below_drew1 | refine below_set ?_ GE359.out) | exact HB.out)))); have n7_ := Aside0.mk (blk_below (g := gb359) (o := .cells #[.bool t354, .slice Ao27 t355.length co27] 24 (0, 0)) (by (with_reducible repeat (first | refine blk_drewN ?_ _ | refine blk_drew ?_ | refine blk_alloc ?_ _)); exact BK359.out) hb); have n8_ := Aside0.mk (below_step (by repeat (first | (with_reducible first | exact HB.out | apply below_alloc | apply pw_below_drewN | apply below_drew1 | refine below_set ?_ GE359.out) | exact HB.out)) hb); clear HO353; clear HO357; clear HO362; clear HO366; clear HO372; clear HO375; clear BK359; clear HB; have HO353 := n0_; have HO357 := n1_; have HO362 := n2_; have HO366 := n3_; have HO372 := n4_; have HO375 := n5_; have HO380 := n6_; have BK359 := n7_; have HB := n8_; clear n0_ n1_ n2_ n3_ n4_ n5_ n6_ n7_ n8_; clear hb ho43; obtain ⟨Ao44, co44, eo44⟩ := Kd.R_slice HO380.out; subst eo44) | ((with_reducible refine gate_dst (N := 33) rfl ?_); (try (refine gate_guard (by rfl) ?_; dsimp only)); refine Kd.N_lit (Kd.slice 3 (Kd.int .i64)) _ 28 ?hg (N' := 33) ?hd (xs := ([y378] : List (List Int))) (inner := [.slice Ao44 y378.length co44]) (ok := (fun k_ => some k_ ≠ (.slice Ao23 y351.length co23 : Value).ownBlock ∧ some k_ ≠ (.slice Ao30 y360.length co30 : Value).ownBlock ∧ some k_ ≠ (v365 : Value).ownBlock ∧ some k_ ≠ (.slice Ao39 y370.length co39 : Value).ownBlock ∧ some k_ ≠ (.slice Ao40 y373.length co40 : Value).ownBlock ∧ k_ ≠ gb359)) (okp := (fun k_ => some k_ ≠ (.slice Ao23 y351.length co23 : Value).ownBlock ∧ some k_ ≠ (.slice Ao30 y360.length co30 : Value).ownBlock ∧ some k_ ≠ (v365 : Value).ownBlock ∧ some k_ ≠ (.slice Ao39 y370.length co39 : Value).ownBlock ∧ some k_ ≠ (.slice Ao40 y373.length co40 : Value).ownBlock ∧ k_ ≠ gb359)) ?hr ?hp (fun _ hk => hk) ((show ∀ k_, w42.heap.size ≤ k_ → (fun k_ => some k_ ≠ (.slice Ao23 y351.length co23 : Value).ownBlock ∧ some k_ ≠ (.slice Ao30 y360.length co30 : Value).ownBlock ∧ some k_ ≠ (v365 : Value).ownBlock ∧ some k_ ≠ (.slice Ao39 y370.length co39 : Value).ownBlock ∧ some k_ ≠ (.slice Ao40 y373.length co40 : Value).ownBlock ∧ k_ ≠ gb359) k_ from fun k_ hk => ⟨Kd.fresh' (Kd.N_lt (by (with_reducible repeat (first | apply Kd.N_alloc | apply Kd.N_drewN | apply Kd.N_drew)); exact HO353.out)) k_ hk, Kd.fresh' (Kd.R_lt (by (with_reducible repeat (first | apply Kd.R_alloc | apply Kd.R_drewN | apply Kd.R_drew)); exact HO362.out)) k_ hk, Kd.fresh' (Kd.R_lt (by (with_reducible repeat (first | apply Kd.R_alloc | apply Kd.R_drewN | apply Kd.R_drew)); exact HO366.out)) k_ hk, Kd.fresh' (Kd.N_lt (by (with_reducible repeat (first | apply Kd.N_alloc | apply Kd.N_drewN | apply Kd.N_drew)); exact HO372.out)) k_ hk, Kd.fresh' (Kd.R_lt (by (with_reducible repeat (first | apply Kd.R_alloc | apply Kd.R_drewN | apply Kd.R_drew)); exact HO375.out)) k_ hk, Kd.freshB (g := gb359) (o := .cells #[.bool t354, .slice Ao27 t355.length co27] 24 (0, 0)) (by (with_reducible repeat (first | refine blk_drewN ?_ _ | refine blk_drew ?_ | refine blk_alloc ?_ _)); exact BK359.out) k_ hk⟩) _ (Nat.le_refl _)) (Below.refl _ _) (Nat.le_refl _) (by simp) ?_; (case hd => rfl); (case hg => rfl); (case hr => first | (go_simp; done) | (go_simp; rfl)); (case hp => exact (Reps.one (show Kd.FK (Kd.slice 3 (Kd.int .i64)) _ _ y378 [.slice Ao44 y378.length co44] from (Kd.FK_slice_mk (Kd.R_reads' (Kd.R_mono (ok' := (fun k_ => some k_ ≠ (.slice Ao23 y351.length co23 : Value).ownBlock ∧ some k_ ≠ (.slice Ao30 y360.length co30 : Value).ownBlock ∧ some k_ ≠ (v365 : Value).ownBlock ∧ some k_ ≠ (.slice Ao39 y370.length co39 : Value).ownBlock ∧ some k_ ≠ (.slice Ao40 y373.length co40 : Value).ownBlock ∧ k_ ≠ gb359)) (Kd.R_types (Kd.R_apart' (Kd.R_apart' (HO380.out) (Kd.N_typed HO353.out) (by decide)) (Kd.N_typed HO372.out) (by decide)) BK359.out (by decide)) (fun k_ hk => ⟨hk.1.1.2, ⟨hk.1.1.1.1.1.2, ⟨hk.1.1.1.1.2, ⟨hk.1.2, ⟨hk.1.1.1.2, hk.2⟩⟩⟩⟩⟩))).2.1 (Kd.R_F (Kd.R_mono (ok' := (fun k_ => some k_ ≠ (.slice Ao23 y351.length co23 : Value).ownBlock ∧ some k_ ≠ (.slice Ao30 y360.length co30 : Value).ownBlock ∧ some k_ ≠ (v365 : Value).ownBlock ∧ some k_ ≠ (.slice Ao39 y370.length co39 : Value).ownBlock ∧ some k_ ≠ (.slice Ao40 y373.length co40 : Value).ownBlock ∧ k_ ≠ gb359)) (Kd.R_types (Kd.R_apart' (Kd.R_apart' (HO380.out) (Kd.N_typed HO353.out) (by decide)) (Kd.N_typed HO372.out) (by decide)) BK359.out (by decide)) (fun k_ hk => ⟨hk.1.1.2, ⟨hk.1.1.1.1.1.2, ⟨hk.1.1.1.1.2, ⟨hk.1.2, ⟨hk.1.1.1.2, hk.2⟩⟩⟩⟩⟩))))) (Reps.none _ _))); intro v382 w45 ho46 hb hg_ hnew_; clear hg_ hnew_; (first | rw [← Ny381.out] at ho46 | (simp only [Int.reduceToNat] at ho46; rw [← Ny381.out] at ho46)); have n0_ := Aside0.mk (Kd.N_elder' (by (with_reducible repeat (first | apply Kd.N_alloc | apply Kd.N_drewN | apply Kd.N_drew)); exact HO353.out) (Kd.N_base ho46) hb); have n1_ := Aside0.mk (Kd.V_elder' (by (with_reducible repeat (first | apply Kd.V_alloc | apply Kd.V_drewN | apply Kd.V_drew)); exact HO357.out) (Kd.N_base ho46) hb); have n2_ := Aside0.mk (Kd.R_below (by (with_reducible repeat (first | apply Kd.R_alloc | apply Kd.R_drewN | apply Kd.R_drew)); exact HO362.out) hb); have n3_ := Aside0.mk (Kd.R_below (by (with_reducible repeat (first | apply Kd.R_alloc | apply Kd.R_drewN | apply Kd.R_drew)); exact HO366.out) hb); have n4_ := Aside0.mk (Kd.N_elder' (by (with_reducible repeat (first | apply Kd.N_alloc | apply Kd.N_drewN | apply Kd.N_drew)); exact HO372.out) (Kd.N_base ho46) hb); have n5_ := Aside0.mk (Kd.R_below (by (with_reducible repeat (first | apply Kd.R_alloc | apply Kd.R_drewN | apply Kd.R_drew)); exact HO375.out) hb); have n6_ := Aside0.mk (Kd.N_lower ho46 (below_size (by repeat (first | (with_reducible first | exact HB.out | apply below_alloc | apply pw_below_drewN | apply below_drew1 | refine below_set ?_ GE359.out) | exact HB.out)))); have n7_ := Aside0.mk (blk_below (g := gb359) (o := .cells #[.bool t354, .slice Ao27 t355.length co27] 24 (0, 0)) (by (with_reducible repeat (first | refine blk_drewN ?_ _ | refine blk_drew ?_ | refine blk_alloc ?_ _)); exact BK359.out) hb); have n8_ := Aside0.mk (below_step (by repeat (first | (with_reducible first | exact HB.out | apply below_alloc | apply pw_below_drewN | apply below_drew1 | refine below_set ?_ GE359.out) | exact HB.out)) hb); clear HO353; clear HO357; clear HO362; clear HO366; clear HO372; clear HO375; clear BK359; clear HB; clear HO380; have HO353 := n0_; have HO357 := n1_; have HO362 := n2_; have HO366 := n3_; have HO372 := n4_; have HO375 := n5_; have HO383 := n6_; have BK359 := n7_; have HB := n8_; clear n0_ n1_ n2_ n3_ n4_ n5_ n6_ n7_ n8_; clear hb ho46) | ((with_reducible refine gate_dst (N := 34) rfl ?_); (try (refine gate_guard (by rfl) ?_; dsimp only)); refine Kd.R_lit (Kd.int .i64) _ 3 ?hg (N := 34) ?hd (xs := ([1, 0, 2, 3] : List Int)) (inner := [.int .i64 1, .int .i64 0, .int .i64 2, .int .i64 3]) (ok := fun _ => True) (okp := fun _ => True) ?hr ?hp (fun _ hk => hk) trivial (Below.refl _ _) (Nat.le_refl _) (by simp) ?_; (case hd => rfl); (case hg => rfl); (case hr => first | (go_simp; done) | (go_simp; rfl)); (case hp => exact (Reps.one (show Kd.M (Kd.int .i64) _ _ _ 1 [.int .i64 1] from rfl) (Reps.one (show Kd.M (Kd.int .i64) _ _ _ 0 [.int .i64 0] from rfl) (Reps.one (show Kd.M (Kd.int .i64) _ _ _ 2 [.int .i64 2] from rfl) (Reps.one (show Kd.M (Kd.int .i64) _ _ _ 3 [.int .i64 3] from rfl) (Reps.none _ _)))))); intro v385 w47 ho48 hb hg_ hnew_; clear hg_ hnew_; (first | rw [← Ny384.out] at ho48 | (simp only [Int.reduceToNat] at ho48; rw [← Ny384.out] at ho48)); have n0_ := Aside0.mk (Kd.N_elder' (by (with_reducible repeat (first | apply Kd.N_alloc | apply Kd.N_drewN | apply Kd.N_drew)); exact HO353.out) (Kd.R_base ho48) hb); have n1_ := Aside0.mk (Kd.V_elder' (by (with_reducible repeat (first | apply Kd.V_alloc | apply Kd.V_drewN | apply Kd.V_drew)); exact HO357.out) (Kd.R_base ho48) hb); have n2_ := Aside0.mk (Kd.R_elder' (by (with_reducible repeat (first | apply Kd.R_alloc | apply Kd.R_drewN | apply Kd.R_drew)); exact HO362.out) (Kd.R_base ho48) hb); have n3_ := Aside0.mk (Kd.R_elder' (by (with_reducible repeat (first | apply Kd.R_alloc | apply Kd.R_drewN | apply Kd.R_drew)); exact HO366.out) (Kd.R_base ho48) hb); have n4_ := Aside0.mk (Kd.N_elder' (by (with_reducible repeat (first | apply Kd.N_alloc | apply Kd.N_drewN | apply Kd.N_drew)); exact HO372.out) (Kd.R_base ho48) hb); have n5_ := Aside0.mk (Kd.R_elder' (by (with_reducible repeat (first | apply Kd.R_alloc | apply Kd.R_drewN | apply Kd.R_drew)); exact HO375.out) (Kd.R_base ho48) hb); have n6_ := Aside0.mk (Kd.N_elder' (by (with_reducible repeat (first | apply Kd.N_alloc | apply Kd.N_drewN | apply Kd.N_drew)); exact HO383.out) (Kd.R_base ho48) hb); have n7_ := Aside0.mk (Kd.R_lower (Kd.R_new' (Kd.R_new' (Kd.R_new' ho48 (Kd.R_lt (by (with_reducible repeat (first | apply Kd.R_alloc | apply Kd.R_drewN | apply Kd.R_drew)); exact HO362.out))) (Kd.R_lt (by (with_reducible repeat (first | apply Kd.R_alloc | apply Kd.R_drewN | apply Kd.R_drew)); exact HO366.out))) (Kd.R_lt (by (with_reducible repeat (first | apply Kd.R_alloc | apply Kd.R_drewN | apply Kd.R_drew)); exact HO375.out))) (below_size (by repeat (first | (with_reducible first | exact HB.out | apply below_alloc | apply pw_below_drewN | apply below_drew1 | refine below_set ?_ GE359.out) | exact HB.out)))); have n8_ := Aside0.mk (blk_below (g := gb359) (o := .cells #[.bool t354, .slice Ao27 t355.length co27] 24 (0, 0)) (by (with_reducible repeat (first | refine blk_drewN ?_ _ | refine blk_drew ?_ | refine blk_alloc ?_ _)); exact BK359.out) hb); have n9_ := Aside0.mk (below_step (by repeat (first | (with_reducible first | exact HB.out | apply below_alloc | apply pw_below_drewN | apply below_drew1 | refine below_set ?_ GE359.out) | exact HB.out)) hb); clear HO353; clear HO357; clear HO362; clear HO366; clear HO372; clear HO375; clear HO383; clear BK359; clear HB; have HO353 := n0_; have HO357 := n1_; have HO362 := n2_; have HO366 := n3_; have HO372 := n4_; have HO375 := n5_; have HO383 := n6_; have HO386 := n7_; have BK359 := n8_; have HB := n9_; clear n0_ n1_ n2_ n3_ n4_ n5_ n6_ n7_ n8_ n9_; clear hb ho48; obtain ⟨Ao49, co49, eo49⟩ := Kd.N_slice HO383.out; subst eo49; obtain ⟨Ao50, co50, eo50⟩ := Kd.R_slice HO386.out; subst eo50) | ((with_reducible refine gate_callee (f := 23) rfl ?_); refine goesL_ (some 35) rfl rfl Try.func23 (by kernel_rfl) rfl #[.int .i64 4, .slice Ao49 y381.length co49, .slice Ao50 y384.length co50] rfl (by (try simp only [List.map_toArray, List.map_cons, List.map_nil]); first | done | rfl | (simp only [List.length_drop, List.length_take]; rfl)) ?_; (with_reducible refine (stabchain_Contains.calls k 4 _ _ y381 _ _ y384 t387 t388 _ ?side1 ?side2 ?side3 ?side4 A4.out).mono ?_); (case side1 => repeat (first | exact (Kd.N_reads' HO383.out).2.2 | (with_reducible refine Kd.C_alloc ?_ _) | (with_reducible refine Kd.C_drewN ?_ _) | (with_reducible refine Kd.C_drew ?_))); (case side2 => exact (Kd.N_reads' HO383.out).2.1); (case side3 => repeat (first | exact (Kd.R_reads' HO386.out).2.2 | (with_reducible refine Kd.C_alloc ?_ _) | (with_reducible refine Kd.C_drewN ?_ _) | (with_reducible refine Kd.C_drew ?_))); (case side4 => exact (Kd.R_reads' HO386.out).2.1); rintro e w51 ⟨rfl, hb⟩; refine ⟨_, rfl, ?_⟩; have n0_ := Aside0.mk (Kd.N_below (by (with_reducible repeat (first | apply Kd.N_alloc | apply Kd.N_drewN | apply Kd.N_drew)); exact HO353.out) hb); have n1_ := Aside0.mk (Kd.V_below (by (with_reducible repeat (first | apply Kd.V_alloc | apply Kd.V_drewN | apply Kd.V_drew)); exact HO357.out) hb); have n2_ := Aside0.mk (Kd.R_below (by (with_reducible repeat (first | apply Kd.R_alloc | apply Kd.R_drewN | apply Kd.R_drew)); exact HO362.out) hb); have n3_ := Aside0.mk (Kd.R_below (by (with_reducible repeat (first | apply Kd.R_alloc | apply Kd.R_drewN | apply Kd.R_drew)); exact HO366.out) hb); have n4_ := Aside0.mk (Kd.N_below (by (with_reducible repeat (first | apply Kd.N_alloc | apply Kd.N_drewN | apply Kd.N_drew)); exact HO372.out) hb); have n5_ := Aside0.mk (Kd.R_below (by (with_reducible repeat (first | apply Kd.R_alloc | apply Kd.R_drewN | apply Kd.R_drew)); exact HO375.out) hb); have n6_ := Aside0.mk (Kd.N_below (by (with_reducible repeat (first | apply Kd.N_alloc | apply Kd.N_drewN | apply Kd.N_drew)); exact HO383.out) hb); have n7_ := Aside0.mk (Kd.R_below (by (with_reducible repeat (first | apply Kd.R_alloc | apply Kd.R_drewN | apply Kd.R_drew)); exact HO386.out) hb); have n8_ := Aside0.mk (blk_below (g := gb359) (o := .cells #[.bool t354, .slice Ao27 t355.length co27] 24 (0, 0)) (by (with_reducible repeat (first | refine blk_drewN ?_ _ | refine blk_drew ?_ | refine blk_alloc ?_ _)); exact BK359.out) hb); have n9_ := Aside0.mk (below_step (by repeat (first | (with_reducible first | exact HB.out | apply below_alloc | apply pw_below_drewN | apply below_drew1 | refine below_set ?_ GE359.out) | exact HB.out)) hb); clear HO353; clear HO357; clear HO362; clear HO366; clear HO372; clear HO375; clear HO383; clear HO386; clear BK359; clear HB; have HO353 := n0_; have HO357 := n1_; have HO362 := n2_; have HO366 := n3_; have HO372 := n4_; have HO375 := n5_; have HO383 := n6_; have HO386 := n7_; have BK359 := n8_; have HB := n9_; clear n0_ n1_ n2_ n3_ n4_ n5_ n6_ n7_ n8_ n9_; (try clear hb); (try clear hb2); (try clear hk); (try clear hi)))
                have n0_ := Aside0.mk (Kd.N_drew HO353.out); have n1_ := Aside0.mk (Kd.V_drew HO357.out); have n2_ := Aside0.mk (Kd.R_drew HO362.out); have n3_ := Aside0.mk (Kd.R_drew HO366.out); have n4_ := Aside0.mk (Kd.N_drew HO372.out); have n5_ := Aside0.mk (Kd.R_drew HO375.out); have n6_ := Aside0.mk (Kd.N_drew HO383.out); have n7_ := Aside0.mk (Kd.R_drew HO386.out); have n8_ := Aside0.mk (blk_drew BK359.out); have n9_ := Aside0.mk (below_drew1 HB.out); clear HO353; clear HO357; clear HO362; clear HO366; clear HO372; clear HO375; clear HO383; clear HO386; clear BK359; clear HB; have HO353 := n0_; have HO357 := n1_; have HO362 := n2_; have HO366 := n3_; have HO372 := n4_; have HO375 := n5_; have HO383 := n6_; have HO386 := n7_; have BK359 := n8_; have HB := n9_; clear n0_ n1_ n2_ n3_ n4_ n5_ n6_ n7_ n8_ n9_
                refine start_ (n := 32) (S := fun w' => w'.cell? ⟨gb359, 0, none⟩ = some (.bool t354) ∧ w'.cell? ⟨gb359, 1, none⟩ = some (.slice Ao27 t355.length co27)) (ds := []) #[false, false, false, false, false, false, false, false, false, false, false, false, false, false, false, false, false, false, false, false, false, false, false, false, false, false, false, false, false, false, false, false] (by kernel_rfl) rfl rfl ⟨(blk_cell BK359.out 0).trans rfl, (blk_cell BK359.out 1).trans rfl⟩ (fun hHeld => ?_); refine with_tabW quadformlaw17_awake.tab6 quadformlaw17_awake.bits6 (fun HT_ HW_ => ?_)
                generalize w51.drew = w52 at HO353 HO357 HO362 HO366 HO372 HO375 HO383 HO386 BK359 HB hHeld ⊢
                refine pure_ (i := 0) (N := some 38) (v := ?_) (a' := ?_) #[true, false, false, false, false, false, false, false, false, false, false, false, false, false, false, false, false, false, false, false, false, false, false, false, false, false, false, false, false, false, false, false] rfl rfl (any_of HT_.out (by kernel_rfl)) (fun _ _ _ h => h) (Or.inl ⟨by rfl, ?_⟩) ?_ ?_
                rotate_left
                · intro w'
                  go_simp
                  with_reducible rfl
                rotate_left
                · simp only [Act.put, List.setIfInBounds_toArray, List.set_cons_zero, List.set_cons_succ, i64_w, i32_w]
                  rfl
                refine pure_ (i := 1) (N := some 39) (v := ?_) (a' := ?_) #[true, true, false, false, false, false, false, false, false, false, false, false, false, false, false, false, false, false, false, false, false, false, false, false, false, false, false, false, false, false, false, false] rfl rfl (any_of HT_.out (by kernel_rfl)) (fun _ _ _ h => h) (Or.inl ⟨by rfl, ?_⟩) ?_ ?_
                rotate_left
                · intro w'
                  go_simp
                  with_reducible rfl
                rotate_left
                · simp only [Act.put, List.setIfInBounds_toArray, List.set_cons_zero, List.set_cons_succ, i64_w, i32_w]
                  rfl
                refine pure_ (i := 2) (N := some 40) (v := ?_) (a' := ?_) #[true, true, true, false, false, false, false, false, false, false, false, false, false, false, false, false, false, false, false, false, false, false, false, false, false, false, false, false, false, false, false, false] rfl rfl (any_of HT_.out (by kernel_rfl)) (fun _ _ _ h => h) (Or.inl ⟨by rfl, ?_⟩) ?_ ?_
                rotate_left
                · intro w'
                  go_simp
                  with_reducible rfl
                rotate_left
                · simp only [Act.put, List.setIfInBounds_toArray, List.set_cons_zero, List.set_cons_succ, i64_w, i32_w]
                  rfl
                refine pure_ (i := 3) (N := some 41) (v := ?_) (a' := ?_) #[true, true, true, true, false, false, false, false, false, false, false, false, false, false, false, false, false, false, false, false, false, false, false, false, false, false, false, false, false, false, false, false] rfl rfl (any_of HT_.out (by kernel_rfl)) (fun _ _ _ h => h) (Or.inl ⟨by rfl, ?_⟩) ?_ ?_
                rotate_left
                · intro w'
                  go_simp
                  with_reducible rfl
                rotate_left
                · simp only [Act.put, List.setIfInBounds_toArray, List.set_cons_zero, List.set_cons_succ, i64_w, i32_w]
                  rfl
                refine pure_ (i := 4) (N := some 42) (v := ?_) (a' := ?_) #[true, true, true, true, true, false, false, false, false, false, false, false, false, false, false, false, false, false, false, false, false, false, false, false, false, false, false, false, false, false, false, false] rfl rfl (any_of HT_.out (by kernel_rfl)) (fun _ _ _ h => h) (Or.inl ⟨by rfl, ?_⟩) ?_ ?_
                rotate_left
                · intro w'
                  go_simp
                  with_reducible rfl
                rotate_left
                · simp only [Act.put, List.setIfInBounds_toArray, List.set_cons_zero, List.set_cons_succ, i64_w, i32_w]
                  rfl
                refine pure_ (i := 5) (N := some 43) (v := ?_) (a' := ?_) #[true, true, true, true, true, true, false, false, false, false, false, false, false, false, false, false, false, false, false, false, false, false, false, false, false, false, false, false, false, false, false, false] rfl rfl (any_of HT_.out (by kernel_rfl)) (fun _ _ _ h => h) (Or.inl ⟨by rfl, ?_⟩) ?_ ?_
                rotate_left
                · intro w'
                  go_simp
                  with_reducible rfl
                rotate_left
                · simp only [Act.put, List.setIfInBounds_toArray, List.set_cons_zero, List.set_cons_succ, i64_w, i32_w]
                  rfl
                refine pure_ (i := 6) (N := some 44) (v := ?_) (a' := ?_) #[true, true, true, true, true, true, true, false, false, false, false, false, false, false, false, false, false, false, false, false, false, false, false, false, false, false, false, false, false, false, false, false] rfl rfl (any_of HT_.out (by kernel_rfl)) (fun _ _ _ h => h) (Or.inl ⟨by rfl, ?_⟩) ?_ ?_
                rotate_left
                · intro w'
                  go_simp
                  with_reducible rfl
                rotate_left
                · simp only [Act.put, List.setIfInBounds_toArray, List.set_cons_zero, List.set_cons_succ, i64_w, i32_w]
                  rfl
                refine pure_ (i := 7) (N := some 45) (v := ?_) (a' := ?_) #[true, true, true, true, true, true, true, true, false, false, false, false, false, false, false, false, false, false, false, false, false, false, false, false, false, false, false, false, false, false, false, false] rfl rfl (any_of HT_.out (by kernel_rfl)) (fun _ _ _ h => h) (Or.inl ⟨by rfl, ?_⟩) ?_ ?_
                rotate_left
                · intro w'
                  go_simp
                  with_reducible rfl
                rotate_left
                · simp only [Act.put, List.setIfInBounds_toArray, List.set_cons_zero, List.set_cons_succ, i64_w, i32_w]
                  rfl
                refine pure_ (i := 8) (N := some 46) (v := ?_) (a' := ?_) #[true, true, true, true, true, true, true, true, true, false, false, false, false, false, false, false, false, false, false, false, false, false, false, false, false, false, false, false, false, false, false, false] rfl rfl (any_of HT_.out (by kernel_rfl)) (fun _ _ _ h => h) (Or.inl ⟨by rfl, ?_⟩) ?_ ?_
                rotate_left
                · intro w'
                  go_simp
                  with_reducible rfl
                rotate_left
                · simp only [Act.put, List.setIfInBounds_toArray, List.set_cons_zero, List.set_cons_succ, i64_w, i32_w]
                  rfl
                refine pure_ (i := 9) (N := some 47) (v := ?_) (a' := ?_) #[true, true, true, true, true, true, true, true, true, true, false, false, false, false, false, false, false, false, false, false, false, false, false, false, false, false, false, false, false, false, false, false] rfl rfl (any_of HT_.out (by kernel_rfl)) (fun _ _ _ h => h) (Or.inl ⟨by rfl, ?_⟩) ?_ ?_
                rotate_left
                · intro w'
                  go_simp
                  with_reducible rfl
                rotate_left
                · simp only [Act.put, List.setIfInBounds_toArray, List.set_cons_zero, List.set_cons_succ, i64_w, i32_w]
                  rfl
                refine pure_ (i := 10) (N := some 48) (v := ?_) (a' := ?_) #[true, true, true, true, true, true, true, true, true, true, true, false, false, false, false, false, false, false, false, false, false, false, false, false, false, false, false, false, false, false, false, false] rfl rfl (any_of HT_.out (by kernel_rfl)) (fun _ _ _ h => h) (Or.inl ⟨by rfl, ?_⟩) ?_ ?_
                rotate_left
                · intro w'
                  go_simp
                  with_reducible rfl
                rotate_left
                · simp only [Act.put, List.setIfInBounds_toArray, List.set_cons_zero, List.set_cons_succ, i64_w, i32_w]
                  rfl
                refine pure_ (i := 11) (N := some 49) (v := ?_) (a' := ?_) #[true, true, true, true, true, true, true, true, true, true, true, true, false, false, false, false, false, false, false, false, false, false, false, false, false, false, false, false, false, false, false, false] rfl rfl (any_of HT_.out (by kernel_rfl)) (fun _ _ _ h => h) (Or.inl ⟨by rfl, ?_⟩) ?_ ?_
                rotate_left
                · intro w'
                  go_simp
                  with_reducible rfl
                rotate_left
                · simp only [Act.put, List.setIfInBounds_toArray, List.set_cons_zero, List.set_cons_succ, i64_w, i32_w]
                  rfl
                refine pure_ (i := 12) (N := some 50) (v := ?_) (a' := ?_) #[true, true, true, true, true, true, true, true, true, true, true, true, true, false, false, false, false, false, false, false, false, false, false, false, false, false, false, false, false, false, false, false] rfl rfl (any_of HT_.out (by kernel_rfl)) (fun _ _ _ h => h) (Or.inl ⟨by rfl, ?_⟩) ?_ ?_
                rotate_left
                · intro w'
                  go_simp
                  with_reducible rfl
                rotate_left
                · simp only [Act.put, List.setIfInBounds_toArray, List.set_cons_zero, List.set_cons_succ, i64_w, i32_w]
                  rfl
                refine pure_ (i := 13) (N := some 51) (v := ?_) (a' := ?_) #[true, true, true, true, true, true, true, true, true, true, true, true, true, true, false, false, false, false, false, false, false, false, false, false, false, false, false, false, false, false, false, false] rfl rfl (any_of HT_.out (by kernel_rfl)) (fun _ _ _ h => h) (Or.inl ⟨by rfl, ?_⟩) ?_ ?_
                rotate_left
                · intro w'
                  go_simp
                  with_reducible rfl
                rotate_left
                · simp only [Act.put, List.setIfInBounds_toArray, List.set_cons_zero, List.set_cons_succ, i64_w, i32_w]
                  rfl
                refine pure_ (i := 14) (N := some 52) (v := ?_) (a' := ?_) #[true, true, true, true, true, true, true, true, true, true, true, true, true, true, true, false, false, false, false, false, false, false, false, false, false, false, false, false, false, false, false, false] rfl rfl (any_of HT_.out (by kernel_rfl)) (fun _ _ _ h => h) (Or.inl ⟨by rfl, ?_⟩) ?_ ?_
                rotate_left
                · intro w'
                  go_simp
                  with_reducible rfl
                rotate_left
                · simp only [Act.put, List.setIfInBounds_toArray, List.set_cons_zero, List.set_cons_succ, i64_w, i32_w]
                  rfl
                refine take_ (i := 15) (N := some 53) (v := ?_) (a' := ?_) #[true, true, true, true, true, true, true, true, true, true, true, true, true, true, true, true, false, false, false, false, false, false, false, false, false, false, false, false, false, false, false, false] rfl rfl (take_ofW HT_.out HW_.out (by kernel_rfl)) (fun _ _ _ h => h) (Or.inl ⟨by rfl, ?_⟩) hHeld ?_ ?_
                rotate_left
                · rintro w' ⟨s0, s1⟩
                  go_simp
                  with_reducible rfl
                rotate_left
                · simp only [Act.put, List.setIfInBounds_toArray, List.set_cons_zero, List.set_cons_succ, i64_w, i32_w]
                  rfl
                refine one_ (i := 16) (N := some 54) #[true, true, true, true, true, true, true, true, true, true, true, true, true, true, true, true, true, false, false, false, false, false, false, false, false, false, false, false, false, false, false, false] rfl rfl (one_of HT_.out (by kernel_rfl)) (by decide) (fun K hK => ?_)
                refine goes_ Try.func17 (by kernel_rfl) rfl #[.int .i64 6] (by rfl) rfl rfl (by (try simp only [List.map_toArray, List.map_cons, List.map_nil]); first | done | rfl | (simp only [List.length_drop, List.length_take]; rfl)) ?_
                with_reducible refine (quadformref01_Small.calls 6 t389 t390 _ A9.out).mono ?_
                rintro e w53 ⟨v391, rfl, ho0, hb⟩; refine ⟨_, rfl, ?_⟩; have n0_ := Aside0.mk (Kd.N_elder' HO353.out (Kd.R_base ho0) hb); have n1_ := Aside0.mk (Kd.V_elder' HO357.out (Kd.R_base ho0) hb); have n2_ := Aside0.mk (Kd.R_below HO362.out hb); have n3_ := Aside0.mk (Kd.R_below HO366.out hb); have n4_ := Aside0.mk (Kd.N_elder' HO372.out (Kd.R_base ho0) hb); have n5_ := Aside0.mk (Kd.R_below HO375.out hb); have n6_ := Aside0.mk (Kd.N_elder' HO383.out (Kd.R_base ho0) hb); have n7_ := Aside0.mk (Kd.R_below HO386.out hb); have n8_ := Aside0.mk (Kd.R_lower ho0 (below_size HB.out)); have n9_ := Aside0.mk (blk_below BK359.out hb); have n10_ := Aside0.mk (below_step HB.out hb); clear HO353; clear HO357; clear HO362; clear HO366; clear HO372; clear HO375; clear HO383; clear HO386; clear BK359; clear HB; have HO353 := n0_; have HO357 := n1_; have HO362 := n2_; have HO366 := n3_; have HO372 := n4_; have HO375 := n5_; have HO383 := n6_; have HO386 := n7_; have HO392 := n8_; have BK359 := n9_; have HB := n10_; clear n0_ n1_ n2_ n3_ n4_ n5_ n6_ n7_ n8_ n9_ n10_
                (try clear hb)
                (try clear hb2)
                (try clear hk)
                (try clear hi)
                (try clear ho0)
                obtain ⟨Ao54, co54, eo54⟩ := Kd.R_slice HO392.out
                (first | subst eo54 | (injection eo54 with f1_ f2_ f3_; have f4_ := f1_.symm; have f5_ := f3_.symm; clear f1_ f2_ f3_; subst f4_; subst f5_))
                refine hK.out _ _ ⟨(blk_cell BK359.out 0).trans rfl, (blk_cell BK359.out 1).trans rfl⟩ (fun hHeld => ?_); clear hK K
                refine norm_ (a' := ?_) ?_ ?_
                rotate_left
                · show Act.put _ (some 54) _ = _
                  simp only [Act.put, List.setIfInBounds_toArray, List.set_cons_zero, List.set_cons_succ, i64_w, i32_w]
                  rfl
                refine one_ (i := 17) (N := some 55) #[true, true, true, true, true, true, true, true, true, true, true, true, true, true, true, true, true, true, false, false, false, false, false, false, false, false, false, false, false, false, false, false] rfl rfl (one_of HT_.out (by kernel_rfl)) (by decide) (fun K hK => ?_)
                refine goes_ Try.func16 (by kernel_rfl) rfl #[.agg #[.bool t354, .slice Ao27 t355.length co27], .agg #[.bool t389, .slice Ao54 t390.length co54]] (by rfl) rfl rfl (by (try simp only [List.map_toArray, List.map_cons, List.map_nil]); first | done | rfl | (simp only [List.length_drop, List.length_take]; rfl)) ?_
                with_reducible refine (quadformref01_Same.calls k t354 _ _ t355 t389 _ _ t390 true _ ?side1 ?side2 ?side3 ?side4 A10.out).mono ?_
                (case side1 => repeat (first | exact (Kd.V_reads' HO357.out).2.2 | (with_reducible refine Kd.C_alloc ?_ _) | (with_reducible refine Kd.C_drewN ?_ _) | (with_reducible refine Kd.C_drew ?_)))
                (case side2 => exact (Kd.V_reads' HO357.out).2.1)
                (case side3 => repeat (first | exact (Kd.R_reads' HO392.out).2.2 | (with_reducible refine Kd.C_alloc ?_ _) | (with_reducible refine Kd.C_drewN ?_ _) | (with_reducible refine Kd.C_drew ?_)))
                (case side4 => exact (Kd.R_reads' HO392.out).2.1)
                rintro e w55 ⟨rfl, hb⟩; refine ⟨_, rfl, ?_⟩; have n0_ := Aside0.mk (Kd.N_below HO353.out hb); have n1_ := Aside0.mk (Kd.V_below HO357.out hb); have n2_ := Aside0.mk (Kd.R_below HO362.out hb); have n3_ := Aside0.mk (Kd.R_below HO366.out hb); have n4_ := Aside0.mk (Kd.N_below HO372.out hb); have n5_ := Aside0.mk (Kd.R_below HO375.out hb); have n6_ := Aside0.mk (Kd.N_below HO383.out hb); have n7_ := Aside0.mk (Kd.R_below HO386.out hb); have n8_ := Aside0.mk (Kd.R_below HO392.out hb); have n9_ := Aside0.mk (blk_below BK359.out hb); have n10_ := Aside0.mk (below_step HB.out hb); clear HO353; clear HO357; clear HO362; clear HO366; clear HO372; clear HO375; clear HO383; clear HO386; clear HO392; clear BK359; clear HB; have HO353 := n0_; have HO357 := n1_; have HO362 := n2_; have HO366 := n3_; have HO372 := n4_; have HO375 := n5_; have HO383 := n6_; have HO386 := n7_; have HO392 := n8_; have BK359 := n9_; have HB := n10_; clear n0_ n1_ n2_ n3_ n4_ n5_ n6_ n7_ n8_ n9_ n10_
                (try clear hb)
                (try clear hb2)
                (try clear hk)
                (try clear hi)
                refine hK.out _ _ ⟨(blk_cell BK359.out 0).trans rfl, (blk_cell BK359.out 1).trans rfl⟩ (fun hHeld => ?_); clear hK K
                refine norm_ (a' := ?_) ?_ ?_
                rotate_left
                · show Act.put _ (some 55) _ = _
                  simp only [Act.put, List.setIfInBounds_toArray, List.set_cons_zero, List.set_cons_succ, i64_w, i32_w]
                  rfl
                refine pure_ (i := 18) (N := some 56) (v := ?_) (a' := ?_) #[true, true, true, true, true, true, true, true, true, true, true, true, true, true, true, true, true, true, true, false, false, false, false, false, false, false, false, false, false, false, false, false] rfl rfl (any_of HT_.out (by kernel_rfl)) (fun _ _ _ h => h) (Or.inl ⟨by rfl, ?_⟩) ?_ ?_
                rotate_left
                · intro w'
                  go_simp
                  with_reducible rfl
                rotate_left
                · simp only [Act.put, List.setIfInBounds_toArray, List.set_cons_zero, List.set_cons_succ, i64_w, i32_w]
                  rfl
                refine pure_ (i := 19) (N := some 57) (v := ?_) (a' := ?_) #[true, true, true, true, true, true, true, true, true, true, true, true, true, true, true, true, true, true, true, true, false, false, false, false, false, false, false, false, false, false, false, false] rfl rfl (any_of HT_.out (by kernel_rfl)) (fun _ _ _ h => h) (Or.inl ⟨by rfl, ?_⟩) ?_ ?_
                rotate_left
                · intro w'
                  go_simp
                  with_reducible rfl
                rotate_left
                · simp only [Act.put, List.setIfInBounds_toArray, List.set_cons_zero, List.set_cons_succ, i64_w, i32_w]
                  rfl
                refine pure_ (i := 20) (N := some 58) (v := ?_) (a' := ?_) #[true, true, true, true, true, true, true, true, true, true, true, true, true, true, true, true, true, true, true, true, true, false, false, false, false, false, false, false, false, false, false, false] rfl rfl (any_of HT_.out (by kernel_rfl)) (fun _ _ _ h => h) (Or.inl ⟨by rfl, ?_⟩) ?_ ?_
                rotate_left
                · intro w'
                  go_simp
                  with_reducible rfl
                rotate_left
                · simp only [Act.put, List.setIfInBounds_toArray, List.set_cons_zero, List.set_cons_succ, i64_w, i32_w]
                  rfl
                refine one_ (i := 21) (N := some 59) #[true, true, true, true, true, true, true, true, true, true, true, true, true, true, true, true, true, true, true, true, true, true, false, false, false, false, false, false, false, false, false, false] rfl rfl (one_of HT_.out (by kernel_rfl)) (by decide) (fun K hK => ?_)
                refine Kd.R_lit_step (Kd.int .i64) _ 3 ?hg (N := 59) ?hd (xs := ([3, 2] : List Int)) (inner := [.int .i64 3, .int .i64 2]) (ok := fun _ => True) (okp := fun _ => True) ?hr ?hp (fun _ hk => hk) trivial (Below.refl _ _) (Nat.le_refl _) (by simp) ?_; (case hd => rfl); (case hg => rfl); (case hr => first | (go_simp; done) | (go_simp; rfl)); (case hp => exact (Reps.one (show Kd.M (Kd.int .i64) _ _ _ 3 [.int .i64 3] from rfl) (Reps.one (show Kd.M (Kd.int .i64) _ _ _ 2 [.int .i64 2] from rfl) (Reps.none _ _))))
                intro v395 w56 ho57 hb hg_ hnew_; clear hg_ hnew_
                (first | rw [← Ny394.out] at ho57 | (simp only [Int.reduceToNat] at ho57; rw [← Ny394.out] at ho57))
                have n0_ := Aside0.mk (Kd.N_elder' HO353.out (Kd.R_base ho57) hb); have n1_ := Aside0.mk (Kd.V_elder' HO357.out (Kd.R_base ho57) hb); have n2_ := Aside0.mk (Kd.R_elder' HO362.out (Kd.R_base ho57) hb); have n3_ := Aside0.mk (Kd.R_elder' HO366.out (Kd.R_base ho57) hb); have n4_ := Aside0.mk (Kd.N_elder' HO372.out (Kd.R_base ho57) hb); have n5_ := Aside0.mk (Kd.R_elder' HO375.out (Kd.R_base ho57) hb); have n6_ := Aside0.mk (Kd.N_elder' HO383.out (Kd.R_base ho57) hb); have n7_ := Aside0.mk (Kd.R_elder' HO386.out (Kd.R_base ho57) hb); have n8_ := Aside0.mk (Kd.R_below HO392.out hb); have n9_ := Aside0.mk (Kd.R_lower (Kd.R_new' (Kd.R_new' (Kd.R_new' (Kd.R_new' ho57 (Kd.R_lt HO362.out)) (Kd.R_lt HO366.out)) (Kd.R_lt HO375.out)) (Kd.R_lt HO386.out)) (below_size HB.out)); have n10_ := Aside0.mk (blk_below BK359.out hb); have n11_ := Aside0.mk (below_step HB.out hb); clear HO353; clear HO357; clear HO362; clear HO366; clear HO372; clear HO375; clear HO383; clear HO386; clear HO392; clear BK359; clear HB; have HO353 := n0_; have HO357 := n1_; have HO362 := n2_; have HO366 := n3_; have HO372 := n4_; have HO375 := n5_; have HO383 := n6_; have HO386 := n7_; have HO392 := n8_; have HO396 := n9_; have BK359 := n10_; have HB := n11_; clear n0_ n1_ n2_ n3_ n4_ n5_ n6_ n7_ n8_ n9_ n10_ n11_; clear hb ho57; obtain ⟨Ao58, co58, eo58⟩ := Kd.R_slice HO366.out
                (first | subst eo58 | (injection eo58 with f1_ f2_ f3_; have f4_ := f1_.symm; have f5_ := f3_.symm; clear f1_ f2_ f3_; subst f4_; subst f5_))
                obtain ⟨Ao59, co59, eo59⟩ := Kd.R_slice HO396.out
                (first | subst eo59 | (injection eo59 with f1_ f2_ f3_; have f4_ := f1_.symm; have f5_ := f3_.symm; clear f1_ f2_ f3_; subst f4_; subst f5_))
                refine hK.out _ _ ⟨(blk_cell BK359.out 0).trans rfl, (blk_cell BK359.out 1).trans rfl⟩ (fun hHeld => ?_); clear hK K
                refine norm_ (a' := ?_) ?_ ?_
                rotate_left
                · show Act.put _ (some 59) _ = _
                  simp only [Act.put, List.setIfInBounds_toArray, List.set_cons_zero, List.set_cons_succ, i64_w, i32_w]
                  rfl
                refine one_ (i := 22) (N := some 60) #[true, true, true, true, true, true, true, true, true, true, true, true, true, true, true, true, true, true, true, true, true, true, true, false, false, false, false, false, false, false, false, false] rfl rfl (one_of HT_.out (by kernel_rfl)) (by decide) (fun K hK => ?_)
                refine goes_ Try.func32 (by kernel_rfl) rfl #[.slice Ao58 t363.length co58, .slice Ao59 y394.length co59] (by rfl) rfl rfl (by (try simp only [List.map_toArray, List.map_cons, List.map_nil]); first | done | rfl | (simp only [List.length_drop, List.length_take]; rfl)) ?_
                with_reducible refine (quadformref16_Same.calls k _ _ t363 _ _ y394 true _ ?side1 ?side2 ?side3 ?side4 A12.out).mono ?_
                (case side1 => repeat (first | exact (Kd.R_reads' HO366.out).2.2 | (with_reducible refine Kd.C_alloc ?_ _) | (with_reducible refine Kd.C_drewN ?_ _) | (with_reducible refine Kd.C_drew ?_)))
                (case side2 => exact (Kd.R_reads' HO366.out).2.1)
                (case side3 => repeat (first | exact (Kd.R_reads' HO396.out).2.2 | (with_reducible refine Kd.C_alloc ?_ _) | (with_reducible refine Kd.C_drewN ?_ _) | (with_reducible refine Kd.C_drew ?_)))
                (case side4 => exact (Kd.R_reads' HO396.out).2.1)
                rintro e w' ⟨rfl, ⟨nd, rfl⟩⟩; refine ⟨_, rfl, ?_⟩; refine hK.out _ _ ⟨(blk_cell BK359.out 0).trans rfl, (blk_cell BK359.out 1).trans rfl⟩ (fun hHeld => ?_); clear hK K
                refine norm_ (a' := ?_) ?_ ?_
                rotate_left
                · show Act.put _ (some 60) _ = _
                  simp only [Act.put, List.setIfInBounds_toArray, List.set_cons_zero, List.set_cons_succ, i64_w, i32_w]
                  rfl
                refine pure_ (i := 23) (N := some 61) (v := ?_) (a' := ?_) #[true, true, true, true, true, true, true, true, true, true, true, true, true, true, true, true, true, true, true, true, true, true, true, true, false, false, false, false, false, false, false, false] rfl rfl (any_of HT_.out (by kernel_rfl)) (fun _ _ _ h => h) (Or.inl ⟨by rfl, ?_⟩) ?_ ?_
                rotate_left
                · intro w'
                  go_simp
                  with_reducible rfl
                rotate_left
                · simp only [Act.put, List.setIfInBounds_toArray, List.set_cons_zero, List.set_cons_succ, i64_w, i32_w]
                  rfl
                refine pure_ (i := 24) (N := some 62) (v := ?_) (a' := ?_) #[true, true, true, true, true, true, true, true, true, true, true, true, true, true, true, true, true, true, true, true, true, true, true, true, true, false, false, false, false, false, false, false] rfl rfl (any_of HT_.out (by kernel_rfl)) (fun _ _ _ h => h) (Or.inl ⟨by rfl, ?_⟩) ?_ ?_
                rotate_left
                · intro w'
                  go_simp
                  with_reducible rfl
                rotate_left
                · simp only [Act.put, List.setIfInBounds_toArray, List.set_cons_zero, List.set_cons_succ, i64_w, i32_w]
                  rfl
                refine pure_ (i := 25) (N := some 63) (v := ?_) (a' := ?_) #[true, true, true, true, true, true, true, true, true, true, true, true, true, true, true, true, true, true, true, true, true, true, true, true, true, true, false, false, false, false, false, false] rfl rfl (any_of HT_.out (by kernel_rfl)) (fun _ _ _ h => h) (Or.inl ⟨by rfl, ?_⟩) ?_ ?_
                rotate_left
                · intro w'
                  go_simp
                  with_reducible rfl
                rotate_left
                · simp only [Act.put, List.setIfInBounds_toArray, List.set_cons_zero, List.set_cons_succ, i64_w, i32_w]
                  rfl
                refine pure_ (i := 26) (N := some 64) (v := ?_) (a' := ?_) #[true, true, true, true, true, true, true, true, true, true, true, true, true, true, true, true, true, true, true, true, true, true, true, true, true, true, true, false, false, false, false, false] rfl rfl (any_of HT_.out (by kernel_rfl)) (fun _ _ _ h => h) (Or.inl ⟨by rfl, ?_⟩) ?_ ?_
                rotate_left
                · intro w'
                  go_simp
                  with_reducible rfl
                rotate_left
                · simp only [Act.put, List.setIfInBounds_toArray, List.set_cons_zero, List.set_cons_succ, i64_w, i32_w]
                  rfl
                refine pure_ (i := 27) (N := some 65) (v := ?_) (a' := ?_) #[true, true, true, true, true, true, true, true, true, true, true, true, true, true, true, true, true, true, true, true, true, true, true, true, true, true, true, true, false, false, false, false] rfl rfl (any_of HT_.out (by kernel_rfl)) (fun _ _ _ h => h) (Or.inl ⟨by rfl, ?_⟩) ?_ ?_
                rotate_left
                · intro w'
                  go_simp
                  with_reducible rfl
                rotate_left
                · simp only [Act.put, List.setIfInBounds_toArray, List.set_cons_zero, List.set_cons_succ, i64_w, i32_w]
                  rfl
                refine pure_ (i := 28) (N := some 66) (v := ?_) (a' := ?_) #[true, true, true, true, true, true, true, true, true, true, true, true, true, true, true, true, true, true, true, true, true, true, true, true, true, true, true, true, true, false, false, false] rfl rfl (any_of HT_.out (by kernel_rfl)) (fun _ _ _ h => h) (Or.inl ⟨by rfl, ?_⟩) ?_ ?_
                rotate_left
                · intro w'
                  go_simp
                  with_reducible rfl
                rotate_left
                · simp only [Act.put, List.setIfInBounds_toArray, List.set_cons_zero, List.set_cons_succ, i64_w, i32_w]
                  rfl
                refine pure_ (i := 29) (N := some 67) (v := ?_) (a' := ?_) #[true, true, true, true, true, true, true, true, true, true, true, true, true, true, true, true, true, true, true, true, true, true, true, true, true, true, true, true, true, true, false, false] rfl rfl (any_of HT_.out (by kernel_rfl)) (fun _ _ _ h => h) (Or.inl ⟨by rfl, ?_⟩) ?_ ?_
                rotate_left
                · intro w'
                  go_simp
                  with_reducible rfl
                rotate_left
                · simp only [Act.put, List.setIfInBounds_toArray, List.set_cons_zero, List.set_cons_succ, i64_w, i32_w]
                  rfl
                refine pure_ (i := 30) (N := some 68) (v := ?_) (a' := ?_) #[true, true, true, true, true, true, true, true, true, true, true, true, true, true, true, true, true, true, true, true, true, true, true, true, true, true, true, true, true, true, true, false] rfl rfl (any_of HT_.out (by kernel_rfl)) (fun _ _ _ h => h) (Or.inl ⟨by rfl, ?_⟩) ?_ ?_
                rotate_left
                · intro w'
                  go_simp
                  with_reducible rfl
                rotate_left
                · simp only [Act.put, List.setIfInBounds_toArray, List.set_cons_zero, List.set_cons_succ, i64_w, i32_w]
                  rfl
                refine pure_ (i := 31) (N := some 0) (v := ?_) (a' := ?_) #[true, true, true, true, true, true, true, true, true, true, true, true, true, true, true, true, true, true, true, true, true, true, true, true, true, true, true, true, true, true, true, true] rfl rfl (any_of HT_.out (by kernel_rfl)) (fun _ _ _ h => h) (Or.inl ⟨by rfl, ?_⟩) ?_ ?_
                rotate_left
                · intro w'
                  go_simp
                  with_reducible rfl
                rotate_left
                · simp only [Act.put, List.setIfInBounds_toArray, List.set_cons_zero, List.set_cons_succ, i64_w, i32_w]
                  rfl
                refine done_ (done_of HT_.out (by kernel_rfl)) ?_
                try go_wp2
                go_ret
                exact ⟨by first | rfl | (simp [errW_none, errW_some] <;> rfl) | (simp [*, errW_none, errW_some] <;> rfl), by repeat (first | (with_reducible first | exact HB.out | apply below_alloc | apply pw_below_drewN | apply below_drew1 | refine below_set ?_ GE359.out) | exact HB.out)⟩
              · replace c14 := Bool.eq_false_iff.mpr c14
                subst c14
                have H1 : (some false) = some r := by rw [if_neg (show ¬ (false = true) by decide)] at H; exact H
                clear H; have H := H1; clear H1; exact absurd ((Option.some.inj H).trans HTR.out) Bool.false_ne_true
            · replace c13 := Bool.eq_false_iff.mpr c13
              subst c13
              have H1 : (some false) = some r := by rw [if_neg (show ¬ (false = true) by decide)] at H; exact H
              clear H; have H := H1; clear H1; exact absurd ((Option.some.inj H).trans HTR.out) Bool.false_ne_true
          · replace c11 := Bool.eq_false_iff.mpr c11
            subst c11
            have H1 : (some false) = some r := by rw [if_neg (show ¬ (false = true) by decide)] at H; exact H
            clear H; have H := H1; clear H1; exact absurd ((Option.some.inj H).trans HTR.out) Bool.false_ne_true
        · rw [if_neg c8] at H
          have c8b0 : (t388 == 0) = false := beq_eq_false_iff_ne.mpr c8; have c8b1 : (t388 != 0) = true := bne_iff_ne.mpr c8; exact absurd ((Option.some.inj H).trans HTR.out) Bool.false_ne_true
      · rw [if_neg c7] at H
        have c7b0 : (t377 == 0) = false := beq_eq_false_iff_ne.mpr c7; have c7b1 : (t377 != 0) = true := bne_iff_ne.mpr c7; exact absurd ((Option.some.inj H).trans HTR.out) Bool.false_ne_true
    · rw [if_neg c6] at H
      have c6b0 : (t364 == 0) = false := beq_eq_false_iff_ne.mpr c6; have c6b1 : (t364 != 0) = true := bne_iff_ne.mpr c6; exact absurd ((Option.some.inj H).trans HTR.out) Bool.false_ne_true
  · rw [if_neg c5] at H
    have c5b0 : (t358 == 0) = false := beq_eq_false_iff_ne.mpr c5; have c5b1 : (t358 != 0) = true := bne_iff_ne.mpr c5; exact absurd ((Option.some.inj H).trans HTR.out) Bool.false_ne_true
theorem quadformlaw17_awake.le : ∀ k d, LeO (quadformlaw17_awake.f k) (quadformlaw17_awake.f (k + d))
  | k, 0 => LeO.refl _
  | k, d + 1 => fun r h => quadformlaw17_awake.mono (k + d) r (quadformlaw17_awake.le k d r h)
set_option maxRecDepth 100000 in
theorem quadformlaw17_awake.yes : quadformlaw17_awake.f 60 = some true := by decide +kernel
theorem quadformlaw17_awake.only {k : Nat} {r : Bool} (h : quadformlaw17_awake.f k = some r) : r = true := by
  have h1 := quadformlaw17_awake.le k 60 r h; have h2 := quadformlaw17_awake.le 60 k true quadformlaw17_awake.yes
  rw [Nat.add_comm] at h2
  exact Option.some.inj (h1.symm.trans h2)
theorem quadformlaw17_awake.calls (k : Nat)  (r : Bool) (w : World) (h : quadformlaw17_awake.f k  = some r) :
    Calls Try.prog 21 #[] w fun e w' => e = .returned (.bool r) ∧ Below w.heap.size w w' := by
  exact quadformlaw17_awake.calls1 k r w h (quadformlaw17_awake.only h)
end Go.Proofs.Ytpkgckccfanchaa.M

namespace Go.Proofs.Ytpkgckccfanchaa.M
open Go.RowKit Go.Proofs.YtpkgckccfanchaaW.PrintWords Go.Proofs.YtpkgckccfanchaaW.PrintLast Go.Proofs.YtpkgckccfanchaaW.PrintMore
open Sims
set_option linter.unusedVariables false
set_option linter.unusedSimpArgs false
def quadformlaw17_StabchainLengths.f (k : Nat) (a0_0 : Int) (l0_1 : List (List Int)) (a0_2 : Bool) (l1 : List Int) (l2 : List Int) (a3 : Int) : Option Bool := if 100 < l1.length then quadformlaw17_awake.f k else (quadformmake_Perms_Degree.f a0_0 l0_1 a0_2 8).bind fun n => (quadformmake_Perms_Gens.f a0_0 l0_1 a0_2 8).bind fun gens => (quadformmake_Perm.f l2 n).bind fun p => if 0 ≤ a3 ∧ a3 < 256 ∧ 0 < n ∧ n ≤ 8 ∧ (p.length : Int) = n then (stabchain_Lengths.f k n gens l1).bind fun r1 => (quadformref16_Lengths.f k n gens l1).bind fun s1 => (quadformref16_Same.f k r1.1 s1.1).bind fun t1 => (stabchain_Lengths.f k n gens (p.take (a3 % (n + 1)).toNat)).bind fun r2 => (quadformref16_Lengths.f k n gens (p.take (a3 % (n + 1)).toNat)).bind fun s2 => (quadformref16_Same.f k r2.1 s2.1).bind fun t2 => if (r1.2 = s1.2 ∧ t1 = true) ∧ (r2.2 = s2.2 ∧ t2 = true) then quadformlaw17_awake.f k else none else none
theorem S_GC {w : World} {A : Option Addr} {m c N : Nat} {ok : Nat → Prop} {gens : List (List Int)} (h : Kd.S (Kd.slice 3 (Kd.int .i64)) 28 w N ok (.slice A m c) gens) : GC w A gens ∧ gens.length ≤ c := by
  obtain ⟨h1, h2, h3⟩ := Kd.V_reads' (Kd.S_V (base' := 0) h); exact ⟨h3, by omega⟩
set_option maxHeartbeats 8000000 in
set_option maxRecDepth 100000 in
theorem quadformlaw17_StabchainLengths.calls (k : Nat) (a0_0 : Int) (A0_1 : Option Addr) (c0_1 : Nat) (l0_1 : List (List Int)) (a0_2 : Bool) (A1 : Option Addr) (c1 : Nat) (l1 : List Int) (A2 : Option Addr) (c2 : Nat) (l2 : List Int) (a3 : Int) (r : Bool) (w : World) (hr0_1 : Kd.C (Kd.slice 140 (Kd.int .i8)) w A0_1 l0_1.length l0_1) (hc0_1 : l0_1.length ≤ c0_1) (hr1 : Kd.C (Kd.int .i64) w A1 l1.length l1) (hc1 : l1.length ≤ c1) (hr2 : Kd.C (Kd.int .i8) w A2 l2.length l2) (hc2 : l2.length ≤ c2) (h : quadformlaw17_StabchainLengths.f k a0_0 l0_1 a0_2 l1 l2 a3 = some r) (htr : r = true) :
    Calls Try.prog 7 #[.agg #[.int .u8 a0_0, .slice A0_1 l0_1.length c0_1, .bool a0_2], .slice A1 l1.length c1, .slice A2 l2.length c2, .int .u8 a3] w fun e w' => e = .returned (.bool r) ∧ Below w.heap.size w w' := by
  subst htr
  by_cases h100 : 100 < l1.length
  · unfold quadformlaw17_StabchainLengths.f at h
    rw [if_pos h100] at h
    have HH := Aside0.mk h; clear h
    go_enter Try.func7, Try.ntmps7
    go_wp2_with (go_at_call 21; (with_reducible refine (quadformlaw17_awake.calls k true _ HH.out).mono ?_); rintro e w8 ⟨rfl, hb8⟩)
    all_goals first | (go_ret; exact ⟨rfl, below_then (below_alloc (Below.refl _ _) _) (below_alloc (Below.refl _ _) _).size hb8⟩) | (exfalso; omega)
  unfold quadformlaw17_StabchainLengths.f at h
  rw [if_neg h100] at h
  obtain ⟨n, hn, h⟩ := Option.bind_eq_some_iff.mp h; obtain ⟨gens, hg, h⟩ := Option.bind_eq_some_iff.mp h; obtain ⟨p, hp, h⟩ := Option.bind_eq_some_iff.mp h
  by_cases hcc : 0 ≤ a3 ∧ a3 < 256 ∧ 0 < n ∧ n ≤ 8 ∧ (p.length : Int) = n
  case neg => rw [if_neg hcc] at h; cases h
  rw [if_pos hcc] at h
  obtain ⟨ha0, ha1, hn0, hn8, hpl⟩ := hcc
  obtain ⟨m, hm⟩ : ∃ m, m = (a3 % (n + 1)).toNat := ⟨_, rfl⟩
  rw [← hm] at h
  have hm0 : 0 ≤ a3 % (n + 1) := Int.emod_nonneg _ (by omega); have hm1 : a3 % (n + 1) < n + 1 := Int.emod_lt_of_pos _ (by omega)
  have hm2 : m ≤ p.length := by omega
  have hm3 : a3 % (n + 1) = (m : Int) := by omega
  obtain ⟨⟨b1, e1⟩, hb1, h⟩ := Option.bind_eq_some_iff.mp h; obtain ⟨⟨d1, g1⟩, hs1, h⟩ := Option.bind_eq_some_iff.mp h; obtain ⟨t1, ht1, h⟩ := Option.bind_eq_some_iff.mp h; obtain ⟨⟨b2, e2⟩, hb2, h⟩ := Option.bind_eq_some_iff.mp h; obtain ⟨⟨d2, g2⟩, hs2, h⟩ := Option.bind_eq_some_iff.mp h; obtain ⟨t2, ht2, hz⟩ := Option.bind_eq_some_iff.mp h
  by_cases hss : (e1 = g1 ∧ t1 = true) ∧ (e2 = g2 ∧ t2 = true)
  case neg => rw [if_neg hss] at hz; cases hz
  rw [if_pos hss] at hz
  obtain ⟨⟨rfl, rfl⟩, rfl, rfl⟩ := hss; clear h
  obtain ⟨W0, hW0⟩ : ∃ W0, W0 = w.alloc (.cells #[.int .u8 a0_0, .slice A0_1 l0_1.length c0_1, .bool a0_2] 35) := ⟨_, rfl⟩
  obtain ⟨gx, hgx⟩ : ∃ gx, gx = w.heap.size := ⟨_, rfl⟩
  have HX : Aside0 (W0.heap[gx]? = some (.cells #[.int .u8 a0_0, .slice A0_1 l0_1.length c0_1, .bool a0_2] 35 (0, 0))) := ⟨by rw [hW0, hgx]; exact blk_new w _⟩
  have HB0 : Aside0 (Below w.heap.size w W0) := ⟨by rw [hW0]; exact below_alloc (Below.refl _ _) _⟩
  have CD : ∀ W : World, Below W0.heap.size W0 W → Calls Try.prog 18 #[.agg #[.int .u8 a0_0, .slice A0_1 l0_1.length c0_1, .bool a0_2], .int .i64 8] W fun e w' => e = .returned (.int .i64 n) ∧ Below W.heap.size W w' ∧ Below W0.heap.size W0 w' := fun W hW => by
    refine (quadformmake_Perms_Degree.calls a0_0 A0_1 c0_1 l0_1 a0_2 8 n W (Kd.C_below (Kd.C_below hr0_1 HB0.out) hW) hc0_1 hn).mono ?_
    rintro e w' ⟨rfl, hb⟩; exact ⟨rfl, hb, below_then hW hW.size hb⟩
  have CG : ∀ W : World, Below W0.heap.size W0 W → Calls Try.prog 19 #[.agg #[.int .u8 a0_0, .slice A0_1 l0_1.length c0_1, .bool a0_2], .int .i64 8] W fun e w' => ∃ A c, e = .returned (.slice A gens.length c) ∧ Below W.heap.size W w' ∧ Below W0.heap.size W0 w' ∧ ∀ W2, Below w'.heap.size w' W2 → GC W2 A gens ∧ gens.length ≤ c := fun W hW => by
    refine (quadformmake_Perms_Gens.calls a0_0 A0_1 c0_1 l0_1 a0_2 8 gens W (Kd.C_below (Kd.C_below hr0_1 HB0.out) hW) hc0_1 hg).mono ?_
    rintro e w' ⟨v, rfl, hS, hb⟩; obtain ⟨A, c, rfl⟩ := Kd.S_slice hS; exact ⟨A, c, rfl, hb, below_then hW hW.size hb, fun W2 h2 => ⟨Kd.C_below (S_GC hS).1 h2, (S_GC hS).2⟩⟩
  have hkeep : ∀ W' : World, Below W0.heap.size W0 W' → W'.cell? ⟨gx, 0, none⟩ = some (.int .u8 a0_0) ∧ W'.cell? ⟨gx, 1, none⟩ = some (.slice A0_1 l0_1.length c0_1) ∧ W'.cell? ⟨gx, 2, none⟩ = some (.bool a0_2) := fun W' hW => ⟨blk_cell (blk_below HX.out hW) 0, blk_cell (blk_below HX.out hW) 1, blk_cell (blk_below HX.out hW) 2⟩
  have HCD := Aside0.mk CD; have HCG := Aside0.mk CG; have HKP := Aside0.mk hkeep; have HR1 := Aside0.mk hr1; have HC1 := Aside0.mk hc1; have HR2 := Aside0.mk hr2; have HC2 := Aside0.mk hc2; have HP := Aside0.mk hp; have HF1 := Aside0.mk hb1; have HF2 := Aside0.mk hs1; have HF3 := Aside0.mk hb2; have HF4 := Aside0.mk hs2; have HT1 := Aside0.mk ht1; have HT2 := Aside0.mk ht2; have HAW := Aside0.mk hz; have HW0 := Aside0.mk hW0; have HGX := Aside0.mk hgx
  clear ht1 ht2; clear CD CG hkeep hr0_1 hc0_1 hr1 hc1 hr2 hc2 hn hg hp hb1 hs1 hb2 hs2 hz hW0 hgx
  go_enter Try.func7, Try.ntmps7
  go_upto_region 3 with (fail)
  rw [← HW0.out, ← HGX.out]
  go_cut [9, 10] (fun v9 v10 wc => v9 = .int .i64 n ∧ ∃ Ag cg, v10 = .slice Ag gens.length cg ∧ Aside0 (GC wc Ag gens) ∧ Aside0 (gens.length ≤ cg) ∧ Aside0 (Below w.heap.size w wc))
  case first =>
    go_region_held3 (fun W' => W'.cell? ⟨gx, 0, none⟩ = some (.int .u8 a0_0) ∧ W'.cell? ⟨gx, 1, none⟩ = some (.slice A0_1 l0_1.length c0_1) ∧ W'.cell? ⟨gx, 2, none⟩ = some (.bool a0_2)) ((refine HKP.out _ ?_; (repeat' (first | with_reducible exact Below.refl _ _ | with_reducible exact hGW | with_reducible exact hDW | with_reducible apply below_drew1)))) (first | (go_at_call 18; (with_reducible refine (HCD.out _ ?hW).mono ?_); (case hW => (repeat' (first | with_reducible exact Below.refl _ _ | with_reducible exact hGW | with_reducible apply below_drew1))); rintro e w3 ⟨rfl, hDb, hDW⟩) | (go_at_call 19; (with_reducible refine (HCG.out _ ?hW).mono ?_); (case hW => (repeat' (first | with_reducible exact Below.refl _ _ | with_reducible exact hDW | with_reducible apply below_drew1))); rintro e w4 ⟨A4, c4, rfl, hGb, hGW, hGV⟩))
    all_goals
      go_wp2_with (fail)
      go_meet
      case rel => first | exact ⟨rfl, A4, c4, rfl, ⟨(hGV _ (Below.refl _ _)).1⟩, ⟨(hGV _ (Below.refl _ _)).2⟩, ⟨below_then HB0.out HB0.out.size hGW⟩⟩ | exact ⟨rfl, A4, c4, rfl, ⟨(hGV _ hDb).1⟩, ⟨(hGV _ hDb).2⟩, ⟨below_then HB0.out HB0.out.size hDW⟩⟩
  case rest =>
    obtain ⟨rfl, Ag, cg, rfl, HGC, HGL, HB⟩ := hcut; clear HCD HCG HKP HX
    obtain ⟨wo, rfl⟩ : ∃ wo : World, wo = wc := ⟨_, rfl⟩
    obtain ⟨nn, hnn⟩ : ∃ nn : Nat, n = (nn : Int) := ⟨n.toNat, by omega⟩
    subst hnn
    obtain ⟨mp, hmp⟩ : ∃ mp, p.length = mp := ⟨_, rfl⟩
    have HMP := Aside0.mk hmp
    have CP : ∀ W : World, Below wo.heap.size wo W → Calls Try.prog 22 #[.slice A2 l2.length c2, .int .i64 (nn : Int)] W fun e w' => ∃ A5 c5, e = .returned (.slice A5 mp c5) ∧ mp ≤ c5 ∧ (m : Int) ≤ (c5 : Int) ∧ (0 : Int) ≤ (m : Int) ∧ Below W.heap.size W w' ∧ Below wo.heap.size wo w' ∧ ∀ W2, Below w'.heap.size w' W2 → Kd.C (Kd.int .i64) W2 A5 p.length p := fun W hW => by
      refine (quadformmake_Perm.calls A2 c2 l2 (nn : Int) p W (Kd.C_below (Kd.C_below HR2.out HB.out) hW) HC2.out HP.out).mono ?_
      rintro e w' ⟨v5, rfl, hR5, hb5⟩; obtain ⟨A5, c5, rfl, hl5, hC5⟩ := Kd.R_reads hR5
      rw [HMP.out] at hl5
      exact ⟨A5, c5, by rw [HMP.out], hl5, by omega, by omega, hb5, below_then hW hW.size hb5, fun W2 h2 => Kd.C_below hC5 h2⟩
    have HCP := Aside0.mk CP
    have hnm : mp = nn := by omega
    subst hnm
    have ht : Int.tmod a3 ((mp : Int) + 1) = (m : Int) := by rw [Int.tmod_eq_emod_of_nonneg ha0, hm3]
    have hw1 : IntKind.i64.wrap ((mp : Int) + 1) = (mp : Int) + 1 := IntWalk.i64_in _ (by omega); have hw2 : IntKind.i64.wrap a3 = a3 := IntWalk.i64_in _ (by omega); have hw3 : IntKind.i64.wrap (m : Int) = (m : Int) := IntWalk.i64_in _ (by omega)
    have hne : ((mp : Int) + 1 = 0) = False := by simp; omega
    have hm9 : (m : Int) ≤ (mp : Int) := by omega
    clear CP hm0 hm1 hm3 hmp hm
    go_upto_region 4 with (fail)
    go_cut [35, 36, 37] (fun v35 v36 v37 wc => v36 = .int .i64 2 ∧ v37 = .int .i64 0 ∧ ∃ rb A5 c5, v35 = .slice (some ⟨rb, 0, none⟩) 2 2 ∧ m ≤ c5 ∧ Aside0 (wc.heap[rb]? = some (.cells #[.slice A1 l1.length c1, .slice A5 m c5] 28 (0, 0))) ∧ Aside0 (Kd.C (Kd.int .i64) wc A5 p.length p) ∧ Aside0 (p.length ≤ c5) ∧ Aside0 (Below wo.heap.size wo wc))
    case first =>
      go_region_held3 (fun W' => True) (trivial) (first | (go_at_call 22; (with_reducible refine (HCP.out _ ?hW).mono ?_); (case hW => (repeat' (first | with_reducible exact Below.refl _ _ | with_reducible apply below_drew1))); rintro e w5 ⟨A5, c5, rfl, hl5, hm10, hm12, hb5, hB5, hC5⟩; have HC5 := Aside0.mk hC5; clear hC5))
      all_goals
        go_wp2_with (fail)
        go_meet
        case rel => exact ⟨rfl, rfl, _, A5, c5, rfl, Int.ofNat_le.1 hm10, ⟨blk_new _ _⟩, ⟨HC5.out _ (below_alloc (Below.refl _ _) _)⟩, ⟨by rw [HMP.out]; exact hl5⟩, ⟨below_alloc hB5 _⟩⟩
    case rest =>
      obtain ⟨rfl, rfl, rb, A5, c5, rfl, hm10, HX5, HC6, HL5, HB5⟩ := hcut
      have HB6 : Aside0 (Below w.heap.size w wc) := ⟨below_then HB.out HB.out.size HB5.out⟩
      have HG6 : Aside0 (GC wc Ag gens) := ⟨Kd.C_below HGC.out HB5.out⟩
      have HR6 : Aside0 (Kd.C (Kd.int .i64) wc A1 l1.length l1) := ⟨Kd.C_below HR1.out HB6.out⟩
      have HT6 : Aside0 (Kd.C (Kd.int .i64) wc A5 (p.take m).length (p.take m)) := ⟨Kd.C_take HC6.out (by rw [HMP.out]; exact Int.ofNat_le.1 hm9)⟩
      have HTL : Aside0 ((p.take m).length = m) := ⟨by rw [List.length_take, HMP.out]; have := Int.ofNat_le.1 hm9; omega⟩
      have HSA1 : Aside0 (∀ W : World, Below wc.heap.size wc W → Calls Try.prog 30 #[.int .i64 (mp : Int), .slice Ag gens.length cg, .slice A1 l1.length c1] W fun e w' => ∃ A c, e = .returned (.tuple #[.slice A b1.length c, .int .i64 e1]) ∧ Aside0 (b1.length ≤ c ∧ Kd.C (Kd.int .i64) w' A b1.length b1) ∧ Below W.heap.size W w') := ⟨fun W hW => by
          have h := stabchain_Lengths.calls k (mp : Int) Ag cg gens A1 c1 l1 b1 e1 W (Kd.C_below HG6.out hW) HGL.out (Kd.C_below HR6.out hW) HC1.out HF1.out
          refine h.mono ?_
          rintro e w' ⟨v, rfl, hR, hb⟩; obtain ⟨A, c, rfl, hl, hC⟩ := Kd.R_reads hR
          exact ⟨A, c, rfl, ⟨hl, hC⟩, hb⟩⟩
      have HSA2 : Aside0 (∀ W : World, Below wc.heap.size wc W → Calls Try.prog 31 #[.int .i64 (mp : Int), .slice Ag gens.length cg, .slice A1 l1.length c1] W fun e w' => ∃ A c, e = .returned (.tuple #[.slice A d1.length c, .int .i64 e1]) ∧ Aside0 (d1.length ≤ c ∧ Kd.C (Kd.int .i64) w' A d1.length d1) ∧ Below W.heap.size W w') := ⟨fun W hW => by
          have h := quadformref16_Lengths.calls k (mp : Int) Ag cg gens A1 c1 l1 d1 e1 W (Kd.C_below HG6.out hW) HGL.out (Kd.C_below HR6.out hW) HC1.out HF2.out
          refine h.mono ?_
          rintro e w' ⟨v, rfl, hR, hb⟩; obtain ⟨A, c, rfl, hl, hC⟩ := Kd.R_reads hR
          exact ⟨A, c, rfl, ⟨hl, hC⟩, hb⟩⟩
      have HSA3 : Aside0 (∀ (W : World) A c A' c', (b1.length ≤ c ∧ Kd.C (Kd.int .i64) W A b1.length b1) → (d1.length ≤ c' ∧ Kd.C (Kd.int .i64) W A' d1.length d1) → Calls Try.prog 32 #[.slice A b1.length c, .slice A' d1.length c'] W fun e w' => e = .returned (.bool true) ∧ Below W.heap.size W w') := ⟨fun W A c A' c' h1 h2 => by
          refine (quadformref16_Same.calls k A c b1 A' c' d1 true W h1.2 h1.1 h2.2 h2.1 HT1.out).mono ?_
          rintro e w' ⟨rfl, hb⟩
          exact ⟨rfl, hb.below⟩⟩
      have HSB1 : Aside0 (∀ W : World, Below wc.heap.size wc W → Calls Try.prog 30 #[.int .i64 (mp : Int), .slice Ag gens.length cg, .slice A5 m c5] W fun e w' => ∃ A c, e = .returned (.tuple #[.slice A b2.length c, .int .i64 e2]) ∧ Aside0 (b2.length ≤ c ∧ Kd.C (Kd.int .i64) w' A b2.length b2) ∧ Below W.heap.size W w') := ⟨fun W hW => by
          have h := stabchain_Lengths.calls k (mp : Int) Ag cg gens A5 c5 (p.take m) b2 e2 W (Kd.C_below HG6.out hW) HGL.out (Kd.C_below HT6.out hW) (by rw [HTL.out]; exact hm10) HF3.out
          rw [HTL.out] at h
          refine h.mono ?_
          rintro e w' ⟨v, rfl, hR, hb⟩; obtain ⟨A, c, rfl, hl, hC⟩ := Kd.R_reads hR
          exact ⟨A, c, rfl, ⟨hl, hC⟩, hb⟩⟩
      have HSB2 : Aside0 (∀ W : World, Below wc.heap.size wc W → Calls Try.prog 31 #[.int .i64 (mp : Int), .slice Ag gens.length cg, .slice A5 m c5] W fun e w' => ∃ A c, e = .returned (.tuple #[.slice A d2.length c, .int .i64 e2]) ∧ Aside0 (d2.length ≤ c ∧ Kd.C (Kd.int .i64) w' A d2.length d2) ∧ Below W.heap.size W w') := ⟨fun W hW => by
          have h := quadformref16_Lengths.calls k (mp : Int) Ag cg gens A5 c5 (p.take m) d2 e2 W (Kd.C_below HG6.out hW) HGL.out (Kd.C_below HT6.out hW) (by rw [HTL.out]; exact hm10) HF4.out
          rw [HTL.out] at h
          refine h.mono ?_
          rintro e w' ⟨v, rfl, hR, hb⟩; obtain ⟨A, c, rfl, hl, hC⟩ := Kd.R_reads hR
          exact ⟨A, c, rfl, ⟨hl, hC⟩, hb⟩⟩
      have HSB3 : Aside0 (∀ (W : World) A c A' c', (b2.length ≤ c ∧ Kd.C (Kd.int .i64) W A b2.length b2) → (d2.length ≤ c' ∧ Kd.C (Kd.int .i64) W A' d2.length d2) → Calls Try.prog 32 #[.slice A b2.length c, .slice A' d2.length c'] W fun e w' => e = .returned (.bool true) ∧ Below W.heap.size W w') := ⟨fun W A c A' c' h1 h2 => by
          refine (quadformref16_Same.calls k A c b2 A' c' d2 true W h1.2 h1.1 h2.2 h2.1 HT2.out).mono ?_
          rintro e w' ⟨rfl, hb⟩
          exact ⟨rfl, hb.below⟩⟩
      clear HCP HB HB5 HGC HC6 HP HR1 HR2 HC2 HF1 HF2 HF3 HF4 HT1 HT2 HTL HT6 HR6 HG6
      go_wp2_with (fail)
      go_loopw [37] (fun i wr => ∃ j : Nat, i = .int .i64 j ∧ j ≤ 2 ∧ Aside0 (Below wc.heap.size wc wr)) (fun i _ => 2 - (intOf i).toNat)
      case atStart => exact ⟨0, rfl, by omega, ⟨Below.refl _ _⟩⟩
      case round =>
        obtain ⟨j, rfl, hj, HB⟩ := hrel; have hx0 : wr.cell? ⟨rb, 0, none⟩ = some (.slice A1 l1.length c1) := blk_cell (blk_below HX5.out HB.out) 0; have hx1 : wr.cell? ⟨rb, 1, none⟩ = some (.slice A5 m c5) := blk_cell (blk_below HX5.out HB.out) 1
        have hj3 : j = 0 ∨ j = 1 ∨ j = 2 := by omega
        rcases hj3 with rfl | rfl | rfl
        · go_wp2_with (first | (go_at_call 30; (with_reducible refine (HSA1.out _ HB.out).mono ?_); rintro e w6 ⟨A6, c6, rfl, HV6, hb6⟩; have HB7 : Aside0 (Below wc.heap.size wc w6) := ⟨below_then HB.out HB.out.size hb6⟩; clear hb6) | (go_at_call 31; (with_reducible refine (HSA2.out _ HB7.out).mono ?_); rintro e w7 ⟨A7, c7, rfl, HV7, hb7⟩; have HV6b := Aside0.mk (And.intro HV6.out.1 (Kd.C_below HV6.out.2 hb7)); have HB8 : Aside0 (Below wc.heap.size wc w7) := ⟨below_then HB7.out HB7.out.size hb7⟩; clear hb7) | (go_at_call 32; (with_reducible refine (HSA3.out _ A6 c6 A7 c7 HV6b.out HV7.out).mono ?_); rintro e w8 ⟨rfl, hb8⟩; have HB9 : Aside0 (Below wc.heap.size wc w8) := ⟨below_then HB8.out HB8.out.size hb8⟩; clear hb8))
          go_roundw
          case rel => exact ⟨1, rfl, by omega, HB9⟩
          case measure => simp [intOf]
        · go_wp2_with (first | (go_at_call 30; (with_reducible refine (HSB1.out _ HB.out).mono ?_); rintro e w6 ⟨A6, c6, rfl, HV6, hb6⟩; have HB7 : Aside0 (Below wc.heap.size wc w6) := ⟨below_then HB.out HB.out.size hb6⟩; clear hb6) | (go_at_call 31; (with_reducible refine (HSB2.out _ HB7.out).mono ?_); rintro e w7 ⟨A7, c7, rfl, HV7, hb7⟩; have HV6b := Aside0.mk (And.intro HV6.out.1 (Kd.C_below HV6.out.2 hb7)); have HB8 : Aside0 (Below wc.heap.size wc w7) := ⟨below_then HB7.out HB7.out.size hb7⟩; clear hb7) | (go_at_call 32; (with_reducible refine (HSB3.out _ A6 c6 A7 c7 HV6b.out HV7.out).mono ?_); rintro e w8 ⟨rfl, hb8⟩; have HB9 : Aside0 (Below wc.heap.size wc w8) := ⟨below_then HB8.out HB8.out.size hb8⟩; clear hb8))
          go_roundw
          case rel => exact ⟨2, rfl, by omega, HB9⟩
          case measure => simp [intOf]
        · go_wp2_with (go_at_call 21; (with_reducible refine (quadformlaw17_awake.calls k true _ HAW.out).mono ?_); rintro e w8 ⟨rfl, hb8⟩; have HB9 : Aside0 (Below wc.heap.size wc w8) := ⟨below_then HB.out HB.out.size hb8⟩; clear hb8)
          go_ret
          exact ⟨rfl, below_then HB6.out HB6.out.size HB9.out⟩
end Go.Proofs.Ytpkgckccfanchaa.M

namespace Go.Proofs.Ytpkgckccfanchaa.M
open Go.RowKit Go.Proofs.YtpkgckccfanchaaW.PrintWords Go.Proofs.YtpkgckccfanchaaW.PrintLast Go.Proofs.YtpkgckccfanchaaW.PrintMore
open Sims
set_option linter.unusedVariables false
theorem lens_take {n : Nat} : ∀ {b : List Int} {pts pts' : List Int} {ls ls' : List Lv}, PC n pts ls → PC n pts' ls' → (∀ g, grp n ls g ↔ grp n ls' g) → (∃ m, ls.map (·.point) = b ++ m) → (∃ m, ls'.map (·.point) = b ++ m) → (lensF ls).take b.length = (lensF ls').take b.length
  | [], _, _, ls, ls', _, _, _, _, _ => by simp
  | x :: b, pts, pts', [], _, _, _, _, ⟨m, hm⟩, _ => by simp at hm
  | x :: b, pts, pts', _ :: _, [], _, _, _, _, ⟨m, hm⟩ => by simp at hm
  | x :: b, pts, pts', l :: ls, l' :: ls', h, h', hg, ⟨m, hm⟩, ⟨m', hm'⟩ => by
    simp only [List.map_cons, List.cons_append, List.cons.injEq] at hm hm'
    obtain ⟨rfl, hm⟩ := hm
    obtain ⟨hp, hm'⟩ := hm'
    have hG : GL n l.gens = GL n l'.gens := funext fun g => propext (hg g)
    have e1 := lev_length (l := tl n l) (l' := tl n l') hp.symm h.2.2.2.2.1 (hG ▸ h'.2.2.2.2.1)
    have e2 : l.reps.length = l'.reps.length := by simpa [tl, dom] using e1
    have e3 : grp n ls = grp n ls' := by rw [← h.2.2.2.2.2.1, ← h'.2.2.2.2.2.1, hG, hp]
    have e4 := lens_take h.2.2.2.2.2.2 h'.2.2.2.2.2.2 (fun g => by rw [e3]) ⟨m, hm⟩ ⟨m', hm'⟩
    simp only [lensF, List.map_cons, List.length_cons, List.take_succ_cons, e2]
    congr 1
theorem lengths_both {n : Nat} (hn : 0 < n) (h8 : n ≤ 8) {gens : List (List Int)} (hg : ∀ g ∈ gens, IsP n g) (hl : gens.length ≤ 50) (base : List Int) (hb : base.length ≤ 100) :
    ∃ f r, r.1.length ≤ 100 ∧ ∀ k, f ≤ k → stabchain_Lengths.f k (n : Int) gens base = some r ∧ quadformref16_Lengths.f k (n : Int) gens base = some r := by
  have hok : okB (n : Int) gens = true := okB_mk hn (by omega) hg (by omega)
  by_cases hd : diffB (n : Int) base = true
  · obtain ⟨hr, hnd⟩ := diffB_true hd
    obtain ⟨ls, e1, p1, p2, p3, -⟩ := group_ok (Nat.le_refl (n + 1)) hg hr hnd
    obtain ⟨f, ls', e2, q1, q2, q3⟩ := rchain_ok hg hr hnd
    refine ⟨f + 200, ((lensF ls).take base.length, 0), by simp; omega, fun k hk => ⟨?_, ?_⟩⟩
    · unfold stabchain_Lengths.f
      rw [args_ok hn h8 hg (by omega) (by omega), Option.bind_some, if_pos rfl, if_pos hok, if_pos hd, Int.toNat_natCast, e1, Option.bind_some]
    · unfold quadformref16_Lengths.f
      rw [rgroup_ok hn (by omega) hg (by omega) (by omega), Option.bind_some, if_pos rfl, if_pos ⟨hok, by omega⟩, if_pos hd, Int.toNat_natCast, e2 k (by omega), Option.bind_some, lens_take q1 p1 (fun g => by rw [p2, q2]) q3 p3]
  · refine ⟨200, ([], 1), by simp, fun k hk => ⟨?_, ?_⟩⟩
    · unfold stabchain_Lengths.f
      rw [args_ok hn h8 hg (by omega) (by omega), Option.bind_some, if_pos rfl, if_pos hok, if_neg hd]
    · unfold quadformref16_Lengths.f
      rw [rgroup_ok hn (by omega) hg (by omega) (by omega), Option.bind_some, if_pos rfl, if_pos ⟨hok, by omega⟩, if_neg hd]
theorem u8_range {a : Int} (h : (Lit.int IntKind.u8 a).wf = true) : 0 ≤ a ∧ a < 256 := by
  have h2 : IntKind.u8.min ≤ a ∧ a ≤ IntKind.u8.max := by simpa [Lit.wf] using h
  have e1 : IntKind.u8.min = 0 := by decide
  have e2 : IntKind.u8.max = 255 := by decide
  omega
theorem same16_go {l : List Int} (hl : l.length ≤ 100) : ∀ (d i k : Nat), i + d = l.length → d < k → quadformref16_Same.l0 k l l (l.length : Int) (i : Int) = some true
  | d, i, 0, _, hk => by omega
  | 0, i, k + 1, hi, hk => by
    unfold quadformref16_Same.l0
    rw [if_neg (by omega)]
  | d + 1, i, k + 1, hi, hk => by
    have hw : wrap64 ((i : Int) + 1) = ((i + 1 : Nat) : Int) := by unfold wrap64; omega
    unfold quadformref16_Same.l0
    rw [if_pos (by omega), if_pos (by omega), if_pos (by omega), if_pos (by omega), if_pos rfl, hw]
    exact same16_go hl d (i + 1) k (by omega) (by omega)
theorem same16 {l : List Int} (hl : l.length ≤ 100) {k : Nat} (hk : 101 ≤ k) : quadformref16_Same.f k l l = some true := by
  unfold quadformref16_Same.f
  rw [if_pos rfl]
  exact same16_go hl l.length 0 k (by omega) (by omega)
theorem stabchainLengths_pure {H1 H2 : Prop} (a0 : Int) (l0 : List (List Int)) (b : Bool) (l1 l2 : List Int) (a3 : Int) (h0 : 0 ≤ a0) (h1 : a0 < 256) (hl0 : ∀ x ∈ l0, x.length ≤ 9223372036854775807) (hl1 : l1.length ≤ 9223372036854775807) (hw1 : H1) (hl2 : l2.length ≤ 9223372036854775807) (hw2 : H2) (h3w : (Lit.int IntKind.u8 a3).wf = true) : ∃ k, quadformlaw17_StabchainLengths.f k a0 l0 b l1 l2 a3 = some true := by
  have h3 : 0 ≤ a3 ∧ a3 < 256 := u8_range h3w
  obtain ⟨n, hn, h8, hd, en⟩ := degree_ok h0 h1 l0 b (m := 8) (by omega) (by omega)
  obtain ⟨gens, hgf, hg, hgl⟩ := gens_ok h0 h1 hl0 b (m := 8) (by omega) (by omega) hn en
  obtain ⟨p, hpf, hp⟩ := perm_ok hl2 hn (by omega)
  have hpl := hp.len
  by_cases h100 : 100 < l1.length
  · refine ⟨60, ?_⟩
    unfold quadformlaw17_StabchainLengths.f
    rw [if_pos h100]
    exact quadformlaw17_awake.yes
  obtain ⟨f1, r1, p1, q1⟩ := lengths_both hn h8 hg (by omega) l1 (by omega)
  obtain ⟨f2, r2, p2, q2⟩ := lengths_both hn h8 hg (by omega) (p.take (a3 % ((n : Int) + 1)).toNat) (by simp; omega)
  refine ⟨f1 + f2 + 160, ?_⟩
  unfold quadformlaw17_StabchainLengths.f
  have hd' : quadformmake_Perms_Degree.f a0 l0 b 8 = some (n : Int) := hd
  have hgf' : quadformmake_Perms_Gens.f a0 l0 b 8 = some gens := hgf
  obtain ⟨u1, u2⟩ := q1 (f1 + f2 + 160) (by omega)
  obtain ⟨u3, u4⟩ := q2 (f1 + f2 + 160) (by omega)
  rw [if_neg h100, hd', Option.bind_some, hgf', Option.bind_some, hpf, Option.bind_some, if_pos ⟨h3.1, h3.2, by omega, by omega, by omega⟩, u1, Option.bind_some, u2, Option.bind_some, same16 p1 (by omega), Option.bind_some, u3, Option.bind_some, u4, Option.bind_some, same16 p2 (by omega), Option.bind_some, if_pos ⟨⟨rfl, rfl⟩, rfl, rfl⟩]
  exact LeO.up quadformlaw17_awake.mono (by omega) quadformlaw17_awake.yes
end Go.Proofs.Ytpkgckccfanchaa.M
