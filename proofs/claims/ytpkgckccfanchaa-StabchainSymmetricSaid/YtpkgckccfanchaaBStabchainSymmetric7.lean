/- Part of the proof of StabchainSymmetric, merged by wip/tools/merge.py. -/
import Derived.Test.YtpkgckccfanchaaBStabchainSymmetric2
import Derived.Test.YtpkgckccfanchaaBStabchainSymmetric6

/- ## M32 -/
-- Written by wip/tools/pp.py (a driver round the kit's printer, with patches of this session): not a printed file.
namespace Go.Proofs.Ytpkgckccfanchaa.M
open Go.RowKit Go.Proofs.YtpkgckccfanchaaW.PrintWords Go.Proofs.YtpkgckccfanchaaW.PrintLast Go.Proofs.YtpkgckccfanchaaW.PrintMore
attribute [local go_sem] max2_int min2_int max_two min_two max_three min_three max_four min_four   -- for this text's walks alone
set_option linter.unusedVariables false
set_option linter.unusedSimpArgs false

/-! ### quadformlaw17_StabchainSymmetric: function 3 -/
def quadformlaw17_StabchainSymmetric.f (k : Nat)  : Option (Bool) := (stabchain_Order.f k 8 (([(([1, 0, 2, 3, 4, 5, 6, 7] : List Int)), (([1, 2, 3, 4, 5, 6, 7, 0] : List Int))] : List (List Int)))).bind fun bt214 => ((stabchain_Order.f k 5 (([(([1, 2, 0, 3, 4] : List Int)), (([0, 1, 3, 4, 2] : List Int))] : List (List Int)))).bind fun bt229 => ((stabchain_Order.f k 11 (([(([1, 2, 3, 4, 5, 6, 7, 8, 9, 10, 0] : List Int)), (([0, 1, 6, 9, 5, 3, 10, 2, 8, 4, 7] : List Int))] : List (List Int)))).bind fun bt244 => (if bt214.2.2 = 0 then (if bt229.2.2 = 0 then (if bt244.2.2 = 0 then ((quadformref01_Small.f 40320).bind fun bt250 => ((quadformref01_Same.f k bt214.1 bt214.2.1 bt250.1 bt250.2).bind fun t254 => (if t254 = true then ((quadformref01_Small.f 60).bind fun bt255 => ((quadformref01_Same.f k bt229.1 bt229.2.1 bt255.1 bt255.2).bind fun t259 => (if t259 = true then ((quadformref01_Small.f 7920).bind fun bt260 => ((quadformref01_Same.f k bt244.1 bt244.2.1 bt260.1 bt260.2).bind fun t264 => (some t264))) else (some false)))) else (some false)))) else (some false)) else (some false)) else (some false))))
theorem quadformlaw17_StabchainSymmetric.mono : ∀ k, LeO (quadformlaw17_StabchainSymmetric.f k ) (quadformlaw17_StabchainSymmetric.f (k + 1) ) := by
  intro  k
  unfold quadformlaw17_StabchainSymmetric.f
  repeat' first
      | (with_reducible exact quadformref01_Same.mono _ _ _ _ _)
      | (with_reducible exact stabchain_Order.mono _ _ _)
      | (with_reducible exact LeO.refl _)
      | (with_reducible exact LeO.none _)
      | (with_reducible refine LeO.ite ?_ ?_)
      | (with_reducible refine LeO.bind ?_ (fun _ => ?_))
      | exact quadformref01_Same.mono _ _ _ _ _
      | exact stabchain_Order.mono _ _ _
      | exact LeO.none _
      | refine LeO.ite ?_ ?_
      | refine LeO.bind ?_ (fun _ => ?_)
def quadformlaw17_StabchainSymmetric.T4 : Bool × List (List Nat × List Nat) := (true, [([], []), ([0], [0]), ([1], [1]), ([2], [2]), ([3, 2], [2, 3]), ([2, 4], [2, 4]), ([5, 2], [5]), ([6], [6]), ([7, 6], [6, 7]), ([6, 8], [6, 8]), ([9, 6], [9]), ([10], [10]), ([10, 10], [10]), ([11, 12, 12, 10], [10, 11, 12]), ([10, 13], [10, 13]), ([14, 13], [14]), ([15], [15]), ([15, 15], [15]), ([16, 17, 17, 15], [15, 16, 17]), ([15, 18], [15, 18]), ([19, 18], [19]), ([20], [20]), ([20, 20], [20]), ([21, 22, 22, 20], [20, 21, 22]), ([20, 23], [20, 23]), ([24, 23, 0, 1, 2, 3, 4, 5, 6, 7, 8, 9, 10, 11, 12, 13, 14, 15, 16, 17, 18, 19, 20, 21, 22, 23, 24], [24])])
def quadformlaw17_StabchainSymmetric.B4 : List Nat := [0, 1, 3, 7, 15, 31, 63, 127, 255, 511, 1023, 2047, 2047, 8191, 16383, 32767, 65535, 65535, 262143, 524287, 1048575, 2097151, 2097151, 8388607, 16777215, 33554431]
theorem quadformlaw17_StabchainSymmetric.tab4 : rtab .any (opsOf Try.f3 4) = quadformlaw17_StabchainSymmetric.T4 := by kernel_rfl
theorem quadformlaw17_StabchainSymmetric.bits4 : waitsOk quadformlaw17_StabchainSymmetric.T4.2 quadformlaw17_StabchainSymmetric.B4 = true := by kernel_rfl
set_option maxHeartbeats 8000000 in
set_option maxRecDepth 100000 in
theorem quadformlaw17_StabchainSymmetric.calls (k : Nat)  (r : Bool) (w : World) (h : quadformlaw17_StabchainSymmetric.f k  = some r) (HTR0 : r = true) :
    Calls Try.prog 3 #[] w fun e w' => e = .returned (.bool r) ∧ Below w.heap.size w w' := by
  have hu24 := Try.underlying24
  have HTR := Aside0.mk HTR0
  clear HTR0
  have HB := Aside0.mk (Below.refl w.heap.size w)
  have H : ((stabchain_Order.f k 8 (([(([1, 0, 2, 3, 4, 5, 6, 7] : List Int)), (([1, 2, 3, 4, 5, 6, 7, 0] : List Int))] : List (List Int)))).bind fun bt214 => ((stabchain_Order.f k 5 (([(([1, 2, 0, 3, 4] : List Int)), (([0, 1, 3, 4, 2] : List Int))] : List (List Int)))).bind fun bt229 => ((stabchain_Order.f k 11 (([(([1, 2, 3, 4, 5, 6, 7, 8, 9, 10, 0] : List Int)), (([0, 1, 6, 9, 5, 3, 10, 2, 8, 4, 7] : List Int))] : List (List Int)))).bind fun bt244 => (if bt214.2.2 = 0 then (if bt229.2.2 = 0 then (if bt244.2.2 = 0 then ((quadformref01_Small.f 40320).bind fun bt250 => ((quadformref01_Same.f k bt214.1 bt214.2.1 bt250.1 bt250.2).bind fun t254 => (if t254 = true then ((quadformref01_Small.f 60).bind fun bt255 => ((quadformref01_Same.f k bt229.1 bt229.2.1 bt255.1 bt255.2).bind fun t259 => (if t259 = true then ((quadformref01_Small.f 7920).bind fun bt260 => ((quadformref01_Same.f k bt244.1 bt244.2.1 bt260.1 bt260.2).bind fun t264 => (some t264))) else (some false)))) else (some false)))) else (some false)) else (some false)) else (some false))))) = some r := h
  clear h
  obtain ⟨y205, hy205⟩ : ∃ y_ : List Int, y_ = (([1, 0, 2, 3, 4, 5, 6, 7] : List Int)) := ⟨_, rfl⟩
  replace H : ((stabchain_Order.f k 8 (([y205, (([1, 2, 3, 4, 5, 6, 7, 0] : List Int))] : List (List Int)))).bind fun bt214 => ((stabchain_Order.f k 5 (([(([1, 2, 0, 3, 4] : List Int)), (([0, 1, 3, 4, 2] : List Int))] : List (List Int)))).bind fun bt229 => ((stabchain_Order.f k 11 (([(([1, 2, 3, 4, 5, 6, 7, 8, 9, 10, 0] : List Int)), (([0, 1, 6, 9, 5, 3, 10, 2, 8, 4, 7] : List Int))] : List (List Int)))).bind fun bt244 => (if bt214.2.2 = 0 then (if bt229.2.2 = 0 then (if bt244.2.2 = 0 then ((quadformref01_Small.f 40320).bind fun bt250 => ((quadformref01_Same.f k bt214.1 bt214.2.1 bt250.1 bt250.2).bind fun t254 => (if t254 = true then ((quadformref01_Small.f 60).bind fun bt255 => ((quadformref01_Same.f k bt229.1 bt229.2.1 bt255.1 bt255.2).bind fun t259 => (if t259 = true then ((quadformref01_Small.f 7920).bind fun bt260 => ((quadformref01_Same.f k bt244.1 bt244.2.1 bt260.1 bt260.2).bind fun t264 => (some t264))) else (some false)))) else (some false)))) else (some false)) else (some false)) else (some false))))) = some r := by first | (rw [hy205]; with_reducible exact H) | (have H2_ := (Option.bind_some _ _).symm.trans H; rw [hy205]; with_reducible exact H2_) | (have H2_ := (Option.bind_some _ _).symm.trans H; with_reducible exact H2_) | with_reducible exact H | (rw [hy205]; exact H) | exact H
  have Ny205 := Aside0.mk hy205
  clear hy205
  obtain ⟨y208, hy208⟩ : ∃ y_ : List Int, y_ = (([1, 2, 3, 4, 5, 6, 7, 0] : List Int)) := ⟨_, rfl⟩
  replace H : ((stabchain_Order.f k 8 (([y205, y208] : List (List Int)))).bind fun bt214 => ((stabchain_Order.f k 5 (([(([1, 2, 0, 3, 4] : List Int)), (([0, 1, 3, 4, 2] : List Int))] : List (List Int)))).bind fun bt229 => ((stabchain_Order.f k 11 (([(([1, 2, 3, 4, 5, 6, 7, 8, 9, 10, 0] : List Int)), (([0, 1, 6, 9, 5, 3, 10, 2, 8, 4, 7] : List Int))] : List (List Int)))).bind fun bt244 => (if bt214.2.2 = 0 then (if bt229.2.2 = 0 then (if bt244.2.2 = 0 then ((quadformref01_Small.f 40320).bind fun bt250 => ((quadformref01_Same.f k bt214.1 bt214.2.1 bt250.1 bt250.2).bind fun t254 => (if t254 = true then ((quadformref01_Small.f 60).bind fun bt255 => ((quadformref01_Same.f k bt229.1 bt229.2.1 bt255.1 bt255.2).bind fun t259 => (if t259 = true then ((quadformref01_Small.f 7920).bind fun bt260 => ((quadformref01_Same.f k bt244.1 bt244.2.1 bt260.1 bt260.2).bind fun t264 => (some t264))) else (some false)))) else (some false)))) else (some false)) else (some false)) else (some false))))) = some r := by first | (rw [hy208]; with_reducible exact H) | (have H2_ := (Option.bind_some _ _).symm.trans H; rw [hy208]; with_reducible exact H2_) | (have H2_ := (Option.bind_some _ _).symm.trans H; with_reducible exact H2_) | with_reducible exact H | (rw [hy208]; exact H) | exact H
  have Ny208 := Aside0.mk hy208
  clear hy208
  obtain ⟨y211, hy211⟩ : ∃ y_ : List (List Int), y_ = (([y205, y208] : List (List Int))) := ⟨_, rfl⟩
  replace H : ((stabchain_Order.f k 8 y211).bind fun bt214 => ((stabchain_Order.f k 5 (([(([1, 2, 0, 3, 4] : List Int)), (([0, 1, 3, 4, 2] : List Int))] : List (List Int)))).bind fun bt229 => ((stabchain_Order.f k 11 (([(([1, 2, 3, 4, 5, 6, 7, 8, 9, 10, 0] : List Int)), (([0, 1, 6, 9, 5, 3, 10, 2, 8, 4, 7] : List Int))] : List (List Int)))).bind fun bt244 => (if bt214.2.2 = 0 then (if bt229.2.2 = 0 then (if bt244.2.2 = 0 then ((quadformref01_Small.f 40320).bind fun bt250 => ((quadformref01_Same.f k bt214.1 bt214.2.1 bt250.1 bt250.2).bind fun t254 => (if t254 = true then ((quadformref01_Small.f 60).bind fun bt255 => ((quadformref01_Same.f k bt229.1 bt229.2.1 bt255.1 bt255.2).bind fun t259 => (if t259 = true then ((quadformref01_Small.f 7920).bind fun bt260 => ((quadformref01_Same.f k bt244.1 bt244.2.1 bt260.1 bt260.2).bind fun t264 => (some t264))) else (some false)))) else (some false)))) else (some false)) else (some false)) else (some false))))) = some r := by first | (rw [hy211]; with_reducible exact H) | (have H2_ := (Option.bind_some _ _).symm.trans H; rw [hy211]; with_reducible exact H2_) | (have H2_ := (Option.bind_some _ _).symm.trans H; with_reducible exact H2_) | with_reducible exact H | (rw [hy211]; exact H) | exact H
  have Ny211 := Aside0.mk hy211
  clear hy211
  replace H := Option.bind_eq_some_iff.mp H
  obtain ⟨⟨t214, t215, t218⟩, A10, H⟩ := H
  replace H : ((stabchain_Order.f k 5 (([(([1, 2, 0, 3, 4] : List Int)), (([0, 1, 3, 4, 2] : List Int))] : List (List Int)))).bind fun bt229 => ((stabchain_Order.f k 11 (([(([1, 2, 3, 4, 5, 6, 7, 8, 9, 10, 0] : List Int)), (([0, 1, 6, 9, 5, 3, 10, 2, 8, 4, 7] : List Int))] : List (List Int)))).bind fun bt244 => (if t218 = 0 then (if bt229.2.2 = 0 then (if bt244.2.2 = 0 then ((quadformref01_Small.f 40320).bind fun bt250 => ((quadformref01_Same.f k t214 t215 bt250.1 bt250.2).bind fun t254 => (if t254 = true then ((quadformref01_Small.f 60).bind fun bt255 => ((quadformref01_Same.f k bt229.1 bt229.2.1 bt255.1 bt255.2).bind fun t259 => (if t259 = true then ((quadformref01_Small.f 7920).bind fun bt260 => ((quadformref01_Same.f k bt244.1 bt244.2.1 bt260.1 bt260.2).bind fun t264 => (some t264))) else (some false)))) else (some false)))) else (some false)) else (some false)) else (some false)))) = some r := H
  have A1 := Aside0.mk A10
  clear A10
  obtain ⟨y220, hy220⟩ : ∃ y_ : List Int, y_ = (([1, 2, 0, 3, 4] : List Int)) := ⟨_, rfl⟩
  replace H : ((stabchain_Order.f k 5 (([y220, (([0, 1, 3, 4, 2] : List Int))] : List (List Int)))).bind fun bt229 => ((stabchain_Order.f k 11 (([(([1, 2, 3, 4, 5, 6, 7, 8, 9, 10, 0] : List Int)), (([0, 1, 6, 9, 5, 3, 10, 2, 8, 4, 7] : List Int))] : List (List Int)))).bind fun bt244 => (if t218 = 0 then (if bt229.2.2 = 0 then (if bt244.2.2 = 0 then ((quadformref01_Small.f 40320).bind fun bt250 => ((quadformref01_Same.f k t214 t215 bt250.1 bt250.2).bind fun t254 => (if t254 = true then ((quadformref01_Small.f 60).bind fun bt255 => ((quadformref01_Same.f k bt229.1 bt229.2.1 bt255.1 bt255.2).bind fun t259 => (if t259 = true then ((quadformref01_Small.f 7920).bind fun bt260 => ((quadformref01_Same.f k bt244.1 bt244.2.1 bt260.1 bt260.2).bind fun t264 => (some t264))) else (some false)))) else (some false)))) else (some false)) else (some false)) else (some false)))) = some r := by first | (rw [hy220]; with_reducible exact H) | (have H2_ := (Option.bind_some _ _).symm.trans H; rw [hy220]; with_reducible exact H2_) | (have H2_ := (Option.bind_some _ _).symm.trans H; with_reducible exact H2_) | with_reducible exact H | (rw [hy220]; exact H) | exact H
  have Ny220 := Aside0.mk hy220
  clear hy220
  obtain ⟨y223, hy223⟩ : ∃ y_ : List Int, y_ = (([0, 1, 3, 4, 2] : List Int)) := ⟨_, rfl⟩
  replace H : ((stabchain_Order.f k 5 (([y220, y223] : List (List Int)))).bind fun bt229 => ((stabchain_Order.f k 11 (([(([1, 2, 3, 4, 5, 6, 7, 8, 9, 10, 0] : List Int)), (([0, 1, 6, 9, 5, 3, 10, 2, 8, 4, 7] : List Int))] : List (List Int)))).bind fun bt244 => (if t218 = 0 then (if bt229.2.2 = 0 then (if bt244.2.2 = 0 then ((quadformref01_Small.f 40320).bind fun bt250 => ((quadformref01_Same.f k t214 t215 bt250.1 bt250.2).bind fun t254 => (if t254 = true then ((quadformref01_Small.f 60).bind fun bt255 => ((quadformref01_Same.f k bt229.1 bt229.2.1 bt255.1 bt255.2).bind fun t259 => (if t259 = true then ((quadformref01_Small.f 7920).bind fun bt260 => ((quadformref01_Same.f k bt244.1 bt244.2.1 bt260.1 bt260.2).bind fun t264 => (some t264))) else (some false)))) else (some false)))) else (some false)) else (some false)) else (some false)))) = some r := by first | (rw [hy223]; with_reducible exact H) | (have H2_ := (Option.bind_some _ _).symm.trans H; rw [hy223]; with_reducible exact H2_) | (have H2_ := (Option.bind_some _ _).symm.trans H; with_reducible exact H2_) | with_reducible exact H | (rw [hy223]; exact H) | exact H
  have Ny223 := Aside0.mk hy223
  clear hy223
  obtain ⟨y226, hy226⟩ : ∃ y_ : List (List Int), y_ = (([y220, y223] : List (List Int))) := ⟨_, rfl⟩
  replace H : ((stabchain_Order.f k 5 y226).bind fun bt229 => ((stabchain_Order.f k 11 (([(([1, 2, 3, 4, 5, 6, 7, 8, 9, 10, 0] : List Int)), (([0, 1, 6, 9, 5, 3, 10, 2, 8, 4, 7] : List Int))] : List (List Int)))).bind fun bt244 => (if t218 = 0 then (if bt229.2.2 = 0 then (if bt244.2.2 = 0 then ((quadformref01_Small.f 40320).bind fun bt250 => ((quadformref01_Same.f k t214 t215 bt250.1 bt250.2).bind fun t254 => (if t254 = true then ((quadformref01_Small.f 60).bind fun bt255 => ((quadformref01_Same.f k bt229.1 bt229.2.1 bt255.1 bt255.2).bind fun t259 => (if t259 = true then ((quadformref01_Small.f 7920).bind fun bt260 => ((quadformref01_Same.f k bt244.1 bt244.2.1 bt260.1 bt260.2).bind fun t264 => (some t264))) else (some false)))) else (some false)))) else (some false)) else (some false)) else (some false)))) = some r := by first | (rw [hy226]; with_reducible exact H) | (have H2_ := (Option.bind_some _ _).symm.trans H; rw [hy226]; with_reducible exact H2_) | (have H2_ := (Option.bind_some _ _).symm.trans H; with_reducible exact H2_) | with_reducible exact H | (rw [hy226]; exact H) | exact H
  have Ny226 := Aside0.mk hy226
  clear hy226
  replace H := Option.bind_eq_some_iff.mp H
  obtain ⟨⟨t229, t230, t233⟩, A20, H⟩ := H
  replace H : ((stabchain_Order.f k 11 (([(([1, 2, 3, 4, 5, 6, 7, 8, 9, 10, 0] : List Int)), (([0, 1, 6, 9, 5, 3, 10, 2, 8, 4, 7] : List Int))] : List (List Int)))).bind fun bt244 => (if t218 = 0 then (if t233 = 0 then (if bt244.2.2 = 0 then ((quadformref01_Small.f 40320).bind fun bt250 => ((quadformref01_Same.f k t214 t215 bt250.1 bt250.2).bind fun t254 => (if t254 = true then ((quadformref01_Small.f 60).bind fun bt255 => ((quadformref01_Same.f k t229 t230 bt255.1 bt255.2).bind fun t259 => (if t259 = true then ((quadformref01_Small.f 7920).bind fun bt260 => ((quadformref01_Same.f k bt244.1 bt244.2.1 bt260.1 bt260.2).bind fun t264 => (some t264))) else (some false)))) else (some false)))) else (some false)) else (some false)) else (some false))) = some r := H
  have A2 := Aside0.mk A20
  clear A20
  obtain ⟨y235, hy235⟩ : ∃ y_ : List Int, y_ = (([1, 2, 3, 4, 5, 6, 7, 8, 9, 10, 0] : List Int)) := ⟨_, rfl⟩
  replace H : ((stabchain_Order.f k 11 (([y235, (([0, 1, 6, 9, 5, 3, 10, 2, 8, 4, 7] : List Int))] : List (List Int)))).bind fun bt244 => (if t218 = 0 then (if t233 = 0 then (if bt244.2.2 = 0 then ((quadformref01_Small.f 40320).bind fun bt250 => ((quadformref01_Same.f k t214 t215 bt250.1 bt250.2).bind fun t254 => (if t254 = true then ((quadformref01_Small.f 60).bind fun bt255 => ((quadformref01_Same.f k t229 t230 bt255.1 bt255.2).bind fun t259 => (if t259 = true then ((quadformref01_Small.f 7920).bind fun bt260 => ((quadformref01_Same.f k bt244.1 bt244.2.1 bt260.1 bt260.2).bind fun t264 => (some t264))) else (some false)))) else (some false)))) else (some false)) else (some false)) else (some false))) = some r := by first | (rw [hy235]; with_reducible exact H) | (have H2_ := (Option.bind_some _ _).symm.trans H; rw [hy235]; with_reducible exact H2_) | (have H2_ := (Option.bind_some _ _).symm.trans H; with_reducible exact H2_) | with_reducible exact H | (rw [hy235]; exact H) | exact H
  have Ny235 := Aside0.mk hy235
  clear hy235
  obtain ⟨y238, hy238⟩ : ∃ y_ : List Int, y_ = (([0, 1, 6, 9, 5, 3, 10, 2, 8, 4, 7] : List Int)) := ⟨_, rfl⟩
  replace H : ((stabchain_Order.f k 11 (([y235, y238] : List (List Int)))).bind fun bt244 => (if t218 = 0 then (if t233 = 0 then (if bt244.2.2 = 0 then ((quadformref01_Small.f 40320).bind fun bt250 => ((quadformref01_Same.f k t214 t215 bt250.1 bt250.2).bind fun t254 => (if t254 = true then ((quadformref01_Small.f 60).bind fun bt255 => ((quadformref01_Same.f k t229 t230 bt255.1 bt255.2).bind fun t259 => (if t259 = true then ((quadformref01_Small.f 7920).bind fun bt260 => ((quadformref01_Same.f k bt244.1 bt244.2.1 bt260.1 bt260.2).bind fun t264 => (some t264))) else (some false)))) else (some false)))) else (some false)) else (some false)) else (some false))) = some r := by first | (rw [hy238]; with_reducible exact H) | (have H2_ := (Option.bind_some _ _).symm.trans H; rw [hy238]; with_reducible exact H2_) | (have H2_ := (Option.bind_some _ _).symm.trans H; with_reducible exact H2_) | with_reducible exact H | (rw [hy238]; exact H) | exact H
  have Ny238 := Aside0.mk hy238
  clear hy238
  obtain ⟨y241, hy241⟩ : ∃ y_ : List (List Int), y_ = (([y235, y238] : List (List Int))) := ⟨_, rfl⟩
  replace H : ((stabchain_Order.f k 11 y241).bind fun bt244 => (if t218 = 0 then (if t233 = 0 then (if bt244.2.2 = 0 then ((quadformref01_Small.f 40320).bind fun bt250 => ((quadformref01_Same.f k t214 t215 bt250.1 bt250.2).bind fun t254 => (if t254 = true then ((quadformref01_Small.f 60).bind fun bt255 => ((quadformref01_Same.f k t229 t230 bt255.1 bt255.2).bind fun t259 => (if t259 = true then ((quadformref01_Small.f 7920).bind fun bt260 => ((quadformref01_Same.f k bt244.1 bt244.2.1 bt260.1 bt260.2).bind fun t264 => (some t264))) else (some false)))) else (some false)))) else (some false)) else (some false)) else (some false))) = some r := by first | (rw [hy241]; with_reducible exact H) | (have H2_ := (Option.bind_some _ _).symm.trans H; rw [hy241]; with_reducible exact H2_) | (have H2_ := (Option.bind_some _ _).symm.trans H; with_reducible exact H2_) | with_reducible exact H | (rw [hy241]; exact H) | exact H
  have Ny241 := Aside0.mk hy241
  clear hy241
  replace H := Option.bind_eq_some_iff.mp H
  obtain ⟨⟨t244, t245, t248⟩, A30, H⟩ := H
  replace H : (if t218 = 0 then (if t233 = 0 then (if t248 = 0 then ((quadformref01_Small.f 40320).bind fun bt250 => ((quadformref01_Same.f k t214 t215 bt250.1 bt250.2).bind fun t254 => (if t254 = true then ((quadformref01_Small.f 60).bind fun bt255 => ((quadformref01_Same.f k t229 t230 bt255.1 bt255.2).bind fun t259 => (if t259 = true then ((quadformref01_Small.f 7920).bind fun bt260 => ((quadformref01_Same.f k t244 t245 bt260.1 bt260.2).bind fun t264 => (some t264))) else (some false)))) else (some false)))) else (some false)) else (some false)) else (some false)) = some r := H
  have A3 := Aside0.mk A30
  clear A30
  by_cases c4 : t218 = 0
  · rw [if_pos c4] at H
    have c4b0 : (t218 == 0) = true := beq_iff_eq.mpr c4
    have c4b1 : (t218 != 0) = false := bne_eq_false_iff_eq.mpr c4
    clear c4
    by_cases c5 : t233 = 0
    · rw [if_pos c5] at H
      have c5b0 : (t233 == 0) = true := beq_iff_eq.mpr c5
      have c5b1 : (t233 != 0) = false := bne_eq_false_iff_eq.mpr c5
      clear c5
      by_cases c6 : t248 = 0
      · rw [if_pos c6] at H
        have c6b0 : (t248 == 0) = true := beq_iff_eq.mpr c6
        have c6b1 : (t248 != 0) = false := bne_eq_false_iff_eq.mpr c6
        clear c6
        replace H := Option.bind_eq_some_iff.mp H
        obtain ⟨⟨t250, t251⟩, A70, H⟩ := H
        replace H : ((quadformref01_Same.f k t214 t215 t250 t251).bind fun t254 => (if t254 = true then ((quadformref01_Small.f 60).bind fun bt255 => ((quadformref01_Same.f k t229 t230 bt255.1 bt255.2).bind fun t259 => (if t259 = true then ((quadformref01_Small.f 7920).bind fun bt260 => ((quadformref01_Same.f k t244 t245 bt260.1 bt260.2).bind fun t264 => (some t264))) else (some false)))) else (some false))) = some r := H
        have A7 := Aside0.mk A70
        clear A70
        replace H := Option.bind_eq_some_iff.mp H
        obtain ⟨t254, A80, H⟩ := H
        replace H : (if t254 = true then ((quadformref01_Small.f 60).bind fun bt255 => ((quadformref01_Same.f k t229 t230 bt255.1 bt255.2).bind fun t259 => (if t259 = true then ((quadformref01_Small.f 7920).bind fun bt260 => ((quadformref01_Same.f k t244 t245 bt260.1 bt260.2).bind fun t264 => (some t264))) else (some false)))) else (some false)) = some r := H
        have A8 := Aside0.mk A80
        clear A80
        by_cases c9 : t254 = true
        · subst c9
          have H1 : ((quadformref01_Small.f 60).bind fun bt255 => ((quadformref01_Same.f k t229 t230 bt255.1 bt255.2).bind fun t259 => (if t259 = true then ((quadformref01_Small.f 7920).bind fun bt260 => ((quadformref01_Same.f k t244 t245 bt260.1 bt260.2).bind fun t264 => (some t264))) else (some false)))) = some r := by rw [if_pos rfl] at H; exact H
          clear H
          have H := H1
          clear H1
          replace H := Option.bind_eq_some_iff.mp H
          obtain ⟨⟨t255, t256⟩, A100, H⟩ := H
          replace H : ((quadformref01_Same.f k t229 t230 t255 t256).bind fun t259 => (if t259 = true then ((quadformref01_Small.f 7920).bind fun bt260 => ((quadformref01_Same.f k t244 t245 bt260.1 bt260.2).bind fun t264 => (some t264))) else (some false))) = some r := H
          have A10 := Aside0.mk A100
          clear A100
          replace H := Option.bind_eq_some_iff.mp H
          obtain ⟨t259, A110, H⟩ := H
          replace H : (if t259 = true then ((quadformref01_Small.f 7920).bind fun bt260 => ((quadformref01_Same.f k t244 t245 bt260.1 bt260.2).bind fun t264 => (some t264))) else (some false)) = some r := H
          have A11 := Aside0.mk A110
          clear A110
          by_cases c12 : t259 = true
          · subst c12
            have H1 : ((quadformref01_Small.f 7920).bind fun bt260 => ((quadformref01_Same.f k t244 t245 bt260.1 bt260.2).bind fun t264 => (some t264))) = some r := by rw [if_pos rfl] at H; exact H
            clear H
            have H := H1
            clear H1
            replace H := Option.bind_eq_some_iff.mp H
            obtain ⟨⟨t260, t261⟩, A130, H⟩ := H
            replace H : ((quadformref01_Same.f k t244 t245 t260 t261).bind fun t264 => (some t264)) = some r := H
            have A13 := Aside0.mk A130
            clear A130
            replace H := Option.bind_eq_some_iff.mp H
            obtain ⟨t264, A140, H⟩ := H
            replace H : (some t264) = some r := H
            have A14 := Aside0.mk A140
            clear A140
            obtain rfl := Option.some.inj H
            go_enter Try.func3, Try.ntmps3
            try go_wp2_with (first | ((with_reducible refine gate_dst (N := 8) rfl ?_); refine Kd.R_lit (Kd.int .i64) _ 3 ?hg (N := 8) ?hd (xs := ([1, 0, 2, 3, 4, 5, 6, 7] : List Int)) (inner := [.int .i64 1, .int .i64 0, .int .i64 2, .int .i64 3, .int .i64 4, .int .i64 5, .int .i64 6, .int .i64 7]) (ok := fun _ => True) (okp := fun _ => True) ?hr ?hp (fun _ hk => hk) trivial (Below.refl _ _) (Nat.le_refl _) (by simp) ?_; (case hd => rfl); (case hg => rfl); (case hr => first | (go_simp; done) | (go_simp; rfl)); (case hp => exact (Reps.one (show Kd.M (Kd.int .i64) _ _ _ 1 [.int .i64 1] from rfl) (Reps.one (show Kd.M (Kd.int .i64) _ _ _ 0 [.int .i64 0] from rfl) (Reps.one (show Kd.M (Kd.int .i64) _ _ _ 2 [.int .i64 2] from rfl) (Reps.one (show Kd.M (Kd.int .i64) _ _ _ 3 [.int .i64 3] from rfl) (Reps.one (show Kd.M (Kd.int .i64) _ _ _ 4 [.int .i64 4] from rfl) (Reps.one (show Kd.M (Kd.int .i64) _ _ _ 5 [.int .i64 5] from rfl) (Reps.one (show Kd.M (Kd.int .i64) _ _ _ 6 [.int .i64 6] from rfl) (Reps.one (show Kd.M (Kd.int .i64) _ _ _ 7 [.int .i64 7] from rfl) (Reps.none _ _)))))))))); intro v206 w15 ho16 hb hg_ hnew_; clear hg_ hnew_; (first | rw [← Ny205.out] at ho16 | (simp only [Int.reduceToNat] at ho16; rw [← Ny205.out] at ho16)); have n0_ := Aside0.mk (Kd.R_lower ho16 (below_size (by repeat (first | (with_reducible first | exact HB.out | apply below_alloc | apply pw_below_drewN | apply below_drew1) | exact HB.out)))); have n1_ := Aside0.mk (below_step (by repeat (first | (with_reducible first | exact HB.out | apply below_alloc | apply pw_below_drewN | apply below_drew1) | exact HB.out)) hb); clear HB; have HO207 := n0_; have HB := n1_; clear n0_ n1_; clear hb ho16) | ((with_reducible refine gate_dst (N := 9) rfl ?_); refine Kd.R_lit (Kd.int .i64) _ 3 ?hg (N := 9) ?hd (xs := ([1, 2, 3, 4, 5, 6, 7, 0] : List Int)) (inner := [.int .i64 1, .int .i64 2, .int .i64 3, .int .i64 4, .int .i64 5, .int .i64 6, .int .i64 7, .int .i64 0]) (ok := fun _ => True) (okp := fun _ => True) ?hr ?hp (fun _ hk => hk) trivial (Below.refl _ _) (Nat.le_refl _) (by simp) ?_; (case hd => rfl); (case hg => rfl); (case hr => first | (go_simp; done) | (go_simp; rfl)); (case hp => exact (Reps.one (show Kd.M (Kd.int .i64) _ _ _ 1 [.int .i64 1] from rfl) (Reps.one (show Kd.M (Kd.int .i64) _ _ _ 2 [.int .i64 2] from rfl) (Reps.one (show Kd.M (Kd.int .i64) _ _ _ 3 [.int .i64 3] from rfl) (Reps.one (show Kd.M (Kd.int .i64) _ _ _ 4 [.int .i64 4] from rfl) (Reps.one (show Kd.M (Kd.int .i64) _ _ _ 5 [.int .i64 5] from rfl) (Reps.one (show Kd.M (Kd.int .i64) _ _ _ 6 [.int .i64 6] from rfl) (Reps.one (show Kd.M (Kd.int .i64) _ _ _ 7 [.int .i64 7] from rfl) (Reps.one (show Kd.M (Kd.int .i64) _ _ _ 0 [.int .i64 0] from rfl) (Reps.none _ _)))))))))); intro v209 w17 ho18 hb hg_ hnew_; clear hg_ hnew_; (first | rw [← Ny208.out] at ho18 | (simp only [Int.reduceToNat] at ho18; rw [← Ny208.out] at ho18)); have n0_ := Aside0.mk (Kd.R_elder' (by (with_reducible repeat (first | apply Kd.R_alloc | apply Kd.R_drewN | apply Kd.R_drew)); exact HO207.out) (Kd.R_base ho18) hb); have n1_ := Aside0.mk (Kd.R_lower (Kd.R_new' ho18 (Kd.R_lt (by (with_reducible repeat (first | apply Kd.R_alloc | apply Kd.R_drewN | apply Kd.R_drew)); exact HO207.out))) (below_size (by repeat (first | (with_reducible first | exact HB.out | apply below_alloc | apply pw_below_drewN | apply below_drew1) | exact HB.out)))); have n2_ := Aside0.mk (below_step (by repeat (first | (with_reducible first | exact HB.out | apply below_alloc | apply pw_below_drewN | apply below_drew1) | exact HB.out)) hb); clear HO207; clear HB; have HO207 := n0_; have HO210 := n1_; have HB := n2_; clear n0_ n1_ n2_; clear hb ho18; obtain ⟨Ao19, co19, eo19⟩ := Kd.R_slice HO207.out; subst eo19; obtain ⟨Ao20, co20, eo20⟩ := Kd.R_slice HO210.out; subst eo20) | ((with_reducible refine gate_dst (N := 10) rfl ?_); refine Kd.N_lit (Kd.slice 3 (Kd.int .i64)) _ 28 ?hg (N' := 10) ?hd (xs := ([y205, y208] : List (List Int))) (inner := [.slice Ao19 y205.length co19, .slice Ao20 y208.length co20]) (ok := (fun _ => True)) (okp := (fun _ => True)) ?hr ?hp (fun _ hk => hk) ((show ∀ k_, w17.heap.size ≤ k_ → (fun _ => True) k_ from fun k_ hk => trivial) _ (Nat.le_refl _)) (Below.refl _ _) (Nat.le_refl _) (by simp) ?_; (case hd => rfl); (case hg => rfl); (case hr => first | (go_simp; done) | (go_simp; rfl)); (case hp => exact (Reps.one (show Kd.FK (Kd.slice 3 (Kd.int .i64)) _ _ y205 [.slice Ao19 y205.length co19] from (Kd.FK_slice_mk (Kd.R_reads' (Kd.R_mono (ok' := (fun _ => True)) (HO207.out) (fun k_ hk => trivial))).2.1 (Kd.R_F (Kd.R_mono (ok' := (fun _ => True)) (HO207.out) (fun k_ hk => trivial))))) (Reps.one (show Kd.FK (Kd.slice 3 (Kd.int .i64)) _ _ y208 [.slice Ao20 y208.length co20] from (Kd.FK_slice_mk (Kd.R_reads' (Kd.R_mono (ok' := (fun _ => True)) (HO210.out) (fun k_ hk => trivial))).2.1 (Kd.R_F (Kd.R_mono (ok' := (fun _ => True)) (HO210.out) (fun k_ hk => trivial))))) (Reps.none _ _)))); intro v212 w21 ho22 hb hg_ hnew_; clear hg_ hnew_; (first | rw [← Ny211.out] at ho22 | (simp only [Int.reduceToNat] at ho22; rw [← Ny211.out] at ho22)); have n0_ := Aside0.mk (Kd.N_lower ho22 (below_size (by repeat (first | (with_reducible first | exact HB.out | apply below_alloc | apply pw_below_drewN | apply below_drew1) | exact HB.out)))); have n1_ := Aside0.mk (below_step (by repeat (first | (with_reducible first | exact HB.out | apply below_alloc | apply pw_below_drewN | apply below_drew1) | exact HB.out)) hb); clear HB; clear HO207; clear HO210; have HO213 := n0_; have HB := n1_; clear n0_ n1_; clear hb ho22; obtain ⟨Ao23, co23, eo23⟩ := Kd.N_slice HO213.out; subst eo23) | ((with_reducible refine gate_callee (f := 15) rfl ?_); refine goesL_ (some 11) rfl rfl Try.func15 (by kernel_rfl) rfl #[.int .i64 8, .slice Ao23 y211.length co23] rfl (by (try simp only [List.map_toArray, List.map_cons, List.map_nil]); first | done | rfl | (simp only [List.length_drop, List.length_take]; rfl)) ?_; (with_reducible refine (stabchain_Order.calls k 8 _ _ y211 t214 t215 t218 _ ?side1 ?side2 A1.out).mono ?_); (case side1 => repeat (first | exact (Kd.N_reads' HO213.out).2.2 | (with_reducible refine Kd.C_alloc ?_ _) | (with_reducible refine Kd.C_drewN ?_ _) | (with_reducible refine Kd.C_drew ?_))); (case side2 => exact (Kd.N_reads' HO213.out).2.1); rintro e w24 ⟨v216, rfl, ho0, hb⟩; refine ⟨_, rfl, ?_⟩; have n0_ := Aside0.mk (Kd.N_below (by (with_reducible repeat (first | apply Kd.N_alloc | apply Kd.N_drewN | apply Kd.N_drew)); exact HO213.out) hb); have n1_ := Aside0.mk (Kd.V_lower (Kd.V_mono (ok' := fun k_ => some k_ ≠ (.slice Ao23 y211.length co23 : Value).ownBlock) ho0 (fun k_ hk_ => (Kd.fresh' (Kd.N_lt (by (with_reducible repeat (first | apply Kd.N_alloc | apply Kd.N_drewN | apply Kd.N_drew)); exact HO213.out)) k_ hk_))) (below_size (by repeat (first | (with_reducible first | exact HB.out | apply below_alloc | apply pw_below_drewN | apply below_drew1) | exact HB.out)))); have n2_ := Aside0.mk (below_step (by repeat (first | (with_reducible first | exact HB.out | apply below_alloc | apply pw_below_drewN | apply below_drew1) | exact HB.out)) hb); clear HO213; clear HB; have HO213 := n0_; have HO217 := n1_; have HB := n2_; clear n0_ n1_ n2_; (try clear hb); (try clear hb2); (try clear hk); (try clear hi); (try clear ho0)) | ((with_reducible refine gate_dst (N := 1) rfl ?_); refine box_event ?hg (N := 1) ?hd (cs := #[.bool false, .slice none 0 0]) (t := 24) ?hr ?_; (case hd => rfl); (case hg => rfl); (case hr => first | (go_simp; done) | (go_simp; rfl)); intro gb219 hg w25 hbox hb; have n0_ := Aside0.mk (Kd.N_below (Kd.N_elderB (by (with_reducible repeat (first | apply Kd.N_alloc | apply Kd.N_drewN | apply Kd.N_drew)); exact HO213.out) gb219 (Nat.le_of_eq hg.symm)) hb); have n1_ := Aside0.mk (Kd.V_below (Kd.V_elderB (by (with_reducible repeat (first | apply Kd.V_alloc | apply Kd.V_drewN | apply Kd.V_drew)); exact HO217.out) gb219 (Nat.le_of_eq hg.symm)) hb); have n2_ := Aside0.mk (below_step (by repeat (first | (with_reducible first | exact HB.out | apply below_alloc | apply pw_below_drewN | apply below_drew1) | exact HB.out)) hb); have n3_ := Aside0.mk (hbox); have n4_ := Aside0.mk ((by rw [hg]; exact (below_size (by repeat (first | (with_reducible first | exact HB.out | apply below_alloc | apply pw_below_drewN | apply below_drew1) | exact HB.out))) : w.heap.size ≤ gb219)); have n5_ := Aside0.mk ((by rw [hg]; exact (below_size (by repeat (first | (with_reducible first | exact HB.out | apply below_alloc | apply pw_below_drewN | apply below_drew1) | exact HB.out))) : w.heap.size ≤ gb219)); clear HO213; clear HO217; clear HB; have HO213 := n0_; have HO217 := n1_; have HB := n2_; have BK219 := n3_; have GW219 := n4_; have GE219 := n5_; clear n0_ n1_ n2_ n3_ n4_ n5_; clear hb hbox hg; have hcz26_0 : w25.cell? ⟨gb219, 0, none⟩ = some (.bool false) := (blk_cell BK219.out 0).trans rfl; have hcz26_1 : w25.cell? ⟨gb219, 1, none⟩ = some (.slice none 0 0) := (blk_cell BK219.out 1).trans rfl; have hfz26_0 := blk_frozen BK219.out 0; have hfz26_1 := blk_frozen BK219.out 1; obtain ⟨Ao27, co27, eo27⟩ := Kd.V_slice HO217.out; subst eo27) | ((with_reducible refine gate_dst (N := 15) rfl ?_); refine Kd.R_lit (Kd.int .i64) _ 3 ?hg (N := 15) ?hd (xs := ([1, 2, 0, 3, 4] : List Int)) (inner := [.int .i64 1, .int .i64 2, .int .i64 0, .int .i64 3, .int .i64 4]) (ok := fun _ => True) (okp := fun _ => True) ?hr ?hp (fun _ hk => hk) trivial (Below.refl _ _) (Nat.le_refl _) (by simp) ?_; (case hd => rfl); (case hg => rfl); (case hr => first | (go_simp; done) | (go_simp; rfl)); (case hp => exact (Reps.one (show Kd.M (Kd.int .i64) _ _ _ 1 [.int .i64 1] from rfl) (Reps.one (show Kd.M (Kd.int .i64) _ _ _ 2 [.int .i64 2] from rfl) (Reps.one (show Kd.M (Kd.int .i64) _ _ _ 0 [.int .i64 0] from rfl) (Reps.one (show Kd.M (Kd.int .i64) _ _ _ 3 [.int .i64 3] from rfl) (Reps.one (show Kd.M (Kd.int .i64) _ _ _ 4 [.int .i64 4] from rfl) (Reps.none _ _))))))); intro v221 w28 ho29 hb hg_ hnew_; clear hg_ hnew_; (first | rw [← Ny220.out] at ho29 | (simp only [Int.reduceToNat] at ho29; rw [← Ny220.out] at ho29)); have n0_ := Aside0.mk (Kd.N_elder' (by (with_reducible repeat (first | apply Kd.N_alloc | apply Kd.N_drewN | apply Kd.N_drew)); exact (Kd.N_mono (Kd.N_far (p := ⟨gb219, 1, none⟩) (Kd.N_far (p := ⟨gb219, 0, none⟩) (Kd.N_mono HO213.out (fun k_ hk => (⟨hk, hk.2⟩ : _ ∧ k_ ≠ gb219))) (fun _ hk => hk.2) (.bool t214)) (fun _ hk => hk.2) (.slice Ao27 t215.length co27)) (fun _ h_ => h_.1))) (Kd.R_base ho29) hb); have n1_ := Aside0.mk (Kd.V_elder' (by (with_reducible repeat (first | apply Kd.V_alloc | apply Kd.V_drewN | apply Kd.V_drew)); exact (Kd.V_mono (Kd.V_far (p := ⟨gb219, 1, none⟩) (Kd.V_far (p := ⟨gb219, 0, none⟩) (Kd.V_mono HO217.out (fun k_ hk => (⟨hk, hk.2⟩ : _ ∧ k_ ≠ gb219))) (fun _ hk => hk.2) (.bool t214)) (fun _ hk => hk.2) (.slice Ao27 t215.length co27)) (fun _ h_ => h_.1))) (Kd.R_base ho29) hb); have n2_ := Aside0.mk (Kd.R_lower ho29 (below_size (by repeat (first | (with_reducible first | exact HB.out | apply below_alloc | apply pw_below_drewN | apply below_drew1 | refine below_set ?_ GE219.out) | exact HB.out)))); have n3_ := Aside0.mk (blk_below (g := gb219) (o := .cells #[.bool t214, .slice Ao27 t215.length co27] 24 (0, 0)) (by (with_reducible repeat (first | refine blk_drewN ?_ _ | refine blk_drew ?_ | refine blk_alloc ?_ _)); refine blk_put (cs := #[.bool t214, .slice none 0 0]) ?_ 1 _ rfl; (with_reducible repeat (first | refine blk_drewN ?_ _ | refine blk_drew ?_ | refine blk_alloc ?_ _)); refine blk_put (cs := #[.bool false, .slice none 0 0]) ?_ 0 _ rfl; (with_reducible repeat (first | refine blk_drewN ?_ _ | refine blk_drew ?_ | refine blk_alloc ?_ _)); exact BK219.out) hb); have n4_ := Aside0.mk (below_step (by repeat (first | (with_reducible first | exact HB.out | apply below_alloc | apply pw_below_drewN | apply below_drew1 | refine below_set ?_ GE219.out) | exact HB.out)) hb); clear HO213; clear HO217; clear BK219; clear HB; have HO213 := n0_; have HO217 := n1_; have HO222 := n2_; have BK219 := n3_; have HB := n4_; clear n0_ n1_ n2_ n3_ n4_; clear hb ho29) | ((with_reducible refine gate_dst (N := 16) rfl ?_); refine Kd.R_lit (Kd.int .i64) _ 3 ?hg (N := 16) ?hd (xs := ([0, 1, 3, 4, 2] : List Int)) (inner := [.int .i64 0, .int .i64 1, .int .i64 3, .int .i64 4, .int .i64 2]) (ok := fun _ => True) (okp := fun _ => True) ?hr ?hp (fun _ hk => hk) trivial (Below.refl _ _) (Nat.le_refl _) (by simp) ?_; (case hd => rfl); (case hg => rfl); (case hr => first | (go_simp; done) | (go_simp; rfl)); (case hp => exact (Reps.one (show Kd.M (Kd.int .i64) _ _ _ 0 [.int .i64 0] from rfl) (Reps.one (show Kd.M (Kd.int .i64) _ _ _ 1 [.int .i64 1] from rfl) (Reps.one (show Kd.M (Kd.int .i64) _ _ _ 3 [.int .i64 3] from rfl) (Reps.one (show Kd.M (Kd.int .i64) _ _ _ 4 [.int .i64 4] from rfl) (Reps.one (show Kd.M (Kd.int .i64) _ _ _ 2 [.int .i64 2] from rfl) (Reps.none _ _))))))); intro v224 w30 ho31 hb hg_ hnew_; clear hg_ hnew_; (first | rw [← Ny223.out] at ho31 | (simp only [Int.reduceToNat] at ho31; rw [← Ny223.out] at ho31)); have n0_ := Aside0.mk (Kd.N_elder' (by (with_reducible repeat (first | apply Kd.N_alloc | apply Kd.N_drewN | apply Kd.N_drew)); exact HO213.out) (Kd.R_base ho31) hb); have n1_ := Aside0.mk (Kd.V_elder' (by (with_reducible repeat (first | apply Kd.V_alloc | apply Kd.V_drewN | apply Kd.V_drew)); exact HO217.out) (Kd.R_base ho31) hb); have n2_ := Aside0.mk (Kd.R_elder' (by (with_reducible repeat (first | apply Kd.R_alloc | apply Kd.R_drewN | apply Kd.R_drew)); exact HO222.out) (Kd.R_base ho31) hb); have n3_ := Aside0.mk (Kd.R_lower (Kd.R_new' ho31 (Kd.R_lt (by (with_reducible repeat (first | apply Kd.R_alloc | apply Kd.R_drewN | apply Kd.R_drew)); exact HO222.out))) (below_size (by repeat (first | (with_reducible first | exact HB.out | apply below_alloc | apply pw_below_drewN | apply below_drew1 | refine below_set ?_ GE219.out) | exact HB.out)))); have n4_ := Aside0.mk (blk_below (g := gb219) (o := .cells #[.bool t214, .slice Ao27 t215.length co27] 24 (0, 0)) (by (with_reducible repeat (first | refine blk_drewN ?_ _ | refine blk_drew ?_ | refine blk_alloc ?_ _)); exact BK219.out) hb); have n5_ := Aside0.mk (below_step (by repeat (first | (with_reducible first | exact HB.out | apply below_alloc | apply pw_below_drewN | apply below_drew1 | refine below_set ?_ GE219.out) | exact HB.out)) hb); clear HO213; clear HO217; clear HO222; clear BK219; clear HB; have HO213 := n0_; have HO217 := n1_; have HO222 := n2_; have HO225 := n3_; have BK219 := n4_; have HB := n5_; clear n0_ n1_ n2_ n3_ n4_ n5_; clear hb ho31; obtain ⟨Ao32, co32, eo32⟩ := Kd.R_slice HO222.out; subst eo32; obtain ⟨Ao33, co33, eo33⟩ := Kd.R_slice HO225.out; subst eo33) | ((with_reducible refine gate_dst (N := 17) rfl ?_); refine Kd.N_lit (Kd.slice 3 (Kd.int .i64)) _ 28 ?hg (N' := 17) ?hd (xs := ([y220, y223] : List (List Int))) (inner := [.slice Ao32 y220.length co32, .slice Ao33 y223.length co33]) (ok := (fun k_ => some k_ ≠ (.slice Ao23 y211.length co23 : Value).ownBlock ∧ k_ ≠ gb219)) (okp := (fun k_ => some k_ ≠ (.slice Ao23 y211.length co23 : Value).ownBlock ∧ k_ ≠ gb219)) ?hr ?hp (fun _ hk => hk) ((show ∀ k_, w30.heap.size ≤ k_ → (fun k_ => some k_ ≠ (.slice Ao23 y211.length co23 : Value).ownBlock ∧ k_ ≠ gb219) k_ from fun k_ hk => ⟨Kd.fresh' (Kd.N_lt (by (with_reducible repeat (first | apply Kd.N_alloc | apply Kd.N_drewN | apply Kd.N_drew)); exact HO213.out)) k_ hk, Kd.freshB (g := gb219) (o := .cells #[.bool t214, .slice Ao27 t215.length co27] 24 (0, 0)) (by (with_reducible repeat (first | refine blk_drewN ?_ _ | refine blk_drew ?_ | refine blk_alloc ?_ _)); exact BK219.out) k_ hk⟩) _ (Nat.le_refl _)) (Below.refl _ _) (Nat.le_refl _) (by simp) ?_; (case hd => rfl); (case hg => rfl); (case hr => first | (go_simp; done) | (go_simp; rfl)); (case hp => exact (Reps.one (show Kd.FK (Kd.slice 3 (Kd.int .i64)) _ _ y220 [.slice Ao32 y220.length co32] from (Kd.FK_slice_mk (Kd.R_reads' (Kd.R_mono (ok' := (fun k_ => some k_ ≠ (.slice Ao23 y211.length co23 : Value).ownBlock ∧ k_ ≠ gb219)) (Kd.R_types (Kd.R_apart' (HO222.out) (Kd.N_typed HO213.out) (by decide)) BK219.out (by decide)) (fun k_ hk => ⟨hk.1.2, hk.2⟩))).2.1 (Kd.R_F (Kd.R_mono (ok' := (fun k_ => some k_ ≠ (.slice Ao23 y211.length co23 : Value).ownBlock ∧ k_ ≠ gb219)) (Kd.R_types (Kd.R_apart' (HO222.out) (Kd.N_typed HO213.out) (by decide)) BK219.out (by decide)) (fun k_ hk => ⟨hk.1.2, hk.2⟩))))) (Reps.one (show Kd.FK (Kd.slice 3 (Kd.int .i64)) _ _ y223 [.slice Ao33 y223.length co33] from (Kd.FK_slice_mk (Kd.R_reads' (Kd.R_mono (ok' := (fun k_ => some k_ ≠ (.slice Ao23 y211.length co23 : Value).ownBlock ∧ k_ ≠ gb219)) (Kd.R_types (Kd.R_apart' (HO225.out) (Kd.N_typed HO213.out) (by decide)) BK219.out (by decide)) (fun k_ hk => ⟨hk.1.2, hk.2⟩))).2.1 (Kd.R_F (Kd.R_mono (ok' := (fun k_ => some k_ ≠ (.slice Ao23 y211.length co23 : Value).ownBlock ∧ k_ ≠ gb219)) (Kd.R_types (Kd.R_apart' (HO225.out) (Kd.N_typed HO213.out) (by decide)) BK219.out (by decide)) (fun k_ hk => ⟨hk.1.2, hk.2⟩))))) (Reps.none _ _)))); intro v227 w34 ho35 hb hg_ hnew_; clear hg_ hnew_; (first | rw [← Ny226.out] at ho35 | (simp only [Int.reduceToNat] at ho35; rw [← Ny226.out] at ho35)); have n0_ := Aside0.mk (Kd.N_elder' (by (with_reducible repeat (first | apply Kd.N_alloc | apply Kd.N_drewN | apply Kd.N_drew)); exact HO213.out) (Kd.N_base ho35) hb); have n1_ := Aside0.mk (Kd.V_elder' (by (with_reducible repeat (first | apply Kd.V_alloc | apply Kd.V_drewN | apply Kd.V_drew)); exact HO217.out) (Kd.N_base ho35) hb); have n2_ := Aside0.mk (Kd.N_lower ho35 (below_size (by repeat (first | (with_reducible first | exact HB.out | apply below_alloc | apply pw_below_drewN | apply below_drew1 | refine below_set ?_ GE219.out) | exact HB.out)))); have n3_ := Aside0.mk (blk_below (g := gb219) (o := .cells #[.bool t214, .slice Ao27 t215.length co27] 24 (0, 0)) (by (with_reducible repeat (first | refine blk_drewN ?_ _ | refine blk_drew ?_ | refine blk_alloc ?_ _)); exact BK219.out) hb); have n4_ := Aside0.mk (below_step (by repeat (first | (with_reducible first | exact HB.out | apply below_alloc | apply pw_below_drewN | apply below_drew1 | refine below_set ?_ GE219.out) | exact HB.out)) hb); clear HO213; clear HO217; clear BK219; clear HB; clear HO222; clear HO225; have HO213 := n0_; have HO217 := n1_; have HO228 := n2_; have BK219 := n3_; have HB := n4_; clear n0_ n1_ n2_ n3_ n4_; clear hb ho35; obtain ⟨Ao36, co36, eo36⟩ := Kd.N_slice HO228.out; subst eo36) | ((with_reducible refine gate_callee (f := 15) rfl ?_); refine goesL_ (some 18) rfl rfl Try.func15 (by kernel_rfl) rfl #[.int .i64 5, .slice Ao36 y226.length co36] rfl (by (try simp only [List.map_toArray, List.map_cons, List.map_nil]); first | done | rfl | (simp only [List.length_drop, List.length_take]; rfl)) ?_; (with_reducible refine (stabchain_Order.calls k 5 _ _ y226 t229 t230 t233 _ ?side1 ?side2 A2.out).mono ?_); (case side1 => repeat (first | exact (Kd.N_reads' HO228.out).2.2 | (with_reducible refine Kd.C_alloc ?_ _) | (with_reducible refine Kd.C_drewN ?_ _) | (with_reducible refine Kd.C_drew ?_))); (case side2 => exact (Kd.N_reads' HO228.out).2.1); rintro e w37 ⟨v231, rfl, ho0, hb⟩; refine ⟨_, rfl, ?_⟩; have n0_ := Aside0.mk (Kd.N_below (by (with_reducible repeat (first | apply Kd.N_alloc | apply Kd.N_drewN | apply Kd.N_drew)); exact HO213.out) hb); have n1_ := Aside0.mk (Kd.V_below (by (with_reducible repeat (first | apply Kd.V_alloc | apply Kd.V_drewN | apply Kd.V_drew)); exact HO217.out) hb); have n2_ := Aside0.mk (Kd.N_below (by (with_reducible repeat (first | apply Kd.N_alloc | apply Kd.N_drewN | apply Kd.N_drew)); exact HO228.out) hb); have n3_ := Aside0.mk (Kd.V_lower (Kd.V_mono (ok' := fun k_ => some k_ ≠ (.slice Ao23 y211.length co23 : Value).ownBlock ∧ some k_ ≠ (.slice Ao36 y226.length co36 : Value).ownBlock ∧ k_ ≠ gb219) ho0 (fun k_ hk_ => ⟨(Kd.fresh' (Kd.N_lt (by (with_reducible repeat (first | apply Kd.N_alloc | apply Kd.N_drewN | apply Kd.N_drew)); exact HO213.out)) k_ hk_), (Kd.fresh' (Kd.N_lt (by (with_reducible repeat (first | apply Kd.N_alloc | apply Kd.N_drewN | apply Kd.N_drew)); exact HO228.out)) k_ hk_), (Kd.freshB (g := gb219) (o := .cells #[.bool t214, .slice Ao27 t215.length co27] 24 (0, 0)) (by (with_reducible repeat (first | refine blk_drewN ?_ _ | refine blk_drew ?_ | refine blk_alloc ?_ _)); exact BK219.out) k_ hk_)⟩)) (below_size (by repeat (first | (with_reducible first | exact HB.out | apply below_alloc | apply pw_below_drewN | apply below_drew1 | refine below_set ?_ GE219.out) | exact HB.out)))); have n4_ := Aside0.mk (blk_below (g := gb219) (o := .cells #[.bool t214, .slice Ao27 t215.length co27] 24 (0, 0)) (by (with_reducible repeat (first | refine blk_drewN ?_ _ | refine blk_drew ?_ | refine blk_alloc ?_ _)); exact BK219.out) hb); have n5_ := Aside0.mk (below_step (by repeat (first | (with_reducible first | exact HB.out | apply below_alloc | apply pw_below_drewN | apply below_drew1 | refine below_set ?_ GE219.out) | exact HB.out)) hb); clear HO213; clear HO217; clear HO228; clear BK219; clear HB; have HO213 := n0_; have HO217 := n1_; have HO228 := n2_; have HO232 := n3_; have BK219 := n4_; have HB := n5_; clear n0_ n1_ n2_ n3_ n4_ n5_; (try clear hb); (try clear hb2); (try clear hk); (try clear hi); (try clear ho0)) | ((with_reducible refine gate_dst (N := 3) rfl ?_); refine box_event ?hg (N := 3) ?hd (cs := #[.bool false, .slice none 0 0]) (t := 24) ?hr ?_; (case hd => rfl); (case hg => rfl); (case hr => first | (go_simp; done) | (go_simp; rfl)); intro gb234 hg w38 hbox hb; have n0_ := Aside0.mk (Kd.N_below (Kd.N_elderB (by (with_reducible repeat (first | apply Kd.N_alloc | apply Kd.N_drewN | apply Kd.N_drew)); exact HO213.out) gb234 (Nat.le_of_eq hg.symm)) hb); have n1_ := Aside0.mk (Kd.V_below (Kd.V_elderB (by (with_reducible repeat (first | apply Kd.V_alloc | apply Kd.V_drewN | apply Kd.V_drew)); exact HO217.out) gb234 (Nat.le_of_eq hg.symm)) hb); have n2_ := Aside0.mk (Kd.N_below (Kd.N_elderB (by (with_reducible repeat (first | apply Kd.N_alloc | apply Kd.N_drewN | apply Kd.N_drew)); exact HO228.out) gb234 (Nat.le_of_eq hg.symm)) hb); have n3_ := Aside0.mk (Kd.V_below (Kd.V_elderB (by (with_reducible repeat (first | apply Kd.V_alloc | apply Kd.V_drewN | apply Kd.V_drew)); exact HO232.out) gb234 (Nat.le_of_eq hg.symm)) hb); have n4_ := Aside0.mk (blk_below (g := gb219) (o := .cells #[.bool t214, .slice Ao27 t215.length co27] 24 (0, 0)) (by (with_reducible repeat (first | refine blk_drewN ?_ _ | refine blk_drew ?_ | refine blk_alloc ?_ _)); exact BK219.out) hb); have n5_ := Aside0.mk (below_step (by repeat (first | (with_reducible first | exact HB.out | apply below_alloc | apply pw_below_drewN | apply below_drew1 | refine below_set ?_ GE219.out) | exact HB.out)) hb); have n6_ := Aside0.mk (hbox); have n7_ := Aside0.mk ((by rw [hg]; exact (below_size (by repeat (first | (with_reducible first | exact HB.out | apply below_alloc | apply pw_below_drewN | apply below_drew1 | refine below_set ?_ GE219.out) | exact HB.out))) : w.heap.size ≤ gb234)); have n8_ := Aside0.mk ((by rw [hg]; exact (below_size (by repeat (first | (with_reducible first | exact HB.out | apply below_alloc | apply pw_below_drewN | apply below_drew1 | refine below_set ?_ GE219.out) | exact HB.out))) : w.heap.size ≤ gb234)); have n9_ := Aside0.mk ((by rw [hg]; exact Nat.ne_of_lt (blk_lt (g := gb219) (o := .cells #[.bool t214, .slice Ao27 t215.length co27] 24 (0, 0)) (by (with_reducible repeat (first | refine blk_drewN ?_ _ | refine blk_drew ?_ | refine blk_alloc ?_ _)); exact BK219.out)) : gb219 ≠ gb234)); have n10_ := Aside0.mk ((by rw [hg]; exact Nat.ne_of_gt (blk_lt (g := gb219) (o := .cells #[.bool t214, .slice Ao27 t215.length co27] 24 (0, 0)) (by (with_reducible repeat (first | refine blk_drewN ?_ _ | refine blk_drew ?_ | refine blk_alloc ?_ _)); exact BK219.out)) : gb234 ≠ gb219)); clear HO213; clear HO217; clear HO228; clear HO232; clear BK219; clear HB; have HO213 := n0_; have HO217 := n1_; have HO228 := n2_; have HO232 := n3_; have BK219 := n4_; have HB := n5_; have BK234 := n6_; have GW234 := n7_; have GE234 := n8_; have NB219_234 := n9_; have NB234_219 := n10_; clear n0_ n1_ n2_ n3_ n4_ n5_ n6_ n7_ n8_ n9_ n10_; clear hb hbox hg; have hnb39 := NB234_219.out; have hnc39 := NB219_234.out; have hcz40_0 : w38.cell? ⟨gb234, 0, none⟩ = some (.bool false) := (blk_cell BK234.out 0).trans rfl; have hcz40_1 : w38.cell? ⟨gb234, 1, none⟩ = some (.slice none 0 0) := (blk_cell BK234.out 1).trans rfl; have hfz40_0 := blk_frozen BK234.out 0; have hfz40_1 := blk_frozen BK234.out 1; obtain ⟨Ao41, co41, eo41⟩ := Kd.V_slice HO232.out; subst eo41) | ((with_reducible refine gate_dst (N := 22) rfl ?_); refine Kd.R_lit (Kd.int .i64) _ 3 ?hg (N := 22) ?hd (xs := ([1, 2, 3, 4, 5, 6, 7, 8, 9, 10, 0] : List Int)) (inner := [.int .i64 1, .int .i64 2, .int .i64 3, .int .i64 4, .int .i64 5, .int .i64 6, .int .i64 7, .int .i64 8, .int .i64 9, .int .i64 10, .int .i64 0]) (ok := fun _ => True) (okp := fun _ => True) ?hr ?hp (fun _ hk => hk) trivial (Below.refl _ _) (Nat.le_refl _) (by simp) ?_; (case hd => rfl); (case hg => rfl); (case hr => first | (go_simp; done) | (go_simp; rfl)); (case hp => exact (Reps.one (show Kd.M (Kd.int .i64) _ _ _ 1 [.int .i64 1] from rfl) (Reps.one (show Kd.M (Kd.int .i64) _ _ _ 2 [.int .i64 2] from rfl) (Reps.one (show Kd.M (Kd.int .i64) _ _ _ 3 [.int .i64 3] from rfl) (Reps.one (show Kd.M (Kd.int .i64) _ _ _ 4 [.int .i64 4] from rfl) (Reps.one (show Kd.M (Kd.int .i64) _ _ _ 5 [.int .i64 5] from rfl) (Reps.one (show Kd.M (Kd.int .i64) _ _ _ 6 [.int .i64 6] from rfl) (Reps.one (show Kd.M (Kd.int .i64) _ _ _ 7 [.int .i64 7] from rfl) (Reps.one (show Kd.M (Kd.int .i64) _ _ _ 8 [.int .i64 8] from rfl) (Reps.one (show Kd.M (Kd.int .i64) _ _ _ 9 [.int .i64 9] from rfl) (Reps.one (show Kd.M (Kd.int .i64) _ _ _ 10 [.int .i64 10] from rfl) (Reps.one (show Kd.M (Kd.int .i64) _ _ _ 0 [.int .i64 0] from rfl) (Reps.none _ _))))))))))))); intro v236 w42 ho43 hb hg_ hnew_; clear hg_ hnew_; (first | rw [← Ny235.out] at ho43 | (simp only [Int.reduceToNat] at ho43; rw [← Ny235.out] at ho43)); have n0_ := Aside0.mk (Kd.N_elder' (by (with_reducible repeat (first | apply Kd.N_alloc | apply Kd.N_drewN | apply Kd.N_drew)); exact (Kd.N_mono (Kd.N_far (p := ⟨gb234, 1, none⟩) (Kd.N_far (p := ⟨gb234, 0, none⟩) (Kd.N_mono HO213.out (fun k_ hk => (⟨hk, hk.2⟩ : _ ∧ k_ ≠ gb234))) (fun _ hk => hk.2) (.bool t229)) (fun _ hk => hk.2) (.slice Ao41 t230.length co41)) (fun _ h_ => h_.1))) (Kd.R_base ho43) hb); have n1_ := Aside0.mk (Kd.V_elder' (by (with_reducible repeat (first | apply Kd.V_alloc | apply Kd.V_drewN | apply Kd.V_drew)); exact (Kd.V_mono (Kd.V_far (p := ⟨gb234, 1, none⟩) (Kd.V_far (p := ⟨gb234, 0, none⟩) (Kd.V_mono HO217.out (fun k_ hk => (⟨hk, hk.2⟩ : _ ∧ k_ ≠ gb234))) (fun _ hk => hk.2) (.bool t229)) (fun _ hk => hk.2) (.slice Ao41 t230.length co41)) (fun _ h_ => h_.1))) (Kd.R_base ho43) hb); have n2_ := Aside0.mk (Kd.N_elder' (by (with_reducible repeat (first | apply Kd.N_alloc | apply Kd.N_drewN | apply Kd.N_drew)); exact (Kd.N_mono (Kd.N_far (p := ⟨gb234, 1, none⟩) (Kd.N_far (p := ⟨gb234, 0, none⟩) (Kd.N_mono HO228.out (fun k_ hk => (⟨hk, hk.2⟩ : _ ∧ k_ ≠ gb234))) (fun _ hk => hk.2) (.bool t229)) (fun _ hk => hk.2) (.slice Ao41 t230.length co41)) (fun _ h_ => h_.1))) (Kd.R_base ho43) hb); have n3_ := Aside0.mk (Kd.V_elder' (by (with_reducible repeat (first | apply Kd.V_alloc | apply Kd.V_drewN | apply Kd.V_drew)); exact (Kd.V_mono (Kd.V_far (p := ⟨gb234, 1, none⟩) (Kd.V_far (p := ⟨gb234, 0, none⟩) (Kd.V_mono HO232.out (fun k_ hk => (⟨hk, hk.2⟩ : _ ∧ k_ ≠ gb234))) (fun _ hk => hk.2) (.bool t229)) (fun _ hk => hk.2) (.slice Ao41 t230.length co41)) (fun _ h_ => h_.1))) (Kd.R_base ho43) hb); have n4_ := Aside0.mk (Kd.R_lower ho43 (below_size (by repeat (first | (with_reducible first | exact HB.out | apply below_alloc | apply pw_below_drewN | apply below_drew1 | refine below_set ?_ GE219.out | refine below_set ?_ GE234.out) | exact HB.out)))); have n5_ := Aside0.mk (blk_below (g := gb219) (o := .cells #[.bool t214, .slice Ao27 t215.length co27] 24 (0, 0)) (by (with_reducible repeat (first | refine blk_drewN ?_ _ | refine blk_drew ?_ | refine blk_alloc ?_ _)); refine blk_far ?_ NB219_234.out _; (with_reducible repeat (first | refine blk_drewN ?_ _ | refine blk_drew ?_ | refine blk_alloc ?_ _)); refine blk_far ?_ NB219_234.out _; (with_reducible repeat (first | refine blk_drewN ?_ _ | refine blk_drew ?_ | refine blk_alloc ?_ _)); exact BK219.out) hb); have n6_ := Aside0.mk (blk_below (g := gb234) (o := .cells #[.bool t229, .slice Ao41 t230.length co41] 24 (0, 0)) (by (with_reducible repeat (first | refine blk_drewN ?_ _ | refine blk_drew ?_ | refine blk_alloc ?_ _)); refine blk_put (cs := #[.bool t229, .slice none 0 0]) ?_ 1 _ rfl; (with_reducible repeat (first | refine blk_drewN ?_ _ | refine blk_drew ?_ | refine blk_alloc ?_ _)); refine blk_put (cs := #[.bool false, .slice none 0 0]) ?_ 0 _ rfl; (with_reducible repeat (first | refine blk_drewN ?_ _ | refine blk_drew ?_ | refine blk_alloc ?_ _)); exact BK234.out) hb); have n7_ := Aside0.mk (below_step (by repeat (first | (with_reducible first | exact HB.out | apply below_alloc | apply pw_below_drewN | apply below_drew1 | refine below_set ?_ GE219.out | refine below_set ?_ GE234.out) | exact HB.out)) hb); clear HO213; clear HO217; clear HO228; clear HO232; clear BK219; clear BK234; clear HB; have HO213 := n0_; have HO217 := n1_; have HO228 := n2_; have HO232 := n3_; have HO237 := n4_; have BK219 := n5_; have BK234 := n6_; have HB := n7_; clear n0_ n1_ n2_ n3_ n4_ n5_ n6_ n7_; clear hb ho43) | ((with_reducible refine gate_dst (N := 23) rfl ?_); refine Kd.R_lit (Kd.int .i64) _ 3 ?hg (N := 23) ?hd (xs := ([0, 1, 6, 9, 5, 3, 10, 2, 8, 4, 7] : List Int)) (inner := [.int .i64 0, .int .i64 1, .int .i64 6, .int .i64 9, .int .i64 5, .int .i64 3, .int .i64 10, .int .i64 2, .int .i64 8, .int .i64 4, .int .i64 7]) (ok := fun _ => True) (okp := fun _ => True) ?hr ?hp (fun _ hk => hk) trivial (Below.refl _ _) (Nat.le_refl _) (by simp) ?_; (case hd => rfl); (case hg => rfl); (case hr => first | (go_simp; done) | (go_simp; rfl)); (case hp => exact (Reps.one (show Kd.M (Kd.int .i64) _ _ _ 0 [.int .i64 0] from rfl) (Reps.one (show Kd.M (Kd.int .i64) _ _ _ 1 [.int .i64 1] from rfl) (Reps.one (show Kd.M (Kd.int .i64) _ _ _ 6 [.int .i64 6] from rfl) (Reps.one (show Kd.M (Kd.int .i64) _ _ _ 9 [.int .i64 9] from rfl) (Reps.one (show Kd.M (Kd.int .i64) _ _ _ 5 [.int .i64 5] from rfl) (Reps.one (show Kd.M (Kd.int .i64) _ _ _ 3 [.int .i64 3] from rfl) (Reps.one (show Kd.M (Kd.int .i64) _ _ _ 10 [.int .i64 10] from rfl) (Reps.one (show Kd.M (Kd.int .i64) _ _ _ 2 [.int .i64 2] from rfl) (Reps.one (show Kd.M (Kd.int .i64) _ _ _ 8 [.int .i64 8] from rfl) (Reps.one (show Kd.M (Kd.int .i64) _ _ _ 4 [.int .i64 4] from rfl) (Reps.one (show Kd.M (Kd.int .i64) _ _ _ 7 [.int .i64 7] from rfl) (Reps.none _ _))))))))))))); intro v239 w44 ho45 hb hg_ hnew_; clear hg_ hnew_; (first | rw [← Ny238.out] at ho45 | (simp only [Int.reduceToNat] at ho45; rw [← Ny238.out] at ho45)); have n0_ := Aside0.mk (Kd.N_elder' (by (with_reducible repeat (first | apply Kd.N_alloc | apply Kd.N_drewN | apply Kd.N_drew)); exact HO213.out) (Kd.R_base ho45) hb); have n1_ := Aside0.mk (Kd.V_elder' (by (with_reducible repeat (first | apply Kd.V_alloc | apply Kd.V_drewN | apply Kd.V_drew)); exact HO217.out) (Kd.R_base ho45) hb); have n2_ := Aside0.mk (Kd.N_elder' (by (with_reducible repeat (first | apply Kd.N_alloc | apply Kd.N_drewN | apply Kd.N_drew)); exact HO228.out) (Kd.R_base ho45) hb); have n3_ := Aside0.mk (Kd.V_elder' (by (with_reducible repeat (first | apply Kd.V_alloc | apply Kd.V_drewN | apply Kd.V_drew)); exact HO232.out) (Kd.R_base ho45) hb); have n4_ := Aside0.mk (Kd.R_elder' (by (with_reducible repeat (first | apply Kd.R_alloc | apply Kd.R_drewN | apply Kd.R_drew)); exact HO237.out) (Kd.R_base ho45) hb); have n5_ := Aside0.mk (Kd.R_lower (Kd.R_new' ho45 (Kd.R_lt (by (with_reducible repeat (first | apply Kd.R_alloc | apply Kd.R_drewN | apply Kd.R_drew)); exact HO237.out))) (below_size (by repeat (first | (with_reducible first | exact HB.out | apply below_alloc | apply pw_below_drewN | apply below_drew1 | refine below_set ?_ GE219.out | refine below_set ?_ GE234.out) | exact HB.out)))); have n6_ := Aside0.mk (blk_below (g := gb219) (o := .cells #[.bool t214, .slice Ao27 t215.length co27] 24 (0, 0)) (by (with_reducible repeat (first | refine blk_drewN ?_ _ | refine blk_drew ?_ | refine blk_alloc ?_ _)); exact BK219.out) hb); have n7_ := Aside0.mk (blk_below (g := gb234) (o := .cells #[.bool t229, .slice Ao41 t230.length co41] 24 (0, 0)) (by (with_reducible repeat (first | refine blk_drewN ?_ _ | refine blk_drew ?_ | refine blk_alloc ?_ _)); exact BK234.out) hb); have n8_ := Aside0.mk (below_step (by repeat (first | (with_reducible first | exact HB.out | apply below_alloc | apply pw_below_drewN | apply below_drew1 | refine below_set ?_ GE219.out | refine below_set ?_ GE234.out) | exact HB.out)) hb); clear HO213; clear HO217; clear HO228; clear HO232; clear HO237; clear BK219; clear BK234; clear HB; have HO213 := n0_; have HO217 := n1_; have HO228 := n2_; have HO232 := n3_; have HO237 := n4_; have HO240 := n5_; have BK219 := n6_; have BK234 := n7_; have HB := n8_; clear n0_ n1_ n2_ n3_ n4_ n5_ n6_ n7_ n8_; clear hb ho45; obtain ⟨Ao46, co46, eo46⟩ := Kd.R_slice HO237.out; subst eo46; obtain ⟨Ao47, co47, eo47⟩ := Kd.R_slice HO240.out; subst eo47) | ((with_reducible refine gate_dst (N := 24) rfl ?_); refine Kd.N_lit (Kd.slice 3 (Kd.int .i64)) _ 28 ?hg (N' := 24) ?hd (xs := ([y235, y238] : List (List Int))) (inner := [.slice Ao46 y235.length co46, .slice Ao47 y238.length co47]) (ok := (fun k_ => some k_ ≠ (.slice Ao23 y211.length co23 : Value).ownBlock ∧ some k_ ≠ (.slice Ao36 y226.length co36 : Value).ownBlock ∧ k_ ≠ gb219 ∧ k_ ≠ gb234)) (okp := (fun k_ => some k_ ≠ (.slice Ao23 y211.length co23 : Value).ownBlock ∧ some k_ ≠ (.slice Ao36 y226.length co36 : Value).ownBlock ∧ k_ ≠ gb219 ∧ k_ ≠ gb234)) ?hr ?hp (fun _ hk => hk) ((show ∀ k_, w44.heap.size ≤ k_ → (fun k_ => some k_ ≠ (.slice Ao23 y211.length co23 : Value).ownBlock ∧ some k_ ≠ (.slice Ao36 y226.length co36 : Value).ownBlock ∧ k_ ≠ gb219 ∧ k_ ≠ gb234) k_ from fun k_ hk => ⟨Kd.fresh' (Kd.N_lt (by (with_reducible repeat (first | apply Kd.N_alloc | apply Kd.N_drewN | apply Kd.N_drew)); exact HO213.out)) k_ hk, Kd.fresh' (Kd.N_lt (by (with_reducible repeat (first | apply Kd.N_alloc | apply Kd.N_drewN | apply Kd.N_drew)); exact HO228.out)) k_ hk, Kd.freshB (g := gb219) (o := .cells #[.bool t214, .slice Ao27 t215.length co27] 24 (0, 0)) (by (with_reducible repeat (first | refine blk_drewN ?_ _ | refine blk_drew ?_ | refine blk_alloc ?_ _)); exact BK219.out) k_ hk, Kd.freshB (g := gb234) (o := .cells #[.bool t229, .slice Ao41 t230.length co41] 24 (0, 0)) (by (with_reducible repeat (first | refine blk_drewN ?_ _ | refine blk_drew ?_ | refine blk_alloc ?_ _)); exact BK234.out) k_ hk⟩) _ (Nat.le_refl _)) (Below.refl _ _) (Nat.le_refl _) (by simp) ?_; (case hd => rfl); (case hg => rfl); (case hr => first | (go_simp; done) | (go_simp; rfl)); (case hp => exact (Reps.one (show Kd.FK (Kd.slice 3 (Kd.int .i64)) _ _ y235 [.slice Ao46 y235.length co46] from (Kd.FK_slice_mk (Kd.R_reads' (Kd.R_mono (ok' := (fun k_ => some k_ ≠ (.slice Ao23 y211.length co23 : Value).ownBlock ∧ some k_ ≠ (.slice Ao36 y226.length co36 : Value).ownBlock ∧ k_ ≠ gb219 ∧ k_ ≠ gb234)) (Kd.R_types (Kd.R_types (Kd.R_apart' (Kd.R_apart' (HO237.out) (Kd.N_typed HO213.out) (by decide)) (Kd.N_typed HO228.out) (by decide)) BK219.out (by decide)) BK234.out (by decide)) (fun k_ hk => ⟨hk.1.1.1.2, ⟨hk.1.1.2, ⟨hk.1.2, hk.2⟩⟩⟩))).2.1 (Kd.R_F (Kd.R_mono (ok' := (fun k_ => some k_ ≠ (.slice Ao23 y211.length co23 : Value).ownBlock ∧ some k_ ≠ (.slice Ao36 y226.length co36 : Value).ownBlock ∧ k_ ≠ gb219 ∧ k_ ≠ gb234)) (Kd.R_types (Kd.R_types (Kd.R_apart' (Kd.R_apart' (HO237.out) (Kd.N_typed HO213.out) (by decide)) (Kd.N_typed HO228.out) (by decide)) BK219.out (by decide)) BK234.out (by decide)) (fun k_ hk => ⟨hk.1.1.1.2, ⟨hk.1.1.2, ⟨hk.1.2, hk.2⟩⟩⟩))))) (Reps.one (show Kd.FK (Kd.slice 3 (Kd.int .i64)) _ _ y238 [.slice Ao47 y238.length co47] from (Kd.FK_slice_mk (Kd.R_reads' (Kd.R_mono (ok' := (fun k_ => some k_ ≠ (.slice Ao23 y211.length co23 : Value).ownBlock ∧ some k_ ≠ (.slice Ao36 y226.length co36 : Value).ownBlock ∧ k_ ≠ gb219 ∧ k_ ≠ gb234)) (Kd.R_types (Kd.R_types (Kd.R_apart' (Kd.R_apart' (HO240.out) (Kd.N_typed HO213.out) (by decide)) (Kd.N_typed HO228.out) (by decide)) BK219.out (by decide)) BK234.out (by decide)) (fun k_ hk => ⟨hk.1.1.1.2, ⟨hk.1.1.2, ⟨hk.1.2, hk.2⟩⟩⟩))).2.1 (Kd.R_F (Kd.R_mono (ok' := (fun k_ => some k_ ≠ (.slice Ao23 y211.length co23 : Value).ownBlock ∧ some k_ ≠ (.slice Ao36 y226.length co36 : Value).ownBlock ∧ k_ ≠ gb219 ∧ k_ ≠ gb234)) (Kd.R_types (Kd.R_types (Kd.R_apart' (Kd.R_apart' (HO240.out) (Kd.N_typed HO213.out) (by decide)) (Kd.N_typed HO228.out) (by decide)) BK219.out (by decide)) BK234.out (by decide)) (fun k_ hk => ⟨hk.1.1.1.2, ⟨hk.1.1.2, ⟨hk.1.2, hk.2⟩⟩⟩))))) (Reps.none _ _)))); intro v242 w48 ho49 hb hg_ hnew_; clear hg_ hnew_; (first | rw [← Ny241.out] at ho49 | (simp only [Int.reduceToNat] at ho49; rw [← Ny241.out] at ho49)); have n0_ := Aside0.mk (Kd.N_elder' (by (with_reducible repeat (first | apply Kd.N_alloc | apply Kd.N_drewN | apply Kd.N_drew)); exact HO213.out) (Kd.N_base ho49) hb); have n1_ := Aside0.mk (Kd.V_elder' (by (with_reducible repeat (first | apply Kd.V_alloc | apply Kd.V_drewN | apply Kd.V_drew)); exact HO217.out) (Kd.N_base ho49) hb); have n2_ := Aside0.mk (Kd.N_elder' (by (with_reducible repeat (first | apply Kd.N_alloc | apply Kd.N_drewN | apply Kd.N_drew)); exact HO228.out) (Kd.N_base ho49) hb); have n3_ := Aside0.mk (Kd.V_elder' (by (with_reducible repeat (first | apply Kd.V_alloc | apply Kd.V_drewN | apply Kd.V_drew)); exact HO232.out) (Kd.N_base ho49) hb); have n4_ := Aside0.mk (Kd.N_lower ho49 (below_size (by repeat (first | (with_reducible first | exact HB.out | apply below_alloc | apply pw_below_drewN | apply below_drew1 | refine below_set ?_ GE219.out | refine below_set ?_ GE234.out) | exact HB.out)))); have n5_ := Aside0.mk (blk_below (g := gb219) (o := .cells #[.bool t214, .slice Ao27 t215.length co27] 24 (0, 0)) (by (with_reducible repeat (first | refine blk_drewN ?_ _ | refine blk_drew ?_ | refine blk_alloc ?_ _)); exact BK219.out) hb); have n6_ := Aside0.mk (blk_below (g := gb234) (o := .cells #[.bool t229, .slice Ao41 t230.length co41] 24 (0, 0)) (by (with_reducible repeat (first | refine blk_drewN ?_ _ | refine blk_drew ?_ | refine blk_alloc ?_ _)); exact BK234.out) hb); have n7_ := Aside0.mk (below_step (by repeat (first | (with_reducible first | exact HB.out | apply below_alloc | apply pw_below_drewN | apply below_drew1 | refine below_set ?_ GE219.out | refine below_set ?_ GE234.out) | exact HB.out)) hb); clear HO213; clear HO217; clear HO228; clear HO232; clear BK219; clear BK234; clear HB; clear HO237; clear HO240; have HO213 := n0_; have HO217 := n1_; have HO228 := n2_; have HO232 := n3_; have HO243 := n4_; have BK219 := n5_; have BK234 := n6_; have HB := n7_; clear n0_ n1_ n2_ n3_ n4_ n5_ n6_ n7_; clear hb ho49; obtain ⟨Ao50, co50, eo50⟩ := Kd.N_slice HO243.out; subst eo50) | ((with_reducible refine gate_callee (f := 15) rfl ?_); refine goesL_ (some 25) rfl rfl Try.func15 (by kernel_rfl) rfl #[.int .i64 11, .slice Ao50 y241.length co50] rfl (by (try simp only [List.map_toArray, List.map_cons, List.map_nil]); first | done | rfl | (simp only [List.length_drop, List.length_take]; rfl)) ?_; (with_reducible refine (stabchain_Order.calls k 11 _ _ y241 t244 t245 t248 _ ?side1 ?side2 A3.out).mono ?_); (case side1 => repeat (first | exact (Kd.N_reads' HO243.out).2.2 | (with_reducible refine Kd.C_alloc ?_ _) | (with_reducible refine Kd.C_drewN ?_ _) | (with_reducible refine Kd.C_drew ?_))); (case side2 => exact (Kd.N_reads' HO243.out).2.1); rintro e w51 ⟨v246, rfl, ho0, hb⟩; refine ⟨_, rfl, ?_⟩; have n0_ := Aside0.mk (Kd.N_below (by (with_reducible repeat (first | apply Kd.N_alloc | apply Kd.N_drewN | apply Kd.N_drew)); exact HO213.out) hb); have n1_ := Aside0.mk (Kd.V_below (by (with_reducible repeat (first | apply Kd.V_alloc | apply Kd.V_drewN | apply Kd.V_drew)); exact HO217.out) hb); have n2_ := Aside0.mk (Kd.N_below (by (with_reducible repeat (first | apply Kd.N_alloc | apply Kd.N_drewN | apply Kd.N_drew)); exact HO228.out) hb); have n3_ := Aside0.mk (Kd.V_below (by (with_reducible repeat (first | apply Kd.V_alloc | apply Kd.V_drewN | apply Kd.V_drew)); exact HO232.out) hb); have n4_ := Aside0.mk (Kd.N_below (by (with_reducible repeat (first | apply Kd.N_alloc | apply Kd.N_drewN | apply Kd.N_drew)); exact HO243.out) hb); have n5_ := Aside0.mk (Kd.V_lower (Kd.V_mono (ok' := fun k_ => some k_ ≠ (.slice Ao23 y211.length co23 : Value).ownBlock ∧ some k_ ≠ (.slice Ao36 y226.length co36 : Value).ownBlock ∧ some k_ ≠ (.slice Ao50 y241.length co50 : Value).ownBlock ∧ k_ ≠ gb219 ∧ k_ ≠ gb234) ho0 (fun k_ hk_ => ⟨(Kd.fresh' (Kd.N_lt (by (with_reducible repeat (first | apply Kd.N_alloc | apply Kd.N_drewN | apply Kd.N_drew)); exact HO213.out)) k_ hk_), (Kd.fresh' (Kd.N_lt (by (with_reducible repeat (first | apply Kd.N_alloc | apply Kd.N_drewN | apply Kd.N_drew)); exact HO228.out)) k_ hk_), (Kd.fresh' (Kd.N_lt (by (with_reducible repeat (first | apply Kd.N_alloc | apply Kd.N_drewN | apply Kd.N_drew)); exact HO243.out)) k_ hk_), (Kd.freshB (g := gb219) (o := .cells #[.bool t214, .slice Ao27 t215.length co27] 24 (0, 0)) (by (with_reducible repeat (first | refine blk_drewN ?_ _ | refine blk_drew ?_ | refine blk_alloc ?_ _)); exact BK219.out) k_ hk_), (Kd.freshB (g := gb234) (o := .cells #[.bool t229, .slice Ao41 t230.length co41] 24 (0, 0)) (by (with_reducible repeat (first | refine blk_drewN ?_ _ | refine blk_drew ?_ | refine blk_alloc ?_ _)); exact BK234.out) k_ hk_)⟩)) (below_size (by repeat (first | (with_reducible first | exact HB.out | apply below_alloc | apply pw_below_drewN | apply below_drew1 | refine below_set ?_ GE219.out | refine below_set ?_ GE234.out) | exact HB.out)))); have n6_ := Aside0.mk (blk_below (g := gb219) (o := .cells #[.bool t214, .slice Ao27 t215.length co27] 24 (0, 0)) (by (with_reducible repeat (first | refine blk_drewN ?_ _ | refine blk_drew ?_ | refine blk_alloc ?_ _)); exact BK219.out) hb); have n7_ := Aside0.mk (blk_below (g := gb234) (o := .cells #[.bool t229, .slice Ao41 t230.length co41] 24 (0, 0)) (by (with_reducible repeat (first | refine blk_drewN ?_ _ | refine blk_drew ?_ | refine blk_alloc ?_ _)); exact BK234.out) hb); have n8_ := Aside0.mk (below_step (by repeat (first | (with_reducible first | exact HB.out | apply below_alloc | apply pw_below_drewN | apply below_drew1 | refine below_set ?_ GE219.out | refine below_set ?_ GE234.out) | exact HB.out)) hb); clear HO213; clear HO217; clear HO228; clear HO232; clear HO243; clear BK219; clear BK234; clear HB; have HO213 := n0_; have HO217 := n1_; have HO228 := n2_; have HO232 := n3_; have HO243 := n4_; have HO247 := n5_; have BK219 := n6_; have BK234 := n7_; have HB := n8_; clear n0_ n1_ n2_ n3_ n4_ n5_ n6_ n7_ n8_; (try clear hb); (try clear hb2); (try clear hk); (try clear hi); (try clear ho0)) | ((with_reducible refine gate_dst (N := 5) rfl ?_); refine box_event ?hg (N := 5) ?hd (cs := #[.bool false, .slice none 0 0]) (t := 24) ?hr ?_; (case hd => rfl); (case hg => rfl); (case hr => first | (go_simp; done) | (go_simp; rfl)); intro gb249 hg w52 hbox hb; have n0_ := Aside0.mk (Kd.N_below (Kd.N_elderB (by (with_reducible repeat (first | apply Kd.N_alloc | apply Kd.N_drewN | apply Kd.N_drew)); exact HO213.out) gb249 (Nat.le_of_eq hg.symm)) hb); have n1_ := Aside0.mk (Kd.V_below (Kd.V_elderB (by (with_reducible repeat (first | apply Kd.V_alloc | apply Kd.V_drewN | apply Kd.V_drew)); exact HO217.out) gb249 (Nat.le_of_eq hg.symm)) hb); have n2_ := Aside0.mk (Kd.N_below (Kd.N_elderB (by (with_reducible repeat (first | apply Kd.N_alloc | apply Kd.N_drewN | apply Kd.N_drew)); exact HO228.out) gb249 (Nat.le_of_eq hg.symm)) hb); have n3_ := Aside0.mk (Kd.V_below (Kd.V_elderB (by (with_reducible repeat (first | apply Kd.V_alloc | apply Kd.V_drewN | apply Kd.V_drew)); exact HO232.out) gb249 (Nat.le_of_eq hg.symm)) hb); have n4_ := Aside0.mk (Kd.N_below (Kd.N_elderB (by (with_reducible repeat (first | apply Kd.N_alloc | apply Kd.N_drewN | apply Kd.N_drew)); exact HO243.out) gb249 (Nat.le_of_eq hg.symm)) hb); have n5_ := Aside0.mk (Kd.V_below (Kd.V_elderB (by (with_reducible repeat (first | apply Kd.V_alloc | apply Kd.V_drewN | apply Kd.V_drew)); exact HO247.out) gb249 (Nat.le_of_eq hg.symm)) hb); have n6_ := Aside0.mk (blk_below (g := gb219) (o := .cells #[.bool t214, .slice Ao27 t215.length co27] 24 (0, 0)) (by (with_reducible repeat (first | refine blk_drewN ?_ _ | refine blk_drew ?_ | refine blk_alloc ?_ _)); exact BK219.out) hb); have n7_ := Aside0.mk (blk_below (g := gb234) (o := .cells #[.bool t229, .slice Ao41 t230.length co41] 24 (0, 0)) (by (with_reducible repeat (first | refine blk_drewN ?_ _ | refine blk_drew ?_ | refine blk_alloc ?_ _)); exact BK234.out) hb); have n8_ := Aside0.mk (below_step (by repeat (first | (with_reducible first | exact HB.out | apply below_alloc | apply pw_below_drewN | apply below_drew1 | refine below_set ?_ GE219.out | refine below_set ?_ GE234.out) | exact HB.out)) hb); have n9_ := Aside0.mk (hbox); have n10_ := Aside0.mk ((by rw [hg]; exact (below_size (by repeat (first | (with_reducible first | exact HB.out | apply below_alloc | apply pw_below_drewN | apply below_drew1 | refine below_set ?_ GE219.out | refine below_set ?_ GE234.out) | exact HB.out))) : w.heap.size ≤ gb249)); have n11_ := Aside0.mk ((by rw [hg]; exact (below_size (by repeat (first | (with_reducible first | exact HB.out | apply below_alloc | apply pw_below_drewN | apply below_drew1 | refine below_set ?_ GE219.out | refine below_set ?_ GE234.out) | exact HB.out))) : w.heap.size ≤ gb249)); have n12_ := Aside0.mk ((by rw [hg]; exact Nat.ne_of_lt (blk_lt (g := gb219) (o := .cells #[.bool t214, .slice Ao27 t215.length co27] 24 (0, 0)) (by (with_reducible repeat (first | refine blk_drewN ?_ _ | refine blk_drew ?_ | refine blk_alloc ?_ _)); exact BK219.out)) : gb219 ≠ gb249)); have n13_ := Aside0.mk ((by rw [hg]; exact Nat.ne_of_gt (blk_lt (g := gb219) (o := .cells #[.bool t214, .slice Ao27 t215.length co27] 24 (0, 0)) (by (with_reducible repeat (first | refine blk_drewN ?_ _ | refine blk_drew ?_ | refine blk_alloc ?_ _)); exact BK219.out)) : gb249 ≠ gb219)); have n14_ := Aside0.mk ((by rw [hg]; exact Nat.ne_of_lt (blk_lt (g := gb234) (o := .cells #[.bool t229, .slice Ao41 t230.length co41] 24 (0, 0)) (by (with_reducible repeat (first | refine blk_drewN ?_ _ | refine blk_drew ?_ | refine blk_alloc ?_ _)); exact BK234.out)) : gb234 ≠ gb249)); have n15_ := Aside0.mk ((by rw [hg]; exact Nat.ne_of_gt (blk_lt (g := gb234) (o := .cells #[.bool t229, .slice Ao41 t230.length co41] 24 (0, 0)) (by (with_reducible repeat (first | refine blk_drewN ?_ _ | refine blk_drew ?_ | refine blk_alloc ?_ _)); exact BK234.out)) : gb249 ≠ gb234)); clear HO213; clear HO217; clear HO228; clear HO232; clear HO243; clear HO247; clear BK219; clear BK234; clear HB; have HO213 := n0_; have HO217 := n1_; have HO228 := n2_; have HO232 := n3_; have HO243 := n4_; have HO247 := n5_; have BK219 := n6_; have BK234 := n7_; have HB := n8_; have BK249 := n9_; have GW249 := n10_; have GE249 := n11_; have NB219_249 := n12_; have NB249_219 := n13_; have NB234_249 := n14_; have NB249_234 := n15_; clear n0_ n1_ n2_ n3_ n4_ n5_ n6_ n7_ n8_ n9_ n10_ n11_ n12_ n13_ n14_ n15_; clear hb hbox hg; have hnb53 := NB249_219.out; have hnc53 := NB219_249.out; have hnb54 := NB249_234.out; have hnc54 := NB234_249.out; have hcz55_0 : w52.cell? ⟨gb249, 0, none⟩ = some (.bool false) := (blk_cell BK249.out 0).trans rfl; have hcz55_1 : w52.cell? ⟨gb249, 1, none⟩ = some (.slice none 0 0) := (blk_cell BK249.out 1).trans rfl; have hfz55_0 := blk_frozen BK249.out 0; have hfz55_1 := blk_frozen BK249.out 1; obtain ⟨Ao56, co56, eo56⟩ := Kd.V_slice HO247.out; subst eo56))
            have n0_ : Aside0 (Kd.N (Kd.slice 3 (Kd.int .i64)) 28 ((w52.setCell ⟨gb249, 0, none⟩ (.bool t244)).setCell ⟨gb249, 1, none⟩ (.slice Ao56 t245.length co56)) w.heap.size (fun k_ => some k_ ≠ (.slice Ao36 y226.length co36 : Value).ownBlock ∧ some k_ ≠ (.slice Ao50 y241.length co50 : Value).ownBlock ∧ k_ ≠ gb219 ∧ k_ ≠ gb234 ∧ k_ ≠ gb249) (.slice Ao23 y211.length co23) y211) := ⟨by (with_reducible repeat (first | apply Kd.N_alloc | apply Kd.N_drewN | apply Kd.N_drew)); exact Kd.N_mono (Kd.N_far (p := ⟨gb249, 1, none⟩) (Kd.N_far (p := ⟨gb249, 0, none⟩) (Kd.N_mono HO213.out (fun k_ hk => (⟨hk, hk.2⟩ : _ ∧ k_ ≠ gb249))) (fun _ hk => hk.2) (.bool t244)) (fun _ hk => hk.2) (.slice Ao56 t245.length co56)) (fun _ hk => ⟨hk.1.1.1.1.1.1.2, ⟨hk.1.1.2, ⟨hk.1.1.1.1.1.1.1.1.1.2, ⟨hk.1.1.1.1.1.2, hk.1.2⟩⟩⟩⟩)⟩
            have n1_ : Aside0 (Kd.V (Kd.int .u32) 98 ((w52.setCell ⟨gb249, 0, none⟩ (.bool t244)).setCell ⟨gb249, 1, none⟩ (.slice Ao56 t245.length co56)) w.heap.size (fun k_ => some k_ ≠ (.slice Ao23 y211.length co23 : Value).ownBlock ∧ some k_ ≠ (.slice Ao36 y226.length co36 : Value).ownBlock ∧ some k_ ≠ (.slice Ao50 y241.length co50 : Value).ownBlock ∧ k_ ≠ gb219 ∧ k_ ≠ gb234 ∧ k_ ≠ gb249) (.slice Ao27 t215.length co27) t215) := ⟨by (with_reducible repeat (first | apply Kd.V_alloc | apply Kd.V_drewN | apply Kd.V_drew)); exact Kd.V_mono (Kd.V_far (p := ⟨gb249, 1, none⟩) (Kd.V_far (p := ⟨gb249, 0, none⟩) (Kd.V_mono HO217.out (fun k_ hk => (⟨hk, hk.2⟩ : _ ∧ k_ ≠ gb249))) (fun _ hk => hk.2) (.bool t244)) (fun _ hk => hk.2) (.slice Ao56 t245.length co56)) (fun _ hk => ⟨hk.1.1.1.1.1.1.1.1.1.1, ⟨hk.1.1.1.1.1.1.2, ⟨hk.1.1.2, ⟨hk.1.1.1.1.1.1.1.1.1.2, ⟨hk.1.1.1.1.1.2, hk.1.2⟩⟩⟩⟩⟩)⟩
            have n2_ : Aside0 (Kd.N (Kd.slice 3 (Kd.int .i64)) 28 ((w52.setCell ⟨gb249, 0, none⟩ (.bool t244)).setCell ⟨gb249, 1, none⟩ (.slice Ao56 t245.length co56)) w.heap.size (fun k_ => some k_ ≠ (.slice Ao23 y211.length co23 : Value).ownBlock ∧ some k_ ≠ (.slice Ao50 y241.length co50 : Value).ownBlock ∧ k_ ≠ gb219 ∧ k_ ≠ gb234 ∧ k_ ≠ gb249) (.slice Ao36 y226.length co36) y226) := ⟨by (with_reducible repeat (first | apply Kd.N_alloc | apply Kd.N_drewN | apply Kd.N_drew)); exact Kd.N_mono (Kd.N_far (p := ⟨gb249, 1, none⟩) (Kd.N_far (p := ⟨gb249, 0, none⟩) (Kd.N_mono HO228.out (fun k_ hk => (⟨hk, hk.2⟩ : _ ∧ k_ ≠ gb249))) (fun _ hk => hk.2) (.bool t244)) (fun _ hk => hk.2) (.slice Ao56 t245.length co56)) (fun _ hk => ⟨hk.1.1.1.1.1.1.1, ⟨hk.1.1.2, ⟨hk.1.1.1.1.1.1.2, ⟨hk.1.1.1.1.1.2, hk.1.2⟩⟩⟩⟩)⟩
            have n3_ : Aside0 (Kd.V (Kd.int .u32) 98 ((w52.setCell ⟨gb249, 0, none⟩ (.bool t244)).setCell ⟨gb249, 1, none⟩ (.slice Ao56 t245.length co56)) w.heap.size (fun k_ => some k_ ≠ (.slice Ao23 y211.length co23 : Value).ownBlock ∧ some k_ ≠ (.slice Ao36 y226.length co36 : Value).ownBlock ∧ some k_ ≠ (.slice Ao50 y241.length co50 : Value).ownBlock ∧ k_ ≠ gb219 ∧ k_ ≠ gb234 ∧ k_ ≠ gb249) (.slice Ao41 t230.length co41) t230) := ⟨by (with_reducible repeat (first | apply Kd.V_alloc | apply Kd.V_drewN | apply Kd.V_drew)); exact Kd.V_mono (Kd.V_far (p := ⟨gb249, 1, none⟩) (Kd.V_far (p := ⟨gb249, 0, none⟩) (Kd.V_mono HO232.out (fun k_ hk => (⟨hk, hk.2⟩ : _ ∧ k_ ≠ gb249))) (fun _ hk => hk.2) (.bool t244)) (fun _ hk => hk.2) (.slice Ao56 t245.length co56)) (fun _ hk => ⟨hk.1.1.1.1.1.1.1, ⟨hk.1.1.1.1.1.1.2.1, ⟨hk.1.1.2, ⟨hk.1.1.1.1.1.1.2.2, ⟨hk.1.1.1.1.1.2, hk.1.2⟩⟩⟩⟩⟩)⟩
            have n4_ : Aside0 (Kd.N (Kd.slice 3 (Kd.int .i64)) 28 ((w52.setCell ⟨gb249, 0, none⟩ (.bool t244)).setCell ⟨gb249, 1, none⟩ (.slice Ao56 t245.length co56)) w.heap.size (fun k_ => some k_ ≠ (.slice Ao23 y211.length co23 : Value).ownBlock ∧ some k_ ≠ (.slice Ao36 y226.length co36 : Value).ownBlock ∧ k_ ≠ gb219 ∧ k_ ≠ gb234 ∧ k_ ≠ gb249) (.slice Ao50 y241.length co50) y241) := ⟨by (with_reducible repeat (first | apply Kd.N_alloc | apply Kd.N_drewN | apply Kd.N_drew)); exact Kd.N_mono (Kd.N_far (p := ⟨gb249, 1, none⟩) (Kd.N_far (p := ⟨gb249, 0, none⟩) (Kd.N_mono HO243.out (fun k_ hk => (⟨hk, hk.2⟩ : _ ∧ k_ ≠ gb249))) (fun _ hk => hk.2) (.bool t244)) (fun _ hk => hk.2) (.slice Ao56 t245.length co56)) (fun _ hk => ⟨hk.1.1.1, ⟨hk.1.1.2.1, ⟨hk.1.1.2.2.1, ⟨hk.1.1.2.2.2, hk.1.2⟩⟩⟩⟩)⟩
            have n5_ : Aside0 (Kd.V (Kd.int .u32) 98 ((w52.setCell ⟨gb249, 0, none⟩ (.bool t244)).setCell ⟨gb249, 1, none⟩ (.slice Ao56 t245.length co56)) w.heap.size (fun k_ => some k_ ≠ (.slice Ao23 y211.length co23 : Value).ownBlock ∧ some k_ ≠ (.slice Ao36 y226.length co36 : Value).ownBlock ∧ some k_ ≠ (.slice Ao50 y241.length co50 : Value).ownBlock ∧ k_ ≠ gb219 ∧ k_ ≠ gb234 ∧ k_ ≠ gb249) (.slice Ao56 t245.length co56) t245) := ⟨by (with_reducible repeat (first | apply Kd.V_alloc | apply Kd.V_drewN | apply Kd.V_drew)); exact Kd.V_mono (Kd.V_far (p := ⟨gb249, 1, none⟩) (Kd.V_far (p := ⟨gb249, 0, none⟩) (Kd.V_mono HO247.out (fun k_ hk => (⟨hk, hk.2⟩ : _ ∧ k_ ≠ gb249))) (fun _ hk => hk.2) (.bool t244)) (fun _ hk => hk.2) (.slice Ao56 t245.length co56)) (fun _ hk => ⟨hk.1.1.1, ⟨hk.1.1.2.1, ⟨hk.1.1.2.2.1, ⟨hk.1.1.2.2.2.1, ⟨hk.1.1.2.2.2.2, hk.1.2⟩⟩⟩⟩⟩)⟩
            have n6_ : Aside0 (((w52.setCell ⟨gb249, 0, none⟩ (.bool t244)).setCell ⟨gb249, 1, none⟩ (.slice Ao56 t245.length co56)).heap[gb219]? = some (.cells #[.bool t214, .slice Ao27 t215.length co27] 24 (0, 0))) := ⟨by (with_reducible repeat (first | refine blk_drewN ?_ _ | refine blk_drew ?_ | refine blk_alloc ?_ _)); refine blk_far ?_ NB219_249.out _; (with_reducible repeat (first | refine blk_drewN ?_ _ | refine blk_drew ?_ | refine blk_alloc ?_ _)); refine blk_far ?_ NB219_249.out _; (with_reducible repeat (first | refine blk_drewN ?_ _ | refine blk_drew ?_ | refine blk_alloc ?_ _)); exact BK219.out⟩
            have n7_ : Aside0 (((w52.setCell ⟨gb249, 0, none⟩ (.bool t244)).setCell ⟨gb249, 1, none⟩ (.slice Ao56 t245.length co56)).heap[gb234]? = some (.cells #[.bool t229, .slice Ao41 t230.length co41] 24 (0, 0))) := ⟨by (with_reducible repeat (first | refine blk_drewN ?_ _ | refine blk_drew ?_ | refine blk_alloc ?_ _)); refine blk_far ?_ NB234_249.out _; (with_reducible repeat (first | refine blk_drewN ?_ _ | refine blk_drew ?_ | refine blk_alloc ?_ _)); refine blk_far ?_ NB234_249.out _; (with_reducible repeat (first | refine blk_drewN ?_ _ | refine blk_drew ?_ | refine blk_alloc ?_ _)); exact BK234.out⟩
            have n8_ : Aside0 (((w52.setCell ⟨gb249, 0, none⟩ (.bool t244)).setCell ⟨gb249, 1, none⟩ (.slice Ao56 t245.length co56)).heap[gb249]? = some (.cells #[.bool t244, .slice Ao56 t245.length co56] 24 (0, 0))) := ⟨by (with_reducible repeat (first | refine blk_drewN ?_ _ | refine blk_drew ?_ | refine blk_alloc ?_ _)); refine blk_put (cs := #[.bool t244, .slice none 0 0]) ?_ 1 _ rfl; (with_reducible repeat (first | refine blk_drewN ?_ _ | refine blk_drew ?_ | refine blk_alloc ?_ _)); refine blk_put (cs := #[.bool false, .slice none 0 0]) ?_ 0 _ rfl; (with_reducible repeat (first | refine blk_drewN ?_ _ | refine blk_drew ?_ | refine blk_alloc ?_ _)); exact BK249.out⟩
            have n9_ : Aside0 (Below w.heap.size w ((w52.setCell ⟨gb249, 0, none⟩ (.bool t244)).setCell ⟨gb249, 1, none⟩ (.slice Ao56 t245.length co56))) := ⟨by repeat (first | (with_reducible first | exact HB.out | apply below_alloc | apply pw_below_drewN | apply below_drew1 | refine below_set ?_ GE219.out | refine below_set ?_ GE234.out | refine below_set ?_ GE249.out) | exact HB.out)⟩
            (try clear HO213)
            (try clear HO217)
            (try clear HO228)
            (try clear HO232)
            (try clear HO243)
            (try clear HO247)
            (try clear BK219)
            (try clear BK234)
            (try clear BK249)
            (try clear HB)
            generalize ((w52.setCell ⟨gb249, 0, none⟩ (.bool t244)).setCell ⟨gb249, 1, none⟩ (.slice Ao56 t245.length co56)) = w57 at n0_ n1_ n2_ n3_ n4_ n5_ n6_ n7_ n8_ n9_ ⊢
            have HO213 := n0_
            have HO217 := n1_
            have HO228 := n2_
            have HO232 := n3_
            have HO243 := n4_
            have HO247 := n5_
            have BK219 := n6_
            have BK234 := n7_
            have BK249 := n8_
            have HB := n9_
            clear n0_ n1_ n2_ n3_ n4_ n5_ n6_ n7_ n8_ n9_
            have n0_ := Aside0.mk (Kd.N_drew HO213.out)
            have n1_ := Aside0.mk (Kd.V_drew HO217.out)
            have n2_ := Aside0.mk (Kd.N_drew HO228.out)
            have n3_ := Aside0.mk (Kd.V_drew HO232.out)
            have n4_ := Aside0.mk (Kd.N_drew HO243.out)
            have n5_ := Aside0.mk (Kd.V_drew HO247.out)
            have n6_ := Aside0.mk (blk_drew BK219.out)
            have n7_ := Aside0.mk (blk_drew BK234.out)
            have n8_ := Aside0.mk (blk_drew BK249.out)
            have n9_ := Aside0.mk (below_drew1 HB.out)
            clear HO213
            clear HO217
            clear HO228
            clear HO232
            clear HO243
            clear HO247
            clear BK219
            clear BK234
            clear BK249
            clear HB
            have HO213 := n0_
            have HO217 := n1_
            have HO228 := n2_
            have HO232 := n3_
            have HO243 := n4_
            have HO247 := n5_
            have BK219 := n6_
            have BK234 := n7_
            have BK249 := n8_
            have HB := n9_
            clear n0_ n1_ n2_ n3_ n4_ n5_ n6_ n7_ n8_ n9_
            refine start_ (n := 26) (S := fun w' => w'.cell? ⟨gb219, 0, none⟩ = some (.bool t214) ∧ w'.cell? ⟨gb219, 1, none⟩ = some (.slice Ao27 t215.length co27) ∧ w'.cell? ⟨gb234, 0, none⟩ = some (.bool t229) ∧ w'.cell? ⟨gb234, 1, none⟩ = some (.slice Ao41 t230.length co41) ∧ w'.cell? ⟨gb249, 0, none⟩ = some (.bool t244) ∧ w'.cell? ⟨gb249, 1, none⟩ = some (.slice Ao56 t245.length co56)) (ds := []) #[false, false, false, false, false, false, false, false, false, false, false, false, false, false, false, false, false, false, false, false, false, false, false, false, false, false] (by kernel_rfl) rfl rfl ⟨(blk_cell BK219.out 0).trans rfl, (blk_cell BK219.out 1).trans rfl, (blk_cell BK234.out 0).trans rfl, (blk_cell BK234.out 1).trans rfl, (blk_cell BK249.out 0).trans rfl, (blk_cell BK249.out 1).trans rfl⟩ (fun hHeld => ?_); refine with_tabW quadformlaw17_StabchainSymmetric.tab4 quadformlaw17_StabchainSymmetric.bits4 (fun HT_ HW_ => ?_)
            generalize w57.drew = w58 at HO213 HO217 HO228 HO232 HO243 HO247 BK219 BK234 BK249 HB hHeld ⊢
            refine pure_ (i := 0) (N := some 28) (v := ?_) (a' := ?_) #[true, false, false, false, false, false, false, false, false, false, false, false, false, false, false, false, false, false, false, false, false, false, false, false, false, false] rfl rfl (any_of HT_.out (by kernel_rfl)) (fun _ _ _ h => h) (Or.inl ⟨by rfl, ?_⟩) ?_ ?_
            rotate_left
            · intro w'
              go_simp
              with_reducible rfl
            rotate_left
            · simp only [Act.put, List.setIfInBounds_toArray, List.set_cons_zero, List.set_cons_succ, i64_w, i32_w]
              rfl
            refine pure_ (i := 1) (N := some 29) (v := ?_) (a' := ?_) #[true, true, false, false, false, false, false, false, false, false, false, false, false, false, false, false, false, false, false, false, false, false, false, false, false, false] rfl rfl (any_of HT_.out (by kernel_rfl)) (fun _ _ _ h => h) (Or.inl ⟨by rfl, ?_⟩) ?_ ?_
            rotate_left
            · intro w'
              go_simp
              with_reducible rfl
            rotate_left
            · simp only [Act.put, List.setIfInBounds_toArray, List.set_cons_zero, List.set_cons_succ, i64_w, i32_w]
              rfl
            refine pure_ (i := 2) (N := some 30) (v := ?_) (a' := ?_) #[true, true, true, false, false, false, false, false, false, false, false, false, false, false, false, false, false, false, false, false, false, false, false, false, false, false] rfl rfl (any_of HT_.out (by kernel_rfl)) (fun _ _ _ h => h) (Or.inl ⟨by rfl, ?_⟩) ?_ ?_
            rotate_left
            · intro w'
              go_simp
              with_reducible rfl
            rotate_left
            · simp only [Act.put, List.setIfInBounds_toArray, List.set_cons_zero, List.set_cons_succ, i64_w, i32_w]
              rfl
            refine pure_ (i := 3) (N := some 31) (v := ?_) (a' := ?_) #[true, true, true, true, false, false, false, false, false, false, false, false, false, false, false, false, false, false, false, false, false, false, false, false, false, false] rfl rfl (any_of HT_.out (by kernel_rfl)) (fun _ _ _ h => h) (Or.inl ⟨by rfl, ?_⟩) ?_ ?_
            rotate_left
            · intro w'
              go_simp
              with_reducible rfl
            rotate_left
            · simp only [Act.put, List.setIfInBounds_toArray, List.set_cons_zero, List.set_cons_succ, i64_w, i32_w]
              rfl
            refine pure_ (i := 4) (N := some 32) (v := ?_) (a' := ?_) #[true, true, true, true, true, false, false, false, false, false, false, false, false, false, false, false, false, false, false, false, false, false, false, false, false, false] rfl rfl (any_of HT_.out (by kernel_rfl)) (fun _ _ _ h => h) (Or.inl ⟨by rfl, ?_⟩) ?_ ?_
            rotate_left
            · intro w'
              go_simp
              with_reducible rfl
            rotate_left
            · simp only [Act.put, List.setIfInBounds_toArray, List.set_cons_zero, List.set_cons_succ, i64_w, i32_w]
              rfl
            refine pure_ (i := 5) (N := some 33) (v := ?_) (a' := ?_) #[true, true, true, true, true, true, false, false, false, false, false, false, false, false, false, false, false, false, false, false, false, false, false, false, false, false] rfl rfl (any_of HT_.out (by kernel_rfl)) (fun _ _ _ h => h) (Or.inl ⟨by rfl, ?_⟩) ?_ ?_
            rotate_left
            · intro w'
              go_simp
              with_reducible rfl
            rotate_left
            · simp only [Act.put, List.setIfInBounds_toArray, List.set_cons_zero, List.set_cons_succ, i64_w, i32_w]
              rfl
            refine pure_ (i := 6) (N := some 34) (v := ?_) (a' := ?_) #[true, true, true, true, true, true, true, false, false, false, false, false, false, false, false, false, false, false, false, false, false, false, false, false, false, false] rfl rfl (any_of HT_.out (by kernel_rfl)) (fun _ _ _ h => h) (Or.inl ⟨by rfl, ?_⟩) ?_ ?_
            rotate_left
            · intro w'
              go_simp
              with_reducible rfl
            rotate_left
            · simp only [Act.put, List.setIfInBounds_toArray, List.set_cons_zero, List.set_cons_succ, i64_w, i32_w]
              rfl
            refine pure_ (i := 7) (N := some 35) (v := ?_) (a' := ?_) #[true, true, true, true, true, true, true, true, false, false, false, false, false, false, false, false, false, false, false, false, false, false, false, false, false, false] rfl rfl (any_of HT_.out (by kernel_rfl)) (fun _ _ _ h => h) (Or.inl ⟨by rfl, ?_⟩) ?_ ?_
            rotate_left
            · intro w'
              go_simp
              with_reducible rfl
            rotate_left
            · simp only [Act.put, List.setIfInBounds_toArray, List.set_cons_zero, List.set_cons_succ, i64_w, i32_w]
              rfl
            refine pure_ (i := 8) (N := some 36) (v := ?_) (a' := ?_) #[true, true, true, true, true, true, true, true, true, false, false, false, false, false, false, false, false, false, false, false, false, false, false, false, false, false] rfl rfl (any_of HT_.out (by kernel_rfl)) (fun _ _ _ h => h) (Or.inl ⟨by rfl, ?_⟩) ?_ ?_
            rotate_left
            · intro w'
              go_simp
              with_reducible rfl
            rotate_left
            · simp only [Act.put, List.setIfInBounds_toArray, List.set_cons_zero, List.set_cons_succ, i64_w, i32_w]
              rfl
            refine pure_ (i := 9) (N := some 37) (v := ?_) (a' := ?_) #[true, true, true, true, true, true, true, true, true, true, false, false, false, false, false, false, false, false, false, false, false, false, false, false, false, false] rfl rfl (any_of HT_.out (by kernel_rfl)) (fun _ _ _ h => h) (Or.inl ⟨by rfl, ?_⟩) ?_ ?_
            rotate_left
            · intro w'
              go_simp
              with_reducible rfl
            rotate_left
            · simp only [Act.put, List.setIfInBounds_toArray, List.set_cons_zero, List.set_cons_succ, i64_w, i32_w]
              rfl
            refine pure_ (i := 10) (N := some 38) (v := ?_) (a' := ?_) #[true, true, true, true, true, true, true, true, true, true, true, false, false, false, false, false, false, false, false, false, false, false, false, false, false, false] rfl rfl (any_of HT_.out (by kernel_rfl)) (fun _ _ _ h => h) (Or.inl ⟨by rfl, ?_⟩) ?_ ?_
            rotate_left
            · intro w'
              go_simp
              with_reducible rfl
            rotate_left
            · simp only [Act.put, List.setIfInBounds_toArray, List.set_cons_zero, List.set_cons_succ, i64_w, i32_w]
              rfl
            refine take_ (i := 11) (N := some 39) (v := ?_) (a' := ?_) #[true, true, true, true, true, true, true, true, true, true, true, true, false, false, false, false, false, false, false, false, false, false, false, false, false, false] rfl rfl (take_ofW HT_.out HW_.out (by kernel_rfl)) (fun _ _ _ h => h) (Or.inl ⟨by rfl, ?_⟩) hHeld ?_ ?_
            rotate_left
            · rintro w' ⟨s0, s1, s2, s3, s4, s5⟩
              go_simp
              with_reducible rfl
            rotate_left
            · simp only [Act.put, List.setIfInBounds_toArray, List.set_cons_zero, List.set_cons_succ, i64_w, i32_w]
              rfl
            refine one_ (i := 12) (N := some 40) #[true, true, true, true, true, true, true, true, true, true, true, true, true, false, false, false, false, false, false, false, false, false, false, false, false, false] rfl rfl (one_of HT_.out (by kernel_rfl)) (by decide) (fun K hK => ?_)
            refine goes_ Try.func17 (by kernel_rfl) rfl #[.int .i64 40320] (by rfl) rfl rfl (by (try simp only [List.map_toArray, List.map_cons, List.map_nil]); first | done | rfl | (simp only [List.length_drop, List.length_take]; rfl)) ?_
            with_reducible refine (quadformref01_Small.calls 40320 t250 t251 _ A7.out).mono ?_
            rintro e w59 ⟨v252, rfl, ho0, hb⟩
            refine ⟨_, rfl, ?_⟩
            have n0_ := Aside0.mk (Kd.N_elder' (by (with_reducible repeat (first | apply Kd.N_alloc | apply Kd.N_drewN | apply Kd.N_drew)); exact HO213.out) (Kd.R_base ho0) hb)
            have n1_ := Aside0.mk (Kd.V_elder' (by (with_reducible repeat (first | apply Kd.V_alloc | apply Kd.V_drewN | apply Kd.V_drew)); exact HO217.out) (Kd.R_base ho0) hb)
            have n2_ := Aside0.mk (Kd.N_elder' (by (with_reducible repeat (first | apply Kd.N_alloc | apply Kd.N_drewN | apply Kd.N_drew)); exact HO228.out) (Kd.R_base ho0) hb)
            have n3_ := Aside0.mk (Kd.V_elder' (by (with_reducible repeat (first | apply Kd.V_alloc | apply Kd.V_drewN | apply Kd.V_drew)); exact HO232.out) (Kd.R_base ho0) hb)
            have n4_ := Aside0.mk (Kd.N_elder' (by (with_reducible repeat (first | apply Kd.N_alloc | apply Kd.N_drewN | apply Kd.N_drew)); exact HO243.out) (Kd.R_base ho0) hb)
            have n5_ := Aside0.mk (Kd.V_elder' (by (with_reducible repeat (first | apply Kd.V_alloc | apply Kd.V_drewN | apply Kd.V_drew)); exact HO247.out) (Kd.R_base ho0) hb)
            have n6_ := Aside0.mk (Kd.R_lower ho0 (below_size (by repeat (first | (with_reducible first | exact HB.out | apply below_alloc | apply pw_below_drewN | apply below_drew1 | refine below_set ?_ GE219.out | refine below_set ?_ GE234.out | refine below_set ?_ GE249.out) | exact HB.out))))
            have n7_ := Aside0.mk (blk_below (g := gb219) (o := .cells #[.bool t214, .slice Ao27 t215.length co27] 24 (0, 0)) (by (with_reducible repeat (first | refine blk_drewN ?_ _ | refine blk_drew ?_ | refine blk_alloc ?_ _)); exact BK219.out) hb)
            have n8_ := Aside0.mk (blk_below (g := gb234) (o := .cells #[.bool t229, .slice Ao41 t230.length co41] 24 (0, 0)) (by (with_reducible repeat (first | refine blk_drewN ?_ _ | refine blk_drew ?_ | refine blk_alloc ?_ _)); exact BK234.out) hb)
            have n9_ := Aside0.mk (blk_below (g := gb249) (o := .cells #[.bool t244, .slice Ao56 t245.length co56] 24 (0, 0)) (by (with_reducible repeat (first | refine blk_drewN ?_ _ | refine blk_drew ?_ | refine blk_alloc ?_ _)); exact BK249.out) hb)
            have n10_ := Aside0.mk (below_step (by repeat (first | (with_reducible first | exact HB.out | apply below_alloc | apply pw_below_drewN | apply below_drew1 | refine below_set ?_ GE219.out | refine below_set ?_ GE234.out | refine below_set ?_ GE249.out) | exact HB.out)) hb)
            clear HO213
            clear HO217
            clear HO228
            clear HO232
            clear HO243
            clear HO247
            clear BK219
            clear BK234
            clear BK249
            clear HB
            have HO213 := n0_
            have HO217 := n1_
            have HO228 := n2_
            have HO232 := n3_
            have HO243 := n4_
            have HO247 := n5_
            have HO253 := n6_
            have BK219 := n7_
            have BK234 := n8_
            have BK249 := n9_
            have HB := n10_
            clear n0_ n1_ n2_ n3_ n4_ n5_ n6_ n7_ n8_ n9_ n10_
            (try clear hb)
            (try clear hb2)
            (try clear hk)
            (try clear hi)
            (try clear ho0)
            obtain ⟨Ao60, co60, eo60⟩ := Kd.R_slice HO253.out
            (first | subst eo60 | (injection eo60 with f1_ f2_ f3_; have f4_ := f1_.symm; have f5_ := f3_.symm; clear f1_ f2_ f3_; subst f4_; subst f5_))
            refine hK.out _ _ ⟨(blk_cell BK219.out 0).trans rfl, (blk_cell BK219.out 1).trans rfl, (blk_cell BK234.out 0).trans rfl, (blk_cell BK234.out 1).trans rfl, (blk_cell BK249.out 0).trans rfl, (blk_cell BK249.out 1).trans rfl⟩ (fun hHeld => ?_)
            clear hK K
            refine norm_ (a' := ?_) ?_ ?_
            rotate_left
            · show Act.put _ (some 40) _ = _
              simp only [Act.put, List.setIfInBounds_toArray, List.set_cons_zero, List.set_cons_succ, i64_w, i32_w]
              rfl
            refine one_ (i := 13) (N := some 41) #[true, true, true, true, true, true, true, true, true, true, true, true, true, true, false, false, false, false, false, false, false, false, false, false, false, false] rfl rfl (one_of HT_.out (by kernel_rfl)) (by decide) (fun K hK => ?_)
            refine goes_ Try.func16 (by kernel_rfl) rfl #[.agg #[.bool t214, .slice Ao27 t215.length co27], .agg #[.bool t250, .slice Ao60 t251.length co60]] (by rfl) rfl rfl (by (try simp only [List.map_toArray, List.map_cons, List.map_nil]); first | done | rfl | (simp only [List.length_drop, List.length_take]; rfl)) ?_
            with_reducible refine (quadformref01_Same.calls k t214 _ _ t215 t250 _ _ t251 true _ ?side1 ?side2 ?side3 ?side4 A8.out).mono ?_
            (case side1 => repeat (first | exact (Kd.V_reads' HO217.out).2.2 | (with_reducible refine Kd.C_alloc ?_ _) | (with_reducible refine Kd.C_drewN ?_ _) | (with_reducible refine Kd.C_drew ?_)))
            (case side2 => exact (Kd.V_reads' HO217.out).2.1)
            (case side3 => repeat (first | exact (Kd.R_reads' HO253.out).2.2 | (with_reducible refine Kd.C_alloc ?_ _) | (with_reducible refine Kd.C_drewN ?_ _) | (with_reducible refine Kd.C_drew ?_)))
            (case side4 => exact (Kd.R_reads' HO253.out).2.1)
            rintro e w61 ⟨rfl, hb⟩
            refine ⟨_, rfl, ?_⟩
            have n0_ := Aside0.mk (Kd.N_below (by (with_reducible repeat (first | apply Kd.N_alloc | apply Kd.N_drewN | apply Kd.N_drew)); exact HO213.out) hb)
            have n1_ := Aside0.mk (Kd.V_below (by (with_reducible repeat (first | apply Kd.V_alloc | apply Kd.V_drewN | apply Kd.V_drew)); exact HO217.out) hb)
            have n2_ := Aside0.mk (Kd.N_below (by (with_reducible repeat (first | apply Kd.N_alloc | apply Kd.N_drewN | apply Kd.N_drew)); exact HO228.out) hb)
            have n3_ := Aside0.mk (Kd.V_below (by (with_reducible repeat (first | apply Kd.V_alloc | apply Kd.V_drewN | apply Kd.V_drew)); exact HO232.out) hb)
            have n4_ := Aside0.mk (Kd.N_below (by (with_reducible repeat (first | apply Kd.N_alloc | apply Kd.N_drewN | apply Kd.N_drew)); exact HO243.out) hb)
            have n5_ := Aside0.mk (Kd.V_below (by (with_reducible repeat (first | apply Kd.V_alloc | apply Kd.V_drewN | apply Kd.V_drew)); exact HO247.out) hb)
            have n6_ := Aside0.mk (Kd.R_below (by (with_reducible repeat (first | apply Kd.R_alloc | apply Kd.R_drewN | apply Kd.R_drew)); exact HO253.out) hb)
            have n7_ := Aside0.mk (blk_below (g := gb219) (o := .cells #[.bool t214, .slice Ao27 t215.length co27] 24 (0, 0)) (by (with_reducible repeat (first | refine blk_drewN ?_ _ | refine blk_drew ?_ | refine blk_alloc ?_ _)); exact BK219.out) hb)
            have n8_ := Aside0.mk (blk_below (g := gb234) (o := .cells #[.bool t229, .slice Ao41 t230.length co41] 24 (0, 0)) (by (with_reducible repeat (first | refine blk_drewN ?_ _ | refine blk_drew ?_ | refine blk_alloc ?_ _)); exact BK234.out) hb)
            have n9_ := Aside0.mk (blk_below (g := gb249) (o := .cells #[.bool t244, .slice Ao56 t245.length co56] 24 (0, 0)) (by (with_reducible repeat (first | refine blk_drewN ?_ _ | refine blk_drew ?_ | refine blk_alloc ?_ _)); exact BK249.out) hb)
            have n10_ := Aside0.mk (below_step (by repeat (first | (with_reducible first | exact HB.out | apply below_alloc | apply pw_below_drewN | apply below_drew1 | refine below_set ?_ GE219.out | refine below_set ?_ GE234.out | refine below_set ?_ GE249.out) | exact HB.out)) hb)
            clear HO213
            clear HO217
            clear HO228
            clear HO232
            clear HO243
            clear HO247
            clear HO253
            clear BK219
            clear BK234
            clear BK249
            clear HB
            have HO213 := n0_
            have HO217 := n1_
            have HO228 := n2_
            have HO232 := n3_
            have HO243 := n4_
            have HO247 := n5_
            have HO253 := n6_
            have BK219 := n7_
            have BK234 := n8_
            have BK249 := n9_
            have HB := n10_
            clear n0_ n1_ n2_ n3_ n4_ n5_ n6_ n7_ n8_ n9_ n10_
            (try clear hb)
            (try clear hb2)
            (try clear hk)
            (try clear hi)
            refine hK.out _ _ ⟨(blk_cell BK219.out 0).trans rfl, (blk_cell BK219.out 1).trans rfl, (blk_cell BK234.out 0).trans rfl, (blk_cell BK234.out 1).trans rfl, (blk_cell BK249.out 0).trans rfl, (blk_cell BK249.out 1).trans rfl⟩ (fun hHeld => ?_)
            clear hK K
            refine norm_ (a' := ?_) ?_ ?_
            rotate_left
            · show Act.put _ (some 41) _ = _
              simp only [Act.put, List.setIfInBounds_toArray, List.set_cons_zero, List.set_cons_succ, i64_w, i32_w]
              rfl
            refine pure_ (i := 14) (N := some 42) (v := ?_) (a' := ?_) #[true, true, true, true, true, true, true, true, true, true, true, true, true, true, true, false, false, false, false, false, false, false, false, false, false, false] rfl rfl (any_of HT_.out (by kernel_rfl)) (fun _ _ _ h => h) (Or.inl ⟨by rfl, ?_⟩) ?_ ?_
            rotate_left
            · intro w'
              go_simp
              with_reducible rfl
            rotate_left
            · simp only [Act.put, List.setIfInBounds_toArray, List.set_cons_zero, List.set_cons_succ, i64_w, i32_w]
              rfl
            refine pure_ (i := 15) (N := some 43) (v := ?_) (a' := ?_) #[true, true, true, true, true, true, true, true, true, true, true, true, true, true, true, true, false, false, false, false, false, false, false, false, false, false] rfl rfl (any_of HT_.out (by kernel_rfl)) (fun _ _ _ h => h) (Or.inl ⟨by rfl, ?_⟩) ?_ ?_
            rotate_left
            · intro w'
              go_simp
              with_reducible rfl
            rotate_left
            · simp only [Act.put, List.setIfInBounds_toArray, List.set_cons_zero, List.set_cons_succ, i64_w, i32_w]
              rfl
            refine take_ (i := 16) (N := some 44) (v := ?_) (a' := ?_) #[true, true, true, true, true, true, true, true, true, true, true, true, true, true, true, true, true, false, false, false, false, false, false, false, false, false] rfl rfl (take_ofW HT_.out HW_.out (by kernel_rfl)) (fun _ _ _ h => h) (Or.inl ⟨by rfl, ?_⟩) hHeld ?_ ?_
            rotate_left
            · rintro w' ⟨s0, s1, s2, s3, s4, s5⟩
              go_simp
              with_reducible rfl
            rotate_left
            · simp only [Act.put, List.setIfInBounds_toArray, List.set_cons_zero, List.set_cons_succ, i64_w, i32_w]
              rfl
            refine one_ (i := 17) (N := some 45) #[true, true, true, true, true, true, true, true, true, true, true, true, true, true, true, true, true, true, false, false, false, false, false, false, false, false] rfl rfl (one_of HT_.out (by kernel_rfl)) (by decide) (fun K hK => ?_)
            refine goes_ Try.func17 (by kernel_rfl) rfl #[.int .i64 60] (by rfl) rfl rfl (by (try simp only [List.map_toArray, List.map_cons, List.map_nil]); first | done | rfl | (simp only [List.length_drop, List.length_take]; rfl)) ?_
            with_reducible refine (quadformref01_Small.calls 60 t255 t256 _ A10.out).mono ?_
            rintro e w62 ⟨v257, rfl, ho0, hb⟩
            refine ⟨_, rfl, ?_⟩
            have n0_ := Aside0.mk (Kd.N_elder' (by (with_reducible repeat (first | apply Kd.N_alloc | apply Kd.N_drewN | apply Kd.N_drew)); exact HO213.out) (Kd.R_base ho0) hb)
            have n1_ := Aside0.mk (Kd.V_elder' (by (with_reducible repeat (first | apply Kd.V_alloc | apply Kd.V_drewN | apply Kd.V_drew)); exact HO217.out) (Kd.R_base ho0) hb)
            have n2_ := Aside0.mk (Kd.N_elder' (by (with_reducible repeat (first | apply Kd.N_alloc | apply Kd.N_drewN | apply Kd.N_drew)); exact HO228.out) (Kd.R_base ho0) hb)
            have n3_ := Aside0.mk (Kd.V_elder' (by (with_reducible repeat (first | apply Kd.V_alloc | apply Kd.V_drewN | apply Kd.V_drew)); exact HO232.out) (Kd.R_base ho0) hb)
            have n4_ := Aside0.mk (Kd.N_elder' (by (with_reducible repeat (first | apply Kd.N_alloc | apply Kd.N_drewN | apply Kd.N_drew)); exact HO243.out) (Kd.R_base ho0) hb)
            have n5_ := Aside0.mk (Kd.V_elder' (by (with_reducible repeat (first | apply Kd.V_alloc | apply Kd.V_drewN | apply Kd.V_drew)); exact HO247.out) (Kd.R_base ho0) hb)
            have n6_ := Aside0.mk (Kd.R_elder' (by (with_reducible repeat (first | apply Kd.R_alloc | apply Kd.R_drewN | apply Kd.R_drew)); exact HO253.out) (Kd.R_base ho0) hb)
            have n7_ := Aside0.mk (Kd.R_lower (Kd.R_new' ho0 (Kd.R_lt (by (with_reducible repeat (first | apply Kd.R_alloc | apply Kd.R_drewN | apply Kd.R_drew)); exact HO253.out))) (below_size (by repeat (first | (with_reducible first | exact HB.out | apply below_alloc | apply pw_below_drewN | apply below_drew1 | refine below_set ?_ GE219.out | refine below_set ?_ GE234.out | refine below_set ?_ GE249.out) | exact HB.out))))
            have n8_ := Aside0.mk (blk_below (g := gb219) (o := .cells #[.bool t214, .slice Ao27 t215.length co27] 24 (0, 0)) (by (with_reducible repeat (first | refine blk_drewN ?_ _ | refine blk_drew ?_ | refine blk_alloc ?_ _)); exact BK219.out) hb)
            have n9_ := Aside0.mk (blk_below (g := gb234) (o := .cells #[.bool t229, .slice Ao41 t230.length co41] 24 (0, 0)) (by (with_reducible repeat (first | refine blk_drewN ?_ _ | refine blk_drew ?_ | refine blk_alloc ?_ _)); exact BK234.out) hb)
            have n10_ := Aside0.mk (blk_below (g := gb249) (o := .cells #[.bool t244, .slice Ao56 t245.length co56] 24 (0, 0)) (by (with_reducible repeat (first | refine blk_drewN ?_ _ | refine blk_drew ?_ | refine blk_alloc ?_ _)); exact BK249.out) hb)
            have n11_ := Aside0.mk (below_step (by repeat (first | (with_reducible first | exact HB.out | apply below_alloc | apply pw_below_drewN | apply below_drew1 | refine below_set ?_ GE219.out | refine below_set ?_ GE234.out | refine below_set ?_ GE249.out) | exact HB.out)) hb)
            clear HO213
            clear HO217
            clear HO228
            clear HO232
            clear HO243
            clear HO247
            clear HO253
            clear BK219
            clear BK234
            clear BK249
            clear HB
            have HO213 := n0_
            have HO217 := n1_
            have HO228 := n2_
            have HO232 := n3_
            have HO243 := n4_
            have HO247 := n5_
            have HO253 := n6_
            have HO258 := n7_
            have BK219 := n8_
            have BK234 := n9_
            have BK249 := n10_
            have HB := n11_
            clear n0_ n1_ n2_ n3_ n4_ n5_ n6_ n7_ n8_ n9_ n10_ n11_
            (try clear hb)
            (try clear hb2)
            (try clear hk)
            (try clear hi)
            (try clear ho0)
            obtain ⟨Ao63, co63, eo63⟩ := Kd.R_slice HO258.out
            (first | subst eo63 | (injection eo63 with f1_ f2_ f3_; have f4_ := f1_.symm; have f5_ := f3_.symm; clear f1_ f2_ f3_; subst f4_; subst f5_))
            refine hK.out _ _ ⟨(blk_cell BK219.out 0).trans rfl, (blk_cell BK219.out 1).trans rfl, (blk_cell BK234.out 0).trans rfl, (blk_cell BK234.out 1).trans rfl, (blk_cell BK249.out 0).trans rfl, (blk_cell BK249.out 1).trans rfl⟩ (fun hHeld => ?_)
            clear hK K
            refine norm_ (a' := ?_) ?_ ?_
            rotate_left
            · show Act.put _ (some 45) _ = _
              simp only [Act.put, List.setIfInBounds_toArray, List.set_cons_zero, List.set_cons_succ, i64_w, i32_w]
              rfl
            refine one_ (i := 18) (N := some 46) #[true, true, true, true, true, true, true, true, true, true, true, true, true, true, true, true, true, true, true, false, false, false, false, false, false, false] rfl rfl (one_of HT_.out (by kernel_rfl)) (by decide) (fun K hK => ?_)
            refine goes_ Try.func16 (by kernel_rfl) rfl #[.agg #[.bool t229, .slice Ao41 t230.length co41], .agg #[.bool t255, .slice Ao63 t256.length co63]] (by rfl) rfl rfl (by (try simp only [List.map_toArray, List.map_cons, List.map_nil]); first | done | rfl | (simp only [List.length_drop, List.length_take]; rfl)) ?_
            with_reducible refine (quadformref01_Same.calls k t229 _ _ t230 t255 _ _ t256 true _ ?side1 ?side2 ?side3 ?side4 A11.out).mono ?_
            (case side1 => repeat (first | exact (Kd.V_reads' HO232.out).2.2 | (with_reducible refine Kd.C_alloc ?_ _) | (with_reducible refine Kd.C_drewN ?_ _) | (with_reducible refine Kd.C_drew ?_)))
            (case side2 => exact (Kd.V_reads' HO232.out).2.1)
            (case side3 => repeat (first | exact (Kd.R_reads' HO258.out).2.2 | (with_reducible refine Kd.C_alloc ?_ _) | (with_reducible refine Kd.C_drewN ?_ _) | (with_reducible refine Kd.C_drew ?_)))
            (case side4 => exact (Kd.R_reads' HO258.out).2.1)
            rintro e w64 ⟨rfl, hb⟩
            refine ⟨_, rfl, ?_⟩
            have n0_ := Aside0.mk (Kd.N_below (by (with_reducible repeat (first | apply Kd.N_alloc | apply Kd.N_drewN | apply Kd.N_drew)); exact HO213.out) hb)
            have n1_ := Aside0.mk (Kd.V_below (by (with_reducible repeat (first | apply Kd.V_alloc | apply Kd.V_drewN | apply Kd.V_drew)); exact HO217.out) hb)
            have n2_ := Aside0.mk (Kd.N_below (by (with_reducible repeat (first | apply Kd.N_alloc | apply Kd.N_drewN | apply Kd.N_drew)); exact HO228.out) hb)
            have n3_ := Aside0.mk (Kd.V_below (by (with_reducible repeat (first | apply Kd.V_alloc | apply Kd.V_drewN | apply Kd.V_drew)); exact HO232.out) hb)
            have n4_ := Aside0.mk (Kd.N_below (by (with_reducible repeat (first | apply Kd.N_alloc | apply Kd.N_drewN | apply Kd.N_drew)); exact HO243.out) hb)
            have n5_ := Aside0.mk (Kd.V_below (by (with_reducible repeat (first | apply Kd.V_alloc | apply Kd.V_drewN | apply Kd.V_drew)); exact HO247.out) hb)
            have n6_ := Aside0.mk (Kd.R_below (by (with_reducible repeat (first | apply Kd.R_alloc | apply Kd.R_drewN | apply Kd.R_drew)); exact HO253.out) hb)
            have n7_ := Aside0.mk (Kd.R_below (by (with_reducible repeat (first | apply Kd.R_alloc | apply Kd.R_drewN | apply Kd.R_drew)); exact HO258.out) hb)
            have n8_ := Aside0.mk (blk_below (g := gb219) (o := .cells #[.bool t214, .slice Ao27 t215.length co27] 24 (0, 0)) (by (with_reducible repeat (first | refine blk_drewN ?_ _ | refine blk_drew ?_ | refine blk_alloc ?_ _)); exact BK219.out) hb)
            have n9_ := Aside0.mk (blk_below (g := gb234) (o := .cells #[.bool t229, .slice Ao41 t230.length co41] 24 (0, 0)) (by (with_reducible repeat (first | refine blk_drewN ?_ _ | refine blk_drew ?_ | refine blk_alloc ?_ _)); exact BK234.out) hb)
            have n10_ := Aside0.mk (blk_below (g := gb249) (o := .cells #[.bool t244, .slice Ao56 t245.length co56] 24 (0, 0)) (by (with_reducible repeat (first | refine blk_drewN ?_ _ | refine blk_drew ?_ | refine blk_alloc ?_ _)); exact BK249.out) hb)
            have n11_ := Aside0.mk (below_step (by repeat (first | (with_reducible first | exact HB.out | apply below_alloc | apply pw_below_drewN | apply below_drew1 | refine below_set ?_ GE219.out | refine below_set ?_ GE234.out | refine below_set ?_ GE249.out) | exact HB.out)) hb)
            clear HO213
            clear HO217
            clear HO228
            clear HO232
            clear HO243
            clear HO247
            clear HO253
            clear HO258
            clear BK219
            clear BK234
            clear BK249
            clear HB
            have HO213 := n0_
            have HO217 := n1_
            have HO228 := n2_
            have HO232 := n3_
            have HO243 := n4_
            have HO247 := n5_
            have HO253 := n6_
            have HO258 := n7_
            have BK219 := n8_
            have BK234 := n9_
            have BK249 := n10_
            have HB := n11_
            clear n0_ n1_ n2_ n3_ n4_ n5_ n6_ n7_ n8_ n9_ n10_ n11_
            (try clear hb)
            (try clear hb2)
            (try clear hk)
            (try clear hi)
            refine hK.out _ _ ⟨(blk_cell BK219.out 0).trans rfl, (blk_cell BK219.out 1).trans rfl, (blk_cell BK234.out 0).trans rfl, (blk_cell BK234.out 1).trans rfl, (blk_cell BK249.out 0).trans rfl, (blk_cell BK249.out 1).trans rfl⟩ (fun hHeld => ?_)
            clear hK K
            refine norm_ (a' := ?_) ?_ ?_
            rotate_left
            · show Act.put _ (some 46) _ = _
              simp only [Act.put, List.setIfInBounds_toArray, List.set_cons_zero, List.set_cons_succ, i64_w, i32_w]
              rfl
            refine pure_ (i := 19) (N := some 47) (v := ?_) (a' := ?_) #[true, true, true, true, true, true, true, true, true, true, true, true, true, true, true, true, true, true, true, true, false, false, false, false, false, false] rfl rfl (any_of HT_.out (by kernel_rfl)) (fun _ _ _ h => h) (Or.inl ⟨by rfl, ?_⟩) ?_ ?_
            rotate_left
            · intro w'
              go_simp
              with_reducible rfl
            rotate_left
            · simp only [Act.put, List.setIfInBounds_toArray, List.set_cons_zero, List.set_cons_succ, i64_w, i32_w]
              rfl
            refine pure_ (i := 20) (N := some 48) (v := ?_) (a' := ?_) #[true, true, true, true, true, true, true, true, true, true, true, true, true, true, true, true, true, true, true, true, true, false, false, false, false, false] rfl rfl (any_of HT_.out (by kernel_rfl)) (fun _ _ _ h => h) (Or.inl ⟨by rfl, ?_⟩) ?_ ?_
            rotate_left
            · intro w'
              go_simp
              with_reducible rfl
            rotate_left
            · simp only [Act.put, List.setIfInBounds_toArray, List.set_cons_zero, List.set_cons_succ, i64_w, i32_w]
              rfl
            refine take_ (i := 21) (N := some 49) (v := ?_) (a' := ?_) #[true, true, true, true, true, true, true, true, true, true, true, true, true, true, true, true, true, true, true, true, true, true, false, false, false, false] rfl rfl (take_ofW HT_.out HW_.out (by kernel_rfl)) (fun _ _ _ h => h) (Or.inl ⟨by rfl, ?_⟩) hHeld ?_ ?_
            rotate_left
            · rintro w' ⟨s0, s1, s2, s3, s4, s5⟩
              go_simp
              with_reducible rfl
            rotate_left
            · simp only [Act.put, List.setIfInBounds_toArray, List.set_cons_zero, List.set_cons_succ, i64_w, i32_w]
              rfl
            refine one_ (i := 22) (N := some 50) #[true, true, true, true, true, true, true, true, true, true, true, true, true, true, true, true, true, true, true, true, true, true, true, false, false, false] rfl rfl (one_of HT_.out (by kernel_rfl)) (by decide) (fun K hK => ?_)
            refine goes_ Try.func17 (by kernel_rfl) rfl #[.int .i64 7920] (by rfl) rfl rfl (by (try simp only [List.map_toArray, List.map_cons, List.map_nil]); first | done | rfl | (simp only [List.length_drop, List.length_take]; rfl)) ?_
            with_reducible refine (quadformref01_Small.calls 7920 t260 t261 _ A13.out).mono ?_
            rintro e w65 ⟨v262, rfl, ho0, hb⟩
            refine ⟨_, rfl, ?_⟩
            have n0_ := Aside0.mk (Kd.N_elder' (by (with_reducible repeat (first | apply Kd.N_alloc | apply Kd.N_drewN | apply Kd.N_drew)); exact HO213.out) (Kd.R_base ho0) hb)
            have n1_ := Aside0.mk (Kd.V_elder' (by (with_reducible repeat (first | apply Kd.V_alloc | apply Kd.V_drewN | apply Kd.V_drew)); exact HO217.out) (Kd.R_base ho0) hb)
            have n2_ := Aside0.mk (Kd.N_elder' (by (with_reducible repeat (first | apply Kd.N_alloc | apply Kd.N_drewN | apply Kd.N_drew)); exact HO228.out) (Kd.R_base ho0) hb)
            have n3_ := Aside0.mk (Kd.V_elder' (by (with_reducible repeat (first | apply Kd.V_alloc | apply Kd.V_drewN | apply Kd.V_drew)); exact HO232.out) (Kd.R_base ho0) hb)
            have n4_ := Aside0.mk (Kd.N_elder' (by (with_reducible repeat (first | apply Kd.N_alloc | apply Kd.N_drewN | apply Kd.N_drew)); exact HO243.out) (Kd.R_base ho0) hb)
            have n5_ := Aside0.mk (Kd.V_elder' (by (with_reducible repeat (first | apply Kd.V_alloc | apply Kd.V_drewN | apply Kd.V_drew)); exact HO247.out) (Kd.R_base ho0) hb)
            have n6_ := Aside0.mk (Kd.R_elder' (by (with_reducible repeat (first | apply Kd.R_alloc | apply Kd.R_drewN | apply Kd.R_drew)); exact HO253.out) (Kd.R_base ho0) hb)
            have n7_ := Aside0.mk (Kd.R_elder' (by (with_reducible repeat (first | apply Kd.R_alloc | apply Kd.R_drewN | apply Kd.R_drew)); exact HO258.out) (Kd.R_base ho0) hb)
            have n8_ := Aside0.mk (Kd.R_lower (Kd.R_new' (Kd.R_new' ho0 (Kd.R_lt (by (with_reducible repeat (first | apply Kd.R_alloc | apply Kd.R_drewN | apply Kd.R_drew)); exact HO253.out))) (Kd.R_lt (by (with_reducible repeat (first | apply Kd.R_alloc | apply Kd.R_drewN | apply Kd.R_drew)); exact HO258.out))) (below_size (by repeat (first | (with_reducible first | exact HB.out | apply below_alloc | apply pw_below_drewN | apply below_drew1 | refine below_set ?_ GE219.out | refine below_set ?_ GE234.out | refine below_set ?_ GE249.out) | exact HB.out))))
            have n9_ := Aside0.mk (blk_below (g := gb219) (o := .cells #[.bool t214, .slice Ao27 t215.length co27] 24 (0, 0)) (by (with_reducible repeat (first | refine blk_drewN ?_ _ | refine blk_drew ?_ | refine blk_alloc ?_ _)); exact BK219.out) hb)
            have n10_ := Aside0.mk (blk_below (g := gb234) (o := .cells #[.bool t229, .slice Ao41 t230.length co41] 24 (0, 0)) (by (with_reducible repeat (first | refine blk_drewN ?_ _ | refine blk_drew ?_ | refine blk_alloc ?_ _)); exact BK234.out) hb)
            have n11_ := Aside0.mk (blk_below (g := gb249) (o := .cells #[.bool t244, .slice Ao56 t245.length co56] 24 (0, 0)) (by (with_reducible repeat (first | refine blk_drewN ?_ _ | refine blk_drew ?_ | refine blk_alloc ?_ _)); exact BK249.out) hb)
            have n12_ := Aside0.mk (below_step (by repeat (first | (with_reducible first | exact HB.out | apply below_alloc | apply pw_below_drewN | apply below_drew1 | refine below_set ?_ GE219.out | refine below_set ?_ GE234.out | refine below_set ?_ GE249.out) | exact HB.out)) hb)
            clear HO213
            clear HO217
            clear HO228
            clear HO232
            clear HO243
            clear HO247
            clear HO253
            clear HO258
            clear BK219
            clear BK234
            clear BK249
            clear HB
            have HO213 := n0_
            have HO217 := n1_
            have HO228 := n2_
            have HO232 := n3_
            have HO243 := n4_
            have HO247 := n5_
            have HO253 := n6_
            have HO258 := n7_
            have HO263 := n8_
            have BK219 := n9_
            have BK234 := n10_
            have BK249 := n11_
            have HB := n12_
            clear n0_ n1_ n2_ n3_ n4_ n5_ n6_ n7_ n8_ n9_ n10_ n11_ n12_
            (try clear hb)
            (try clear hb2)
            (try clear hk)
            (try clear hi)
            (try clear ho0)
            obtain ⟨Ao66, co66, eo66⟩ := Kd.R_slice HO263.out
            (first | subst eo66 | (injection eo66 with f1_ f2_ f3_; have f4_ := f1_.symm; have f5_ := f3_.symm; clear f1_ f2_ f3_; subst f4_; subst f5_))
            refine hK.out _ _ ⟨(blk_cell BK219.out 0).trans rfl, (blk_cell BK219.out 1).trans rfl, (blk_cell BK234.out 0).trans rfl, (blk_cell BK234.out 1).trans rfl, (blk_cell BK249.out 0).trans rfl, (blk_cell BK249.out 1).trans rfl⟩ (fun hHeld => ?_)
            clear hK K
            refine norm_ (a' := ?_) ?_ ?_
            rotate_left
            · show Act.put _ (some 50) _ = _
              simp only [Act.put, List.setIfInBounds_toArray, List.set_cons_zero, List.set_cons_succ, i64_w, i32_w]
              rfl
            refine one_ (i := 23) (N := some 51) #[true, true, true, true, true, true, true, true, true, true, true, true, true, true, true, true, true, true, true, true, true, true, true, true, false, false] rfl rfl (one_of HT_.out (by kernel_rfl)) (by decide) (fun K hK => ?_)
            refine goes_ Try.func16 (by kernel_rfl) rfl #[.agg #[.bool t244, .slice Ao56 t245.length co56], .agg #[.bool t260, .slice Ao66 t261.length co66]] (by rfl) rfl rfl (by (try simp only [List.map_toArray, List.map_cons, List.map_nil]); first | done | rfl | (simp only [List.length_drop, List.length_take]; rfl)) ?_
            with_reducible refine (quadformref01_Same.calls k t244 _ _ t245 t260 _ _ t261 t264 _ ?side1 ?side2 ?side3 ?side4 A14.out).mono ?_
            (case side1 => repeat (first | exact (Kd.V_reads' HO247.out).2.2 | (with_reducible refine Kd.C_alloc ?_ _) | (with_reducible refine Kd.C_drewN ?_ _) | (with_reducible refine Kd.C_drew ?_)))
            (case side2 => exact (Kd.V_reads' HO247.out).2.1)
            (case side3 => repeat (first | exact (Kd.R_reads' HO263.out).2.2 | (with_reducible refine Kd.C_alloc ?_ _) | (with_reducible refine Kd.C_drewN ?_ _) | (with_reducible refine Kd.C_drew ?_)))
            (case side4 => exact (Kd.R_reads' HO263.out).2.1)
            rintro e w67 ⟨rfl, hb⟩
            refine ⟨_, rfl, ?_⟩
            have n0_ := Aside0.mk (Kd.N_below (by (with_reducible repeat (first | apply Kd.N_alloc | apply Kd.N_drewN | apply Kd.N_drew)); exact HO213.out) hb)
            have n1_ := Aside0.mk (Kd.V_below (by (with_reducible repeat (first | apply Kd.V_alloc | apply Kd.V_drewN | apply Kd.V_drew)); exact HO217.out) hb)
            have n2_ := Aside0.mk (Kd.N_below (by (with_reducible repeat (first | apply Kd.N_alloc | apply Kd.N_drewN | apply Kd.N_drew)); exact HO228.out) hb)
            have n3_ := Aside0.mk (Kd.V_below (by (with_reducible repeat (first | apply Kd.V_alloc | apply Kd.V_drewN | apply Kd.V_drew)); exact HO232.out) hb)
            have n4_ := Aside0.mk (Kd.N_below (by (with_reducible repeat (first | apply Kd.N_alloc | apply Kd.N_drewN | apply Kd.N_drew)); exact HO243.out) hb)
            have n5_ := Aside0.mk (Kd.V_below (by (with_reducible repeat (first | apply Kd.V_alloc | apply Kd.V_drewN | apply Kd.V_drew)); exact HO247.out) hb)
            have n6_ := Aside0.mk (Kd.R_below (by (with_reducible repeat (first | apply Kd.R_alloc | apply Kd.R_drewN | apply Kd.R_drew)); exact HO253.out) hb)
            have n7_ := Aside0.mk (Kd.R_below (by (with_reducible repeat (first | apply Kd.R_alloc | apply Kd.R_drewN | apply Kd.R_drew)); exact HO258.out) hb)
            have n8_ := Aside0.mk (Kd.R_below (by (with_reducible repeat (first | apply Kd.R_alloc | apply Kd.R_drewN | apply Kd.R_drew)); exact HO263.out) hb)
            have n9_ := Aside0.mk (blk_below (g := gb219) (o := .cells #[.bool t214, .slice Ao27 t215.length co27] 24 (0, 0)) (by (with_reducible repeat (first | refine blk_drewN ?_ _ | refine blk_drew ?_ | refine blk_alloc ?_ _)); exact BK219.out) hb)
            have n10_ := Aside0.mk (blk_below (g := gb234) (o := .cells #[.bool t229, .slice Ao41 t230.length co41] 24 (0, 0)) (by (with_reducible repeat (first | refine blk_drewN ?_ _ | refine blk_drew ?_ | refine blk_alloc ?_ _)); exact BK234.out) hb)
            have n11_ := Aside0.mk (blk_below (g := gb249) (o := .cells #[.bool t244, .slice Ao56 t245.length co56] 24 (0, 0)) (by (with_reducible repeat (first | refine blk_drewN ?_ _ | refine blk_drew ?_ | refine blk_alloc ?_ _)); exact BK249.out) hb)
            have n12_ := Aside0.mk (below_step (by repeat (first | (with_reducible first | exact HB.out | apply below_alloc | apply pw_below_drewN | apply below_drew1 | refine below_set ?_ GE219.out | refine below_set ?_ GE234.out | refine below_set ?_ GE249.out) | exact HB.out)) hb)
            clear HO213
            clear HO217
            clear HO228
            clear HO232
            clear HO243
            clear HO247
            clear HO253
            clear HO258
            clear HO263
            clear BK219
            clear BK234
            clear BK249
            clear HB
            have HO213 := n0_
            have HO217 := n1_
            have HO228 := n2_
            have HO232 := n3_
            have HO243 := n4_
            have HO247 := n5_
            have HO253 := n6_
            have HO258 := n7_
            have HO263 := n8_
            have BK219 := n9_
            have BK234 := n10_
            have BK249 := n11_
            have HB := n12_
            clear n0_ n1_ n2_ n3_ n4_ n5_ n6_ n7_ n8_ n9_ n10_ n11_ n12_
            (try clear hb)
            (try clear hb2)
            (try clear hk)
            (try clear hi)
            refine hK.out _ _ ⟨(blk_cell BK219.out 0).trans rfl, (blk_cell BK219.out 1).trans rfl, (blk_cell BK234.out 0).trans rfl, (blk_cell BK234.out 1).trans rfl, (blk_cell BK249.out 0).trans rfl, (blk_cell BK249.out 1).trans rfl⟩ (fun hHeld => ?_)
            clear hK K
            refine norm_ (a' := ?_) ?_ ?_
            rotate_left
            · show Act.put _ (some 51) _ = _
              simp only [Act.put, List.setIfInBounds_toArray, List.set_cons_zero, List.set_cons_succ, i64_w, i32_w]
              rfl
            refine pure_ (i := 24) (N := some 52) (v := ?_) (a' := ?_) #[true, true, true, true, true, true, true, true, true, true, true, true, true, true, true, true, true, true, true, true, true, true, true, true, true, false] rfl rfl (any_of HT_.out (by kernel_rfl)) (fun _ _ _ h => h) (Or.inl ⟨by rfl, ?_⟩) ?_ ?_
            rotate_left
            · intro w'
              go_simp
              with_reducible rfl
            rotate_left
            · simp only [Act.put, List.setIfInBounds_toArray, List.set_cons_zero, List.set_cons_succ, i64_w, i32_w]
              rfl
            refine pure_ (i := 25) (N := some 0) (v := ?_) (a' := ?_) #[true, true, true, true, true, true, true, true, true, true, true, true, true, true, true, true, true, true, true, true, true, true, true, true, true, true] rfl rfl (any_of HT_.out (by kernel_rfl)) (fun _ _ _ h => h) (Or.inl ⟨by rfl, ?_⟩) ?_ ?_
            rotate_left
            · intro w'
              go_simp
              with_reducible rfl
            rotate_left
            · simp only [Act.put, List.setIfInBounds_toArray, List.set_cons_zero, List.set_cons_succ, i64_w, i32_w]
              rfl
            refine done_ (done_of HT_.out (by kernel_rfl)) ?_
            try go_wp2
            go_ret
            exact ⟨by first | rfl | (simp [errW_none, errW_some] <;> rfl) | (simp [*, errW_none, errW_some] <;> rfl), by repeat (first | (with_reducible first | exact HB.out | apply below_alloc | apply pw_below_drewN | apply below_drew1 | refine below_set ?_ GE219.out | refine below_set ?_ GE234.out | refine below_set ?_ GE249.out) | exact HB.out)⟩
          · replace c12 := Bool.eq_false_iff.mpr c12
            subst c12
            have H1 : (some false) = some r := by rw [if_neg (show ¬ (false = true) by decide)] at H; exact H
            clear H
            have H := H1
            clear H1
            exact absurd ((Option.some.inj H).trans HTR.out) Bool.false_ne_true
        · replace c9 := Bool.eq_false_iff.mpr c9
          subst c9
          have H1 : (some false) = some r := by rw [if_neg (show ¬ (false = true) by decide)] at H; exact H
          clear H
          have H := H1
          clear H1
          exact absurd ((Option.some.inj H).trans HTR.out) Bool.false_ne_true
      · rw [if_neg c6] at H
        have c6b0 : (t248 == 0) = false := beq_eq_false_iff_ne.mpr c6
        have c6b1 : (t248 != 0) = true := bne_iff_ne.mpr c6
        exact absurd ((Option.some.inj H).trans HTR.out) Bool.false_ne_true
    · rw [if_neg c5] at H
      have c5b0 : (t233 == 0) = false := beq_eq_false_iff_ne.mpr c5
      have c5b1 : (t233 != 0) = true := bne_iff_ne.mpr c5
      exact absurd ((Option.some.inj H).trans HTR.out) Bool.false_ne_true
  · rw [if_neg c4] at H
    have c4b0 : (t218 == 0) = false := beq_eq_false_iff_ne.mpr c4
    have c4b1 : (t218 != 0) = true := bne_iff_ne.mpr c4
    exact absurd ((Option.some.inj H).trans HTR.out) Bool.false_ne_true
/-- THE ONE PURE STATEMENT of quadformlaw17_StabchainSymmetric: yours. -/
def quadformlaw17_StabchainSymmetric.Pure : Prop := ∃ k, quadformlaw17_StabchainSymmetric.f k  = some true
theorem quadformlaw17_StabchainSymmetric.walk (P : quadformlaw17_StabchainSymmetric.Pure)  (w : World)  :
    Calls Try.prog 3 #[] w fun e w' => e = .returned (.bool true) ∧ Below w.heap.size w w' := by
  obtain ⟨k, h⟩ := P  
  refine (quadformlaw17_StabchainSymmetric.calls k  true w h rfl).mono ?_
  rintro e w' ⟨rfl, hd⟩
  exact ⟨rfl, hd⟩

end Go.Proofs.Ytpkgckccfanchaa.M
