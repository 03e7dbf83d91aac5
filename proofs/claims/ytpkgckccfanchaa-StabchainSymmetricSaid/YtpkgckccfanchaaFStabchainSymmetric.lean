/- The statement StabchainSymmetric returns true: the program finds the orders 40320, 60 and 7920 of three given groups. No condition. -/
import Derived.Test.YtpkgckccfanchaaBStabchainSymmetric7
import Derived.Test.YtpkgckccfanchaaRows
import Derived.WalkKit
import Derived.ProofKit
import Derived.OpenShut
import Derived.ShutString
import Derived.ChangeOld
import Derived.Below
import Derived.SizedLaws

/- ## PureStabchainSymmetric -/
namespace Go.Proofs.Ytpkgckccfanchaa.Pure
open Go.RowKit Go.Proofs.Ytpkgckccfanchaa.M Go.Proofs.YtpkgckccfanchaaW.PrintWords Go.Proofs.YtpkgckccfanchaaW.PrintLast

set_option maxRecDepth 100000 in
theorem StabchainSymmetric : quadformlaw17_StabchainSymmetric.Pure := by
  exact ⟨60, by decide +kernel⟩

end Go.Proofs.Ytpkgckccfanchaa.Pure

/- ## LawStabchainSymmetric -/
-- Written by wip/tools/pp.py (a driver round the kit's printer, with patches of this session): not a printed file.
namespace Go.Proofs.Ytpkgckccfanchaa.stabchainSymmetric
open Go.ChangeShapes Go.WideShapes Go.ChangeAt Go.RowKit
open Go.ChangeMaps (open_string shut_string)
set_option linter.unusedVariables false
theorem own : ownKnob Try.prog.godebug = none := by kernel_rfl
set_option maxRecDepth 100000 in
theorem lifted (os : Os) (started : os.Started) (H : Type) (enc : TypeId × Value → H) :
    ReturnsInHanded {} Try.checked os 3 .any (Rows.stabchainSymmetricSpec.pre6 enc Try.prog Try.f3 Rows.stabchainSymmetricRow.domain false) (Rows.stabchainSymmetricSpec.post enc Try.prog Try.f3 false true false false) := by
  refine returnsInHanded_of_change_sized (C := Try.checked) own started (by kernel_rfl) Try.func3
    (ChangeSpec.witness6 (enc := enc) (C := Try.checked) false ⟨#[], #[], []⟩ 8 (by kernel_rfl) (by kernel_rfl) (by kernel_rfl) (by kernel_rfl)) ?_
  intro W base args ds gs before hval0 hW hcnd hsz0 _
  have hsz : (DataW.weightsEach Try.prog (Try.f3.params.toList ++ Rows.stabchainSymmetricSpec.plain.varTypes Try.prog) (ds ++ gs)).all (· ≤ reachBytes) = true := hsz0
  have hval : ∀ (j : Nat) t v, Try.f3.params[j]? = some t → args[j]? = some v → Value.okWide Try.prog W .any base t v := hval0
  have hW' := hW
  obtain ⟨p, q, hA0, hV, rfl, hfz, hnd⟩ := hW
  have hA : DataW.TrodAll enc Try.prog W 0 (fun _ => true) true Try.f3.params.toList args.toList ds p := hA0
  rw [Try.params3] at hA hval hsz
  obtain ⟨rfl, rfl, rfl⟩ := trodAll_none hA
  obtain ⟨rfl, rfl⟩ := trodVars_none hV
  clear hA0 hval0 hsz0 hsz
  refine (M.quadformlaw17_StabchainSymmetric.walk Pure.StabchainSymmetric  W ).mono fun e W' ⟨he, bel⟩ => ?_
  subst he
  exact ⟨_, rfl, _, _, _, [], _, [], hW', trodAll_mk1 (shut_bool Try.underlying4 _), trodAll_mk0, rfl, bel.frame _, fun h => by cases h⟩
theorem over : Rows.stabchainSymmetricRow.holds Try.pinned (OpenSpec.ofChange Rows.stabchainSymmetricSpec) :=
  OpenClaim.holds_of_wide 3 Try.f3 rfl rfl rfl rfl rfl rfl rfl ⟨rfl, rfl, rfl, rfl, rfl⟩ rfl rfl rfl rfl rfl (by kernel_rfl) Try.func3 (by kernel_rfl)
    (of_decide_eq_true (by kernel_rfl)) (by unfold Func.isWrapper; first | (rw [if_pos (by decide +kernel)]; kernel_rfl) | (rw [if_neg (by decide +kernel)]; exact ⟨rfl, rfl⟩))
    (fun os started H enc _ => lifted os started H enc)
theorem proved : Rows.StabchainSymmetricSaid := over
#print axioms proved
end Go.Proofs.Ytpkgckccfanchaa.stabchainSymmetric
namespace Go.Proofs.Ytpkgckccfanchaa
/-- The row, under a short name, for the claim. -/
theorem stabchainSymmetric_holds : Rows.StabchainSymmetricSaid := stabchainSymmetric.proved
end Go.Proofs.Ytpkgckccfanchaa
