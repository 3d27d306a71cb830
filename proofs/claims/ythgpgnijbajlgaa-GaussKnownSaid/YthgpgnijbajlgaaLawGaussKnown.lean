/-
  Chapter 8's example, bounds, what is no whole number, beams: the call returns true.
-/
import Derived.Test.YthgpgnijbajlgaaRows
import Derived.Test.YthgpgnijbajlgaaEvArg
import Derived.Test.YthgpgnijbajlgaaGkC
import Derived.ProofKit
import Derived.OpenShut
import Derived.ShutString
import Derived.ChangeOld
import Derived.ReadAgain
import Derived.ChangeBears
import Derived.SizedLaws
namespace Go.Proofs.Ythgpgnijbajlgaa.gaussKnown
open Go.ChangeShapes Go.WideShapes Go.ChangeAt Go.RowKit Ev
set_option linter.unusedVariables false
set_option linter.unusedSimpArgs false
set_option maxRecDepth 100000
theorem own : ownKnob Try.prog.godebug = none := by kernel_rfl
theorem lifted (os : Os) (started : os.Started) (H : Type) (enc : TypeId × Value → H) :
    ReturnsInHanded {} Try.checked os 7 .any (Rows.gaussKnownSpec.pre6 enc Try.prog Try.f7 Rows.gaussKnownRow.domain false) (Rows.gaussKnownSpec.post enc Try.prog Try.f7 false true false false) := by
  refine returnsInHanded_of_change_sized (C := Try.checked) own started (by kernel_rfl) Try.func7
    (ChangeSpec.witness6 (enc := enc) (C := Try.checked) false ⟨#[], #[], []⟩ 8 (by kernel_rfl) (by kernel_rfl) (by kernel_rfl) (by kernel_rfl)) ?_
  intro W base args ds gs before hval0 hW hcnd hsz0 _
  have hval : ∀ (j : Nat) t v, Try.f7.params[j]? = some t → args[j]? = some v → Value.okWide Try.prog W .any base t v := hval0
  have hW' := hW
  obtain ⟨p, q, hA0, hV, rfl, hfz, hnd⟩ := hW
  have hA : DataW.TrodAll enc Try.prog W 0 (fun _ => true) true Try.f7.params.toList args.toList ds p := hA0
  rw [Try.params7] at hA hval
  have hA1 := hA
  obtain ⟨hargs, rfl, rfl⟩ := trodAll_nil hA
  obtain rfl : args = #[] := by cases args; simp_all
  obtain ⟨rfl, rfl⟩ := trodVars_none hV
  clear hA0 hval0 hsz0
  have hM : RelM W.heap.size W ([] : List Nm) [] W := relM_args rfl (by
    intro i r hi
    simp [nth] at hi)
  refine (c_meniscuslaw8_GaussKnown W).mono fun e W' ⟨he, bel⟩ => ?_
  subst he
  exact ⟨_, rfl, _, _, _, [], _, [], hW', trodAll_mk1 (shut_bool Try.underlying4 _), trodAll_below bel (Nat.le_refl _) (hA1), rfl, bel.frame _, fun h => by cases h⟩
theorem over : Rows.gaussKnownRow.holds Try.pinned (OpenSpec.ofChange Rows.gaussKnownSpec) :=
  OpenClaim.holds_of_wide 7 Try.f7 rfl rfl rfl rfl rfl rfl rfl ⟨rfl, rfl, rfl, rfl, rfl⟩ rfl rfl rfl rfl rfl (by kernel_rfl) Try.func7 (by kernel_rfl)
    (of_decide_eq_true (by kernel_rfl)) (by unfold Func.isWrapper; first | (rw [if_pos (by decide +kernel)]; kernel_rfl) | (rw [if_neg (by decide +kernel)]; exact ⟨rfl, rfl⟩))
    (fun os started H enc _ => lifted os started H enc)
end Go.Proofs.Ythgpgnijbajlgaa.gaussKnown
namespace Go.Proofs.Ythgpgnijbajlgaa
theorem gaussKnown_holds : Rows.GaussKnownSaid := gaussKnown.over
#print axioms gaussKnown_holds
end Go.Proofs.Ythgpgnijbajlgaa
