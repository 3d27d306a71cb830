/-
  The function is asked of places within the beginning alone, twice a round, or four times: the call returns true for every input.
-/
import Derived.Test.YtlbmjajjldfigaaRows
import Derived.Test.YtlbmjajjldfigaaEvArg
import Derived.Test.YtlbmjajjldfigaaA0
import Derived.ProofKit
import Derived.OpenShut
import Derived.ShutString
import Derived.ChangeOld
import Derived.ReadAgain
import Derived.ChangeBears
import Derived.SizedLaws
namespace Go.Proofs.Ytlbmjajjldfigaa.newtonAsks
open Go.ChangeShapes Go.WideShapes Go.ChangeAt Go.RowKit Ev
set_option linter.unusedVariables false
set_option linter.unusedSimpArgs false
set_option maxRecDepth 100000
theorem kids : Kids Try.prog (· < Try.prog.types.size) := kids_rows (by kernel_rfl) (by kernel_rfl)
theorem full : ∀ t e, t < Try.prog.types.size → Try.prog.underlying t = some (.slice e) → 0 < Try.prog.cellsOf e := slices_full_of Try.prog (by kernel_rfl)
theorem sized : ∀ t ∈ [22, 3, 3, 3], t < Try.prog.types.size := of_decide_eq_true (by kernel_rfl)
theorem own : ownKnob Try.prog.godebug = none := by kernel_rfl
theorem lifted (os : Os) (started : os.Started) (H : Type) (enc : TypeId × Value → H) :
    ReturnsInHanded {} Try.checked os 3 .any (Rows.newtonAsksSpec.pre6 enc Try.prog Try.f3 Rows.newtonAsksRow.domain false) (Rows.newtonAsksSpec.post enc Try.prog Try.f3 false true false false) := by
  refine returnsInHanded_of_change_sized (C := Try.checked) own started (by kernel_rfl) Try.func3
    (ChangeSpec.witness6 (enc := enc) (C := Try.checked) false ⟨#[], #[.slice none 0 0, .int .i64 0, .int .i64 0, .int .i64 0], []⟩ 8 (by kernel_rfl) (by kernel_rfl) (by kernel_rfl) (by kernel_rfl)) ?_
  intro W base args ds gs before hval0 hW hcnd hsz0 _
  have hval : ∀ (j : Nat) t v, Try.f3.params[j]? = some t → args[j]? = some v → Value.okWide Try.prog W .any base t v := hval0
  have hW' := hW
  obtain ⟨p, q, hA0, hV, rfl, hfz, hnd⟩ := hW
  have hA : DataW.TrodAll enc Try.prog W 0 (fun _ => true) true Try.f3.params.toList args.toList ds p := hA0
  rw [Try.params3] at hA hval
  have hA1 := hA
  obtain ⟨v0, vs0, d0, ds0, p0, q0, hargs, rfl, rfl, h0, r0⟩ := trodAll_cons hA
  obtain ⟨v1, vs1, d1, ds1, p1, q1, rfl, rfl, rfl, h1, r1⟩ := trodAll_cons r0
  obtain ⟨v2, vs2, d2, ds2, p2, q2, rfl, rfl, rfl, h2, r2⟩ := trodAll_cons r1
  obtain ⟨v3, vs3, d3, ds3, p3, q3, rfl, rfl, rfl, h3, r3⟩ := trodAll_cons r2
  obtain ⟨rfl, rfl, rfl⟩ := trodAll_nil r3
  obtain rfl : args = #[v0, v1, v2, v3] := by cases args; simp_all
  obtain ⟨rfl, rfl⟩ := trodVars_none hV
  obtain ⟨l0, sa0, sn0, sc0, rfl, hl0⟩ := open_list Try.underlying22 .int (by decide) (by kernel_rfl) (elem_int Try.underlying3) (hval 0 22 v0 rfl rfl) h0
  obtain ⟨a1, rfl, rfl, rfl, w1⟩ := open_int Try.underlying3 (hval 1 3 v1 rfl rfl) h1
  obtain ⟨a2, rfl, rfl, rfl, w2⟩ := open_int Try.underlying3 (hval 2 3 v2 rfl rfl) h2
  obtain ⟨a3, rfl, rfl, rfl, w3⟩ := open_int Try.underlying3 (hval 3 3 v3 rfl rfl) h3
  clear hA0 hval0 hsz0
  have hM : RelM W.heap.size W ([.sv sa0 sn0 sc0] : List Nm) [.list ⟨.int, l0⟩] W := relM_args rfl (by
    intro i r hi
    rcases i with _ | i
    · simp [nth] at hi; subst hi; exact ⟨_, _, _, _, rfl, rfl, hl0⟩
    simp [nth] at hi)
  refine (c_meniscuslaw7_NewtonAsks ((a1, a2, a3, ()), (l0, ())) rfl _ W _ hM (by simp only [List.map, AV.vals, ofVal1_val, AV.val, CV.val, nth, sc, tSl, tCod, tNil] <;> rfl)).mono fun e W' ⟨he, bel⟩ => ?_
  subst he
  exact ⟨_, rfl, _, _, _, [], _, [], hW', trodAll_mk1 (shut_bool Try.underlying4 _), trodAll_below bel (Nat.le_refl _) (DataW.TrodAll.respare kids full sized hA1 (fun p hp => by simpa using DataW.TrodAll.lt hA1 p hp)), rfl, bel.frame _, fun h => by cases h⟩
theorem over : Rows.newtonAsksRow.holds Try.pinned (OpenSpec.ofChange Rows.newtonAsksSpec) :=
  OpenClaim.holds_of_wide 3 Try.f3 rfl rfl rfl rfl rfl rfl rfl ⟨rfl, rfl, rfl, rfl, rfl⟩ rfl rfl rfl rfl rfl (by kernel_rfl) Try.func3 (by kernel_rfl)
    (of_decide_eq_true (by kernel_rfl)) (by unfold Func.isWrapper; first | (rw [if_pos (by decide +kernel)]; kernel_rfl) | (rw [if_neg (by decide +kernel)]; exact ⟨rfl, rfl⟩))
    (fun os started H enc _ => lifted os started H enc)
end Go.Proofs.Ytlbmjajjldfigaa.newtonAsks
namespace Go.Proofs.Ytlbmjajjldfigaa
theorem newtonAsks_holds : Rows.NewtonAsksSaid := newtonAsks.over
#print axioms newtonAsks_holds
end Go.Proofs.Ytlbmjajjldfigaa
