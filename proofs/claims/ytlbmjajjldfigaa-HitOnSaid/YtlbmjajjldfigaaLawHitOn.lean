/-
  Where a ray meets a face, ahead of its widest, the face is: its depth at that distance from the axis has a number in common with the place: the call returns true for every input.
-/
import Derived.Test.YtlbmjajjldfigaaRows
import Derived.Test.YtlbmjajjldfigaaEvArg
import Derived.Test.YtlbmjajjldfigaaM0
import Derived.ProofKit
import Derived.OpenShut
import Derived.ShutString
import Derived.ChangeOld
import Derived.ReadAgain
import Derived.ChangeBears
import Derived.SizedLaws
namespace Go.Proofs.Ytlbmjajjldfigaa.hitOn
open Go.ChangeShapes Go.WideShapes Go.ChangeAt Go.RowKit Ev
set_option linter.unusedVariables false
set_option linter.unusedSimpArgs false
set_option maxRecDepth 100000
theorem kids : Kids Try.prog (· < Try.prog.types.size) := kids_rows (by kernel_rfl) (by kernel_rfl)
theorem full : ∀ t e, t < Try.prog.types.size → Try.prog.underlying t = some (.slice e) → 0 < Try.prog.cellsOf e := slices_full_of Try.prog (by kernel_rfl)
theorem sized : ∀ t ∈ [3, 38, 40], t < Try.prog.types.size := of_decide_eq_true (by kernel_rfl)
theorem own : ownKnob Try.prog.godebug = none := by kernel_rfl
theorem lifted (os : Os) (started : os.Started) (H : Type) (enc : TypeId × Value → H) :
    ReturnsInHanded {} Try.checked os 4 .any (Rows.hitOnSpec.pre6 enc Try.prog Try.f4 Rows.hitOnRow.domain false) (Rows.hitOnSpec.post enc Try.prog Try.f4 false true false false) := by
  refine returnsInHanded_of_change_sized (C := Try.checked) own started (by kernel_rfl) Try.func4
    (ChangeSpec.witness6 (enc := enc) (C := Try.checked) false ⟨#[], #[.int .i64 0, .slice none 0 0, .agg #[.int .i64 0, .int .i64 0, .int .i64 0, .int .i64 0, .int .i64 0, .int .i64 0]], []⟩ 8 (by kernel_rfl) (by kernel_rfl) (by kernel_rfl) (by kernel_rfl)) ?_
  intro W base args ds gs before hval0 hW hcnd hsz0 _
  have hval : ∀ (j : Nat) t v, Try.f4.params[j]? = some t → args[j]? = some v → Value.okWide Try.prog W .any base t v := hval0
  have hW' := hW
  obtain ⟨p, q, hA0, hV, rfl, hfz, hnd⟩ := hW
  have hA : DataW.TrodAll enc Try.prog W 0 (fun _ => true) true Try.f4.params.toList args.toList ds p := hA0
  rw [Try.params4] at hA hval
  have hA1 := hA
  obtain ⟨v0, vs0, d0, ds0, p0, q0, hargs, rfl, rfl, h0, r0⟩ := trodAll_cons hA
  obtain ⟨v1, vs1, d1, ds1, p1, q1, rfl, rfl, rfl, h1, r1⟩ := trodAll_cons r0
  obtain ⟨v2, vs2, d2, ds2, p2, q2, rfl, rfl, rfl, h2, r2⟩ := trodAll_cons r1
  obtain ⟨rfl, rfl, rfl⟩ := trodAll_nil r2
  obtain rfl : args = #[v0, v1, v2] := by cases args; simp_all
  obtain ⟨rfl, rfl⟩ := trodVars_none hV
  obtain ⟨a0, rfl, rfl, rfl, w0⟩ := open_int Try.underlying3 (hval 0 3 v0 rfl rfl) h0
  obtain ⟨l1, sa1, sn1, sc1, rfl, hl1⟩ := open_list Try.underlying38 .rface (by decide) (by kernel_rfl) (elem_rface Try.underlying100 (by kernel_rfl) Try.underlying3 (by kernel_rfl) (by kernel_rfl)) (hval 1 38 v1 rfl rfl) h1
  obtain ⟨a2, rfl⟩ := open_rray Try.underlying40 (by kernel_rfl) Try.underlying3 (by kernel_rfl) (by kernel_rfl) (hval 2 40 v2 rfl rfl) h2
  clear hA0 hval0 hsz0
  have hM : RelM W.heap.size W ([.sv sa1 sn1 sc1] : List Nm) [.list ⟨.rface, l1⟩] W := relM_args rfl (by
    intro i r hi
    rcases i with _ | i
    · simp [nth] at hi; subst hi; exact ⟨_, _, _, _, rfl, rfl, hl1⟩
    simp [nth] at hi)
  refine (c_meniscuslaw15_HitOn ((a0, a2, ()), (l1, ())) rfl _ W _ hM (by simp only [List.map, AV.vals, ofVal1_val, AV.val, CV.val, nth, sc, tSl, tCod, tNil] <;> rfl)).mono fun e W' ⟨he, bel⟩ => ?_
  subst he
  exact ⟨_, rfl, _, _, _, [], _, [], hW', trodAll_mk1 (shut_bool Try.underlying4 _), trodAll_below bel (Nat.le_refl _) (DataW.TrodAll.respare kids full sized hA1 (fun p hp => by simpa using DataW.TrodAll.lt hA1 p hp)), rfl, bel.frame _, fun h => by cases h⟩
theorem over : Rows.hitOnRow.holds Try.pinned (OpenSpec.ofChange Rows.hitOnSpec) :=
  OpenClaim.holds_of_wide 4 Try.f4 rfl rfl rfl rfl rfl rfl rfl ⟨rfl, rfl, rfl, rfl, rfl⟩ rfl rfl rfl rfl rfl (by kernel_rfl) Try.func4 (by kernel_rfl)
    (of_decide_eq_true (by kernel_rfl)) (by unfold Func.isWrapper; first | (rw [if_pos (by decide +kernel)]; kernel_rfl) | (rw [if_neg (by decide +kernel)]; exact ⟨rfl, rfl⟩))
    (fun os started H enc _ => lifted os started H enc)
end Go.Proofs.Ytlbmjajjldfigaa.hitOn
namespace Go.Proofs.Ytlbmjajjldfigaa
theorem hitOn_holds : Rows.HitOnSaid := hitOn.over
#print axioms hitOn_holds
end Go.Proofs.Ytlbmjajjldfigaa
