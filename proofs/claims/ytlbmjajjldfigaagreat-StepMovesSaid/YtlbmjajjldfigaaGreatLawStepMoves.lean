/-
  A face and a ray that are moved along the axis by whole steps go on the same, moved: the call returns true for every input.
-/
import Derived.Test.YtlbmjajjldfigaaGreatRows
import Derived.Test.YtlbmjajjldfigaaGreatEvArg
import Derived.Test.YtlbmjajjldfigaaGreatC0
import Derived.ProofKit
import Derived.OpenShut
import Derived.ShutString
import Derived.ChangeOld
import Derived.ReadAgain
import Derived.ChangeBears
import Derived.SizedLaws
namespace Go.Proofs.YtlbmjajjldfigaaGreat.stepMoves
open Go.ChangeShapes Go.WideShapes Go.ChangeAt Go.RowKit Ev
set_option linter.unusedVariables false
set_option linter.unusedSimpArgs false
set_option maxRecDepth 100000
theorem kids : Kids Tryz.prog (· < Tryz.prog.types.size) := kids_rows (by kernel_rfl) (by kernel_rfl)
theorem full : ∀ t e, t < Tryz.prog.types.size → Tryz.prog.underlying t = some (.slice e) → 0 < Tryz.prog.cellsOf e := slices_full_of Tryz.prog (by kernel_rfl)
theorem sized : ∀ t ∈ [3, 22, 24, 3], t < Tryz.prog.types.size := of_decide_eq_true (by kernel_rfl)
theorem own : ownKnob Tryz.prog.godebug = none := by kernel_rfl
theorem lifted (os : Os) (started : os.Started) (H : Type) (enc : TypeId × Value → H) :
    ReturnsInHanded {} Tryz.checked os 4 .any (Rows.stepMovesSpec.pre6 enc Tryz.prog Tryz.f4 Rows.stepMovesRow.domain false) (Rows.stepMovesSpec.post enc Tryz.prog Tryz.f4 false true false false) := by
  refine returnsInHanded_of_change_sized (C := Tryz.checked) own started (by kernel_rfl) Tryz.func4
    (ChangeSpec.witness6 (enc := enc) (C := Tryz.checked) false ⟨#[], #[.int .i64 0, .slice none 0 0, .agg #[.int .i64 0, .int .i64 0, .int .i64 0, .int .i64 0, .int .i64 0, .int .i64 0], .int .i64 0], []⟩ 8 (by kernel_rfl) (by kernel_rfl) (by kernel_rfl) (by kernel_rfl)) ?_
  intro W base args ds gs before hval0 hW hcnd hsz0 _
  have hval : ∀ (j : Nat) t v, Tryz.f4.params[j]? = some t → args[j]? = some v → Value.okWide Tryz.prog W .any base t v := hval0
  have hW' := hW
  obtain ⟨p, q, hA0, hV, rfl, hfz, hnd⟩ := hW
  have hA : DataW.TrodAll enc Tryz.prog W 0 (fun _ => true) true Tryz.f4.params.toList args.toList ds p := hA0
  rw [Tryz.params4] at hA hval
  have hA1 := hA
  obtain ⟨v0, vs0, d0, ds0, p0, q0, hargs, rfl, rfl, h0, r0⟩ := trodAll_cons hA
  obtain ⟨v1, vs1, d1, ds1, p1, q1, rfl, rfl, rfl, h1, r1⟩ := trodAll_cons r0
  obtain ⟨v2, vs2, d2, ds2, p2, q2, rfl, rfl, rfl, h2, r2⟩ := trodAll_cons r1
  obtain ⟨v3, vs3, d3, ds3, p3, q3, rfl, rfl, rfl, h3, r3⟩ := trodAll_cons r2
  obtain ⟨rfl, rfl, rfl⟩ := trodAll_nil r3
  obtain rfl : args = #[v0, v1, v2, v3] := by cases args; simp_all
  obtain ⟨rfl, rfl⟩ := trodVars_none hV
  obtain ⟨a0, rfl, rfl, rfl, w0⟩ := open_int Tryz.underlying3 (hval 0 3 v0 rfl rfl) h0
  obtain ⟨l1, sa1, sn1, sc1, rfl, hl1⟩ := open_list Tryz.underlying22 .rface (by decide) (by kernel_rfl) (elem_rface Tryz.underlying123 (by kernel_rfl) Tryz.underlying3 (by kernel_rfl) (by kernel_rfl)) (hval 1 22 v1 rfl rfl) h1
  obtain ⟨a2, rfl⟩ := open_rray Tryz.underlying24 (by kernel_rfl) Tryz.underlying3 (by kernel_rfl) (by kernel_rfl) (hval 2 24 v2 rfl rfl) h2
  obtain ⟨a3, rfl, rfl, rfl, w3⟩ := open_int Tryz.underlying3 (hval 3 3 v3 rfl rfl) h3
  clear hA0 hval0 hsz0
  have hM : RelM W.heap.size W ([.sv sa1 sn1 sc1] : List Nm) [.list ⟨.rface, l1⟩] W := relM_args rfl (by
    intro i r hi
    rcases i with _ | i
    · simp [nth] at hi; subst hi; exact ⟨_, _, _, _, rfl, rfl, hl1⟩
    simp [nth] at hi)
  refine (c_meniscuslaw18_StepMoves ((a0, a2, a3, ()), (l1, ())) rfl _ W _ hM (by simp only [List.map, AV.vals, ofVal1_val, AV.val, CV.val, nth, sc, tSl, tCod, tNil] <;> rfl)).mono fun e W' ⟨he, bel⟩ => ?_
  subst he
  exact ⟨_, rfl, _, _, _, [], _, [], hW', trodAll_mk1 (shut_bool Tryz.underlying4 _), trodAll_below bel (Nat.le_refl _) (DataW.TrodAll.respare kids full sized hA1 (fun p hp => by simpa using DataW.TrodAll.lt hA1 p hp)), rfl, bel.frame _, fun h => by cases h⟩
theorem over : Rows.stepMovesRow.holds Tryz.pinned (OpenSpec.ofChange Rows.stepMovesSpec) :=
  OpenClaim.holds_of_wide 4 Tryz.f4 rfl rfl rfl rfl rfl rfl rfl ⟨rfl, rfl, rfl, rfl, rfl⟩ rfl rfl rfl rfl rfl (by kernel_rfl) Tryz.func4 (by kernel_rfl)
    (of_decide_eq_true (by kernel_rfl)) (by unfold Func.isWrapper; first | (rw [if_pos (by decide +kernel)]; kernel_rfl) | (rw [if_neg (by decide +kernel)]; exact ⟨rfl, rfl⟩))
    (fun os started H enc _ => lifted os started H enc)
end Go.Proofs.YtlbmjajjldfigaaGreat.stepMoves
namespace Go.Proofs.YtlbmjajjldfigaaGreat
theorem stepMoves_holds : Rows.StepMovesSaid := stepMoves.over
#print axioms stepMoves_holds
end Go.Proofs.YtlbmjajjldfigaaGreat
