/-
  What less and notAbove say of two intervals is so of every number of each, and of less wide ones: the call returns true.
-/
import Derived.Test.YtemndghpenbmeaaRows
import Derived.Test.YtemndghpenbmeaaC2
import Derived.ProofKit
import Derived.OpenShut
import Derived.ShutString
import Derived.ChangeOld
import Derived.SizedLaws
namespace Go.Proofs.Ytemndghpenbmeaa.triTrue
open Go.ChangeShapes Go.WideShapes Go.ChangeAt Go.RowKit Ev
set_option linter.unusedVariables false
set_option linter.unusedSimpArgs false
set_option maxRecDepth 100000
theorem wide_right (x w : Int) (h1 : 0 ≤ w) (h2 : w ≤ 3000) : (wide x w).right = true := by
  have hb : -1073741824 ≤ within x (-1073741824) 1073741824 ∧ within x (-1073741824) 1073741824 ≤ 1073741824 := by unfold within; omega
  generalize hg : within x (-1073741824) 1073741824 = y at *
  have : w64 (y + w) = y + w := w64_of (by omega) (by omega)
  simp only [wide, hg, this, Iv.right, numIn]
  simp
  omega
theorem inIv_sub {A : Iv} (h : A.right = true) (x y : Int) : (inIv A x y).right = true ∧ A.lo ≤ (inIv A x y).lo ∧ (inIv A x y).lo ≤ (inIv A x y).hi ∧ (inIv A x y).hi ≤ A.hi := by
  have b := right_bd h
  have p1 := pick_bd x (m := A.hi - A.lo + 1) (by omega)
  have p2 := pick_bd y (m := A.hi - (A.lo + pick x (A.hi - A.lo + 1)) + 1) (by omega)
  rw [show inIv A x y = _ from if_pos h]
  simp only [Iv.right, numIn, Bool.not_false, Bool.true_and, Bool.and_eq_true, decide_eq_true_eq]
  refine ⟨⟨⟨?_, ?_⟩, ⟨?_, ?_⟩, ?_⟩, ?_, ?_, ?_⟩ <;> omega
theorem less_sub {A B C D : Iv} (hA : A.right = true) (hB : B.right = true) (hC : C.right = true ∧ A.lo ≤ C.lo ∧ C.lo ≤ C.hi ∧ C.hi ≤ A.hi) (hD : D.right = true ∧ B.lo ≤ D.lo ∧ D.lo ≤ D.hi ∧ D.hi ≤ B.hi) (h : less A B ≠ 0) : less C D = less A B := by
  have b := right_bd hA
  have c := right_bd hB
  simp only [less, hA, hB, hC.1, hD.1, told] at *
  grind
theorem notAbove_sub {A B C D : Iv} (hA : A.right = true) (hB : B.right = true) (hC : C.right = true ∧ A.lo ≤ C.lo ∧ C.lo ≤ C.hi ∧ C.hi ≤ A.hi) (hD : D.right = true ∧ B.lo ≤ D.lo ∧ D.lo ≤ D.hi ∧ D.hi ≤ B.hi) (h : notAbove A B ≠ 0) : notAbove C D = notAbove A B := by
  have b := right_bd hA
  have c := right_bd hB
  simp only [notAbove, hA, hB, hC.1, hD.1, told] at *
  grind
theorem less_not {A B : Iv} (hA : A.right = true) (hB : B.right = true) : less A B = tNot (notAbove B A) := by
  have b := right_bd hA
  have c := right_bd hB
  simp only [notAbove, less, hA, hB, told, tNot] at *
  grind
theorem less_at {A B C D : Iv} (hA : A.right = true) (hB : B.right = true) (hC : C.right = true ∧ A.lo ≤ C.lo ∧ C.lo ≤ C.hi ∧ C.hi ≤ A.hi) (hD : D.right = true ∧ B.lo ≤ D.lo ∧ D.lo ≤ D.hi ∧ D.hi ≤ B.hi) : (less A B = 1 ∧ C.lo < D.lo) ∨ (less A B = 2 ∧ D.lo ≤ C.lo) ∨ less A B = 0 := by
  simp only [less, hA, hB, told] at *
  grind
theorem notAbove_at {A B C D : Iv} (hA : A.right = true) (hB : B.right = true) (hC : C.right = true ∧ A.lo ≤ C.lo ∧ C.lo ≤ C.hi ∧ C.hi ≤ A.hi) (hD : D.right = true ∧ B.lo ≤ D.lo ∧ D.lo ≤ D.hi ∧ D.hi ≤ B.hi) : (notAbove A B = 1 ∧ C.lo ≤ D.lo) ∨ (notAbove A B = 2 ∧ D.lo < C.lo) ∨ notAbove A B = 0 := by
  simp only [notAbove, hA, hB, told] at *
  grind
theorem calls (a0 : Int) (a1 : Int) (a2 : Int) (a3 : Int) (a4 : Int) (a5 : Int) (w0 : (Lit.int .i64 a0).wf = true) (w1 : (Lit.int .i64 a1).wf = true) (w2 : (Lit.int .i64 a2).wf = true) (w3 : (Lit.int .i64 a3).wf = true) (w4 : (Lit.int .i64 a4).wf = true) (w5 : (Lit.int .i64 a5).wf = true) : Plain Try.prog 3 [cInt.enc a0, cInt.enc a1, cInt.enc a2, cInt.enc a3, cInt.enc a4, cInt.enc a5] (cBool.enc true) :=
  plain_of_tree (n := 200) e_meniscuslaw3_TriTrue Try.func3 (args := [cInt.av a0, cInt.av a1, cInt.av a2, cInt.av a3, cInt.av a4, cInt.av a5]) (by simp only [AV.vals, Cod.av_val]) (Nat.le_of_ble_eq_true (by kernel_rfl)) cBool (by
    rw [t_meniscuslaw3_TriTrue]
    have p1 := pick_bd a1 (m := 3000) (by decide)
    have p2 := pick_bd a2 (m := 9000) (by decide)
    have p3 := pick_bd a3 (m := 3000) (by decide)
    have q1 : pickOk a2 9000 = true := rfl
    have q2 : pickOk a3 3000 = true := rfl
    simp only [Tr.den, q1, q2]
    have hA : (tame a0 a1).right = true := wide_right _ _ (by omega) (by omega)
    generalize tame a0 a1 = A at *
    generalize hb : wide _ (pick a3 3000) = B
    have hB : B.right = true := hb ▸ wide_right _ _ (by omega) (by omega)
    have i4 := inIv_sub hA a4 0
    have i5 := inIv_sub hB a5 0
    have i9 := inIv_sub hA a5 a4
    have i10 := inIv_sub hB a4 a5
    have l1 := less_sub hA hB i9 i10
    have l2 := notAbove_sub hA hB i9 i10
    have l3 := less_not hA hB
    have l4 := less_at hA hB i4 i5
    have l5 := notAbove_at hA hB i4 i5
    rw [← l3]
    clear l3
    generalize inIv A a4 0 = I4 at *
    generalize inIv B a5 0 = I5 at *
    generalize inIv A a5 a4 = I9 at *
    generalize inIv B a4 a5 = I10 at *
    generalize less I9 I10 = u at *
    generalize notAbove I9 I10 = v at *
    generalize less A B = x at *
    generalize notAbove A B = y at *
    rcases l4 with ⟨rfl, h1⟩ | ⟨rfl, h1⟩ | rfl <;> rcases l5 with ⟨rfl, h2⟩ | ⟨rfl, h2⟩ | rfl <;> simp_all <;> (try simp only [show decide (I5.lo ≤ I4.lo) = false from decide_eq_false (by omega)]) <;> (try simp only [show decide (I4.lo < I5.lo) = false from decide_eq_false (by omega)]) <;> (try simp only [show decide (I5.lo < I4.lo) = false from decide_eq_false (by omega)]) <;> (try simp only [show decide (I4.lo ≤ I5.lo) = false from decide_eq_false (by omega)]))
theorem own : ownKnob Try.prog.godebug = none := by kernel_rfl
theorem lifted (os : Os) (started : os.Started) (H : Type) (enc : TypeId × Value → H) :
    ReturnsInHanded {} Try.checked os 3 .any (Rows.triTrueSpec.pre6 enc Try.prog Try.f3 Rows.triTrueRow.domain false) (Rows.triTrueSpec.post enc Try.prog Try.f3 false true false false) := by
  refine returnsInHanded_of_change_sized (C := Try.checked) own started (by kernel_rfl) Try.func3
    (ChangeSpec.witness6 (enc := enc) (C := Try.checked) false ⟨#[], #[.int .i64 0, .int .i64 0, .int .i64 0, .int .i64 0, .int .i64 0, .int .i64 0], []⟩ 8 (by kernel_rfl) (by kernel_rfl) (by kernel_rfl) (by kernel_rfl)) ?_
  intro W base args ds gs before hval0 hW hcnd hsz0 _
  have hsz : (DataW.weightsEach Try.prog (Try.f3.params.toList ++ Rows.triTrueSpec.plain.varTypes Try.prog) (ds ++ gs)).all (· ≤ reachBytes) = true := hsz0
  have hval : ∀ (j : Nat) t v, Try.f3.params[j]? = some t → args[j]? = some v → Value.okWide Try.prog W .any base t v := hval0
  have hW' := hW
  obtain ⟨p, q, hA0, hV, rfl, hfz, hnd⟩ := hW
  have hA : DataW.TrodAll enc Try.prog W 0 (fun _ => true) true Try.f3.params.toList args.toList ds p := hA0
  rw [Try.params3] at hA hval hsz
  obtain ⟨v0, vs0, d0, ds0, p0, q0, hargs, rfl, rfl, h0, r0⟩ := trodAll_cons hA
  obtain ⟨v1, vs1, d1, ds1, p1, q1, rfl, rfl, rfl, h1, r1⟩ := trodAll_cons r0
  obtain ⟨v2, vs2, d2, ds2, p2, q2, rfl, rfl, rfl, h2, r2⟩ := trodAll_cons r1
  obtain ⟨v3, vs3, d3, ds3, p3, q3, rfl, rfl, rfl, h3, r3⟩ := trodAll_cons r2
  obtain ⟨v4, vs4, d4, ds4, p4, q4, rfl, rfl, rfl, h4, r4⟩ := trodAll_cons r3
  obtain ⟨v5, vs5, d5, ds5, p5, q5, rfl, rfl, rfl, h5, r5⟩ := trodAll_cons r4
  obtain ⟨rfl, rfl, rfl⟩ := trodAll_nil r5
  obtain rfl : args = #[v0, v1, v2, v3, v4, v5] := by cases args; simp_all
  obtain ⟨rfl, rfl⟩ := trodVars_none hV
  obtain ⟨a0, rfl, rfl, rfl, w0⟩ := open_int Try.underlying3 (hval 0 3 v0 rfl rfl) h0
  obtain ⟨a1, rfl, rfl, rfl, w1⟩ := open_int Try.underlying3 (hval 1 3 v1 rfl rfl) h1
  obtain ⟨a2, rfl, rfl, rfl, w2⟩ := open_int Try.underlying3 (hval 2 3 v2 rfl rfl) h2
  obtain ⟨a3, rfl, rfl, rfl, w3⟩ := open_int Try.underlying3 (hval 3 3 v3 rfl rfl) h3
  obtain ⟨a4, rfl, rfl, rfl, w4⟩ := open_int Try.underlying3 (hval 4 3 v4 rfl rfl) h4
  obtain ⟨a5, rfl, rfl, rfl, w5⟩ := open_int Try.underlying3 (hval 5 3 v5 rfl rfl) h5
  clear hA0 hval0 hsz0 hsz
  refine (calls a0 a1 a2 a3 a4 a5 w0 w1 w2 w3 w4 w5 W).mono fun e W' ⟨he, bel⟩ => ?_
  subst he
  exact ⟨_, rfl, _, _, _, [], _, [], hW', trodAll_mk1 (shut_bool Try.underlying4 _), (trodAll_cons_mk (shut_int Try.underlying3 w0) (trodAll_cons_mk (shut_int Try.underlying3 w1) (trodAll_cons_mk (shut_int Try.underlying3 w2) (trodAll_cons_mk (shut_int Try.underlying3 w3) (trodAll_cons_mk (shut_int Try.underlying3 w4) (trodAll_cons_mk (shut_int Try.underlying3 w5) trodAll_mk0)))))), rfl, bel.frame _, fun h => by cases h⟩
theorem over : Rows.triTrueRow.holds Try.pinned (OpenSpec.ofChange Rows.triTrueSpec) :=
  OpenClaim.holds_of_wide 3 Try.f3 rfl rfl rfl rfl rfl rfl rfl ⟨rfl, rfl, rfl, rfl, rfl⟩ rfl rfl rfl rfl rfl (by kernel_rfl) Try.func3 (by kernel_rfl)
    (of_decide_eq_true (by kernel_rfl)) (by unfold Func.isWrapper; first | (rw [if_pos (by decide +kernel)]; kernel_rfl) | (rw [if_neg (by decide +kernel)]; exact ⟨rfl, rfl⟩))
    (fun os started H enc _ => lifted os started H enc)
end Go.Proofs.Ytemndghpenbmeaa.triTrue
namespace Go.Proofs.Ytemndghpenbmeaa
theorem triTrue_holds : Rows.TriTrueSaid := triTrue.over
#print axioms triTrue_holds
end Go.Proofs.Ytemndghpenbmeaa
