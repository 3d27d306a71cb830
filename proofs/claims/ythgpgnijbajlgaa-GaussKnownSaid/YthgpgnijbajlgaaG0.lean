/-
  Contracts of calls, written by a small program of this session out of the evaluator's trees.
-/
import Derived.Test.YthgpgnijbajlgaaCore
import Derived.Test.YthgpgnijbajlgaaCoreLoops
import Derived.Test.YthgpgnijbajlgaaCore2
import Derived.Test.YthgpgnijbajlgaaCore3
import Derived.Test.YthgpgnijbajlgaaCore4
import Derived.Test.YthgpgnijbajlgaaCore5
import Derived.Test.YthgpgnijbajlgaaFloCod
import Derived.Test.YthgpgnijbajlgaaGs
import Derived.Test.YthgpgnijbajlgaaK0
import Derived.Test.YthgpgnijbajlgaaEvCod
import Derived.Test.YthgpgnijbajlgaaEvRet
import Derived.Test.YthgpgnijbajlgaaProg
namespace Go.Proofs.Ythgpgnijbajlgaa
open Go Go.RowKit Ev
set_option maxRecDepth 100000
set_option linter.unusedVariables false
set_option linter.unusedSimpArgs false

/-! math.Trunc -/
theorem t_math_Trunc (x0 : Nat) :
    evFn Try.prog Env.nil Laws.nil 200 Try.f119 [cF64.av x0] [] cF64.dec =
      .get (Ev.fTrunc x0) fun vna0 => .ret (vna0) := by kernel_rfl
theorem c_math_Trunc (x0 : Nat) (h : ((fun b => (fTrunc b).isSome)) x0 = true) : Plain Try.prog 119 [cF64.enc x0] (cF64.enc (((fun b => (fTrunc b).getD 0)) x0)) :=
  plain_of_tree (n := 200) EnvOK.nil Try.func119 (args := [cF64.av x0]) (by simp only [AV.vals, Cod.av_val]) (Nat.le_of_ble_eq_true (by kernel_rfl)) LFn.nil cF64 (by
    rw [t_math_Trunc]
    simp only at h
    cases hf : fTrunc x0 with
    | none => rw [hf] at h; cases h
    | some n => simp only [hf]; rfl)
theorem s_math_Trunc : Ev.Spec Try.prog 119 (F1p cF64 cF64 ((fun b => (fTrunc b).isSome)) ((fun b => (fTrunc b).getD 0))) := spec1p (fun vs w => Try.call119 vs w) c_math_Trunc

/-! gauss.part -/
theorem t_gauss_part (x0 : Nat) :
    evFn Try.prog (Env.add 119 (F1p cF64 cF64 ((fun b => (fTrunc b).isSome)) ((fun b => (fTrunc b).getD 0))) Env.nil) Laws.nil 200 Try.f83 [cF64.av x0] [] cBool.dec =
      .br (Ev.fOrd x0 13920626448202203136 == some Ordering.gt || Ev.fOrd x0 13920626448202203136 == some Ordering.eq) (.br (Ev.fOrd x0 4697254411347427328 == some Ordering.lt || Ev.fOrd x0 4697254411347427328 == some Ordering.eq) (.br ((Ev.fTrunc x0).isSome) (.bind ((Ev.fTrunc x0).getD 0) fun vna0 => .ret (Ev.fOrd x0 vna0 == some Ordering.eq)) (.fail)) (.ret (false))) (.ret (false)) := by kernel_rfl
theorem c_gauss_part (x0 : Nat) : Plain Try.prog 83 [cF64.enc x0] (cBool.enc (fPart x0)) :=
  plain_of_tree (n := 200) (EnvOK.add s_math_Trunc EnvOK.nil) Try.func83 (args := [cF64.av x0]) (by simp only [AV.vals, Cod.av_val]) (Nat.le_of_ble_eq_true (by kernel_rfl)) LFn.nil cBool (by
    rw [t_gauss_part]
    simp only [den_br, den_bind, den_ret, den_fail, den_inl, den_inr, decide_eq_true_eq, gt_iff_lt, ge_iff_le, beq_iff_eq]
    simp only [fPart]
    by_cases c1 : fGe x0 negFar = true
    · have ht := trunc_some' c1
      have c1' : (Ev.fOrd x0 13920626448202203136 == some Ordering.gt || Ev.fOrd x0 13920626448202203136 == some Ordering.eq) = true := c1
      rw [if_pos c1', c1]
      by_cases c2 : fLe x0 posFar = true
      · have c2' : (Ev.fOrd x0 4697254411347427328 == some Ordering.lt || Ev.fOrd x0 4697254411347427328 == some Ordering.eq) = true := c2
        rw [if_pos c2', c2]
        cases hf : fTrunc x0 with
        | none => rw [hf] at ht; cases ht
        | some c => rfl
      · have c2' : ¬ (Ev.fOrd x0 4697254411347427328 == some Ordering.lt || Ev.fOrd x0 4697254411347427328 == some Ordering.eq) = true := c2
        rw [if_neg c2']
        simp [c2]
    · have c1' : ¬ (Ev.fOrd x0 13920626448202203136 == some Ordering.gt || Ev.fOrd x0 13920626448202203136 == some Ordering.eq) = true := c1
      rw [if_neg c1']
      simp [c1])
theorem s_gauss_part : Ev.Spec Try.prog 83 (F1 cF64 cBool fPart) := spec1 (fun vs w => Try.call83 vs w) c_gauss_part

/-! gauss.Whole -/
theorem t_gauss_Whole (x0 : Cx) :
    evFn Try.prog (Env.add 83 (F1 cF64 cBool fPart) Env.nil) Laws.nil 200 Try.f33 [cCx.av x0] [] cBool.dec =
      .bind (fPart x0.1) fun vb0 => .br (vb0) (.bind (fPart x0.2) fun vb1 => .ret (vb1)) (.ret (false)) := by kernel_rfl
theorem c_gauss_Whole (x0 : Cx) : Plain Try.prog 33 [cCx.enc x0] (cBool.enc (cWhole x0)) :=
  plain_of_tree (n := 200) (EnvOK.add s_gauss_part EnvOK.nil) Try.func33 (args := [cCx.av x0]) (by simp only [AV.vals, Cod.av_val]) (Nat.le_of_ble_eq_true (by kernel_rfl)) LFn.nil cBool (by
    rw [t_gauss_Whole]
    simp only [den_br, den_bind, den_ret, den_fail, den_inl, den_inr, decide_eq_true_eq, gt_iff_lt, ge_iff_le, beq_iff_eq]
    simp only [cWhole]
    cases fPart x0.1 <;> simp)
theorem s_gauss_Whole : Ev.Spec Try.prog 33 (F1 cCx cBool cWhole) := spec1 (fun vs w => Try.call33 vs w) c_gauss_Whole

/-! gauss.of -/
theorem t_gauss_of (x0 : Int) (x1 : Int) :
    evFn Try.prog Env.nil Laws.nil 200 Try.f72 [cInt.av x0, cInt.av x1] [] cCx.dec =
      .ret ((Ev.fInt x0, Ev.fInt x1)) := by kernel_rfl
theorem c_gauss_of (x0 : Int) (x1 : Int) : Plain Try.prog 72 [cInt.enc x0, cInt.enc x1] (cCx.enc (((fun x y => cxOf ⟨x, y⟩)) x0 x1)) :=
  plain_of_tree (n := 200) EnvOK.nil Try.func72 (args := [cInt.av x0, cInt.av x1]) (by simp only [AV.vals, Cod.av_val]) (Nat.le_of_ble_eq_true (by kernel_rfl)) LFn.nil cCx (by
    rw [t_gauss_of]
    rfl)
theorem s_gauss_of : Ev.Spec Try.prog 72 (F2 cInt cInt cCx ((fun x y => cxOf ⟨x, y⟩))) := spec2 (fun vs w => Try.call72 vs w) c_gauss_of

/-! gauss.parts -/
theorem t_gauss_parts (x0 : Cx) :
    evFn Try.prog Env.nil Laws.nil 200 Try.f73 [cCx.av x0] [] (cTwo cInt cInt).dec =
      .get (Ev.fTo x0.1) fun vn0 => .get (Ev.fTo x0.2) fun vn1 => .ret ((vn0, vn1)) := by kernel_rfl
theorem c_gauss_parts (x0 : Cx) (h : cOk x0 = true) : Plain Try.prog 73 [cCx.enc x0] ((cTwo cInt cInt).enc (cParts x0)) :=
  plain_of_tree (n := 200) EnvOK.nil Try.func73 (args := [cCx.av x0]) (by simp only [AV.vals, Cod.av_val]) (Nat.le_of_ble_eq_true (by kernel_rfl)) LFn.nil (cTwo cInt cInt) (by
    rw [t_gauss_parts]
    simp only [cOk, Bool.and_eq_true] at h
    obtain ⟨a, ha⟩ := Option.isSome_iff_exists.1 h.1
    obtain ⟨b, hb⟩ := Option.isSome_iff_exists.1 h.2
    simp only [ha, hb, den_get, den_ret, cParts, fV, Option.getD_some])
theorem s_gauss_parts : Ev.Spec Try.prog 73 (F1p cCx (cTwo cInt cInt) cOk cParts) := spec1p (fun vs w => Try.call73 vs w) c_gauss_parts

/-! gauss.norm -/
theorem t_gauss_norm (x0 : Cx) :
    evFn Try.prog (Env.add 73 (F1p cCx (cTwo cInt cInt) cOk cParts) Env.nil) Laws.nil 200 Try.f74 [cCx.av x0] [] cInt.dec =
      .br (cOk x0) (.bind (cParts x0) fun vy0 => .ret (IntKind.i64.wrap (IntKind.i64.wrap (vy0.1 * vy0.1) + IntKind.i64.wrap (vy0.2 * vy0.2)))) (.fail) := by kernel_rfl
theorem c_gauss_norm (x0 : Cx) (h : cOk x0 = true) : Plain Try.prog 74 [cCx.enc x0] (cInt.enc (cNorm x0)) :=
  plain_of_tree (n := 200) (EnvOK.add s_gauss_parts EnvOK.nil) Try.func74 (args := [cCx.av x0]) (by simp only [AV.vals, Cod.av_val]) (Nat.le_of_ble_eq_true (by kernel_rfl)) LFn.nil cInt (by
    rw [t_gauss_norm]
    simp only [den_br, den_bind, den_ret, den_fail, den_inl, den_inr, decide_eq_true_eq, gt_iff_lt, ge_iff_le, beq_iff_eq]
    simp only [h, if_true]
    rfl)
theorem s_gauss_norm : Ev.Spec Try.prog 74 (F1p cCx cInt cOk cNorm) := spec1p (fun vs w => Try.call74 vs w) c_gauss_norm

/-! gauss.Norm -/
theorem t_gauss_Norm (x0 : Cx) :
    evFn Try.prog (Env.add 33 (F1 cCx cBool cWhole) (Env.add 74 (F1p cCx cInt cOk cNorm) Env.nil)) Laws.nil 200 Try.f21 [cCx.av x0] [] cInt.dec =
      .bind (cWhole x0) fun vb0 => .br (!vb0) (.ret (0)) (.br (cOk x0) (.bind (cNorm x0) fun vn1 => .ret (vn1)) (.fail)) := by kernel_rfl
theorem c_gauss_Norm (x0 : Cx) : Plain Try.prog 21 [cCx.enc x0] (cInt.enc (((fun z => if cWhole z = true then cNorm z else 0)) x0)) :=
  plain_of_tree (n := 200) (EnvOK.add s_gauss_Whole (EnvOK.add s_gauss_norm EnvOK.nil)) Try.func21 (args := [cCx.av x0]) (by simp only [AV.vals, Cod.av_val]) (Nat.le_of_ble_eq_true (by kernel_rfl)) LFn.nil cInt (by
    rw [t_gauss_Norm]
    simp only [den_br, den_bind, den_ret, den_fail, den_inl, den_inr, decide_eq_true_eq, gt_iff_lt, ge_iff_le, beq_iff_eq]
    cases hw : cWhole x0
    · simp
    obtain ⟨p, hp, hs⟩ := whole_spec hw
    have ho := cOk_CI hp
    simp [ho])
theorem s_gauss_Norm : Ev.Spec Try.prog 21 (F1 cCx cInt ((fun z => if cWhole z = true then cNorm z else 0))) := spec1 (fun vs w => Try.call21 vs w) c_gauss_Norm

/-! gauss.Turn -/
theorem tl_gauss_Turn_4 (t12 : Int) (t11 : Int) (t0 : Cx) :
    ev Try.prog (Env.add 33 (F1 cCx cBool cWhole) (Env.add 72 (F2 cInt cInt cCx ((fun x y => cxOf ⟨x, y⟩))) (Env.add 73 (F1p cCx (cTwo cInt cInt) cOk cParts) Env.nil))) Laws.nil 200 none (loopAt Try.f19 4) ((sc 22 [12, 11, 0] (tCod 12 cInt (tCod 11 cInt (tCod 0 cCx tNil))) rNil).enc ((t12, t11, t0, ()), (()))) (backK (sc 22 [12, 11, 0] (tCod 12 cInt (tCod 11 cInt (tCod 0 cCx tNil))) rNil) (ocExit 0 (sc 22 [0] (tCod 0 cCx tNil) rNil))) =
      .br (decide (t12 < t11)) (.get (cMulBits t0.1 t0.2 0 4607182418800017408) fun vy0 => .ret (Sum.inl ((IntKind.i64.wrap (t12 + 1), t11, vy0, ()), ()))) (.ret (Sum.inr ((t0, ()), ()))) := by kernel_rfl
theorem ok_gauss_Turn_4 : LOK Try.prog (LoopR.of (sc 22 [12, 11, 0] (tCod 12 cInt (tCod 11 cInt (tCod 0 cCx tNil))) rNil) (ocExit 0 (sc 22 [0] (tCod 0 cCx tNil) rNil)) (runBy cturnStep cturnM)) (loopAt Try.f19 4) := by
  refine loop_ok (EnvOK.add s_gauss_Whole (EnvOK.add s_gauss_of (EnvOK.add s_gauss_parts EnvOK.nil))) (LFn.at (fn := Try.f19) LFn.nil 4) cturnStep (n := 200) (fun x z h => ?_) (runBy_ok _ _)
  obtain ⟨⟨t12, t11, t0, ⟨⟩⟩, ⟨⟩⟩ := x
  rw [tl_gauss_Turn_4]
  rw [← h]
  simp only [den_br, den_bind, den_ret, den_fail, den_inl, den_inr, decide_eq_true_eq, gt_iff_lt, ge_iff_le, beq_iff_eq]
  simp only [cturnStep]
  rw [show (4607182418800017408 : Nat) = oneF from rfl]
  by_cases h0 : t12 < t11 <;> simp only [h0, if_true, if_false]
  cases cMulBits t0.1 t0.2 0 oneF <;> rfl
theorem t_gauss_Turn (x0 : Cx) (x1 : Int) :
    evFn Try.prog (Env.add 33 (F1 cCx cBool cWhole) (Env.add 72 (F2 cInt cInt cCx ((fun x y => cxOf ⟨x, y⟩))) (Env.add 73 (F1p cCx (cTwo cInt cInt) cOk cParts) Env.nil))) (Laws.add 4 (LoopR.of (sc 22 [12, 11, 0] (tCod 12 cInt (tCod 11 cInt (tCod 0 cCx tNil))) rNil) (ocExit 0 (sc 22 [0] (tCod 0 cCx tNil) rNil)) (runBy cturnStep cturnM)) Laws.nil) 200 Try.f19 [cCx.av x0, cInt.av x1] [] cCx.dec =
      .bind (cWhole x0) fun vb0 => .br (!vb0) (.ret ((0, 0))) (.get (runBy cturnStep cturnM ((0, (IntKind.i64.wrap (x1.tmod 4 + 4)).tmod 4, x0, ()), ())) fun vy1 => .br (cOk vy1.1.1) (.bind (cParts vy1.1.1) fun vy2 => .bind (cxOf (Pair.mk vy2.1 vy2.2)) fun vcx3 => .ret (vcx3)) (.fail)) := by kernel_rfl
theorem c_gauss_Turn (x0 : Cx) (x1 : Int) : Plain Try.prog 19 [cCx.enc x0, cInt.enc x1] (cCx.enc (cTurn x0 x1)) :=
  plain_of_tree (n := 200) (EnvOK.add s_gauss_Whole (EnvOK.add s_gauss_of (EnvOK.add s_gauss_parts EnvOK.nil))) Try.func19 (args := [cCx.av x0, cInt.av x1]) (by simp only [AV.vals, Cod.av_val]) (Nat.le_of_ble_eq_true (by kernel_rfl)) (LFn.add (fn := Try.f19) (i := 4) (by kernel_rfl) ok_gauss_Turn_4 LFn.nil) cCx (by
    rw [t_gauss_Turn]
    simp only [den_br, den_bind, den_ret, den_fail, den_inl, den_inr, decide_eq_true_eq, gt_iff_lt, ge_iff_le, beq_iff_eq]
    simp only [cTurn]
    cases hw : cWhole x0
    · simp
    obtain ⟨p, hp, hs⟩ := whole_spec hw
    obtain ⟨z', h1, h2⟩ := cturn_run x1 hp hs
    rw [show (IntKind.i64.wrap (x1.tmod 4 + 4)).tmod 4 = turns x1 from rfl, h1]
    simp only [den_get, den_br, den_bind, den_ret, cOk_CI h2, if_true, Bool.not_true, Bool.false_eq_true, if_false]
    rfl)
theorem s_gauss_Turn : Ev.Spec Try.prog 19 (F2 cCx cInt cCx cTurn) := spec2 (fun vs w => Try.call19 vs w) c_gauss_Turn

/-! gauss.Mirror -/
theorem t_gauss_Mirror (x0 : Cx) :
    evFn Try.prog (Env.add 33 (F1 cCx cBool cWhole) (Env.add 72 (F2 cInt cInt cCx ((fun x y => cxOf ⟨x, y⟩))) (Env.add 73 (F1p cCx (cTwo cInt cInt) cOk cParts) Env.nil))) Laws.nil 200 Try.f20 [cCx.av x0] [] cCx.dec =
      .bind (cWhole x0) fun vb0 => .br (!vb0) (.ret ((0, 0))) (.br (cOk (x0.1, Op.negFloat FloatKind.f64 x0.2)) (.bind (cParts (x0.1, Op.negFloat FloatKind.f64 x0.2)) fun vy1 => .bind (cxOf (Pair.mk vy1.1 vy1.2)) fun vcx2 => .ret (vcx2)) (.fail)) := by kernel_rfl
theorem c_gauss_Mirror (x0 : Cx) : Plain Try.prog 20 [cCx.enc x0] (cCx.enc (cMirror x0)) :=
  plain_of_tree (n := 200) (EnvOK.add s_gauss_Whole (EnvOK.add s_gauss_of (EnvOK.add s_gauss_parts EnvOK.nil))) Try.func20 (args := [cCx.av x0]) (by simp only [AV.vals, Cod.av_val]) (Nat.le_of_ble_eq_true (by kernel_rfl)) LFn.nil cCx (by
    rw [t_gauss_Mirror]
    simp only [den_br, den_bind, den_ret, den_fail, den_inl, den_inr, decide_eq_true_eq, gt_iff_lt, ge_iff_le, beq_iff_eq]
    simp only [cMirror]
    cases hw : cWhole x0
    · simp
    obtain ⟨p, hp, hs⟩ := whole_spec hw
    have hc : CI (x0.1, Op.negFloat .f64 x0.2) p.neg := ⟨hp.1, FI_neg hp.2⟩
    have ho := cOk_CI hc
    simp only [ho, Bool.not_true, Bool.false_eq_true, if_false, if_true]
    rfl)
theorem s_gauss_Mirror : Ev.Spec Try.prog 20 (F1 cCx cCx cMirror) := spec1 (fun vs w => Try.call20 vs w) c_gauss_Mirror

/-! gauss.near -/
theorem t_gauss_near (x0 : Int) :
    evFn Try.prog Env.nil Laws.nil 200 Try.f80 [cInt.av x0] [] cInt.dec =
      .br (decide (x0 < 0)) (.ret (IntKind.i64.wrap (x0 + 1))) (.ret (x0)) := by kernel_rfl
theorem c_gauss_near (x0 : Int) : Plain Try.prog 80 [cInt.enc x0] (cInt.enc (nearI x0)) :=
  plain_of_tree (n := 200) EnvOK.nil Try.func80 (args := [cInt.av x0]) (by simp only [AV.vals, Cod.av_val]) (Nat.le_of_ble_eq_true (by kernel_rfl)) LFn.nil cInt (by
    rw [t_gauss_near]
    simp only [den_br, den_bind, den_ret, den_fail, den_inl, den_inr, decide_eq_true_eq, gt_iff_lt, ge_iff_le, beq_iff_eq]
    simp only [nearI]
    by_cases h : x0 < 0 <;> simp only [h, if_true, if_false])
theorem s_gauss_near : Ev.Spec Try.prog 80 (F1 cInt cInt nearI) := spec1 (fun vs w => Try.call80 vs w) c_gauss_near

/-! gauss.InDisc -/
theorem tl_gauss_InDisc_8 (t39 : Int) (t38 : Int) (t1 : Int) (r0 : List Cx) :
    ev Try.prog (Env.add 33 (F1 cCx cBool cWhole) (Env.add 72 (F2 cInt cInt cCx ((fun x y => cxOf ⟨x, y⟩))) (Env.add 73 (F1p cCx (cTwo cInt cInt) cOk cParts) (Env.add 74 (F1p cCx cInt cOk cNorm) (Env.add 80 (F1 cInt cInt nearI) Env.nil))))) Laws.nil 200 none (loopAt Try.f28 8) ((sc 50 [39, 38, 1, 37] (tCod 39 cInt (tCod 38 cInt (tCod 1 cInt (tSl 37 0 tNil)))) (rG_cx 22 rNil)).enc ((t39, t38, t1, ()), (r0, ()))) (backK (sc 50 [39, 38, 1, 37] (tCod 39 cInt (tCod 38 cInt (tCod 1 cInt (tSl 37 0 tNil)))) (rG_cx 22 rNil)) (ocOr (ocExit 0 (sc 50 [] tNil rNil)) (ocRet (sc 50 [4] (tCod 4 cInt tNil) rNil)))) =
      .br (decide (t39 < t38)) (.br (decide (0 ≤ t39 ∧ t39 < (@Nat.cast Int _ r0.length))) (.get (r0[t39.toNat]?) fun vt0 => .br (cOk vt0) (.bind (cNorm vt0) fun vn1 => .br (decide (vn1 > IntKind.i64.wrap (t1 * t1))) (.ret (Sum.inr (Sum.inr ((0, ()), ())))) (.ret (Sum.inl ((IntKind.i64.wrap (t39 + 1), t38, t1, ()), r0, ())))) (.fail)) (.fail)) (.ret (Sum.inr (Sum.inl ((), ())))) := by kernel_rfl
theorem ok_gauss_InDisc_8 : LOK Try.prog (LoopR.of (sc 50 [39, 38, 1, 37] (tCod 39 cInt (tCod 38 cInt (tCod 1 cInt (tSl 37 0 tNil)))) (rG_cx 22 rNil)) (ocOr (ocExit 0 (sc 50 [] tNil rNil)) (ocRet (sc 50 [4] (tCod 4 cInt tNil) rNil))) (runBy discStep discM)) (loopAt Try.f28 8) := by
  refine loop_ok (EnvOK.add s_gauss_Whole (EnvOK.add s_gauss_of (EnvOK.add s_gauss_parts (EnvOK.add s_gauss_norm (EnvOK.add s_gauss_near EnvOK.nil))))) (LFn.at (fn := Try.f28) LFn.nil 8) discStep (n := 200) (fun x z h => ?_) (runBy_ok _ _)
  obtain ⟨⟨t39, t38, t1, ⟨⟩⟩, ⟨r0, ⟨⟩⟩⟩ := x
  rw [tl_gauss_InDisc_8]
  rw [← h]
  simp only [den_br, den_bind, den_ret, den_fail, den_inl, den_inr, decide_eq_true_eq, gt_iff_lt, ge_iff_le, beq_iff_eq]
  simp only [discStep]
  by_cases h0 : t39 < t38 <;> simp only [h0, if_true, if_false]
  by_cases h1 : 0 ≤ t39 ∧ t39 < (r0.length : Int) <;> simp only [h1, and_self, if_true, if_false]
  cases hg : r0[t39.toNat]? with
  | none => rfl
  | some c =>
    simp only [den_get, den_br, den_bind, den_ret, den_fail, decide_eq_true_eq, gt_iff_lt]
theorem t_gauss_InDisc (x0 : Cx) (x1 : Int) :
    evFn Try.prog (Env.add 33 (F1 cCx cBool cWhole) (Env.add 72 (F2 cInt cInt cCx ((fun x y => cxOf ⟨x, y⟩))) (Env.add 73 (F1p cCx (cTwo cInt cInt) cOk cParts) (Env.add 74 (F1p cCx cInt cOk cNorm) (Env.add 80 (F1 cInt cInt nearI) Env.nil))))) (Laws.add 8 (LoopR.of (sc 50 [39, 38, 1, 37] (tCod 39 cInt (tCod 38 cInt (tCod 1 cInt (tSl 37 0 tNil)))) (rG_cx 22 rNil)) (ocOr (ocExit 0 (sc 50 [] tNil rNil)) (ocRet (sc 50 [4] (tCod 4 cInt tNil) rNil))) (runBy discStep discM)) Laws.nil) 200 Try.f28 [cCx.av x0, cInt.av x1] [] cInt.dec =
      .bind (cWhole x0) fun vb0 => .br (!vb0) (.ret (0)) (.br (cOk x0) (.bind (cParts x0) fun vy1 => .bind (nearI vy1.1) fun vn2 => .bind (nearI vy1.2) fun vn3 => .bind (cxOf (Pair.mk vn2 vn3)) fun vcx4 => .br (cOk vcx4) (.bind (cNorm vcx4) fun vn5 => .br (decide (vn5 > IntKind.i64.wrap (Max.max 0 (Min.min x1 1048576) * Max.max 0 (Min.min x1 1048576)))) (.ret (2)) (.get (cSumBits BinOp.add FloatKind.f64 x0.1 x0.2 4607182418800017408 0) fun vy6 => .get (cSumBits BinOp.add FloatKind.f64 x0.1 x0.2 0 4607182418800017408) fun vy7 => .get (cSumBits BinOp.add FloatKind.f64 x0.1 x0.2 4607182418800017408 4607182418800017408) fun vy8 => .get (runBy discStep discM ((0, (@Nat.cast Int _ [x0, vy6, vy7, vy8].length), Max.max 0 (Min.min x1 1048576), ()), [x0, vy6, vy7, vy8], ())) fun vy9 => .sum (vy9) (fun vs10 => .ret (1)) (fun vs11 => .ret (vs11.1.1)))) (.fail)) (.fail)) := by kernel_rfl
theorem c_gauss_InDisc (x0 : Cx) (x1 : Int) : Plain Try.prog 28 [cCx.enc x0, cInt.enc x1] (cInt.enc (cInDisc x0 x1)) :=
  plain_of_tree (n := 200) (EnvOK.add s_gauss_Whole (EnvOK.add s_gauss_of (EnvOK.add s_gauss_parts (EnvOK.add s_gauss_norm (EnvOK.add s_gauss_near EnvOK.nil))))) Try.func28 (args := [cCx.av x0, cInt.av x1]) (by simp only [AV.vals, Cod.av_val]) (Nat.le_of_ble_eq_true (by kernel_rfl)) (LFn.add (fn := Try.f28) (i := 8) (by kernel_rfl) ok_gauss_InDisc_8 LFn.nil) cInt (by
    rw [t_gauss_InDisc]
    simp only [den_br, den_bind, den_ret, den_fail, den_inl, den_inr, decide_eq_true_eq, gt_iff_lt, ge_iff_le, beq_iff_eq]
    simp only [cInDisc]
    cases hw : cWhole x0
    · simp
    obtain ⟨p, hp, hs⟩ := whole_spec hw
    have hs' := hs
    obtain ⟨⟨s1, s2⟩, s3, s4⟩ := hs'
    have nb : ∀ x : Int, -1048576 ≤ x → x ≤ 1048576 → -1048576 ≤ nearI x ∧ nearI x ≤ 1048576 := by
      intro x h1 h2
      unfold nearI
      split
      · rw [wr (by omega)]; omega
      · omega
    have n1 := nb p.x s1 s2
    have n2 := nb p.y s3 s4
    have hN : CI (cxOf ⟨nearI p.x, nearI p.y⟩) ⟨nearI p.x, nearI p.y⟩ := CI_of ⟨by simp only; omega, by simp only; omega⟩
    have hNn := cNorm_CI hN ⟨by simp only; omega, by simp only; omega⟩
    obtain ⟨a1, e1, f1⟩ := cAdd_CI (w := (oneF, 0)) (q := ⟨1, 0⟩) hp ⟨FI_one, FI_zero⟩ (B := 1048576) hs ⟨by decide, by decide⟩ (by decide)
    obtain ⟨a2, e2, f2⟩ := cAdd_CI (w := (0, oneF)) (q := ⟨0, 1⟩) hp ⟨FI_zero, FI_one⟩ (B := 1048576) hs ⟨by decide, by decide⟩ (by decide)
    obtain ⟨a3, e3, f3⟩ := cAdd_CI (w := (oneF, oneF)) (q := ⟨1, 1⟩) hp ⟨FI_one, FI_one⟩ (B := 1048576) hs ⟨by decide, by decide⟩ (by decide)
    have e1' : cSumBits .add .f64 x0.1 x0.2 4607182418800017408 0 = some a1 := e1
    have e2' : cSumBits .add .f64 x0.1 x0.2 0 4607182418800017408 = some a2 := e2
    have e3' : cSumBits .add .f64 x0.1 x0.2 4607182418800017408 4607182418800017408 = some a3 := e3
    have hd : 0 ≤ discR x1 ∧ discR x1 ≤ 1048576 := by unfold discR; omega
    have hr := disc_run hp f1 f2 f3 (small_mono hs (by decide)) ⟨by simp only [Pair.add]; omega, by simp only [Pair.add]; omega⟩ ⟨by simp only [Pair.add]; omega, by simp only [Pair.add]; omega⟩ ⟨by simp only [Pair.add]; omega, by simp only [Pair.add]; omega⟩ hd
    have hw2 : IntKind.i64.wrap (discR x1 * discR x1) = discR x1 * discR x1 := wr (by have := sq_bd (a := discR x1) (B := 1048576) (by omega) (by decide); omega)
    rw [show max 0 (min x1 1048576) = discR x1 from rfl]
    simp only [Bool.not_true, Bool.false_eq_true, if_false, if_true, cOk_CI hp, cParts_CI hp, cOk_CI hN, hNn, hw2, e1', e2', e3', den_get, den_br, den_bind, den_ret, decide_eq_true_eq, gt_iff_lt, hr, cV_CI hp, discOf]
    by_cases c1 : discR x1 * discR x1 < Pair.norm ⟨nearI p.x, nearI p.y⟩
    · simp only [c1, if_true]
    · simp only [c1, if_false]
      by_cases c2 : discR x1 * discR x1 < p.norm ∨ discR x1 * discR x1 < (p.add ⟨1, 0⟩).norm ∨ discR x1 * discR x1 < (p.add ⟨0, 1⟩).norm ∨ discR x1 * discR x1 < (p.add ⟨1, 1⟩).norm
      · rw [if_pos c2, if_pos c2]; rfl
      · rw [if_neg c2, if_neg c2]; rfl)
theorem s_gauss_InDisc : Ev.Spec Try.prog 28 (F2 cCx cInt cInt cInDisc) := spec2 (fun vs w => Try.call28 vs w) c_gauss_InDisc

/-! gauss.Cells -/
theorem tl_gauss_Cells_7 (t5 : Int) (t0 : Int) (t4 : Int) (r0 : List Cx) :
    ev Try.prog (Env.add 72 (F2 cInt cInt cCx ((fun x y => cxOf ⟨x, y⟩))) Env.nil) Laws.nil 200 none (loopAt Try.f29 7) ((sc 30 [5, 0, 4, 3] (tCod 5 cInt (tCod 0 cInt (tCod 4 cInt (tSl 3 0 tNil)))) (rG_cx 22 rNil)).enc ((t5, t0, t4, ()), (r0, ()))) (backK (sc 30 [5, 0, 4, 3] (tCod 5 cInt (tCod 0 cInt (tCod 4 cInt (tSl 3 0 tNil)))) (rG_cx 22 rNil)) (ocExit 2 (sc 30 [0, 4, 3] (tCod 0 cInt (tCod 4 cInt (tSl 3 0 tNil))) (rG_cx 22 rNil)))) =
      .br (decide (t5 < t0)) (.bind (cxOf (Pair.mk t5 t4)) fun vcx0 => .br (Ev.lenOk (r0 ++ [vcx0])) (.ret (Sum.inl ((IntKind.i64.wrap (t5 + 1), t0, t4, ()), r0 ++ [vcx0], ()))) (.fail)) (.ret (Sum.inr ((t0, t4, ()), r0, ()))) := by kernel_rfl
theorem ok_gauss_Cells_7 : LOK Try.prog (LoopR.of (sc 30 [5, 0, 4, 3] (tCod 5 cInt (tCod 0 cInt (tCod 4 cInt (tSl 3 0 tNil)))) (rG_cx 22 rNil)) (ocExit 2 (sc 30 [0, 4, 3] (tCod 0 cInt (tCod 4 cInt (tSl 3 0 tNil))) (rG_cx 22 rNil))) (runBy cellInStep cellInM)) (loopAt Try.f29 7) := by
  refine loop_ok (EnvOK.add s_gauss_of EnvOK.nil) (LFn.at (fn := Try.f29) LFn.nil 7) cellInStep (n := 200) (fun x z h => ?_) (runBy_ok _ _)
  obtain ⟨⟨t5, t0, t4, ⟨⟩⟩, ⟨r0, ⟨⟩⟩⟩ := x
  rw [tl_gauss_Cells_7]
  rw [← h]
  simp only [den_br, den_bind, den_ret, den_fail, den_inl, den_inr, decide_eq_true_eq, gt_iff_lt, ge_iff_le, beq_iff_eq]
  simp only [cellInStep]
theorem tl_gauss_Cells_4 (t4 : Int) (t0 : Int) (r0 : List Cx) :
    ev Try.prog (Env.add 72 (F2 cInt cInt cCx ((fun x y => cxOf ⟨x, y⟩))) Env.nil) (Laws.add 7 (LoopR.of (sc 30 [5, 0, 4, 3] (tCod 5 cInt (tCod 0 cInt (tCod 4 cInt (tSl 3 0 tNil)))) (rG_cx 22 rNil)) (ocExit 2 (sc 30 [0, 4, 3] (tCod 0 cInt (tCod 4 cInt (tSl 3 0 tNil))) (rG_cx 22 rNil))) (runBy cellInStep cellInM)) Laws.nil) 200 none (loopAt Try.f29 4) ((sc 30 [4, 0, 3] (tCod 4 cInt (tCod 0 cInt (tSl 3 0 tNil))) (rG_cx 22 rNil)).enc ((t4, t0, ()), (r0, ()))) (backK (sc 30 [4, 0, 3] (tCod 4 cInt (tCod 0 cInt (tSl 3 0 tNil))) (rG_cx 22 rNil)) (ocExit 0 (sc 30 [3] (tSl 3 0 tNil) (rG_cx 22 rNil)))) =
      .br (decide (t4 < t0)) (.get (runBy cellInStep cellInM ((IntKind.i64.wrap (0 - t0), t0, t4, ()), r0, ())) fun vy0 => .ret (Sum.inl ((IntKind.i64.wrap (vy0.1.2.1 + 1), vy0.1.1, ()), vy0.2.1, ()))) (.ret (Sum.inr ((), r0, ()))) := by kernel_rfl
theorem ok_gauss_Cells_4 : LOK Try.prog (LoopR.of (sc 30 [4, 0, 3] (tCod 4 cInt (tCod 0 cInt (tSl 3 0 tNil))) (rG_cx 22 rNil)) (ocExit 0 (sc 30 [3] (tSl 3 0 tNil) (rG_cx 22 rNil))) (runBy cellOutStep cellOutM)) (loopAt Try.f29 4) := by
  refine loop_ok (EnvOK.add s_gauss_of EnvOK.nil) (LFn.at (fn := Try.f29) (LFn.add (fn := Try.f29) (i := 7) (by kernel_rfl) ok_gauss_Cells_7 LFn.nil) 4) cellOutStep (n := 200) (fun x z h => ?_) (runBy_ok _ _)
  obtain ⟨⟨t4, t0, ⟨⟩⟩, ⟨r0, ⟨⟩⟩⟩ := x
  rw [tl_gauss_Cells_4]
  rw [← h]
  simp only [den_br, den_bind, den_ret, den_fail, den_inl, den_inr, decide_eq_true_eq, gt_iff_lt, ge_iff_le, beq_iff_eq]
  simp only [cellOutStep]
  by_cases h0 : t4 < t0 <;> simp only [h0, if_true, if_false]
  cases runBy cellInStep cellInM ((IntKind.i64.wrap (0 - t0), t0, t4, ()), (r0, ())) <;> rfl
theorem t_gauss_Cells (t0 : Int) :
    evFnR Try.prog (Env.add 72 (F2 cInt cInt cCx ((fun x y => cxOf ⟨x, y⟩))) Env.nil) (Laws.add 4 (LoopR.of (sc 30 [4, 0, 3] (tCod 4 cInt (tCod 0 cInt (tSl 3 0 tNil))) (rG_cx 22 rNil)) (ocExit 0 (sc 30 [3] (tSl 3 0 tNil) (rG_cx 22 rNil))) (runBy cellOutStep cellOutM)) (Laws.add 7 (LoopR.of (sc 30 [5, 0, 4, 3] (tCod 5 cInt (tCod 0 cInt (tCod 4 cInt (tSl 3 0 tNil)))) (rG_cx 22 rNil)) (ocExit 2 (sc 30 [0, 4, 3] (tCod 0 cInt (tCod 4 cInt (tSl 3 0 tNil))) (rG_cx 22 rNil))) (runBy cellInStep cellInM)) Laws.nil)) 200 Try.f29 (((sc 1 [0] (tCod 0 cInt tNil) rNil).enc ((t0, ()), (()))).tmps.map Prod.snd) ((sc 1 [0] (tCod 0 cInt tNil) rNil).enc ((t0, ()), (()))).mem (sc 1 [0] (tSl 0 0 tNil) (rG_cx 22 rNil)).ts (sc 1 [0] (tSl 0 0 tNil) (rG_cx 22 rNil)).dec =
      .get (runBy cellOutStep cellOutM ((IntKind.i64.wrap (0 - Max.max 0 (Min.min t0 16)), Max.max 0 (Min.min t0 16), ()), [], ())) fun vy0 => .ret (((), vy0.2.1, ())) := by kernel_rfl
theorem c_gauss_Cells : PlainR Try.prog 29 (sc 1 [0] (tCod 0 cInt tNil) rNil) (sc 1 [0] (tSl 0 0 tNil) (rG_cx 22 rNil)) (fun _ => true) ((fun x => ((), ((cellsP (cellsR x.1.1)).map cxOf, ())))) := by
  intro x h N w vs hM hv
  obtain ⟨⟨t0, ⟨⟩⟩, ⟨⟩⟩ := x
  refine calls_of_treeR (n := 200) (EnvOK.add s_gauss_of EnvOK.nil) Try.func29 hv (Nat.le_of_ble_eq_true (by kernel_rfl)) (LFn.add (fn := Try.f29) (i := 4) (by kernel_rfl) ok_gauss_Cells_4 (LFn.add (fn := Try.f29) (i := 7) (by kernel_rfl) ok_gauss_Cells_7 LFn.nil)) hM (sc 1 [0] (tSl 0 0 tNil) (rG_cx 22 rNil)) rfl ?_
  rw [t_gauss_Cells]
  have hr := cells_run (n := cellsR t0) (by unfold cellsR; omega)
  rw [show max 0 (min t0 16) = cellsR t0 from rfl, hr]
  rfl
theorem s_gauss_Cells : Ev.Spec Try.prog 29 (FR (sc 1 [0] (tCod 0 cInt tNil) rNil) (sc 1 [0] (tSl 0 0 tNil) (rG_cx 22 rNil)) (fun _ => true) ((fun x => ((), ((cellsP (cellsR x.1.1)).map cxOf, ()))))) := specR rfl (fun _ => rfl) (fun vs w => Try.call29 vs w) c_gauss_Cells

/-! gauss.right -/
theorem t_gauss_right (x0 : Beam) :
    evFn Try.prog (Env.add 33 (F1 cCx cBool cWhole) Env.nil) Laws.nil 200 Try.f75 [cBeam.av x0] [] cBool.dec =
      .bind (cWhole x0.1) fun vb0 => .br (vb0) (.bind (cWhole x0.2) fun vb1 => .br (vb1) (.br (!Ev.cEq x0.1.1 x0.1.2 0 0) (.ret (true)) (.ret (!Ev.cEq x0.2.1 x0.2.2 0 0))) (.ret (false))) (.ret (false)) := by kernel_rfl
theorem c_gauss_right (x0 : Beam) : Plain Try.prog 75 [cBeam.enc x0] (cBool.enc (cRight x0)) :=
  plain_of_tree (n := 200) (EnvOK.add s_gauss_Whole EnvOK.nil) Try.func75 (args := [cBeam.av x0]) (by simp only [AV.vals, Cod.av_val]) (Nat.le_of_ble_eq_true (by kernel_rfl)) LFn.nil cBool (by
    rw [t_gauss_right]
    simp only [den_br, den_bind, den_ret, den_fail, den_inl, den_inr, decide_eq_true_eq, gt_iff_lt, ge_iff_le, beq_iff_eq]
    simp only [cRight]
    cases cWhole x0.1 <;> cases cWhole x0.2 <;> cases cEq x0.1.1 x0.1.2 0 0 <;> simp)
theorem s_gauss_right : Ev.Spec Try.prog 75 (F1 cBeam cBool cRight) := spec1 (fun vs w => Try.call75 vs w) c_gauss_right

/-! gauss.Carry$1 -/
theorem t_gauss_Carry_1 (x0 : Int) :
    evFn Try.prog (Env.add 72 (F2 cInt cInt cCx ((fun x y => cxOf ⟨x, y⟩))) Env.nil) Laws.nil 200 Try.f77 [cInt.av x0] [] cCx.dec =
      .bind (cxOf (Pair.mk x0 0)) fun vcx0 => .ret (vcx0) := by kernel_rfl
theorem c_gauss_Carry_1 (x0 : Int) : Plain Try.prog 77 [cInt.enc x0] (cCx.enc (((fun n => cxOf ⟨n, 0⟩)) x0)) :=
  plain_of_tree (n := 200) (EnvOK.add s_gauss_of EnvOK.nil) Try.func77 (args := [cInt.av x0]) (by simp only [AV.vals, Cod.av_val]) (Nat.le_of_ble_eq_true (by kernel_rfl)) LFn.nil cCx (by
    rw [t_gauss_Carry_1]
    rfl)
theorem s_gauss_Carry_1 : Ev.Spec Try.prog 77 (F1 cInt cCx ((fun n => cxOf ⟨n, 0⟩))) := spec1 (fun vs w => Try.call77 vs w) c_gauss_Carry_1

/-! gauss.Carry -/
theorem t_gauss_Carry (x0 : Beam) (x1 : Quad) :
    evFn Try.prog (Env.add 72 (F2 cInt cInt cCx ((fun x y => cxOf ⟨x, y⟩))) (Env.add 73 (F1p cCx (cTwo cInt cInt) cOk cParts) (Env.add 75 (F1 cBeam cBool cRight) (Env.add 77 (F1 cInt cCx ((fun n => cxOf ⟨n, 0⟩))) Env.nil)))) Laws.nil 200 Try.f25 [cBeam.av x0, cQuad.av x1] [] (cTwo cBeam cBool).dec =
      .br (decide (x1.1 < -1048576)) (.ret ((((0, 0), 0, 0), false))) (.br (decide (x1.1 > 1048576)) (.ret ((((0, 0), 0, 0), false))) (.br (decide (x1.2.1 < -1048576)) (.ret ((((0, 0), 0, 0), false))) (.br (decide (x1.2.1 > 1048576)) (.ret ((((0, 0), 0, 0), false))) (.br (decide (x1.2.2.1 < -1048576)) (.ret ((((0, 0), 0, 0), false))) (.br (decide (x1.2.2.1 > 1048576)) (.ret ((((0, 0), 0, 0), false))) (.br (decide (x1.2.2.2 < -1048576)) (.ret ((((0, 0), 0, 0), false))) (.br (decide (x1.2.2.2 > 1048576)) (.ret ((((0, 0), 0, 0), false))) (.bind (cRight x0) fun vb0 => .br (!vb0) (.ret ((((0, 0), 0, 0), false))) (.bind (cxOf (Pair.mk x1.1 0)) fun vcx1 => .get (cMulBits vcx1.1 vcx1.2 x0.1.1 x0.1.2) fun vy2 => .bind (cxOf (Pair.mk x1.2.1 0)) fun vcx3 => .get (cMulBits vcx3.1 vcx3.2 x0.2.1 x0.2.2) fun vy4 => .get (cSumBits BinOp.add FloatKind.f64 vy2.1 vy2.2 vy4.1 vy4.2) fun vy5 => .bind (cxOf (Pair.mk x1.2.2.1 0)) fun vcx6 => .get (cMulBits vcx6.1 vcx6.2 x0.1.1 x0.1.2) fun vy7 => .bind (cxOf (Pair.mk x1.2.2.2 0)) fun vcx8 => .get (cMulBits vcx8.1 vcx8.2 x0.2.1 x0.2.2) fun vy9 => .get (cSumBits BinOp.add FloatKind.f64 vy7.1 vy7.2 vy9.1 vy9.2) fun vy10 => .bind (cRight (vy5, vy10)) fun vb11 => .br (!vb11) (.ret ((((0, 0), 0, 0), false))) (.br (cOk vy5) (.bind (cParts vy5) fun vy12 => .bind (cxOf (Pair.mk vy12.1 vy12.2)) fun vcx13 => .br (cOk vy10) (.bind (cParts vy10) fun vy14 => .bind (cxOf (Pair.mk vy14.1 vy14.2)) fun vcx15 => .ret (((vcx13, vcx15), true))) (.fail)) (.fail))))))))))) := by kernel_rfl
theorem c_gauss_Carry (x0 : Beam) (x1 : Quad) : Plain Try.prog 25 [cBeam.enc x0, cQuad.enc x1] ((cTwo cBeam cBool).enc (cCarry x0 x1)) :=
  plain_of_tree (n := 200) (EnvOK.add s_gauss_of (EnvOK.add s_gauss_parts (EnvOK.add s_gauss_right (EnvOK.add s_gauss_Carry_1 EnvOK.nil)))) Try.func25 (args := [cBeam.av x0, cQuad.av x1]) (by simp only [AV.vals, Cod.av_val]) (Nat.le_of_ble_eq_true (by kernel_rfl)) LFn.nil (cTwo cBeam cBool) (by
    rw [t_gauss_Carry]
    simp only [den_br, den_bind, den_ret, den_fail, den_inl, den_inr, decide_eq_true_eq, gt_iff_lt, ge_iff_le, beq_iff_eq]
    have q0 : ∀ {P : Prop}, (quadIn x1 = true → P) → quadIn x1 = true → P := fun f => f
    simp only [cCarry]
    by_cases h1 : x1.1 < -1048576
    · have : quadIn x1 = false := by simp [quadIn, small1]; omega
      simp [h1, this, zeroBeam]
    by_cases h2 : 1048576 < x1.1
    · have : quadIn x1 = false := by simp [quadIn, small1]; omega
      simp [h1, h2, this, zeroBeam]
    by_cases h3 : x1.2.1 < -1048576
    · have : quadIn x1 = false := by simp [quadIn, small1]; omega
      simp [h1, h2, h3, this, zeroBeam]
    by_cases h4 : 1048576 < x1.2.1
    · have : quadIn x1 = false := by simp [quadIn, small1]; omega
      simp [h1, h2, h3, h4, this, zeroBeam]
    by_cases h5 : x1.2.2.1 < -1048576
    · have : quadIn x1 = false := by simp [quadIn, small1]; omega
      simp [h1, h2, h3, h4, h5, this, zeroBeam]
    by_cases h6 : 1048576 < x1.2.2.1
    · have : quadIn x1 = false := by simp [quadIn, small1]; omega
      simp [h1, h2, h3, h4, h5, h6, this, zeroBeam]
    by_cases h7 : x1.2.2.2 < -1048576
    · have : quadIn x1 = false := by simp [quadIn, small1]; omega
      simp [h1, h2, h3, h4, h5, h6, h7, this, zeroBeam]
    by_cases h8 : 1048576 < x1.2.2.2
    · have : quadIn x1 = false := by simp [quadIn, small1]; omega
      simp [h1, h2, h3, h4, h5, h6, h7, h8, this, zeroBeam]
    have k1 : small1 x1.1 = true := decide_eq_true (by omega)
    have k2 : small1 x1.2.1 = true := decide_eq_true (by omega)
    have k3 : small1 x1.2.2.1 = true := decide_eq_true (by omega)
    have k4 : small1 x1.2.2.2 = true := decide_eq_true (by omega)
    have hq : quadIn x1 = true := by simp [quadIn, k1, k2, k3, k4]
    simp only [h1, h2, h3, h4, h5, h6, h7, h8, hq, if_false, true_and]
    cases hr : cRight x0
    · simp [zeroBeam]
    have hr' := hr
    simp only [cRight, Bool.and_eq_true] at hr'
    obtain ⟨p, hp, sp⟩ := whole_spec hr'.1
    obtain ⟨q, hq2, sq⟩ := whole_spec hr'.2.1
    obtain ⟨u, eu, fu⟩ := rowC_CI hp hq2 sp sq k1 k2
    obtain ⟨v, ev, fv⟩ := rowC_CI hp hq2 sp sq k3 k4
    rw [eu, ev]
    unfold rowC at eu ev
    simp only [Option.bind_eq_some_iff] at eu ev
    obtain ⟨u1, eu1, u2, eu2, eu3⟩ := eu
    obtain ⟨v1, ev1, v2, ev2, ev3⟩ := ev
    simp only [eu1, eu2, eu3, ev1, ev2, ev3, den_get, den_br, den_bind, den_ret, Bool.not_true, Bool.false_eq_true, if_false]
    cases hc : cRight (u, v)
    · simp [zeroBeam]
    simp only [cOk_CI fu, cOk_CI fv, if_true, Bool.not_true, Bool.false_eq_true, if_false]
    rfl)
theorem s_gauss_Carry : Ev.Spec Try.prog 25 (F2 cBeam cQuad (cTwo cBeam cBool) cCarry) := spec2 (fun vs w => Try.call25 vs w) c_gauss_Carry

/-! gauss.Same -/
theorem t_gauss_Same (x0 : Beam) (x1 : Beam) :
    evFn Try.prog (Env.add 75 (F1 cBeam cBool cRight) Env.nil) Laws.nil 200 Try.f23 [cBeam.av x0, cBeam.av x1] [] cBool.dec =
      .bind (cRight x0) fun vb0 => .br (vb0) (.bind (cRight x1) fun vb1 => .br (vb1) (.get (cMulBits x0.1.1 x0.1.2 x1.2.1 x1.2.2) fun vy2 => .get (cMulBits x0.2.1 x0.2.2 x1.1.1 x1.1.2) fun vy3 => .ret (Ev.cEq vy2.1 vy2.2 vy3.1 vy3.2)) (.ret (false))) (.ret (false)) := by kernel_rfl
theorem c_gauss_Same (x0 : Beam) (x1 : Beam) : Plain Try.prog 23 [cBeam.enc x0, cBeam.enc x1] (cBool.enc (cSame x0 x1)) :=
  plain_of_tree (n := 200) (EnvOK.add s_gauss_right EnvOK.nil) Try.func23 (args := [cBeam.av x0, cBeam.av x1]) (by simp only [AV.vals, Cod.av_val]) (Nat.le_of_ble_eq_true (by kernel_rfl)) LFn.nil cBool (by
    rw [t_gauss_Same]
    simp only [den_br, den_bind, den_ret, den_fail, den_inl, den_inr, decide_eq_true_eq, gt_iff_lt, ge_iff_le, beq_iff_eq]
    simp only [cSame]
    cases h1 : cRight x0
    · simp
    cases h2 : cRight x1
    · simp
    simp only [cRight, Bool.and_eq_true] at h1 h2
    obtain ⟨p, hp, sp⟩ := whole_spec h1.1
    obtain ⟨q, hq, sq⟩ := whole_spec h1.2.1
    obtain ⟨r, hr, sr⟩ := whole_spec h2.1
    obtain ⟨s, hs, ss⟩ := whole_spec h2.2.1
    obtain ⟨u, eu, fu⟩ := cMul_CI hp hs sp ss (by decide)
    obtain ⟨v, ev, fv⟩ := cMul_CI hq hr sq sr (by decide)
    simp only [mulO, eu, ev, den_get, den_ret, if_true, Option.getD_some, Bool.true_and])
theorem s_gauss_Same : Ev.Spec Try.prog 23 (F2 cBeam cBeam cBool cSame) := spec2 (fun vs w => Try.call23 vs w) c_gauss_Same
end Go.Proofs.Ythgpgnijbajlgaa
