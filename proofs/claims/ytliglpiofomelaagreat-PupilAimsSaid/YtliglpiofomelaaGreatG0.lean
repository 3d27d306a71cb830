/-
  Contracts of calls, written by a small program of this session out of the evaluator's trees.
-/
import Derived.Test.YtliglpiofomelaaGreatCore
import Derived.Test.YtliglpiofomelaaGreatCoreLoops
import Derived.Test.YtliglpiofomelaaGreatCore2
import Derived.Test.YtliglpiofomelaaGreatCore3
import Derived.Test.YtliglpiofomelaaGreatCore4
import Derived.Test.YtliglpiofomelaaGreatCore5
import Derived.Test.YtliglpiofomelaaGreatFloCod
import Derived.Test.YtliglpiofomelaaGreatGs
import Derived.Test.YtliglpiofomelaaGreatK0
import Derived.Test.YtliglpiofomelaaGreatEvCod
import Derived.Test.YtliglpiofomelaaGreatEvRet
import Derived.Test.YtliglpiofomelaaGreatProg
namespace Go.Proofs.YtliglpiofomelaaGreat
open Go Go.RowKit Ev
set_option maxRecDepth 100000
set_option linter.unusedVariables false
set_option linter.unusedSimpArgs false

/-! math.Trunc -/
theorem t_math_Trunc (x0 : Nat) :
    evFn Tryz.prog Env.nil Laws.nil 200 Tryz.f150 [cF64.av x0] [] cF64.dec =
      .get (Ev.fTrunc x0) fun vna0 => .ret (vna0) := by kernel_rfl
theorem c_math_Trunc (x0 : Nat) (h : ((fun b => (fTrunc b).isSome)) x0 = true) : Plain Tryz.prog 150 [cF64.enc x0] (cF64.enc (((fun b => (fTrunc b).getD 0)) x0)) :=
  plain_of_tree (n := 200) EnvOK.nil Tryz.func150 (args := [cF64.av x0]) (by simp only [AV.vals, Cod.av_val]) (Nat.le_of_ble_eq_true (by kernel_rfl)) LFn.nil cF64 (by
    rw [t_math_Trunc]
    simp only at h
    cases hf : fTrunc x0 with
    | none => rw [hf] at h; cases h
    | some n => simp only [hf]; rfl)
theorem s_math_Trunc : Ev.Spec Tryz.prog 150 (F1p cF64 cF64 ((fun b => (fTrunc b).isSome)) ((fun b => (fTrunc b).getD 0))) := spec1p (fun vs w => Tryz.call150 vs w) c_math_Trunc

/-! gauss.part -/
theorem t_gauss_part (x0 : Nat) :
    evFn Tryz.prog (Env.add 150 (F1p cF64 cF64 ((fun b => (fTrunc b).isSome)) ((fun b => (fTrunc b).getD 0))) Env.nil) Laws.nil 200 Tryz.f118 [cF64.av x0] [] cBool.dec =
      .br (Ev.fOrd x0 13920626448202203136 == some Ordering.gt || Ev.fOrd x0 13920626448202203136 == some Ordering.eq) (.br (Ev.fOrd x0 4697254411347427328 == some Ordering.lt || Ev.fOrd x0 4697254411347427328 == some Ordering.eq) (.br ((Ev.fTrunc x0).isSome) (.bind ((Ev.fTrunc x0).getD 0) fun vna0 => .ret (Ev.fOrd x0 vna0 == some Ordering.eq)) (.fail)) (.ret (false))) (.ret (false)) := by kernel_rfl
theorem c_gauss_part (x0 : Nat) : Plain Tryz.prog 118 [cF64.enc x0] (cBool.enc (fPart x0)) :=
  plain_of_tree (n := 200) (EnvOK.add s_math_Trunc EnvOK.nil) Tryz.func118 (args := [cF64.av x0]) (by simp only [AV.vals, Cod.av_val]) (Nat.le_of_ble_eq_true (by kernel_rfl)) LFn.nil cBool (by
    rw [t_gauss_part]
    simp only [den_br, den_bind, den_ret, den_fail, den_inl, den_inr, decide_eq_true_eq, gt_iff_lt, ge_iff_le, beq_iff_eq]
    simp only [fPart]
    by_cases c1 : fGe x0 negFar = true
    · have ht := trunc_some' c1
      have c1' : (Ev.fOrd x0 13920626448202203136 == some Ordering.gt || Ev.fOrd x0 13920626448202203136 == some Ordering.eq) = true := c1
      rw [if_pos c1', c1]
      by_cases c2 : fLe x0 posFar = true
      · have c2' : (Ev.fOrd x0 4697254411347427328 == some Ordering.lt || Ev.fOrd x0 4697254411347427328 == some Ordering.eq) = true := c2
        rw [if_pos c2', c2]
        cases hf : fTrunc x0 with
        | none => rw [hf] at ht; cases ht
        | some c => rfl
      · have c2' : ¬ (Ev.fOrd x0 4697254411347427328 == some Ordering.lt || Ev.fOrd x0 4697254411347427328 == some Ordering.eq) = true := c2
        rw [if_neg c2']
        simp [c2]
    · have c1' : ¬ (Ev.fOrd x0 13920626448202203136 == some Ordering.gt || Ev.fOrd x0 13920626448202203136 == some Ordering.eq) = true := c1
      rw [if_neg c1']
      simp [c1])
theorem s_gauss_part : Ev.Spec Tryz.prog 118 (F1 cF64 cBool fPart) := spec1 (fun vs w => Tryz.call118 vs w) c_gauss_part

/-! gauss.Whole -/
theorem t_gauss_Whole (x0 : Cx) :
    evFn Tryz.prog (Env.add 118 (F1 cF64 cBool fPart) Env.nil) Laws.nil 200 Tryz.f69 [cCx.av x0] [] cBool.dec =
      .bind (fPart x0.1) fun vb0 => .br (vb0) (.bind (fPart x0.2) fun vb1 => .ret (vb1)) (.ret (false)) := by kernel_rfl
theorem c_gauss_Whole (x0 : Cx) : Plain Tryz.prog 69 [cCx.enc x0] (cBool.enc (cWhole x0)) :=
  plain_of_tree (n := 200) (EnvOK.add s_gauss_part EnvOK.nil) Tryz.func69 (args := [cCx.av x0]) (by simp only [AV.vals, Cod.av_val]) (Nat.le_of_ble_eq_true (by kernel_rfl)) LFn.nil cBool (by
    rw [t_gauss_Whole]
    simp only [den_br, den_bind, den_ret, den_fail, den_inl, den_inr, decide_eq_true_eq, gt_iff_lt, ge_iff_le, beq_iff_eq]
    simp only [cWhole]
    cases fPart x0.1 <;> simp)
theorem s_gauss_Whole : Ev.Spec Tryz.prog 69 (F1 cCx cBool cWhole) := spec1 (fun vs w => Tryz.call69 vs w) c_gauss_Whole

/-! gauss.of -/
theorem t_gauss_of (x0 : Int) (x1 : Int) :
    evFn Tryz.prog Env.nil Laws.nil 200 Tryz.f68 [cInt.av x0, cInt.av x1] [] cCx.dec =
      .ret ((Ev.fInt x0, Ev.fInt x1)) := by kernel_rfl
theorem c_gauss_of (x0 : Int) (x1 : Int) : Plain Tryz.prog 68 [cInt.enc x0, cInt.enc x1] (cCx.enc (((fun x y => cxOf ⟨x, y⟩)) x0 x1)) :=
  plain_of_tree (n := 200) EnvOK.nil Tryz.func68 (args := [cInt.av x0, cInt.av x1]) (by simp only [AV.vals, Cod.av_val]) (Nat.le_of_ble_eq_true (by kernel_rfl)) LFn.nil cCx (by
    rw [t_gauss_of]
    rfl)
theorem s_gauss_of : Ev.Spec Tryz.prog 68 (F2 cInt cInt cCx ((fun x y => cxOf ⟨x, y⟩))) := spec2 (fun vs w => Tryz.call68 vs w) c_gauss_of

/-! gauss.parts -/
theorem t_gauss_parts (x0 : Cx) :
    evFn Tryz.prog Env.nil Laws.nil 200 Tryz.f70 [cCx.av x0] [] (cTwo cInt cInt).dec =
      .get (Ev.fTo x0.1) fun vn0 => .get (Ev.fTo x0.2) fun vn1 => .ret ((vn0, vn1)) := by kernel_rfl
theorem c_gauss_parts (x0 : Cx) (h : cOk x0 = true) : Plain Tryz.prog 70 [cCx.enc x0] ((cTwo cInt cInt).enc (cParts x0)) :=
  plain_of_tree (n := 200) EnvOK.nil Tryz.func70 (args := [cCx.av x0]) (by simp only [AV.vals, Cod.av_val]) (Nat.le_of_ble_eq_true (by kernel_rfl)) LFn.nil (cTwo cInt cInt) (by
    rw [t_gauss_parts]
    simp only [cOk, Bool.and_eq_true] at h
    obtain ⟨a, ha⟩ := Option.isSome_iff_exists.1 h.1
    obtain ⟨b, hb⟩ := Option.isSome_iff_exists.1 h.2
    simp only [ha, hb, den_get, den_ret, cParts, fV, Option.getD_some])
theorem s_gauss_parts : Ev.Spec Tryz.prog 70 (F1p cCx (cTwo cInt cInt) cOk cParts) := spec1p (fun vs w => Tryz.call70 vs w) c_gauss_parts

/-! gauss.norm -/
theorem t_gauss_norm (x0 : Cx) :
    evFn Tryz.prog (Env.add 70 (F1p cCx (cTwo cInt cInt) cOk cParts) Env.nil) Laws.nil 200 Tryz.f71 [cCx.av x0] [] cInt.dec =
      .br (cOk x0) (.bind (cParts x0) fun vy0 => .ret (IntKind.i64.wrap (IntKind.i64.wrap (vy0.1 * vy0.1) + IntKind.i64.wrap (vy0.2 * vy0.2)))) (.fail) := by kernel_rfl
theorem c_gauss_norm (x0 : Cx) (h : cOk x0 = true) : Plain Tryz.prog 71 [cCx.enc x0] (cInt.enc (cNorm x0)) :=
  plain_of_tree (n := 200) (EnvOK.add s_gauss_parts EnvOK.nil) Tryz.func71 (args := [cCx.av x0]) (by simp only [AV.vals, Cod.av_val]) (Nat.le_of_ble_eq_true (by kernel_rfl)) LFn.nil cInt (by
    rw [t_gauss_norm]
    simp only [den_br, den_bind, den_ret, den_fail, den_inl, den_inr, decide_eq_true_eq, gt_iff_lt, ge_iff_le, beq_iff_eq]
    simp only [h, if_true]
    rfl)
theorem s_gauss_norm : Ev.Spec Tryz.prog 71 (F1p cCx cInt cOk cNorm) := spec1p (fun vs w => Tryz.call71 vs w) c_gauss_norm

/-! gauss.near -/
theorem t_gauss_near (x0 : Int) :
    evFn Tryz.prog Env.nil Laws.nil 200 Tryz.f72 [cInt.av x0] [] cInt.dec =
      .br (decide (x0 < 0)) (.ret (IntKind.i64.wrap (x0 + 1))) (.ret (x0)) := by kernel_rfl
theorem c_gauss_near (x0 : Int) : Plain Tryz.prog 72 [cInt.enc x0] (cInt.enc (nearI x0)) :=
  plain_of_tree (n := 200) EnvOK.nil Tryz.func72 (args := [cInt.av x0]) (by simp only [AV.vals, Cod.av_val]) (Nat.le_of_ble_eq_true (by kernel_rfl)) LFn.nil cInt (by
    rw [t_gauss_near]
    simp only [den_br, den_bind, den_ret, den_fail, den_inl, den_inr, decide_eq_true_eq, gt_iff_lt, ge_iff_le, beq_iff_eq]
    simp only [nearI]
    by_cases h : x0 < 0 <;> simp only [h, if_true, if_false])
theorem s_gauss_near : Ev.Spec Tryz.prog 72 (F1 cInt cInt nearI) := spec1 (fun vs w => Tryz.call72 vs w) c_gauss_near

/-! gauss.InDisc -/
theorem tl_gauss_InDisc_8 (t39 : Int) (t38 : Int) (t1 : Int) (r0 : List Cx) :
    ev Tryz.prog (Env.add 68 (F2 cInt cInt cCx ((fun x y => cxOf ⟨x, y⟩))) (Env.add 69 (F1 cCx cBool cWhole) (Env.add 70 (F1p cCx (cTwo cInt cInt) cOk cParts) (Env.add 71 (F1p cCx cInt cOk cNorm) (Env.add 72 (F1 cInt cInt nearI) Env.nil))))) Laws.nil 200 none (loopAt Tryz.f20 8) ((sc 50 [39, 38, 1, 37] (tCod 39 cInt (tCod 38 cInt (tCod 1 cInt (tSl 37 0 tNil)))) (rG_cx 41 rNil)).enc ((t39, t38, t1, ()), (r0, ()))) (backK (sc 50 [39, 38, 1, 37] (tCod 39 cInt (tCod 38 cInt (tCod 1 cInt (tSl 37 0 tNil)))) (rG_cx 41 rNil)) (ocOr (ocExit 0 (sc 50 [] tNil rNil)) (ocRet (sc 50 [4] (tCod 4 cInt tNil) rNil)))) =
      .br (decide (t39 < t38)) (.br (decide (0 ≤ t39 ∧ t39 < (@Nat.cast Int _ r0.length))) (.get (r0[t39.toNat]?) fun vt0 => .br (cOk vt0) (.bind (cNorm vt0) fun vn1 => .br (decide (vn1 > IntKind.i64.wrap (t1 * t1))) (.ret (Sum.inr (Sum.inr ((0, ()), ())))) (.ret (Sum.inl ((IntKind.i64.wrap (t39 + 1), t38, t1, ()), r0, ())))) (.fail)) (.fail)) (.ret (Sum.inr (Sum.inl ((), ())))) := by kernel_rfl
theorem ok_gauss_InDisc_8 : LOK Tryz.prog (LoopR.of (sc 50 [39, 38, 1, 37] (tCod 39 cInt (tCod 38 cInt (tCod 1 cInt (tSl 37 0 tNil)))) (rG_cx 41 rNil)) (ocOr (ocExit 0 (sc 50 [] tNil rNil)) (ocRet (sc 50 [4] (tCod 4 cInt tNil) rNil))) (runBy discStep discM)) (loopAt Tryz.f20 8) := by
  refine loop_ok (EnvOK.add s_gauss_of (EnvOK.add s_gauss_Whole (EnvOK.add s_gauss_parts (EnvOK.add s_gauss_norm (EnvOK.add s_gauss_near EnvOK.nil))))) (LFn.at (fn := Tryz.f20) LFn.nil 8) discStep (n := 200) (fun x z h => ?_) (runBy_ok _ _)
  obtain ⟨⟨t39, t38, t1, ⟨⟩⟩, ⟨r0, ⟨⟩⟩⟩ := x
  rw [tl_gauss_InDisc_8]
  rw [← h]
  simp only [den_br, den_bind, den_ret, den_fail, den_inl, den_inr, decide_eq_true_eq, gt_iff_lt, ge_iff_le, beq_iff_eq]
  simp only [discStep]
  by_cases h0 : t39 < t38 <;> simp only [h0, if_true, if_false]
  by_cases h1 : 0 ≤ t39 ∧ t39 < (r0.length : Int) <;> simp only [h1, and_self, if_true, if_false]
  cases hg : r0[t39.toNat]? with
  | none => rfl
  | some c =>
    simp only [den_get, den_br, den_bind, den_ret, den_fail, decide_eq_true_eq, gt_iff_lt]
theorem t_gauss_InDisc (x0 : Cx) (x1 : Int) :
    evFn Tryz.prog (Env.add 68 (F2 cInt cInt cCx ((fun x y => cxOf ⟨x, y⟩))) (Env.add 69 (F1 cCx cBool cWhole) (Env.add 70 (F1p cCx (cTwo cInt cInt) cOk cParts) (Env.add 71 (F1p cCx cInt cOk cNorm) (Env.add 72 (F1 cInt cInt nearI) Env.nil))))) (Laws.add 8 (LoopR.of (sc 50 [39, 38, 1, 37] (tCod 39 cInt (tCod 38 cInt (tCod 1 cInt (tSl 37 0 tNil)))) (rG_cx 41 rNil)) (ocOr (ocExit 0 (sc 50 [] tNil rNil)) (ocRet (sc 50 [4] (tCod 4 cInt tNil) rNil))) (runBy discStep discM)) Laws.nil) 200 Tryz.f20 [cCx.av x0, cInt.av x1] [] cInt.dec =
      .bind (cWhole x0) fun vb0 => .br (!vb0) (.ret (0)) (.br (cOk x0) (.bind (cParts x0) fun vy1 => .bind (nearI vy1.1) fun vn2 => .bind (nearI vy1.2) fun vn3 => .bind (cxOf (Pair.mk vn2 vn3)) fun vcx4 => .br (cOk vcx4) (.bind (cNorm vcx4) fun vn5 => .br (decide (vn5 > IntKind.i64.wrap (Max.max 0 (Min.min x1 1048576) * Max.max 0 (Min.min x1 1048576)))) (.ret (2)) (.get (cSumBits BinOp.add FloatKind.f64 x0.1 x0.2 4607182418800017408 0) fun vy6 => .get (cSumBits BinOp.add FloatKind.f64 x0.1 x0.2 0 4607182418800017408) fun vy7 => .get (cSumBits BinOp.add FloatKind.f64 x0.1 x0.2 4607182418800017408 4607182418800017408) fun vy8 => .get (runBy discStep discM ((0, (@Nat.cast Int _ [x0, vy6, vy7, vy8].length), Max.max 0 (Min.min x1 1048576), ()), [x0, vy6, vy7, vy8], ())) fun vy9 => .sum (vy9) (fun vs10 => .ret (1)) (fun vs11 => .ret (vs11.1.1)))) (.fail)) (.fail)) := by kernel_rfl
theorem c_gauss_InDisc (x0 : Cx) (x1 : Int) : Plain Tryz.prog 20 [cCx.enc x0, cInt.enc x1] (cInt.enc (cInDisc x0 x1)) :=
  plain_of_tree (n := 200) (EnvOK.add s_gauss_of (EnvOK.add s_gauss_Whole (EnvOK.add s_gauss_parts (EnvOK.add s_gauss_norm (EnvOK.add s_gauss_near EnvOK.nil))))) Tryz.func20 (args := [cCx.av x0, cInt.av x1]) (by simp only [AV.vals, Cod.av_val]) (Nat.le_of_ble_eq_true (by kernel_rfl)) (LFn.add (fn := Tryz.f20) (i := 8) (by kernel_rfl) ok_gauss_InDisc_8 LFn.nil) cInt (by
    rw [t_gauss_InDisc]
    simp only [den_br, den_bind, den_ret, den_fail, den_inl, den_inr, decide_eq_true_eq, gt_iff_lt, ge_iff_le, beq_iff_eq]
    simp only [cInDisc]
    cases hw : cWhole x0
    · simp
    obtain ⟨p, hp, hs⟩ := whole_spec hw
    have hs' := hs
    obtain ⟨⟨s1, s2⟩, s3, s4⟩ := hs'
    have nb : ∀ x : Int, -1048576 ≤ x → x ≤ 1048576 → -1048576 ≤ nearI x ∧ nearI x ≤ 1048576 := by
      intro x h1 h2
      unfold nearI
      split
      · rw [wr (by omega)]; omega
      · omega
    have n1 := nb p.x s1 s2
    have n2 := nb p.y s3 s4
    have hN : CI (cxOf ⟨nearI p.x, nearI p.y⟩) ⟨nearI p.x, nearI p.y⟩ := CI_of ⟨by simp only; omega, by simp only; omega⟩
    have hNn := cNorm_CI hN ⟨by simp only; omega, by simp only; omega⟩
    obtain ⟨a1, e1, f1⟩ := cAdd_CI (w := (oneF, 0)) (q := ⟨1, 0⟩) hp ⟨FI_one, FI_zero⟩ (B := 1048576) hs ⟨by decide, by decide⟩ (by decide)
    obtain ⟨a2, e2, f2⟩ := cAdd_CI (w := (0, oneF)) (q := ⟨0, 1⟩) hp ⟨FI_zero, FI_one⟩ (B := 1048576) hs ⟨by decide, by decide⟩ (by decide)
    obtain ⟨a3, e3, f3⟩ := cAdd_CI (w := (oneF, oneF)) (q := ⟨1, 1⟩) hp ⟨FI_one, FI_one⟩ (B := 1048576) hs ⟨by decide, by decide⟩ (by decide)
    have e1' : cSumBits .add .f64 x0.1 x0.2 4607182418800017408 0 = some a1 := e1
    have e2' : cSumBits .add .f64 x0.1 x0.2 0 4607182418800017408 = some a2 := e2
    have e3' : cSumBits .add .f64 x0.1 x0.2 4607182418800017408 4607182418800017408 = some a3 := e3
    have hd : 0 ≤ discR x1 ∧ discR x1 ≤ 1048576 := by unfold discR; omega
    have hr := disc_run hp f1 f2 f3 (small_mono hs (by decide)) ⟨by simp only [Pair.add]; omega, by simp only [Pair.add]; omega⟩ ⟨by simp only [Pair.add]; omega, by simp only [Pair.add]; omega⟩ ⟨by simp only [Pair.add]; omega, by simp only [Pair.add]; omega⟩ hd
    have hw2 : IntKind.i64.wrap (discR x1 * discR x1) = discR x1 * discR x1 := wr (by have := sq_bd (a := discR x1) (B := 1048576) (by omega) (by decide); omega)
    rw [show max 0 (min x1 1048576) = discR x1 from rfl]
    simp only [Bool.not_true, Bool.false_eq_true, if_false, if_true, cOk_CI hp, cParts_CI hp, cOk_CI hN, hNn, hw2, e1', e2', e3', den_get, den_br, den_bind, den_ret, decide_eq_true_eq, gt_iff_lt, hr, cV_CI hp, discOf]
    by_cases c1 : discR x1 * discR x1 < Pair.norm ⟨nearI p.x, nearI p.y⟩
    · simp only [c1, if_true]
    · simp only [c1, if_false]
      by_cases c2 : discR x1 * discR x1 < p.norm ∨ discR x1 * discR x1 < (p.add ⟨1, 0⟩).norm ∨ discR x1 * discR x1 < (p.add ⟨0, 1⟩).norm ∨ discR x1 * discR x1 < (p.add ⟨1, 1⟩).norm
      · rw [if_pos c2, if_pos c2]; rfl
      · rw [if_neg c2, if_neg c2]; rfl)
theorem s_gauss_InDisc : Ev.Spec Tryz.prog 20 (F2 cCx cInt cInt cInDisc) := spec2 (fun vs w => Tryz.call20 vs w) c_gauss_InDisc

/-! gauss.Cells -/
theorem tl_gauss_Cells_7 (t5 : Int) (t0 : Int) (t4 : Int) (r0 : List Cx) :
    ev Tryz.prog (Env.add 68 (F2 cInt cInt cCx ((fun x y => cxOf ⟨x, y⟩))) Env.nil) Laws.nil 200 none (loopAt Tryz.f19 7) ((sc 30 [5, 0, 4, 3] (tCod 5 cInt (tCod 0 cInt (tCod 4 cInt (tSl 3 0 tNil)))) (rG_cx 41 rNil)).enc ((t5, t0, t4, ()), (r0, ()))) (backK (sc 30 [5, 0, 4, 3] (tCod 5 cInt (tCod 0 cInt (tCod 4 cInt (tSl 3 0 tNil)))) (rG_cx 41 rNil)) (ocExit 2 (sc 30 [0, 4, 3] (tCod 0 cInt (tCod 4 cInt (tSl 3 0 tNil))) (rG_cx 41 rNil)))) =
      .br (decide (t5 < t0)) (.bind (cxOf (Pair.mk t5 t4)) fun vcx0 => .br (Ev.lenOk (r0 ++ [vcx0])) (.ret (Sum.inl ((IntKind.i64.wrap (t5 + 1), t0, t4, ()), r0 ++ [vcx0], ()))) (.fail)) (.ret (Sum.inr ((t0, t4, ()), r0, ()))) := by kernel_rfl
theorem ok_gauss_Cells_7 : LOK Tryz.prog (LoopR.of (sc 30 [5, 0, 4, 3] (tCod 5 cInt (tCod 0 cInt (tCod 4 cInt (tSl 3 0 tNil)))) (rG_cx 41 rNil)) (ocExit 2 (sc 30 [0, 4, 3] (tCod 0 cInt (tCod 4 cInt (tSl 3 0 tNil))) (rG_cx 41 rNil))) (runBy cellInStep cellInM)) (loopAt Tryz.f19 7) := by
  refine loop_ok (EnvOK.add s_gauss_of EnvOK.nil) (LFn.at (fn := Tryz.f19) LFn.nil 7) cellInStep (n := 200) (fun x z h => ?_) (runBy_ok _ _)
  obtain ⟨⟨t5, t0, t4, ⟨⟩⟩, ⟨r0, ⟨⟩⟩⟩ := x
  rw [tl_gauss_Cells_7]
  rw [← h]
  simp only [den_br, den_bind, den_ret, den_fail, den_inl, den_inr, decide_eq_true_eq, gt_iff_lt, ge_iff_le, beq_iff_eq]
  simp only [cellInStep]
theorem tl_gauss_Cells_4 (t4 : Int) (t0 : Int) (r0 : List Cx) :
    ev Tryz.prog (Env.add 68 (F2 cInt cInt cCx ((fun x y => cxOf ⟨x, y⟩))) Env.nil) (Laws.add 7 (LoopR.of (sc 30 [5, 0, 4, 3] (tCod 5 cInt (tCod 0 cInt (tCod 4 cInt (tSl 3 0 tNil)))) (rG_cx 41 rNil)) (ocExit 2 (sc 30 [0, 4, 3] (tCod 0 cInt (tCod 4 cInt (tSl 3 0 tNil))) (rG_cx 41 rNil))) (runBy cellInStep cellInM)) Laws.nil) 200 none (loopAt Tryz.f19 4) ((sc 30 [4, 0, 3] (tCod 4 cInt (tCod 0 cInt (tSl 3 0 tNil))) (rG_cx 41 rNil)).enc ((t4, t0, ()), (r0, ()))) (backK (sc 30 [4, 0, 3] (tCod 4 cInt (tCod 0 cInt (tSl 3 0 tNil))) (rG_cx 41 rNil)) (ocExit 0 (sc 30 [3] (tSl 3 0 tNil) (rG_cx 41 rNil)))) =
      .br (decide (t4 < t0)) (.get (runBy cellInStep cellInM ((IntKind.i64.wrap (0 - t0), t0, t4, ()), r0, ())) fun vy0 => .ret (Sum.inl ((IntKind.i64.wrap (vy0.1.2.1 + 1), vy0.1.1, ()), vy0.2.1, ()))) (.ret (Sum.inr ((), r0, ()))) := by kernel_rfl
theorem ok_gauss_Cells_4 : LOK Tryz.prog (LoopR.of (sc 30 [4, 0, 3] (tCod 4 cInt (tCod 0 cInt (tSl 3 0 tNil))) (rG_cx 41 rNil)) (ocExit 0 (sc 30 [3] (tSl 3 0 tNil) (rG_cx 41 rNil))) (runBy cellOutStep cellOutM)) (loopAt Tryz.f19 4) := by
  refine loop_ok (EnvOK.add s_gauss_of EnvOK.nil) (LFn.at (fn := Tryz.f19) (LFn.add (fn := Tryz.f19) (i := 7) (by kernel_rfl) ok_gauss_Cells_7 LFn.nil) 4) cellOutStep (n := 200) (fun x z h => ?_) (runBy_ok _ _)
  obtain ⟨⟨t4, t0, ⟨⟩⟩, ⟨r0, ⟨⟩⟩⟩ := x
  rw [tl_gauss_Cells_4]
  rw [← h]
  simp only [den_br, den_bind, den_ret, den_fail, den_inl, den_inr, decide_eq_true_eq, gt_iff_lt, ge_iff_le, beq_iff_eq]
  simp only [cellOutStep]
  by_cases h0 : t4 < t0 <;> simp only [h0, if_true, if_false]
  cases runBy cellInStep cellInM ((IntKind.i64.wrap (0 - t0), t0, t4, ()), (r0, ())) <;> rfl
theorem t_gauss_Cells (t0 : Int) :
    evFnR Tryz.prog (Env.add 68 (F2 cInt cInt cCx ((fun x y => cxOf ⟨x, y⟩))) Env.nil) (Laws.add 4 (LoopR.of (sc 30 [4, 0, 3] (tCod 4 cInt (tCod 0 cInt (tSl 3 0 tNil))) (rG_cx 41 rNil)) (ocExit 0 (sc 30 [3] (tSl 3 0 tNil) (rG_cx 41 rNil))) (runBy cellOutStep cellOutM)) (Laws.add 7 (LoopR.of (sc 30 [5, 0, 4, 3] (tCod 5 cInt (tCod 0 cInt (tCod 4 cInt (tSl 3 0 tNil)))) (rG_cx 41 rNil)) (ocExit 2 (sc 30 [0, 4, 3] (tCod 0 cInt (tCod 4 cInt (tSl 3 0 tNil))) (rG_cx 41 rNil))) (runBy cellInStep cellInM)) Laws.nil)) 200 Tryz.f19 (((sc 1 [0] (tCod 0 cInt tNil) rNil).enc ((t0, ()), (()))).tmps.map Prod.snd) ((sc 1 [0] (tCod 0 cInt tNil) rNil).enc ((t0, ()), (()))).mem (sc 1 [0] (tSl 0 0 tNil) (rG_cx 41 rNil)).ts (sc 1 [0] (tSl 0 0 tNil) (rG_cx 41 rNil)).dec =
      .get (runBy cellOutStep cellOutM ((IntKind.i64.wrap (0 - Max.max 0 (Min.min t0 16)), Max.max 0 (Min.min t0 16), ()), [], ())) fun vy0 => .ret (((), vy0.2.1, ())) := by kernel_rfl
theorem c_gauss_Cells : PlainR Tryz.prog 19 (sc 1 [0] (tCod 0 cInt tNil) rNil) (sc 1 [0] (tSl 0 0 tNil) (rG_cx 41 rNil)) (fun _ => true) ((fun x => ((), ((cellsP (cellsR x.1.1)).map cxOf, ())))) := by
  intro x h N w vs hM hv
  obtain ⟨⟨t0, ⟨⟩⟩, ⟨⟩⟩ := x
  refine calls_of_treeR (n := 200) (EnvOK.add s_gauss_of EnvOK.nil) Tryz.func19 hv (Nat.le_of_ble_eq_true (by kernel_rfl)) (LFn.add (fn := Tryz.f19) (i := 4) (by kernel_rfl) ok_gauss_Cells_4 (LFn.add (fn := Tryz.f19) (i := 7) (by kernel_rfl) ok_gauss_Cells_7 LFn.nil)) hM (sc 1 [0] (tSl 0 0 tNil) (rG_cx 41 rNil)) rfl ?_
  rw [t_gauss_Cells]
  have hr := cells_run (n := cellsR t0) (by unfold cellsR; omega)
  rw [show max 0 (min t0 16) = cellsR t0 from rfl, hr]
  rfl
theorem s_gauss_Cells : Ev.Spec Tryz.prog 19 (FR (sc 1 [0] (tCod 0 cInt tNil) rNil) (sc 1 [0] (tSl 0 0 tNil) (rG_cx 41 rNil)) (fun _ => true) ((fun x => ((), ((cellsP (cellsR x.1.1)).map cxOf, ()))))) := specR rfl (fun _ => rfl) (fun vs w => Tryz.call19 vs w) c_gauss_Cells
end Go.Proofs.YtliglpiofomelaaGreat
