/-
  Contracts of calls, written by a small program of this session out of the evaluator's trees.
-/
import Derived.Test.YtlbmjajjldfigaaGreatCore
import Derived.Test.YtlbmjajjldfigaaGreatCoreLoops
import Derived.Test.YtlbmjajjldfigaaGreatCore2
import Derived.Test.YtlbmjajjldfigaaGreatCore3
import Derived.Test.YtlbmjajjldfigaaGreatCore4
import Derived.Test.YtlbmjajjldfigaaGreatCore5
import Derived.Test.YtlbmjajjldfigaaGreatK0
import Derived.Test.YtlbmjajjldfigaaGreatEvCod
import Derived.Test.YtlbmjajjldfigaaGreatEvRet
import Derived.Test.YtlbmjajjldfigaaGreatProg
namespace Go.Proofs.YtlbmjajjldfigaaGreat
open Go Go.RowKit Ev
set_option maxRecDepth 100000
set_option linter.unusedVariables false
set_option linter.unusedSimpArgs false

/-! meniscushand.Dec -/
theorem tl_meniscushand_Dec_2 (r0 : Dec) (r1 : Dec) :
    ev Tryz.prog Env.nil Laws.nil 200 none (loopAt Tryz.f76 2) ((sc 27 [5, 4] (tOwn 5 0 (tOwn 4 1 tNil)) (rBox ccDec ccDec_ok (rBox ccDec ccDec_ok rNil))).enc ((()), (r0, r1, ()))) (backK (sc 27 [5, 4] (tOwn 5 0 (tOwn 4 1 tNil)) (rBox ccDec ccDec_ok (rBox ccDec ccDec_ok rNil))) (ocExit 0 (sc 27 [5, 4] (tOwn 5 0 (tOwn 4 1 tNil)) (rBox ccDec ccDec_ok (rBox ccDec ccDec_ok rNil))))) =
      .br (decide (r0.scale > 0)) (.br (r0.c.tmod 10 == 0) (.ret (Sum.inl ((), Dec.mk (IntKind.i64.wrap (r0.c.tdiv 10)) (IntKind.i64.wrap (r0.scale - 1)), r1, ()))) (.ret (Sum.inr ((), r0, r1, ())))) (.ret (Sum.inr ((), r0, r1, ()))) := by kernel_rfl
theorem ok_meniscushand_Dec_2 : LOK Tryz.prog (LoopR.of (sc 27 [5, 4] (tOwn 5 0 (tOwn 4 1 tNil)) (rBox ccDec ccDec_ok (rBox ccDec ccDec_ok rNil))) (ocExit 0 (sc 27 [5, 4] (tOwn 5 0 (tOwn 4 1 tNil)) (rBox ccDec ccDec_ok (rBox ccDec ccDec_ok rNil)))) (runBy decStep decM)) (loopAt Tryz.f76 2) := by
  refine loop_ok EnvOK.nil (LFn.at (fn := Tryz.f76) LFn.nil 2) decStep (n := 200) (fun x z h => ?_) (runBy_ok _ _)
  obtain ⟨⟨⟩, ⟨r0, r1, ⟨⟩⟩⟩ := x
  rw [tl_meniscushand_Dec_2]
  rw [← h]
  simp only [den_br, den_bind, den_ret, den_fail, den_inl, den_inr, decide_eq_true_eq, gt_iff_lt, ge_iff_le, beq_iff_eq]
  simp only [decStep]
  by_cases h0 : 0 < r0.scale <;> by_cases h1 : r0.c.tmod 10 = 0 <;> simp [h0, h1]
theorem t_meniscushand_Dec (x0 : Int) (x1 : Int) :
    evFn Tryz.prog Env.nil (Laws.add 2 (LoopR.of (sc 27 [5, 4] (tOwn 5 0 (tOwn 4 1 tNil)) (rBox ccDec ccDec_ok (rBox ccDec ccDec_ok rNil))) (ocExit 0 (sc 27 [5, 4] (tOwn 5 0 (tOwn 4 1 tNil)) (rBox ccDec ccDec_ok (rBox ccDec ccDec_ok rNil)))) (runBy decStep decM)) Laws.nil) 200 Tryz.f76 [cInt.av x0, cInt.av x1] [] cDec.dec =
      .get (runBy decStep decM ((), Dec.mk x0 x1, Dec.mk 0 0, ())) fun vy0 => .ret (vy0.2.1) := by kernel_rfl
theorem c_meniscushand_Dec (x0 : Int) (x1 : Int) (h : scaleOk x0 x1 = true) : Plain Tryz.prog 76 [cInt.enc x0, cInt.enc x1] (cDec.enc (decOf x0 x1)) :=
  plain_of_tree (n := 200) EnvOK.nil Tryz.func76 (args := [cInt.av x0, cInt.av x1]) (by simp only [AV.vals, Cod.av_val]) (Nat.le_of_ble_eq_true (by kernel_rfl)) (LFn.add (fn := Tryz.f76) (i := 2) (by kernel_rfl) ok_meniscushand_Dec_2 LFn.nil) cDec (by
    rw [t_meniscushand_Dec]
    obtain ⟨y, hy, _⟩ := dec_total ⟨x0, x1⟩ (by simpa [scaleOk] using h)
    simp only [decOf, hy, den_get, den_ret])
theorem s_meniscushand_Dec : Ev.Spec Tryz.prog 76 (F2p cInt cInt cDec scaleOk decOf) := spec2p (fun vs w => Tryz.call76 vs w) c_meniscushand_Dec

/-! meniscusref8.ten -/
theorem tl_meniscusref8_ten_2 (t0 : Int) (t3 : Int) :
    ev Tryz.prog Env.nil Laws.nil 200 none (loopAt Tryz.f121 2) ((sc 11 [0, 3] (tCod 0 cInt (tCod 3 cInt tNil)) rNil).enc ((t0, t3, ()), (()))) (backK (sc 11 [0, 3] (tCod 0 cInt (tCod 3 cInt tNil)) rNil) (ocExit 0 (sc 11 [3] (tCod 3 cInt tNil) rNil))) =
      .br (decide (t0 > 0)) (.ret (Sum.inl ((IntKind.i64.wrap (t0 - 1), IntKind.i64.wrap (10 * t3), ()), ()))) (.ret (Sum.inr ((t3, ()), ()))) := by kernel_rfl
theorem ok_meniscusref8_ten_2 : LOK Tryz.prog (LoopR.of (sc 11 [0, 3] (tCod 0 cInt (tCod 3 cInt tNil)) rNil) (ocExit 0 (sc 11 [3] (tCod 3 cInt tNil) rNil)) (runBy tenStep tenM)) (loopAt Tryz.f121 2) := by
  refine loop_ok EnvOK.nil (LFn.at (fn := Tryz.f121) LFn.nil 2) tenStep (n := 200) (fun x z h => ?_) (runBy_ok _ _)
  obtain ⟨⟨t0, t3, ⟨⟩⟩, ⟨⟩⟩ := x
  rw [tl_meniscusref8_ten_2]
  rw [← h]
  simp only [den_br, den_bind, den_ret, den_fail, den_inl, den_inr, decide_eq_true_eq, gt_iff_lt, ge_iff_le, beq_iff_eq]
  simp only [tenStep]
theorem t_meniscusref8_ten (x0 : Int) :
    evFn Tryz.prog Env.nil (Laws.add 2 (LoopR.of (sc 11 [0, 3] (tCod 0 cInt (tCod 3 cInt tNil)) rNil) (ocExit 0 (sc 11 [3] (tCod 3 cInt tNil) rNil)) (runBy tenStep tenM)) Laws.nil) 200 Tryz.f121 [cInt.av x0] [] cInt.dec =
      .get (runBy tenStep tenM ((x0, 1, ()), ())) fun vy0 => .ret (vy0.1.1) := by kernel_rfl
theorem c_meniscusref8_ten (x0 : Int) (h : tenOk x0 = true) : Plain Tryz.prog 121 [cInt.enc x0] (cInt.enc (ten x0)) :=
  plain_of_tree (n := 200) EnvOK.nil Tryz.func121 (args := [cInt.av x0]) (by simp only [AV.vals, Cod.av_val]) (Nat.le_of_ble_eq_true (by kernel_rfl)) (LFn.add (fn := Tryz.f121) (i := 2) (by kernel_rfl) ok_meniscusref8_ten_2 LFn.nil) cInt (by
    rw [t_meniscusref8_ten]
    rw [ten_run x0 h]
    rfl)
theorem s_meniscusref8_ten : Ev.Spec Tryz.prog 121 (F1p cInt cInt tenOk ten) := spec1p (fun vs w => Tryz.call121 vs w) c_meniscusref8_ten

/-! meniscusref8.RightDec -/
theorem t_meniscusref8_RightDec (x0 : Dec) :
    evFn Tryz.prog Env.nil Laws.nil 200 Tryz.f119 [cDec.av x0] [] cBool.dec =
      .br (decide (x0.c ≥ -100000000000)) (.br (decide (x0.c ≤ 100000000000)) (.br (decide (x0.scale ≥ 0)) (.br (decide (x0.scale ≤ 6)) (.br (x0.scale == 0) (.ret (true)) (.ret (x0.c.tmod 10 != 0))) (.ret (false))) (.ret (false))) (.ret (false))) (.ret (false)) := by kernel_rfl
theorem c_meniscusref8_RightDec (x0 : Dec) : Plain Tryz.prog 119 [cDec.enc x0] (cBool.enc (rightDec x0)) :=
  plain_of_tree (n := 200) EnvOK.nil Tryz.func119 (args := [cDec.av x0]) (by simp only [AV.vals, Cod.av_val]) (Nat.le_of_ble_eq_true (by kernel_rfl)) LFn.nil cBool (by
    rw [t_meniscusref8_RightDec]
    simp only [den_br, den_bind, den_ret, den_fail, den_inl, den_inr, decide_eq_true_eq, gt_iff_lt, ge_iff_le, beq_iff_eq]
    simp only [rightDec]
    by_cases h0 : -100000000000 ≤ x0.c <;> by_cases h1 : x0.c ≤ 100000000000 <;> by_cases h2 : 0 ≤ x0.scale <;> by_cases h3 : x0.scale ≤ 6 <;> by_cases h4 : x0.scale = 0 <;> simp [h0, h1, h2, h3, h4])
theorem s_meniscusref8_RightDec : Ev.Spec Tryz.prog 119 (F1 cDec cBool rightDec) := spec1 (fun vs w => Tryz.call119 vs w) c_meniscusref8_RightDec

/-! meniscusref8.zero -/
theorem t_meniscusref8_zero (x0 : Dec) :
    evFn Tryz.prog Env.nil Laws.nil 200 Tryz.f82 [cDec.av x0] [] cBool.dec =
      .ret (x0.c == 0 && x0.scale == 0) := by kernel_rfl
theorem c_meniscusref8_zero (x0 : Dec) : Plain Tryz.prog 82 [cDec.enc x0] (cBool.enc (decZero x0)) :=
  plain_of_tree (n := 200) EnvOK.nil Tryz.func82 (args := [cDec.av x0]) (by simp only [AV.vals, Cod.av_val]) (Nat.le_of_ble_eq_true (by kernel_rfl)) LFn.nil cBool (by
    rw [t_meniscusref8_zero]
    rfl)
theorem s_meniscusref8_zero : Ev.Spec Tryz.prog 82 (F1 cDec cBool decZero) := spec1 (fun vs w => Tryz.call82 vs w) c_meniscusref8_zero

/-! meniscusref8.above -/
theorem t_meniscusref8_above (x0 : Dec) :
    evFn Tryz.prog Env.nil Laws.nil 200 Tryz.f116 [cDec.av x0] [] cBool.dec =
      .ret (decide (x0.c > 0)) := by kernel_rfl
theorem c_meniscusref8_above (x0 : Dec) : Plain Tryz.prog 116 [cDec.enc x0] (cBool.enc (((fun d => decide (0 < d.c))) x0)) :=
  plain_of_tree (n := 200) EnvOK.nil Tryz.func116 (args := [cDec.av x0]) (by simp only [AV.vals, Cod.av_val]) (Nat.le_of_ble_eq_true (by kernel_rfl)) LFn.nil cBool (by
    rw [t_meniscusref8_above]
    rfl)
theorem s_meniscusref8_above : Ev.Spec Tryz.prog 116 (F1 cDec cBool ((fun d => decide (0 < d.c)))) := spec1 (fun vs w => Tryz.call116 vs w) c_meniscusref8_above

/-! meniscusref8.size -/
theorem t_meniscusref8_size (x0 : Dec) :
    evFn Tryz.prog Env.nil Laws.nil 200 Tryz.f147 [cDec.av x0] [] cDec.dec =
      .ret (Dec.mk (Max.max x0.c (IntKind.i64.wrap (0 - x0.c))) x0.scale) := by kernel_rfl
theorem c_meniscusref8_size (x0 : Dec) (h : ((fun d => decide (-9223372036854775807 ≤ d.c ∧ d.c ≤ 9223372036854775807))) x0 = true) : Plain Tryz.prog 147 [cDec.enc x0] (cDec.enc (decSize x0)) :=
  plain_of_tree (n := 200) EnvOK.nil Tryz.func147 (args := [cDec.av x0]) (by simp only [AV.vals, Cod.av_val]) (Nat.le_of_ble_eq_true (by kernel_rfl)) LFn.nil cDec (by
    rw [t_meniscusref8_size]
    simp only [den_br, den_bind, den_ret, den_fail, den_inl, den_inr, decide_eq_true_eq]
    simp only [decide_eq_true_eq] at h
    have w : IntKind.i64.wrap (0 - x0.c) = -x0.c := by rw [show 0 - x0.c = -x0.c by omega]; exact wr (by omega)
    rw [w]; rfl)
theorem s_meniscusref8_size : Ev.Spec Tryz.prog 147 (F1p cDec cDec ((fun d => decide (-9223372036854775807 ≤ d.c ∧ d.c ≤ 9223372036854775807))) decSize) := spec1p (fun vs w => Tryz.call147 vs w) c_meniscusref8_size

/-! meniscusref8.DecIv -/
theorem t_meniscusref8_DecIv (x0 : Dec) :
    evFn Tryz.prog (Env.add 89 (F0 cIv Iv.none) (Env.add 118 (F2 cInt cInt cIv Iv.of) (Env.add 119 (F1 cDec cBool rightDec) (Env.add 120 (F2p cInt cInt cInt flOk fl) (Env.add 121 (F1p cInt cInt tenOk ten) (Env.add 122 (F2p cInt cInt cInt clOk cl) Env.nil)))))) Laws.nil 200 Tryz.f81 [cDec.av x0] [] cIv.dec =
      .bind (rightDec x0) fun vb0 => .br (!vb0) (.bind (Iv.none) fun viv1 => .ret (viv1)) (.br (tenOk x0.scale) (.bind (ten x0.scale) fun vn2 => .br (flOk (IntKind.i64.wrap (x0.c * 65536)) vn2) (.bind (fl (IntKind.i64.wrap (x0.c * 65536)) vn2) fun vn3 => .br (tenOk x0.scale) (.bind (ten x0.scale) fun vn4 => .br (clOk (IntKind.i64.wrap (x0.c * 65536)) vn4) (.bind (cl (IntKind.i64.wrap (x0.c * 65536)) vn4) fun vn5 => .bind (Iv.of vn3 vn5) fun viv6 => .ret (viv6)) (.fail)) (.fail)) (.fail)) (.fail)) := by kernel_rfl
theorem c_meniscusref8_DecIv (x0 : Dec) : Plain Tryz.prog 81 [cDec.enc x0] (cIv.enc (decIv x0)) :=
  plain_of_tree (n := 200) (EnvOK.add s_meniscusref1_None (EnvOK.add s_meniscusref1_Of (EnvOK.add s_meniscusref8_RightDec (EnvOK.add s_meniscusref1_Floor (EnvOK.add s_meniscusref8_ten (EnvOK.add s_meniscusref1_Ceil EnvOK.nil)))))) Tryz.func81 (args := [cDec.av x0]) (by simp only [AV.vals, Cod.av_val]) (Nat.le_of_ble_eq_true (by kernel_rfl)) LFn.nil cIv (by
    rw [t_meniscusref8_DecIv]
    simp only [den_br, den_bind, den_ret, den_fail, den_inl, den_inr, decide_eq_true_eq, gt_iff_lt, ge_iff_le, beq_iff_eq]
    simp only [decIv]
    cases hr : rightDec x0
    · simp
    obtain ⟨hb, ht⟩ := rightDec_bd hr
    have tb := ten_bd ht
    have w1 : IntKind.i64.wrap (x0.c * 65536) = x0.c * 65536 := wr (by omega)
    have c1 : clOk (x0.c * 65536) (ten x0.scale) = true := by simp [clOk]; omega
    simp only [w1, ht, c1, clOk_fl c1, Bool.not_true, Bool.false_eq_true, if_true, if_false])
theorem s_meniscusref8_DecIv : Ev.Spec Tryz.prog 81 (F1 cDec cIv decIv) := spec1 (fun vs w => Tryz.call81 vs w) c_meniscusref8_DecIv

/-! meniscusref8.DecLess -/
theorem t_meniscusref8_DecLess (x0 : Dec) (x1 : Dec) :
    evFn Tryz.prog (Env.add 119 (F1 cDec cBool rightDec) (Env.add 121 (F1p cInt cInt tenOk ten) Env.nil)) Laws.nil 200 Tryz.f146 [cDec.av x0, cDec.av x1] [] cBool.dec =
      .bind (rightDec x0) fun vb0 => .br (vb0) (.bind (rightDec x1) fun vb1 => .br (vb1) (.br (tenOk (IntKind.i64.wrap (6 - x0.scale))) (.bind (ten (IntKind.i64.wrap (6 - x0.scale))) fun vn2 => .br (tenOk (IntKind.i64.wrap (6 - x1.scale))) (.bind (ten (IntKind.i64.wrap (6 - x1.scale))) fun vn3 => .ret (decide (IntKind.i64.wrap (x0.c * vn2) < IntKind.i64.wrap (x1.c * vn3)))) (.fail)) (.fail)) (.ret (false))) (.ret (false)) := by kernel_rfl
theorem c_meniscusref8_DecLess (x0 : Dec) (x1 : Dec) : Plain Tryz.prog 146 [cDec.enc x0, cDec.enc x1] (cBool.enc (decLess x0 x1)) :=
  plain_of_tree (n := 200) (EnvOK.add s_meniscusref8_RightDec (EnvOK.add s_meniscusref8_ten EnvOK.nil)) Tryz.func146 (args := [cDec.av x0, cDec.av x1]) (by simp only [AV.vals, Cod.av_val]) (Nat.le_of_ble_eq_true (by kernel_rfl)) LFn.nil cBool (by
    rw [t_meniscusref8_DecLess]
    simp only [den_br, den_bind, den_ret, den_fail, den_inl, den_inr, decide_eq_true_eq, gt_iff_lt, ge_iff_le, beq_iff_eq]
    simp only [decLess]
    cases hr : rightDec x0
    · simp
    cases hr2 : rightDec x1
    · simp
    obtain ⟨hb, ht⟩ := rightDec_bd hr
    obtain ⟨hb2, ht2⟩ := rightDec_bd hr2
    have k1 := ht
    have k2 := ht2
    simp only [tenOk, decide_eq_true_eq] at k1 k2
    have w1 : IntKind.i64.wrap (6 - x0.scale) = 6 - x0.scale := wr (by omega)
    have w2 : IntKind.i64.wrap (6 - x1.scale) = 6 - x1.scale := wr (by omega)
    have t1 : tenOk (6 - x0.scale) = true := by simp [tenOk]; omega
    have t2 : tenOk (6 - x1.scale) = true := by simp [tenOk]; omega
    have b1 := ten_bd t1
    have b2 := ten_bd t2
    have m1 := mul_abs (a := x0.c) (b := ten (6 - x0.scale)) (A := 100000000000) (B := 1000000) (by omega) (by omega)
    have m2 := mul_abs (a := x1.c) (b := ten (6 - x1.scale)) (A := 100000000000) (B := 1000000) (by omega) (by omega)
    have w3 : IntKind.i64.wrap (x0.c * ten (6 - x0.scale)) = x0.c * ten (6 - x0.scale) := wr (by omega)
    have w4 : IntKind.i64.wrap (x1.c * ten (6 - x1.scale)) = x1.c * ten (6 - x1.scale) := wr (by omega)
    simp only [w1, w2, t1, t2, w3, w4, if_true, Bool.true_and])
theorem s_meniscusref8_DecLess : Ev.Spec Tryz.prog 146 (F2 cDec cDec cBool decLess) := spec2 (fun vs w => Tryz.call146 vs w) c_meniscusref8_DecLess

/-! meniscusref8.Digits -/
theorem t_meniscusref8_Digits_0 (x0 : Int) :
    evFn Tryz.prog Env.nil Laws.nil 200 Tryz.f77 [cInt.av x0] [] cStr.dec =
      .br (decide (x0 < 0)) (.fail) (.br (decide (x0 < 10)) (.ret (Go.strOfNums [IntKind.u8.wrap (IntKind.i64.wrap (48 + x0))])) (.fail)) := by kernel_rfl
theorem c_meniscusref8_Digits_0 (x0 : Int) (h : ((digOk 0)) x0 = true) : Plain Tryz.prog 77 [cInt.enc x0] (cStr.enc (((dig 0)) x0)) :=
  plain_of_tree (n := 200) EnvOK.nil Tryz.func77 (args := [cInt.av x0]) (by simp only [AV.vals, Cod.av_val]) (Nat.le_of_ble_eq_true (by kernel_rfl)) LFn.nil cStr (by
    rw [t_meniscusref8_Digits_0]
    simp only [den_br, den_bind, den_ret, den_fail, den_inl, den_inr, decide_eq_true_eq, gt_iff_lt, ge_iff_le, beq_iff_eq]
    obtain ⟨h0, h1⟩ := digOk_iff.1 h
    have h2 : x0 < 10 := by simpa using h1
    have hn : ¬ x0 < 0 := by omega
    simp only [hn, h2, if_true, if_false]
    rfl)
theorem s_meniscusref8_Digits_0 : Ev.Spec Tryz.prog 77 (F1p cInt cStr ((digOk 0)) ((dig 0))) := spec1p (fun vs w => Tryz.call77 vs w) c_meniscusref8_Digits_0

/-! meniscusref8.Digits -/
theorem t_meniscusref8_Digits_1 (x0 : Int) :
    evFn Tryz.prog (Env.add 77 (F1p cInt cStr ((digOk 0)) ((dig 0))) Env.nil) Laws.nil 200 Tryz.f77 [cInt.av x0] [] cStr.dec =
      .br (decide (x0 < 0)) (.br (digOk 0 (IntKind.i64.wrap (0 - x0))) (.bind (dig 0 (IntKind.i64.wrap (0 - x0))) fun vby0 => .br (Ev.strOk (ByteArray.mk #[45]) vby0) (.ret (ByteArray.mk #[45] ++ vby0)) (.fail)) (.fail)) (.br (decide (x0 < 10)) (.ret (Go.strOfNums [IntKind.u8.wrap (IntKind.i64.wrap (48 + x0))])) (.br (digOk 0 (IntKind.i64.wrap (x0.tdiv 10))) (.bind (dig 0 (IntKind.i64.wrap (x0.tdiv 10))) fun vby1 => .br (Ev.strOk vby1 (Go.strOfNums [IntKind.u8.wrap (IntKind.i64.wrap (48 + x0.tmod 10))])) (.ret (vby1 ++ Go.strOfNums [IntKind.u8.wrap (IntKind.i64.wrap (48 + x0.tmod 10))])) (.fail)) (.fail))) := by kernel_rfl
theorem c_meniscusref8_Digits_1 (x0 : Int) (h : ((digOk 1)) x0 = true) : Plain Tryz.prog 77 [cInt.enc x0] (cStr.enc (((dig 1)) x0)) :=
  plain_of_tree (n := 200) (EnvOK.add s_meniscusref8_Digits_0 EnvOK.nil) Tryz.func77 (args := [cInt.av x0]) (by simp only [AV.vals, Cod.av_val]) (Nat.le_of_ble_eq_true (by kernel_rfl)) LFn.nil cStr (by
    rw [t_meniscusref8_Digits_1]
    simp only [den_br, den_bind, den_ret, den_fail, den_inl, den_inr, decide_eq_true_eq, gt_iff_lt, ge_iff_le, beq_iff_eq]
    obtain ⟨h0, h1⟩ := digOk_iff.1 h
    have hb : x0 < 10000000 := by have : (10 : Int) ^ (1 + 1) ≤ 10000000 := by decide
                                  omega
    have hn : ¬ x0 < 0 := by omega
    have w1 : IntKind.i64.wrap (x0.tdiv 10) = x0.tdiv 10 := wr (by have := tdiv_bd (a := x0) (b := 10) (by omega) (by omega); omega)
    have hd : dig 1 x0 = if x0 < 10 then oneDigit x0 else dig 0 (x0.tdiv 10) ++ oneDigit (x0.tmod 10) := rfl
    simp only [hn, if_false, hd, digit_of]
    by_cases h2 : x0 < 10
    · simp only [h2, if_true]
    have h3 := dig_rec (k := 0) ⟨h0, h1⟩ h2
    have s1 := dig_size 0 (x0.tdiv 10)
    have h4 := strOk_of (a := dig 0 (x0.tdiv 10)) (b := oneDigit (x0.tmod 10)) (by omega) (by rw [oneDigit_size]; omega)
    simp only [h2, if_false, w1, digOk_iff.2 h3, if_true, h4])
theorem s_meniscusref8_Digits_1 : Ev.Spec Tryz.prog 77 (F1p cInt cStr ((digOk 1)) ((dig 1))) := spec1p (fun vs w => Tryz.call77 vs w) c_meniscusref8_Digits_1

/-! meniscusref8.Digits -/
theorem t_meniscusref8_Digits_2 (x0 : Int) :
    evFn Tryz.prog (Env.add 77 (F1p cInt cStr ((digOk 1)) ((dig 1))) Env.nil) Laws.nil 200 Tryz.f77 [cInt.av x0] [] cStr.dec =
      .br (decide (x0 < 0)) (.br (digOk 1 (IntKind.i64.wrap (0 - x0))) (.bind (dig 1 (IntKind.i64.wrap (0 - x0))) fun vby0 => .br (Ev.strOk (ByteArray.mk #[45]) vby0) (.ret (ByteArray.mk #[45] ++ vby0)) (.fail)) (.fail)) (.br (decide (x0 < 10)) (.ret (Go.strOfNums [IntKind.u8.wrap (IntKind.i64.wrap (48 + x0))])) (.br (digOk 1 (IntKind.i64.wrap (x0.tdiv 10))) (.bind (dig 1 (IntKind.i64.wrap (x0.tdiv 10))) fun vby1 => .br (Ev.strOk vby1 (Go.strOfNums [IntKind.u8.wrap (IntKind.i64.wrap (48 + x0.tmod 10))])) (.ret (vby1 ++ Go.strOfNums [IntKind.u8.wrap (IntKind.i64.wrap (48 + x0.tmod 10))])) (.fail)) (.fail))) := by kernel_rfl
theorem c_meniscusref8_Digits_2 (x0 : Int) (h : ((digOk 2)) x0 = true) : Plain Tryz.prog 77 [cInt.enc x0] (cStr.enc (((dig 2)) x0)) :=
  plain_of_tree (n := 200) (EnvOK.add s_meniscusref8_Digits_1 EnvOK.nil) Tryz.func77 (args := [cInt.av x0]) (by simp only [AV.vals, Cod.av_val]) (Nat.le_of_ble_eq_true (by kernel_rfl)) LFn.nil cStr (by
    rw [t_meniscusref8_Digits_2]
    simp only [den_br, den_bind, den_ret, den_fail, den_inl, den_inr, decide_eq_true_eq, gt_iff_lt, ge_iff_le, beq_iff_eq]
    obtain ⟨h0, h1⟩ := digOk_iff.1 h
    have hb : x0 < 10000000 := by have : (10 : Int) ^ (2 + 1) ≤ 10000000 := by decide
                                  omega
    have hn : ¬ x0 < 0 := by omega
    have w1 : IntKind.i64.wrap (x0.tdiv 10) = x0.tdiv 10 := wr (by have := tdiv_bd (a := x0) (b := 10) (by omega) (by omega); omega)
    have hd : dig 2 x0 = if x0 < 10 then oneDigit x0 else dig 1 (x0.tdiv 10) ++ oneDigit (x0.tmod 10) := rfl
    simp only [hn, if_false, hd, digit_of]
    by_cases h2 : x0 < 10
    · simp only [h2, if_true]
    have h3 := dig_rec (k := 1) ⟨h0, h1⟩ h2
    have s1 := dig_size 1 (x0.tdiv 10)
    have h4 := strOk_of (a := dig 1 (x0.tdiv 10)) (b := oneDigit (x0.tmod 10)) (by omega) (by rw [oneDigit_size]; omega)
    simp only [h2, if_false, w1, digOk_iff.2 h3, if_true, h4])
theorem s_meniscusref8_Digits_2 : Ev.Spec Tryz.prog 77 (F1p cInt cStr ((digOk 2)) ((dig 2))) := spec1p (fun vs w => Tryz.call77 vs w) c_meniscusref8_Digits_2

/-! meniscusref8.Digits -/
theorem t_meniscusref8_Digits_3 (x0 : Int) :
    evFn Tryz.prog (Env.add 77 (F1p cInt cStr ((digOk 2)) ((dig 2))) Env.nil) Laws.nil 200 Tryz.f77 [cInt.av x0] [] cStr.dec =
      .br (decide (x0 < 0)) (.br (digOk 2 (IntKind.i64.wrap (0 - x0))) (.bind (dig 2 (IntKind.i64.wrap (0 - x0))) fun vby0 => .br (Ev.strOk (ByteArray.mk #[45]) vby0) (.ret (ByteArray.mk #[45] ++ vby0)) (.fail)) (.fail)) (.br (decide (x0 < 10)) (.ret (Go.strOfNums [IntKind.u8.wrap (IntKind.i64.wrap (48 + x0))])) (.br (digOk 2 (IntKind.i64.wrap (x0.tdiv 10))) (.bind (dig 2 (IntKind.i64.wrap (x0.tdiv 10))) fun vby1 => .br (Ev.strOk vby1 (Go.strOfNums [IntKind.u8.wrap (IntKind.i64.wrap (48 + x0.tmod 10))])) (.ret (vby1 ++ Go.strOfNums [IntKind.u8.wrap (IntKind.i64.wrap (48 + x0.tmod 10))])) (.fail)) (.fail))) := by kernel_rfl
theorem c_meniscusref8_Digits_3 (x0 : Int) (h : ((digOk 3)) x0 = true) : Plain Tryz.prog 77 [cInt.enc x0] (cStr.enc (((dig 3)) x0)) :=
  plain_of_tree (n := 200) (EnvOK.add s_meniscusref8_Digits_2 EnvOK.nil) Tryz.func77 (args := [cInt.av x0]) (by simp only [AV.vals, Cod.av_val]) (Nat.le_of_ble_eq_true (by kernel_rfl)) LFn.nil cStr (by
    rw [t_meniscusref8_Digits_3]
    simp only [den_br, den_bind, den_ret, den_fail, den_inl, den_inr, decide_eq_true_eq, gt_iff_lt, ge_iff_le, beq_iff_eq]
    obtain ⟨h0, h1⟩ := digOk_iff.1 h
    have hb : x0 < 10000000 := by have : (10 : Int) ^ (3 + 1) ≤ 10000000 := by decide
                                  omega
    have hn : ¬ x0 < 0 := by omega
    have w1 : IntKind.i64.wrap (x0.tdiv 10) = x0.tdiv 10 := wr (by have := tdiv_bd (a := x0) (b := 10) (by omega) (by omega); omega)
    have hd : dig 3 x0 = if x0 < 10 then oneDigit x0 else dig 2 (x0.tdiv 10) ++ oneDigit (x0.tmod 10) := rfl
    simp only [hn, if_false, hd, digit_of]
    by_cases h2 : x0 < 10
    · simp only [h2, if_true]
    have h3 := dig_rec (k := 2) ⟨h0, h1⟩ h2
    have s1 := dig_size 2 (x0.tdiv 10)
    have h4 := strOk_of (a := dig 2 (x0.tdiv 10)) (b := oneDigit (x0.tmod 10)) (by omega) (by rw [oneDigit_size]; omega)
    simp only [h2, if_false, w1, digOk_iff.2 h3, if_true, h4])
theorem s_meniscusref8_Digits_3 : Ev.Spec Tryz.prog 77 (F1p cInt cStr ((digOk 3)) ((dig 3))) := spec1p (fun vs w => Tryz.call77 vs w) c_meniscusref8_Digits_3

/-! meniscusref8.Digits -/
theorem t_meniscusref8_Digits_4 (x0 : Int) :
    evFn Tryz.prog (Env.add 77 (F1p cInt cStr ((digOk 3)) ((dig 3))) Env.nil) Laws.nil 200 Tryz.f77 [cInt.av x0] [] cStr.dec =
      .br (decide (x0 < 0)) (.br (digOk 3 (IntKind.i64.wrap (0 - x0))) (.bind (dig 3 (IntKind.i64.wrap (0 - x0))) fun vby0 => .br (Ev.strOk (ByteArray.mk #[45]) vby0) (.ret (ByteArray.mk #[45] ++ vby0)) (.fail)) (.fail)) (.br (decide (x0 < 10)) (.ret (Go.strOfNums [IntKind.u8.wrap (IntKind.i64.wrap (48 + x0))])) (.br (digOk 3 (IntKind.i64.wrap (x0.tdiv 10))) (.bind (dig 3 (IntKind.i64.wrap (x0.tdiv 10))) fun vby1 => .br (Ev.strOk vby1 (Go.strOfNums [IntKind.u8.wrap (IntKind.i64.wrap (48 + x0.tmod 10))])) (.ret (vby1 ++ Go.strOfNums [IntKind.u8.wrap (IntKind.i64.wrap (48 + x0.tmod 10))])) (.fail)) (.fail))) := by kernel_rfl
theorem c_meniscusref8_Digits_4 (x0 : Int) (h : ((digOk 4)) x0 = true) : Plain Tryz.prog 77 [cInt.enc x0] (cStr.enc (((dig 4)) x0)) :=
  plain_of_tree (n := 200) (EnvOK.add s_meniscusref8_Digits_3 EnvOK.nil) Tryz.func77 (args := [cInt.av x0]) (by simp only [AV.vals, Cod.av_val]) (Nat.le_of_ble_eq_true (by kernel_rfl)) LFn.nil cStr (by
    rw [t_meniscusref8_Digits_4]
    simp only [den_br, den_bind, den_ret, den_fail, den_inl, den_inr, decide_eq_true_eq, gt_iff_lt, ge_iff_le, beq_iff_eq]
    obtain ⟨h0, h1⟩ := digOk_iff.1 h
    have hb : x0 < 10000000 := by have : (10 : Int) ^ (4 + 1) ≤ 10000000 := by decide
                                  omega
    have hn : ¬ x0 < 0 := by omega
    have w1 : IntKind.i64.wrap (x0.tdiv 10) = x0.tdiv 10 := wr (by have := tdiv_bd (a := x0) (b := 10) (by omega) (by omega); omega)
    have hd : dig 4 x0 = if x0 < 10 then oneDigit x0 else dig 3 (x0.tdiv 10) ++ oneDigit (x0.tmod 10) := rfl
    simp only [hn, if_false, hd, digit_of]
    by_cases h2 : x0 < 10
    · simp only [h2, if_true]
    have h3 := dig_rec (k := 3) ⟨h0, h1⟩ h2
    have s1 := dig_size 3 (x0.tdiv 10)
    have h4 := strOk_of (a := dig 3 (x0.tdiv 10)) (b := oneDigit (x0.tmod 10)) (by omega) (by rw [oneDigit_size]; omega)
    simp only [h2, if_false, w1, digOk_iff.2 h3, if_true, h4])
theorem s_meniscusref8_Digits_4 : Ev.Spec Tryz.prog 77 (F1p cInt cStr ((digOk 4)) ((dig 4))) := spec1p (fun vs w => Tryz.call77 vs w) c_meniscusref8_Digits_4

/-! meniscusref8.Digits -/
theorem t_meniscusref8_Digits_5 (x0 : Int) :
    evFn Tryz.prog (Env.add 77 (F1p cInt cStr ((digOk 4)) ((dig 4))) Env.nil) Laws.nil 200 Tryz.f77 [cInt.av x0] [] cStr.dec =
      .br (decide (x0 < 0)) (.br (digOk 4 (IntKind.i64.wrap (0 - x0))) (.bind (dig 4 (IntKind.i64.wrap (0 - x0))) fun vby0 => .br (Ev.strOk (ByteArray.mk #[45]) vby0) (.ret (ByteArray.mk #[45] ++ vby0)) (.fail)) (.fail)) (.br (decide (x0 < 10)) (.ret (Go.strOfNums [IntKind.u8.wrap (IntKind.i64.wrap (48 + x0))])) (.br (digOk 4 (IntKind.i64.wrap (x0.tdiv 10))) (.bind (dig 4 (IntKind.i64.wrap (x0.tdiv 10))) fun vby1 => .br (Ev.strOk vby1 (Go.strOfNums [IntKind.u8.wrap (IntKind.i64.wrap (48 + x0.tmod 10))])) (.ret (vby1 ++ Go.strOfNums [IntKind.u8.wrap (IntKind.i64.wrap (48 + x0.tmod 10))])) (.fail)) (.fail))) := by kernel_rfl
theorem c_meniscusref8_Digits_5 (x0 : Int) (h : ((digOk 5)) x0 = true) : Plain Tryz.prog 77 [cInt.enc x0] (cStr.enc (((dig 5)) x0)) :=
  plain_of_tree (n := 200) (EnvOK.add s_meniscusref8_Digits_4 EnvOK.nil) Tryz.func77 (args := [cInt.av x0]) (by simp only [AV.vals, Cod.av_val]) (Nat.le_of_ble_eq_true (by kernel_rfl)) LFn.nil cStr (by
    rw [t_meniscusref8_Digits_5]
    simp only [den_br, den_bind, den_ret, den_fail, den_inl, den_inr, decide_eq_true_eq, gt_iff_lt, ge_iff_le, beq_iff_eq]
    obtain ⟨h0, h1⟩ := digOk_iff.1 h
    have hb : x0 < 10000000 := by have : (10 : Int) ^ (5 + 1) ≤ 10000000 := by decide
                                  omega
    have hn : ¬ x0 < 0 := by omega
    have w1 : IntKind.i64.wrap (x0.tdiv 10) = x0.tdiv 10 := wr (by have := tdiv_bd (a := x0) (b := 10) (by omega) (by omega); omega)
    have hd : dig 5 x0 = if x0 < 10 then oneDigit x0 else dig 4 (x0.tdiv 10) ++ oneDigit (x0.tmod 10) := rfl
    simp only [hn, if_false, hd, digit_of]
    by_cases h2 : x0 < 10
    · simp only [h2, if_true]
    have h3 := dig_rec (k := 4) ⟨h0, h1⟩ h2
    have s1 := dig_size 4 (x0.tdiv 10)
    have h4 := strOk_of (a := dig 4 (x0.tdiv 10)) (b := oneDigit (x0.tmod 10)) (by omega) (by rw [oneDigit_size]; omega)
    simp only [h2, if_false, w1, digOk_iff.2 h3, if_true, h4])
theorem s_meniscusref8_Digits_5 : Ev.Spec Tryz.prog 77 (F1p cInt cStr ((digOk 5)) ((dig 5))) := spec1p (fun vs w => Tryz.call77 vs w) c_meniscusref8_Digits_5

/-! meniscusref8.Digits -/
theorem t_meniscusref8_Digits_6 (x0 : Int) :
    evFn Tryz.prog (Env.add 77 (F1p cInt cStr ((digOk 5)) ((dig 5))) Env.nil) Laws.nil 200 Tryz.f77 [cInt.av x0] [] cStr.dec =
      .br (decide (x0 < 0)) (.br (digOk 5 (IntKind.i64.wrap (0 - x0))) (.bind (dig 5 (IntKind.i64.wrap (0 - x0))) fun vby0 => .br (Ev.strOk (ByteArray.mk #[45]) vby0) (.ret (ByteArray.mk #[45] ++ vby0)) (.fail)) (.fail)) (.br (decide (x0 < 10)) (.ret (Go.strOfNums [IntKind.u8.wrap (IntKind.i64.wrap (48 + x0))])) (.br (digOk 5 (IntKind.i64.wrap (x0.tdiv 10))) (.bind (dig 5 (IntKind.i64.wrap (x0.tdiv 10))) fun vby1 => .br (Ev.strOk vby1 (Go.strOfNums [IntKind.u8.wrap (IntKind.i64.wrap (48 + x0.tmod 10))])) (.ret (vby1 ++ Go.strOfNums [IntKind.u8.wrap (IntKind.i64.wrap (48 + x0.tmod 10))])) (.fail)) (.fail))) := by kernel_rfl
theorem c_meniscusref8_Digits_6 (x0 : Int) (h : ((digOk 6)) x0 = true) : Plain Tryz.prog 77 [cInt.enc x0] (cStr.enc (((dig 6)) x0)) :=
  plain_of_tree (n := 200) (EnvOK.add s_meniscusref8_Digits_5 EnvOK.nil) Tryz.func77 (args := [cInt.av x0]) (by simp only [AV.vals, Cod.av_val]) (Nat.le_of_ble_eq_true (by kernel_rfl)) LFn.nil cStr (by
    rw [t_meniscusref8_Digits_6]
    simp only [den_br, den_bind, den_ret, den_fail, den_inl, den_inr, decide_eq_true_eq, gt_iff_lt, ge_iff_le, beq_iff_eq]
    obtain ⟨h0, h1⟩ := digOk_iff.1 h
    have hb : x0 < 10000000 := by have : (10 : Int) ^ (6 + 1) ≤ 10000000 := by decide
                                  omega
    have hn : ¬ x0 < 0 := by omega
    have w1 : IntKind.i64.wrap (x0.tdiv 10) = x0.tdiv 10 := wr (by have := tdiv_bd (a := x0) (b := 10) (by omega) (by omega); omega)
    have hd : dig 6 x0 = if x0 < 10 then oneDigit x0 else dig 5 (x0.tdiv 10) ++ oneDigit (x0.tmod 10) := rfl
    simp only [hn, if_false, hd, digit_of]
    by_cases h2 : x0 < 10
    · simp only [h2, if_true]
    have h3 := dig_rec (k := 5) ⟨h0, h1⟩ h2
    have s1 := dig_size 5 (x0.tdiv 10)
    have h4 := strOk_of (a := dig 5 (x0.tdiv 10)) (b := oneDigit (x0.tmod 10)) (by omega) (by rw [oneDigit_size]; omega)
    simp only [h2, if_false, w1, digOk_iff.2 h3, if_true, h4])
theorem s_meniscusref8_Digits_6 : Ev.Spec Tryz.prog 77 (F1p cInt cStr ((digOk 6)) ((dig 6))) := spec1p (fun vs w => Tryz.call77 vs w) c_meniscusref8_Digits_6

/-! meniscusref8.PrintDec -/
theorem t_meniscusref8_PrintDec (x0 : Dec) :
    evFn Tryz.prog (Env.add 77 (F1p cInt cStr ((digOk 6)) ((dig 6))) (Env.add 119 (F1 cDec cBool rightDec) (Env.add 121 (F1p cInt cInt tenOk ten) Env.nil))) Laws.nil 200 Tryz.f145 [cDec.av x0] [] cStr.dec =
      .bind (rightDec x0) fun vb0 => .br (!vb0) (.ret (ByteArray.mk #[])) (.br (tenOk x0.scale) (.bind (ten x0.scale) fun vn1 => .br (vn1 != 0) (.br (decide (IntKind.i64.wrap ((Max.max x0.c (IntKind.i64.wrap (0 - x0.c))).tdiv vn1) > 99999)) (.ret (ByteArray.mk #[])) (.br (digOk 6 (IntKind.i64.wrap ((Max.max x0.c (IntKind.i64.wrap (0 - x0.c))).tdiv vn1))) (.bind (dig 6 (IntKind.i64.wrap ((Max.max x0.c (IntKind.i64.wrap (0 - x0.c))).tdiv vn1))) fun vby2 => .br (decide (x0.c < 0)) (.br (Ev.strOk (ByteArray.mk #[45]) vby2) (.br (decide (x0.scale > 0)) (.br (tenOk x0.scale) (.bind (ten x0.scale) fun vn3 => .br (vn3 != 0) (.br (tenOk x0.scale) (.bind (ten x0.scale) fun vn4 => .br (digOk 6 (IntKind.i64.wrap ((Max.max x0.c (IntKind.i64.wrap (0 - x0.c))).tmod vn3 + vn4))) (.bind (dig 6 (IntKind.i64.wrap ((Max.max x0.c (IntKind.i64.wrap (0 - x0.c))).tmod vn3 + vn4))) fun vby5 => .br (Ev.strOk (ByteArray.mk #[45] ++ vby2) (ByteArray.mk #[46])) (.br (decide ((0 : Int) ≤ 1 ∧ 1 ≤ (@Nat.cast Int _ vby5.size))) (.br (Ev.strOk (ByteArray.mk #[45] ++ vby2 ++ ByteArray.mk #[46]) (vby5.extract (Int.toNat 1) vby5.size)) (.ret (ByteArray.mk #[45] ++ vby2 ++ ByteArray.mk #[46] ++ vby5.extract (Int.toNat 1) vby5.size)) (.fail)) (.fail)) (.fail)) (.fail)) (.fail)) (.fail)) (.fail)) (.ret (ByteArray.mk #[45] ++ vby2))) (.fail)) (.br (decide (x0.scale > 0)) (.br (tenOk x0.scale) (.bind (ten x0.scale) fun vn6 => .br (vn6 != 0) (.br (tenOk x0.scale) (.bind (ten x0.scale) fun vn7 => .br (digOk 6 (IntKind.i64.wrap ((Max.max x0.c (IntKind.i64.wrap (0 - x0.c))).tmod vn6 + vn7))) (.bind (dig 6 (IntKind.i64.wrap ((Max.max x0.c (IntKind.i64.wrap (0 - x0.c))).tmod vn6 + vn7))) fun vby8 => .br (Ev.strOk vby2 (ByteArray.mk #[46])) (.br (decide ((0 : Int) ≤ 1 ∧ 1 ≤ (@Nat.cast Int _ vby8.size))) (.br (Ev.strOk (vby2 ++ ByteArray.mk #[46]) (vby8.extract (Int.toNat 1) vby8.size)) (.ret (vby2 ++ ByteArray.mk #[46] ++ vby8.extract (Int.toNat 1) vby8.size)) (.fail)) (.fail)) (.fail)) (.fail)) (.fail)) (.fail)) (.fail)) (.ret (vby2)))) (.fail))) (.fail)) (.fail)) := by kernel_rfl
theorem c_meniscusref8_PrintDec (x0 : Dec) : Plain Tryz.prog 145 [cDec.enc x0] (cStr.enc (printDec x0)) :=
  plain_of_tree (n := 200) (EnvOK.add s_meniscusref8_Digits_6 (EnvOK.add s_meniscusref8_RightDec (EnvOK.add s_meniscusref8_ten EnvOK.nil))) Tryz.func145 (args := [cDec.av x0]) (by simp only [AV.vals, Cod.av_val]) (Nat.le_of_ble_eq_true (by kernel_rfl)) LFn.nil cStr (by
    rw [t_meniscusref8_PrintDec]
    simp only [den_br, den_bind, den_ret, den_fail, den_inl, den_inr, decide_eq_true_eq, gt_iff_lt, ge_iff_le, beq_iff_eq]
    simp only [printDec]
    cases hr : rightDec x0
    · simp
    obtain ⟨hb, ht⟩ := rightDec_bd hr
    have tb := ten_bd ht
    have w0 : IntKind.i64.wrap (0 - x0.c) = -x0.c := by rw [show 0 - x0.c = -x0.c by omega]; exact wr (by omega)
    have hne : (ten x0.scale != 0) = true := by simp; omega
    simp only [ht, w0, hne, Bool.not_true, Bool.false_eq_true, if_true, if_false]
    obtain ⟨n, hn⟩ : ∃ n, n = max x0.c (-x0.c) := ⟨_, rfl⟩
    have nb : 0 ≤ n ∧ n ≤ 100000000000 := by omega
    rw [← hn]
    obtain ⟨t, htt⟩ : ∃ t, t = ten x0.scale := ⟨_, rfl⟩
    rw [← htt] at tb ⊢
    have qb := tdiv_bd (a := n) (b := t) (by omega) (by omega)
    have q0 : 0 ≤ n.tdiv t := Int.tdiv_nonneg (by omega) (by omega)
    have w1 : IntKind.i64.wrap (n.tdiv t) = n.tdiv t := wr (by omega)
    rw [w1]
    by_cases h5 : 99999 < n.tdiv t
    · simp only [h5, if_true]
    have d1 := digOk6 q0 (by omega : n.tdiv t < 10000000)
    simp only [h5, if_false, d1, if_true]
    have r0 : 0 ≤ n.tmod t := Int.tmod_nonneg t (by omega)
    have r1 : n.tmod t < t := Int.tmod_lt_of_pos n (by omega)
    have w2 : IntKind.i64.wrap (n.tmod t + t) = n.tmod t + t := wr (by omega)
    have d2 := digOk6 (n := n.tmod t + t) (by omega) (by omega)
    have z1 := dig_size 6 (n.tdiv t)
    have z2 := dig_size 6 (n.tmod t + t)
    have z3 := dig_pos 6 (n.tmod t + t)
    simp only [w2, d2, if_true]
    generalize dig 6 (n.tdiv t) = A at *
    generalize dig 6 (n.tmod t + t) = B at *
    have z4 : (B.extract (Int.toNat 1) B.size).size ≤ 7 := by rw [ByteArray.size_extract]; omega
    have k1 := strOk_of (a := sMinus) (b := A) (by decide) (by omega)
    have k2 := strOk_of (a := sMinus ++ A) (b := sDot) (by rw [ByteArray.size_append, show sMinus.size = 1 from rfl]; omega) (by decide)
    have k3 := strOk_of (a := A) (b := sDot) (by omega) (by decide)
    have k4 := strOk_of (a := sMinus ++ A ++ sDot) (b := B.extract (Int.toNat 1) B.size) (by rw [ByteArray.size_append, ByteArray.size_append, show sMinus.size = 1 from rfl, show sDot.size = 1 from rfl]; omega) (by omega)
    have k5 := strOk_of (a := A ++ sDot) (b := B.extract (Int.toNat 1) B.size) (by rw [ByteArray.size_append, show sDot.size = 1 from rfl]; omega) (by omega)
    have k6 : (0 : Int) ≤ 1 ∧ (1 : Int) ≤ (B.size : Int) := by omega
    rw [show (⟨#[45]⟩ : ByteArray) = sMinus from rfl, show (⟨#[46]⟩ : ByteArray) = sDot from rfl]
    simp only [k1, k2, k3, k4, k5, k6, and_self, if_true]
    by_cases h6 : x0.c < 0 <;> by_cases h7 : 0 < x0.scale <;> simp only [h6, h7, if_true, if_false] <;> rfl)
theorem s_meniscusref8_PrintDec : Ev.Spec Tryz.prog 145 (F1 cDec cStr printDec) := spec1 (fun vs w => Tryz.call145 vs w) c_meniscusref8_PrintDec

/-! meniscusref8.printable -/
theorem t_meniscusref8_printable (x0 : Dec) :
    evFn Tryz.prog (Env.add 145 (F1 cDec cStr printDec) Env.nil) Laws.nil 200 Tryz.f115 [cDec.av x0] [] cBool.dec =
      .bind (printDec x0) fun vby0 => .ret (!Ev.strEq vby0 (ByteArray.mk #[])) := by kernel_rfl
theorem c_meniscusref8_printable (x0 : Dec) : Plain Tryz.prog 115 [cDec.enc x0] (cBool.enc (printable x0)) :=
  plain_of_tree (n := 200) (EnvOK.add s_meniscusref8_PrintDec EnvOK.nil) Tryz.func115 (args := [cDec.av x0]) (by simp only [AV.vals, Cod.av_val]) (Nat.le_of_ble_eq_true (by kernel_rfl)) LFn.nil cBool (by
    rw [t_meniscusref8_printable]
    rfl)
theorem s_meniscusref8_printable : Ev.Spec Tryz.prog 115 (F1 cDec cBool printable) := spec1 (fun vs w => Tryz.call115 vs w) c_meniscusref8_printable

/-! meniscusref8.letter -/
theorem t_meniscusref8_letter (x0 : Int) :
    evFn Tryz.prog Env.nil Laws.nil 200 Tryz.f143 [cByte.av x0] [] cBool.dec =
      .br (decide (x0 ≥ 97)) (.br (decide (x0 ≤ 122)) (.ret (true)) (.br (decide (x0 ≥ 65)) (.ret (decide (x0 ≤ 90))) (.ret (false)))) (.br (decide (x0 ≥ 65)) (.ret (decide (x0 ≤ 90))) (.ret (false))) := by kernel_rfl
theorem c_meniscusref8_letter (x0 : Int) : Plain Tryz.prog 143 [cByte.enc x0] (cBool.enc (letter x0)) :=
  plain_of_tree (n := 200) EnvOK.nil Tryz.func143 (args := [cByte.av x0]) (by simp only [AV.vals, Cod.av_val]) (Nat.le_of_ble_eq_true (by kernel_rfl)) LFn.nil cBool (by
    rw [t_meniscusref8_letter]
    simp only [den_br, den_bind, den_ret, den_fail, den_inl, den_inr, decide_eq_true_eq, gt_iff_lt, ge_iff_le, beq_iff_eq]
    simp only [letter]
    by_cases h0 : 97 ≤ x0 <;> by_cases h1 : x0 ≤ 122 <;> by_cases h2 : 65 ≤ x0 <;> simp [h0, h1, h2])
theorem s_meniscusref8_letter : Ev.Spec Tryz.prog 143 (F1 cByte cBool letter) := spec1 (fun vs w => Tryz.call143 vs w) c_meniscusref8_letter

/-! meniscusref8.digit -/
theorem t_meniscusref8_digit (x0 : Int) :
    evFn Tryz.prog Env.nil Laws.nil 200 Tryz.f154 [cByte.av x0] [] cBool.dec =
      .br (decide (x0 ≥ 48)) (.ret (decide (x0 ≤ 57))) (.ret (false)) := by kernel_rfl
theorem c_meniscusref8_digit (x0 : Int) : Plain Tryz.prog 154 [cByte.enc x0] (cBool.enc (digit x0)) :=
  plain_of_tree (n := 200) EnvOK.nil Tryz.func154 (args := [cByte.av x0]) (by simp only [AV.vals, Cod.av_val]) (Nat.le_of_ble_eq_true (by kernel_rfl)) LFn.nil cBool (by
    rw [t_meniscusref8_digit]
    simp only [den_br, den_bind, den_ret, den_fail, den_inl, den_inr, decide_eq_true_eq, gt_iff_lt, ge_iff_le, beq_iff_eq]
    simp only [digit]
    by_cases h0 : 48 ≤ x0 <;> simp [h0])
theorem s_meniscusref8_digit : Ev.Spec Tryz.prog 154 (F1 cByte cBool digit) := spec1 (fun vs w => Tryz.call154 vs w) c_meniscusref8_digit

/-! meniscusref8.inWord -/
theorem t_meniscusref8_inWord (x0 : Int) :
    evFn Tryz.prog (Env.add 143 (F1 cByte cBool letter) (Env.add 154 (F1 cByte cBool digit) Env.nil)) Laws.nil 200 Tryz.f144 [cByte.av x0] [] cBool.dec =
      .bind (letter x0) fun vb0 => .br (vb0) (.ret (true)) (.bind (digit x0) fun vb1 => .br (vb1) (.ret (true)) (.br (x0 == 45) (.ret (true)) (.ret (x0 == 95)))) := by kernel_rfl
theorem c_meniscusref8_inWord (x0 : Int) : Plain Tryz.prog 144 [cByte.enc x0] (cBool.enc (inWord x0)) :=
  plain_of_tree (n := 200) (EnvOK.add s_meniscusref8_letter (EnvOK.add s_meniscusref8_digit EnvOK.nil)) Tryz.func144 (args := [cByte.av x0]) (by simp only [AV.vals, Cod.av_val]) (Nat.le_of_ble_eq_true (by kernel_rfl)) LFn.nil cBool (by
    rw [t_meniscusref8_inWord]
    simp only [den_br, den_bind, den_ret, den_fail, den_inl, den_inr, decide_eq_true_eq, gt_iff_lt, ge_iff_le, beq_iff_eq]
    simp only [inWord]
    cases letter x0 <;> cases digit x0 <;> by_cases h0 : x0 = 45 <;> simp [h0])
theorem s_meniscusref8_inWord : Ev.Spec Tryz.prog 144 (F1 cByte cBool inWord) := spec1 (fun vs w => Tryz.call144 vs w) c_meniscusref8_inWord

/-! meniscusref8.IsWord -/
theorem tl_meniscusref8_IsWord_4 (t0 : ByteArray) (t3 : Int) :
    ev Tryz.prog (Env.add 143 (F1 cByte cBool letter) (Env.add 144 (F1 cByte cBool inWord) Env.nil)) Laws.nil 200 none (loopAt Tryz.f114 4) ((sc 29 [0, 3] (tCod 0 cStr (tCod 3 cInt tNil)) rNil).enc ((t0, t3, ()), (()))) (backK (sc 29 [0, 3] (tCod 0 cStr (tCod 3 cInt tNil)) rNil) (ocOr (ocExit 0 (sc 29 [] tNil rNil)) (ocRet (sc 29 [2] (tCod 2 cBool tNil) rNil)))) =
      .br (decide (t3 < (@Nat.cast Int _ t0.size))) (.br (decide (0 ≤ t3)) (.get (t0[t3.toNat]?) fun vui0 => .bind (inWord (@Nat.cast Int _ vui0.toNat)) fun vb1 => .br (!vb1) (.ret (Sum.inr (Sum.inr ((false, ()), ())))) (.ret (Sum.inl ((t0, IntKind.i64.wrap (t3 + 1), ()), ())))) (.fail)) (.ret (Sum.inr (Sum.inl ((), ())))) := by kernel_rfl
theorem ok_meniscusref8_IsWord_4 : LOK Tryz.prog (LoopR.of (sc 29 [0, 3] (tCod 0 cStr (tCod 3 cInt tNil)) rNil) (ocOr (ocExit 0 (sc 29 [] tNil rNil)) (ocRet (sc 29 [2] (tCod 2 cBool tNil) rNil))) (runBy wordStep wordM)) (loopAt Tryz.f114 4) := by
  refine loop_ok (EnvOK.add s_meniscusref8_letter (EnvOK.add s_meniscusref8_inWord EnvOK.nil)) (LFn.at (fn := Tryz.f114) LFn.nil 4) wordStep (n := 200) (fun x z h => ?_) (runBy_ok _ _)
  obtain ⟨⟨t0, t3, ⟨⟩⟩, ⟨⟩⟩ := x
  rw [tl_meniscusref8_IsWord_4]
  rw [← h]
  simp only [den_br, den_bind, den_ret, den_fail, den_inl, den_inr, decide_eq_true_eq, gt_iff_lt, ge_iff_le, beq_iff_eq]
  simp only [wordStep]
  by_cases h0 : t3 < (t0.size : Int) <;> simp only [h0, if_true, if_false]
  by_cases h1 : 0 ≤ t3 <;> simp only [h1, if_true, if_false]
  cases hg : t0[t3.toNat]? with
  | none => rfl
  | some a =>
    simp only [den_get, den_br, den_bind, den_ret, den_fail]
    cases inWord (a.toNat : Int) <;> simp
theorem t_meniscusref8_IsWord (x0 : ByteArray) :
    evFn Tryz.prog (Env.add 143 (F1 cByte cBool letter) (Env.add 144 (F1 cByte cBool inWord) Env.nil)) (Laws.add 4 (LoopR.of (sc 29 [0, 3] (tCod 0 cStr (tCod 3 cInt tNil)) rNil) (ocOr (ocExit 0 (sc 29 [] tNil rNil)) (ocRet (sc 29 [2] (tCod 2 cBool tNil) rNil))) (runBy wordStep wordM)) Laws.nil) 200 Tryz.f114 [cStr.av x0] [] cBool.dec =
      .br ((@Nat.cast Int _ x0.size) == 0) (.ret (false)) (.br (decide ((@Nat.cast Int _ x0.size) > 20)) (.ret (false)) (.br (decide (0 ≤ 0)) (.get (x0[Int.toNat 0]?) fun vui0 => .bind (letter (@Nat.cast Int _ vui0.toNat)) fun vb1 => .br (!vb1) (.ret (false)) (.get (runBy wordStep wordM ((x0, 0, ()), ())) fun vy2 => .sum (vy2) (fun vs3 => .ret (true)) (fun vs4 => .ret (vs4.1.1)))) (.fail))) := by kernel_rfl
theorem c_meniscusref8_IsWord (x0 : ByteArray) (h : ((fun s => decide (s.size ≤ 1048576))) x0 = true) : Plain Tryz.prog 114 [cStr.enc x0] (cBool.enc (isWord x0)) :=
  plain_of_tree (n := 200) (EnvOK.add s_meniscusref8_letter (EnvOK.add s_meniscusref8_inWord EnvOK.nil)) Tryz.func114 (args := [cStr.av x0]) (by simp only [AV.vals, Cod.av_val]) (Nat.le_of_ble_eq_true (by kernel_rfl)) (LFn.add (fn := Tryz.f114) (i := 4) (by kernel_rfl) ok_meniscusref8_IsWord_4 LFn.nil) cBool (by
    rw [t_meniscusref8_IsWord]
    simp only [den_br, den_bind, den_ret, den_fail, den_inl, den_inr, decide_eq_true_eq, gt_iff_lt, ge_iff_le, beq_iff_eq]
    simp only [decide_eq_true_eq] at h
    simp only [isWord]
    by_cases h0 : x0.size = 0
    · simp [h0]
    have h1 : ¬ ((x0.size : Int) = 0) := by omega
    obtain ⟨c, hc⟩ := str_get (s := x0) (i := 0) (by omega)
    simp only [h0, h1, if_false]
    by_cases h2 : 20 < (x0.size : Int) <;> simp only [h2, if_true, if_false]
    obtain ⟨y, hy, _⟩ := word_total x0 h
    rw [show Int.toNat 0 = 0 from rfl, hc, hy]
    simp only [Int.le_refl, if_true, den_get, den_br, den_bind, den_ret]
    cases letter (c.toNat : Int) <;> simp
    rcases y with y | y <;> rfl)
theorem s_meniscusref8_IsWord : Ev.Spec Tryz.prog 114 (F1p cStr cBool ((fun s => decide (s.size ≤ 1048576))) isWord) := spec1p (fun vs w => Tryz.call114 vs w) c_meniscusref8_IsWord

/-! meniscusref8.FindGlass -/
theorem tl_meniscusref8_FindGlass_2 (t1 : ByteArray) (t6 : Int) (r0 : List Glass) (r1 : Glass) :
    ev Tryz.prog Env.nil Laws.nil 200 none (loopAt Tryz.f86 2) ((sc 25 [1, 6, 0, 4] (tCod 1 cStr (tCod 6 cInt (tSl 0 0 (tOwn 4 1 tNil)))) (rL_glass (rBox ccGlass ccGlass_ok rNil))).enc ((t1, t6, ()), (r0, r1, ()))) (backK (sc 25 [1, 6, 0, 4] (tCod 1 cStr (tCod 6 cInt (tSl 0 0 (tOwn 4 1 tNil)))) (rL_glass (rBox ccGlass ccGlass_ok rNil))) (ocOr (ocExit 0 (sc 25 [4] (tOwn 4 0 tNil) (rBox ccGlass ccGlass_ok rNil))) (ocRet (sc 25 [5, 4] (tCod 5 cBool (tOwn 4 0 tNil)) (rBox ccGlass ccGlass_ok rNil))))) =
      .br (decide (t6 < (@Nat.cast Int _ r0.length))) (.br (decide (0 ≤ t6 ∧ t6 < (@Nat.cast Int _ r0.length))) (.get (r0[t6.toNat]?) fun vt0 => .br (Ev.strEq vt0.name t1) (.br (decide (0 ≤ t6 ∧ t6 < (@Nat.cast Int _ r0.length))) (.get (r0[t6.toNat]?) fun vt1 => .ret (Sum.inr (Sum.inr ((true, ()), vt1, ())))) (.fail)) (.ret (Sum.inl ((t1, IntKind.i64.wrap (t6 + 1), ()), r0, r1, ())))) (.fail)) (.ret (Sum.inr (Sum.inl ((), r1, ())))) := by kernel_rfl
theorem ok_meniscusref8_FindGlass_2 : LOK Tryz.prog (LoopR.of (sc 25 [1, 6, 0, 4] (tCod 1 cStr (tCod 6 cInt (tSl 0 0 (tOwn 4 1 tNil)))) (rL_glass (rBox ccGlass ccGlass_ok rNil))) (ocOr (ocExit 0 (sc 25 [4] (tOwn 4 0 tNil) (rBox ccGlass ccGlass_ok rNil))) (ocRet (sc 25 [5, 4] (tCod 5 cBool (tOwn 4 0 tNil)) (rBox ccGlass ccGlass_ok rNil)))) (runBy findStep findM)) (loopAt Tryz.f86 2) := by
  refine loop_ok EnvOK.nil (LFn.at (fn := Tryz.f86) LFn.nil 2) findStep (n := 200) (fun x z h => ?_) (runBy_ok _ _)
  obtain ⟨⟨t1, t6, ⟨⟩⟩, ⟨r0, r1, ⟨⟩⟩⟩ := x
  rw [tl_meniscusref8_FindGlass_2]
  rw [← h]
  simp only [den_br, den_bind, den_ret, den_fail, den_inl, den_inr, decide_eq_true_eq, gt_iff_lt, ge_iff_le, beq_iff_eq]
  simp only [findStep]
  by_cases h0 : t6 < (r0.length : Int) <;> simp only [h0, if_true, if_false]
  by_cases h1 : 0 ≤ t6 <;> simp only [h1, h0, if_true, if_false, and_self, false_and, true_and]
  cases hg : r0[t6.toNat]? with
  | none => rfl
  | some a =>
    simp only [den_get, den_br, den_bind, den_ret, den_fail]
    cases strEq a.name t1 <;> simp [h0, h1]
theorem t_meniscusref8_FindGlass (t1 : ByteArray) (r0 : List Glass) :
    evFn Tryz.prog Env.nil (Laws.add 2 (LoopR.of (sc 25 [1, 6, 0, 4] (tCod 1 cStr (tCod 6 cInt (tSl 0 0 (tOwn 4 1 tNil)))) (rL_glass (rBox ccGlass ccGlass_ok rNil))) (ocOr (ocExit 0 (sc 25 [4] (tOwn 4 0 tNil) (rBox ccGlass ccGlass_ok rNil))) (ocRet (sc 25 [5, 4] (tCod 5 cBool (tOwn 4 0 tNil)) (rBox ccGlass ccGlass_ok rNil)))) (runBy findStep findM)) Laws.nil) 200 Tryz.f86 (((sc 2 [0, 1] (tSl 0 0 (tCod 1 cStr tNil)) (rL_glass rNil)).enc ((t1, ()), (r0, ()))).tmps.map Prod.snd) ((sc 2 [0, 1] (tSl 0 0 (tCod 1 cStr tNil)) (rL_glass rNil)).enc ((t1, ()), (r0, ()))).mem (cTwo cGlass cBool).dec =
      .get (runBy findStep findM ((t1, 0, ()), r0, Glass.mk (ByteArray.mk #[]) (Dec.mk 0 0) (Dec.mk 0 0) (Dec.mk 0 0) (Dec.mk 0 0) (Dec.mk 0 0) (Dec.mk 0 0), ())) fun vy0 => .sum (vy0) (fun vs1 => .ret ((Glass.mk (ByteArray.mk #[]) (Dec.mk 0 0) (Dec.mk 0 0) (Dec.mk 0 0) (Dec.mk 0 0) (Dec.mk 0 0) (Dec.mk 0 0), false))) (fun vs2 => .ret ((vs2.2.1, vs2.1.1))) := by kernel_rfl
theorem c_meniscusref8_FindGlass : PlainS Tryz.prog 86 (sc 2 [0, 1] (tSl 0 0 (tCod 1 cStr tNil)) (rL_glass rNil)) (cTwo cGlass cBool) (fun x => lenOk x.2.1) ((fun x => findGlass x.2.1 x.1.1)) := by
  intro x h N w vs hM hv
  obtain ⟨⟨t1, ⟨⟩⟩, ⟨r0, ⟨⟩⟩⟩ := x
  refine calls_of_tree (n := 200) EnvOK.nil Tryz.func86 hv (Nat.le_of_ble_eq_true (by kernel_rfl)) (LFn.add (fn := Tryz.f86) (i := 2) (by kernel_rfl) ok_meniscusref8_FindGlass_2 LFn.nil) hM (cTwo cGlass cBool) ?_
  rw [t_meniscusref8_FindGlass]
  simp only at h
  obtain ⟨y, hy, _⟩ := find_total t1 r0 Glass.nil (lenOk_iff.1 h)
  rw [show (⟨⟨#[]⟩, ⟨0, 0⟩, ⟨0, 0⟩, ⟨0, 0⟩, ⟨0, 0⟩, ⟨0, 0⟩, ⟨0, 0⟩⟩ : Glass) = Glass.nil from rfl]
  simp only [findGlass, hy]
  rcases y with y | y <;> rfl
theorem s_meniscusref8_FindGlass : Ev.Spec Tryz.prog 86 (FS (sc 2 [0, 1] (tSl 0 0 (tCod 1 cStr tNil)) (rL_glass rNil)) (cTwo cGlass cBool) (fun x => lenOk x.2.1) ((fun x => findGlass x.2.1 x.1.1))) := specS rfl (fun vs w => Tryz.call86 vs w) c_meniscusref8_FindGlass

/-! meniscusref8.Index -/
theorem t_meniscusref8_Index (x0 : Glass) (x1 : Iv) :
    evFn Tryz.prog (Env.add 80 (F1 cInt cIv Iv.point) (Env.add 81 (F1 cDec cIv decIv) (Env.add 83 (F2 cIv cIv cIv Iv.add) (Env.add 84 (F1 cIv cIv Iv.sqr) (Env.add 85 (F2 cIv cIv cIv Iv.div) (Env.add 90 (F1 cIv cIv Iv.root) (Env.add 126 (F2 cIv cIv cIv Iv.mul) (Env.add 127 (F2 cIv cIv cIv Iv.sub) Env.nil)))))))) Laws.nil 200 Tryz.f87 [cGlass.av x0, cIv.av x1] [] cIv.dec =
      .bind (Iv.point 65536) fun viv0 => .br (Ev.strEq x0.name (ByteArray.mk #[97, 105, 114])) (.ret (viv0)) (.bind (x1.sqr) fun viv1 => .bind (decIv x0.b0) fun viv2 => .bind (viv2.mul viv1) fun viv3 => .bind (decIv x0.c0) fun viv4 => .bind (viv1.sub viv4) fun viv5 => .bind (viv3.div viv5) fun viv6 => .bind (viv0.add viv6) fun viv7 => .bind (decIv x0.b1) fun viv8 => .bind (viv8.mul viv1) fun viv9 => .bind (decIv x0.c1) fun viv10 => .bind (viv1.sub viv10) fun viv11 => .bind (viv9.div viv11) fun viv12 => .bind (viv7.add viv12) fun viv13 => .bind (decIv x0.b2) fun viv14 => .bind (viv14.mul viv1) fun viv15 => .bind (decIv x0.c2) fun viv16 => .bind (viv1.sub viv16) fun viv17 => .bind (viv15.div viv17) fun viv18 => .bind (viv13.add viv18) fun viv19 => .bind (viv19.root) fun viv20 => .ret (viv20)) := by kernel_rfl
theorem c_meniscusref8_Index (x0 : Glass) (x1 : Iv) : Plain Tryz.prog 87 [cGlass.enc x0, cIv.enc x1] (cIv.enc (index x0 x1)) :=
  plain_of_tree (n := 200) (EnvOK.add s_meniscusref1_Point (EnvOK.add s_meniscusref8_DecIv (EnvOK.add s_meniscusref1_Add (EnvOK.add s_meniscusref1_Sqr (EnvOK.add s_meniscusref1_DivIv (EnvOK.add s_meniscusref1_RootIv (EnvOK.add s_meniscusref1_MulIv (EnvOK.add s_meniscusref1_Sub EnvOK.nil)))))))) Tryz.func87 (args := [cGlass.av x0, cIv.av x1]) (by simp only [AV.vals, Cod.av_val]) (Nat.le_of_ble_eq_true (by kernel_rfl)) LFn.nil cIv (by
    rw [t_meniscusref8_Index]
    simp only [den_br, den_bind, den_ret, den_fail, den_inl, den_inr, decide_eq_true_eq]
    simp only [index]
    rw [show (⟨#[97, 105, 114]⟩ : ByteArray) = sAir from rfl]
    cases strEq x0.name sAir <;> rfl)
theorem s_meniscusref8_Index : Ev.Spec Tryz.prog 87 (F2 cGlass cIv cIv index) := spec2 (fun vs w => Tryz.call87 vs w) c_meniscusref8_Index

/-! meniscusref8.Line -/
theorem t_meniscusref8_Line (x0 : Int) :
    evFn Tryz.prog (Env.add 81 (F1 cDec cIv decIv) (Env.add 89 (F0 cIv Iv.none) Env.nil)) Laws.nil 200 Tryz.f37 [cInt.av x0] [] cIv.dec =
      .br (x0 == 0) (.bind (decIv (Dec.mk 5876 4)) fun viv0 => .ret (viv0)) (.br (x0 == 1) (.bind (decIv (Dec.mk 4861 4)) fun viv1 => .ret (viv1)) (.br (x0 == 2) (.bind (decIv (Dec.mk 6563 4)) fun viv2 => .ret (viv2)) (.bind (Iv.none) fun viv3 => .ret (viv3)))) := by kernel_rfl
theorem c_meniscusref8_Line (x0 : Int) : Plain Tryz.prog 37 [cInt.enc x0] (cIv.enc (lineAt x0)) :=
  plain_of_tree (n := 200) (EnvOK.add s_meniscusref8_DecIv (EnvOK.add s_meniscusref1_None EnvOK.nil)) Tryz.func37 (args := [cInt.av x0]) (by simp only [AV.vals, Cod.av_val]) (Nat.le_of_ble_eq_true (by kernel_rfl)) LFn.nil cIv (by
    rw [t_meniscusref8_Line]
    simp only [den_br, den_bind, den_ret, den_fail, den_inl, den_inr, decide_eq_true_eq, gt_iff_lt, ge_iff_le, beq_iff_eq]
    simp only [lineAt]
    by_cases h0 : x0 = 0 <;> simp only [h0, if_true, if_false]
    by_cases h1 : x0 = 1 <;> simp only [h1, if_true, if_false]
    by_cases h2 : x0 = 2 <;> simp only [h2, if_true, if_false])
theorem s_meniscusref8_Line : Ev.Spec Tryz.prog 37 (F1 cInt cIv lineAt) := spec1 (fun vs w => Tryz.call37 vs w) c_meniscusref8_Line
end Go.Proofs.YtlbmjajjldfigaaGreat
