/-
  Contracts of calls, written by a small program of this session out of the evaluator's trees.
-/
import Derived.Test.YtlbmjajjldfigaaGreatCore
import Derived.Test.YtlbmjajjldfigaaGreatCoreLoops
import Derived.Test.YtlbmjajjldfigaaGreatCore2
import Derived.Test.YtlbmjajjldfigaaGreatCore3
import Derived.Test.YtlbmjajjldfigaaGreatCore4
import Derived.Test.YtlbmjajjldfigaaGreatEvCod
import Derived.Test.YtlbmjajjldfigaaGreatEvRet
import Derived.Test.YtlbmjajjldfigaaGreatProg
namespace Go.Proofs.YtlbmjajjldfigaaGreat
open Go Go.RowKit Ev
set_option maxRecDepth 100000
set_option linter.unusedVariables false
set_option linter.unusedSimpArgs false

/-! num.In -/
theorem t_num_In (x0 : Int) :
    evFn Tryz.prog Env.nil Laws.nil 200 Tryz.f47 [cInt.av x0] [] cBool.dec =
      .br (decide (x0 ≥ -1073741824)) (.ret (decide (x0 ≤ 1073741824))) (.ret (false)) := by kernel_rfl
theorem c_num_In (x0 : Int) : Plain Tryz.prog 47 [cInt.enc x0] (cBool.enc (numIn x0)) :=
  plain_of_tree (n := 200) EnvOK.nil Tryz.func47 (args := [cInt.av x0]) (by simp only [AV.vals, Cod.av_val]) (Nat.le_of_ble_eq_true (by kernel_rfl)) LFn.nil cBool (by
    rw [t_num_In]
    simp only [Tr.den]
    grind [numIn])
theorem s_num_In : Ev.Spec Tryz.prog 47 (F1 cInt cBool numIn) := spec1 (fun vs w => Tryz.call47 vs w) c_num_In

/-! num.Floor -/
theorem t_num_Floor (x0 : Int) (x1 : Int) :
    evFn Tryz.prog Env.nil Laws.nil 200 Tryz.f151 [cInt.av x0, cInt.av x1] [] cInt.dec =
      .br (x1 == 0) (.ret (0)) (.br (x1 != 0) (.br (x1 != 0) (.br (x0.tmod x1 != 0) (.br (!decide (x0 < 0) == decide (x1 < 0)) (.ret (IntKind.i64.wrap (IntKind.i64.wrap (x0.tdiv x1) - 1))) (.ret (IntKind.i64.wrap (x0.tdiv x1)))) (.ret (IntKind.i64.wrap (x0.tdiv x1)))) (.fail)) (.fail)) := by kernel_rfl
theorem c_num_Floor (x0 : Int) (x1 : Int) (h : flOk x0 x1 = true) : Plain Tryz.prog 151 [cInt.enc x0, cInt.enc x1] (cInt.enc (fl x0 x1)) :=
  plain_of_tree (n := 200) EnvOK.nil Tryz.func151 (args := [cInt.av x0, cInt.av x1]) (by simp only [AV.vals, Cod.av_val]) (Nat.le_of_ble_eq_true (by kernel_rfl)) LFn.nil cInt (by
    rw [t_num_Floor]
    simp [flOk] at h
    simp only [Tr.den]
    by_cases hb : x1 = 0
    · subst hb; simp [fl]
    · have e := fl_tdiv x0 x1 hb
      have hw := tdiv_bd (a := x0) (b := x1) (by omega) (by omega)
      simp (disch := omega) only [IntWalk.i64_in] at *
      grind)
theorem s_num_Floor : Ev.Spec Tryz.prog 151 (F2p cInt cInt cInt flOk fl) := spec2p (fun vs w => Tryz.call151 vs w) c_num_Floor

/-! num.rounded -/
theorem t_num_rounded (x0 : Int) (x1 : Int) (x2 : Bool) :
    evFn Tryz.prog (Env.add 47 (F1 cInt cBool numIn) (Env.add 151 (F2p cInt cInt cInt flOk fl) Env.nil)) Laws.nil 200 Tryz.f136 [cInt.av x0, cInt.av x1, cBool.av x2] [] (cTwo cInt cBool).dec =
      .br (flOk x0 x1) (.bind (fl x0 x1) fun vn0 => .br (x2) (.br (x1 != 0) (.br (x0.tmod x1 != 0) (.bind (numIn (IntKind.i64.wrap (vn0 + 1))) fun vb1 => .br (!vb1) (.ret ((0, false))) (.ret ((IntKind.i64.wrap (vn0 + 1), true)))) (.bind (numIn vn0) fun vb2 => .br (!vb2) (.ret ((0, false))) (.ret ((vn0, true))))) (.fail)) (.bind (numIn vn0) fun vb3 => .br (!vb3) (.ret ((0, false))) (.ret ((vn0, true))))) (.fail) := by kernel_rfl
theorem c_num_rounded (x0 : Int) (x1 : Int) (x2 : Bool) (h : rnOk x0 x1 x2 = true) : Plain Tryz.prog 136 [cInt.enc x0, cInt.enc x1, cBool.enc x2] ((cTwo cInt cBool).enc (rnd x0 x1 x2)) :=
  plain_of_tree (n := 200) (EnvOK.add s_num_In (EnvOK.add s_num_Floor EnvOK.nil)) Tryz.func136 (args := [cInt.av x0, cInt.av x1, cBool.av x2]) (by simp only [AV.vals, Cod.av_val]) (Nat.le_of_ble_eq_true (by kernel_rfl)) LFn.nil (cTwo cInt cBool) (by
    rw [t_num_rounded]
    simp [rnOk] at h
    simp only [Tr.den, h.1]
    have e := fl_tdiv x0 x1 h.2
    have hw := tdiv_bd (a := x0) (b := x1) (by simp [flOk] at h; omega) (by simp [flOk] at h; omega)
    have hz := fl_mul x0 x1 h.2
    have hfl : -9223372036854775807 < fl x0 x1 ∧ fl x0 x1 < 9223372036854775806 := by rw [e]; split <;> omega
    simp (disch := omega) only [IntWalk.i64_in] at *
    grind [rnd])
theorem s_num_rounded : Ev.Spec Tryz.prog 136 (F3p cInt cInt cBool (cTwo cInt cBool) rnOk rnd) := spec3p (fun vs w => Tryz.call136 vs w) c_num_rounded

/-! num.Mul -/
theorem t_num_Mul (x0 : Int) (x1 : Int) (x2 : Bool) :
    evFn Tryz.prog (Env.add 47 (F1 cInt cBool numIn) (Env.add 136 (F3p cInt cInt cBool (cTwo cInt cBool) rnOk rnd) Env.nil)) Laws.nil 200 Tryz.f104 [cInt.av x0, cInt.av x1, cBool.av x2] [] (cTwo cInt cBool).dec =
      .bind (numIn x0) fun vb0 => .br (!vb0) (.ret ((0, false))) (.bind (numIn x1) fun vb1 => .br (!vb1) (.ret ((0, false))) (.br (rnOk (IntKind.i64.wrap (x0 * x1)) 65536 x2) (.bind (rnd (IntKind.i64.wrap (x0 * x1)) 65536 x2) fun vy2 => .ret (vy2)) (.fail))) := by kernel_rfl
theorem c_num_Mul (x0 : Int) (x1 : Int) (x2 : Bool) : Plain Tryz.prog 104 [cInt.enc x0, cInt.enc x1, cBool.enc x2] ((cTwo cInt cBool).enc (numMul x0 x1 x2)) :=
  plain_of_tree (n := 200) (EnvOK.add s_num_In (EnvOK.add s_num_rounded EnvOK.nil)) Tryz.func104 (args := [cInt.av x0, cInt.av x1, cBool.av x2]) (by simp only [AV.vals, Cod.av_val]) (Nat.le_of_ble_eq_true (by kernel_rfl)) LFn.nil (cTwo cInt cBool) (by
    rw [t_num_Mul]
    simp only [Tr.den]
    have hm := mul_bd x0 x1
    cases h0 : numIn x0 <;> cases h1 : numIn x1 <;> simp [numMul, h0, h1]
    have := hm h0 h1
    simp (disch := omega) only [IntWalk.i64_in]
    grind [rnOk, flOk])
theorem s_num_Mul : Ev.Spec Tryz.prog 104 (F3 cInt cInt cBool (cTwo cInt cBool) numMul) := spec3 (fun vs w => Tryz.call104 vs w) c_num_Mul

/-! num.Div -/
theorem t_num_Div (x0 : Int) (x1 : Int) (x2 : Bool) :
    evFn Tryz.prog (Env.add 47 (F1 cInt cBool numIn) (Env.add 136 (F3p cInt cInt cBool (cTwo cInt cBool) rnOk rnd) Env.nil)) Laws.nil 200 Tryz.f142 [cInt.av x0, cInt.av x1, cBool.av x2] [] (cTwo cInt cBool).dec =
      .bind (numIn x0) fun vb0 => .br (!vb0) (.ret ((0, false))) (.bind (numIn x1) fun vb1 => .br (!vb1) (.ret ((0, false))) (.br (x1 == 0) (.ret ((0, false))) (.br (rnOk (IntKind.i64.wrap (x0 * 65536)) x1 x2) (.bind (rnd (IntKind.i64.wrap (x0 * 65536)) x1 x2) fun vy2 => .ret (vy2)) (.fail)))) := by kernel_rfl
theorem c_num_Div (x0 : Int) (x1 : Int) (x2 : Bool) : Plain Tryz.prog 142 [cInt.enc x0, cInt.enc x1, cBool.enc x2] ((cTwo cInt cBool).enc (numDiv x0 x1 x2)) :=
  plain_of_tree (n := 200) (EnvOK.add s_num_In (EnvOK.add s_num_rounded EnvOK.nil)) Tryz.func142 (args := [cInt.av x0, cInt.av x1, cBool.av x2]) (by simp only [AV.vals, Cod.av_val]) (Nat.le_of_ble_eq_true (by kernel_rfl)) LFn.nil (cTwo cInt cBool) (by
    rw [t_num_Div]
    simp only [Tr.den]
    cases h0 : numIn x0 <;> cases h1 : numIn x1 <;> simp [numDiv, h0, h1]
    have b0 := numIn_iff.1 h0
    have b1 := numIn_iff.1 h1
    simp (disch := omega) only [IntWalk.i64_in]
    grind [rnOk, flOk])
theorem s_num_Div : Ev.Spec Tryz.prog 142 (F3 cInt cInt cBool (cTwo cInt cBool) numDiv) := spec3 (fun vs w => Tryz.call142 vs w) c_num_Div

/-! num.Root -/
theorem tl_num_Root_5 (t1 : Bool) (t6 : Int) (t7 : Int) (t8 : Int) :
    ev Tryz.prog (Env.add 47 (F1 cInt cBool numIn) Env.nil) Laws.nil 200 none (loopAt Tryz.f137 5) ((sc 44 [1, 6, 7, 8] (tCod 1 cBool (tCod 6 cInt (tCod 7 cInt (tCod 8 cInt tNil)))) rNil).enc ((t1, t6, t7, t8, ()), (()))) (backK (sc 44 [1, 6, 7, 8] (tCod 1 cBool (tCod 6 cInt (tCod 7 cInt (tCod 8 cInt tNil)))) rNil) (ocExit 0 (sc 44 [1, 6, 7] (tCod 1 cBool (tCod 6 cInt (tCod 7 cInt tNil))) rNil))) =
      .br (decide (t8 ≥ 0)) (.br (decide (0 ≤ t8)) (.br (decide (IntKind.i64.wrap (IntKind.i64.wrap (@Nat.cast Int _ (BitVec.ofInt 64 t7 ||| BitVec.ofInt 64 (IntKind.i64.wrap (1 * 2 ^ Min.min t8.toNat 64))).toNat) * IntKind.i64.wrap (@Nat.cast Int _ (BitVec.ofInt 64 t7 ||| BitVec.ofInt 64 (IntKind.i64.wrap (1 * 2 ^ Min.min t8.toNat 64))).toNat)) ≤ t6)) (.ret (Sum.inl ((t1, t6, IntKind.i64.wrap (@Nat.cast Int _ (BitVec.ofInt 64 t7 ||| BitVec.ofInt 64 (IntKind.i64.wrap (1 * 2 ^ Min.min t8.toNat 64))).toNat), IntKind.i64.wrap (t8 - 1), ()), ()))) (.ret (Sum.inl ((t1, t6, t7, IntKind.i64.wrap (t8 - 1), ()), ())))) (.fail)) (.ret (Sum.inr ((t1, t6, t7, ()), ()))) := by kernel_rfl
theorem ok_num_Root_5 : LOK Tryz.prog (LoopR.of (sc 44 [1, 6, 7, 8] (tCod 1 cBool (tCod 6 cInt (tCod 7 cInt (tCod 8 cInt tNil)))) rNil) (ocExit 0 (sc 44 [1, 6, 7] (tCod 1 cBool (tCod 6 cInt (tCod 7 cInt tNil))) rNil)) rootRun) (loopAt Tryz.f137 5) := by
  refine loop_ok (EnvOK.add s_num_In EnvOK.nil) (LFn.at (fn := Tryz.f137) LFn.nil 5) rootStep (n := 200) (fun x z h => ?_) rootRun_ok
  obtain ⟨⟨t1, t6, t7, t8, ⟨⟩⟩, ⟨⟩⟩ := x
  rw [tl_num_Root_5]
  rw [← h]
  simp only [den_br, den_bind, den_ret, den_fail, den_inl, den_inr, decide_eq_true_eq]
  simp only [rootStep, rootBit]
  by_cases h0 : 0 ≤ t8 <;> simp only [h0, if_true, if_false]
  split <;> rename_i hh <;> simp only [hh, if_true, if_false]
theorem t_num_Root (x0 : Int) (x1 : Bool) :
    evFn Tryz.prog (Env.add 47 (F1 cInt cBool numIn) Env.nil) (Laws.add 5 (LoopR.of (sc 44 [1, 6, 7, 8] (tCod 1 cBool (tCod 6 cInt (tCod 7 cInt (tCod 8 cInt tNil)))) rNil) (ocExit 0 (sc 44 [1, 6, 7] (tCod 1 cBool (tCod 6 cInt (tCod 7 cInt tNil))) rNil)) rootRun) Laws.nil) 200 Tryz.f137 [cInt.av x0, cBool.av x1] [] (cTwo cInt cBool).dec =
      .br (decide (x0 < 0)) (.ret ((0, false))) (.bind (numIn x0) fun vb0 => .br (!vb0) (.ret ((0, false))) (.get (rootRun ((x1, IntKind.i64.wrap (x0 * 65536), 0, 24, ()), ())) fun vy1 => .br (vy1.1.1) (.br (decide (IntKind.i64.wrap (vy1.1.2.2.1 * vy1.1.2.2.1) < vy1.1.2.1)) (.ret ((IntKind.i64.wrap (vy1.1.2.2.1 + 1), true))) (.ret ((vy1.1.2.2.1, true)))) (.ret ((vy1.1.2.2.1, true))))) := by kernel_rfl
theorem c_num_Root (x0 : Int) (x1 : Bool) : Plain Tryz.prog 137 [cInt.enc x0, cBool.enc x1] ((cTwo cInt cBool).enc (numRoot x0 x1)) :=
  plain_of_tree (n := 200) (EnvOK.add s_num_In EnvOK.nil) Tryz.func137 (args := [cInt.av x0, cBool.av x1]) (by simp only [AV.vals, Cod.av_val]) (Nat.le_of_ble_eq_true (by kernel_rfl)) (LFn.add (fn := Tryz.f137) (i := 5) (by kernel_rfl) ok_num_Root_5 LFn.nil) (cTwo cInt cBool) (by
    rw [t_num_Root]
    simp only [den_br, den_bind, den_ret, den_fail, den_inl, den_inr, decide_eq_true_eq]
    simp only [numRoot]
    by_cases h0 : x0 < 0
    · simp [h0]
    cases h1 : numIn x0
    · simp
    have b := numIn_iff.1 h1
    have e1 : IntKind.i64.wrap (x0 * 65536) = x0 * 65536 := IntWalk.i64_in _ (by omega)
    have s := isqrt_spec (n := x0 * 65536) (by omega) (by omega)
    have l := isqrt_le (n := x0 * 65536) (m := 8388608) (by omega) (by omega) (by omega) (by omega)
    have e2 : IntKind.i64.wrap (isqrt (x0 * 65536) * isqrt (x0 * 65536)) = isqrt (x0 * 65536) * isqrt (x0 * 65536) := IntWalk.i64_in _ (by have := Int.mul_nonneg s.1 s.1; omega)
    have e3 : IntKind.i64.wrap (isqrt (x0 * 65536) + 1) = isqrt (x0 * 65536) + 1 := IntWalk.i64_in _ (by omega)
    have hr : rootRun ((x1, IntKind.i64.wrap (x0 * 65536), 0, 24, ()), ()) = some ((x1, x0 * 65536, isqrt (x0 * 65536), ()), ()) := by
      rw [e1]; exact if_pos ⟨⟨rfl, rfl⟩, by omega, by omega⟩
    rw [hr]
    simp only [den_gets, Option.bind_some, den_br, den_ret, e2, e3, h0]
    cases x1 <;> simp
    split <;> rename_i hh <;> simp [hh])
theorem s_num_Root : Ev.Spec Tryz.prog 137 (F2 cInt cBool (cTwo cInt cBool) numRoot) := spec2 (fun vs w => Tryz.call137 vs w) c_num_Root

/-! iv.Right -/
theorem t_iv_Right (x0 : Iv) :
    evFn Tryz.prog (Env.add 47 (F1 cInt cBool numIn) Env.nil) Laws.nil 200 Tryz.f14 [cIv.av x0] [] cBool.dec =
      .br (!x0.no) (.bind (numIn x0.lo) fun vb0 => .br (vb0) (.bind (numIn x0.hi) fun vb1 => .br (vb1) (.ret (decide (x0.lo ≤ x0.hi))) (.ret (false))) (.ret (false))) (.ret (false)) := by kernel_rfl
theorem c_iv_Right (x0 : Iv) : Plain Tryz.prog 14 [cIv.enc x0] (cBool.enc (Iv.right x0)) :=
  plain_of_tree (n := 200) (EnvOK.add s_num_In EnvOK.nil) Tryz.func14 (args := [cIv.av x0]) (by simp only [AV.vals, Cod.av_val]) (Nat.le_of_ble_eq_true (by kernel_rfl)) LFn.nil cBool (by
    rw [t_iv_Right]
    simp only [Tr.den]
    grind [Iv.right])
theorem s_iv_Right : Ev.Spec Tryz.prog 14 (F1 cIv cBool Iv.right) := spec1 (fun vs w => Tryz.call14 vs w) c_iv_Right

/-! iv.None -/
theorem t_iv_None  :
    evFn Tryz.prog Env.nil Laws.nil 200 Tryz.f49 [] [] cIv.dec =
      .ret (Iv.mk 0 0 true) := by kernel_rfl
theorem c_iv_None  : Plain Tryz.prog 49 [] (cIv.enc (Iv.none)) :=
  plain_of_tree (n := 200) EnvOK.nil Tryz.func49 (args := []) rfl (Nat.le_of_ble_eq_true (by kernel_rfl)) LFn.nil cIv (by
    rw [t_iv_None]
    rfl)
theorem s_iv_None : Ev.Spec Tryz.prog 49 (F0 cIv Iv.none) := spec0 (fun vs w => Tryz.call49 vs w) c_iv_None

/-! iv.Of -/
theorem t_iv_Of (x0 : Int) (x1 : Int) :
    evFn Tryz.prog (Env.add 14 (F1 cIv cBool Iv.right) (Env.add 49 (F0 cIv Iv.none) Env.nil)) Laws.nil 200 Tryz.f50 [cInt.av x0, cInt.av x1] [] cIv.dec =
      .bind ((Iv.mk x0 x1 false).right) fun vb0 => .br (!vb0) (.bind (Iv.none) fun viv1 => .ret (viv1)) (.ret (Iv.mk x0 x1 false)) := by kernel_rfl
theorem c_iv_Of (x0 : Int) (x1 : Int) : Plain Tryz.prog 50 [cInt.enc x0, cInt.enc x1] (cIv.enc (Iv.of x0 x1)) :=
  plain_of_tree (n := 200) (EnvOK.add s_iv_Right (EnvOK.add s_iv_None EnvOK.nil)) Tryz.func50 (args := [cInt.av x0, cInt.av x1]) (by simp only [AV.vals, Cod.av_val]) (Nat.le_of_ble_eq_true (by kernel_rfl)) LFn.nil cIv (by
    rw [t_iv_Of]
    simp only [Tr.den]
    grind [Iv.of])
theorem s_iv_Of : Ev.Spec Tryz.prog 50 (F2 cInt cInt cIv Iv.of) := spec2 (fun vs w => Tryz.call50 vs w) c_iv_Of

/-! iv.Point -/
theorem t_iv_Point (x0 : Int) :
    evFn Tryz.prog (Env.add 50 (F2 cInt cInt cIv Iv.of) Env.nil) Laws.nil 200 Tryz.f21 [cInt.av x0] [] cIv.dec =
      .bind (Iv.of x0 x0) fun viv0 => .ret (viv0) := by kernel_rfl
theorem c_iv_Point (x0 : Int) : Plain Tryz.prog 21 [cInt.enc x0] (cIv.enc (Iv.point x0)) :=
  plain_of_tree (n := 200) (EnvOK.add s_iv_Of EnvOK.nil) Tryz.func21 (args := [cInt.av x0]) (by simp only [AV.vals, Cod.av_val]) (Nat.le_of_ble_eq_true (by kernel_rfl)) LFn.nil cIv (by
    rw [t_iv_Point]
    simp only [Tr.den]
    grind [Iv.point])
theorem s_iv_Point : Ev.Spec Tryz.prog 21 (F1 cInt cIv Iv.point) := spec1 (fun vs w => Tryz.call21 vs w) c_iv_Point

/-! iv.Whole -/
theorem t_iv_Whole (x0 : Int) :
    evFn Tryz.prog (Env.add 21 (F1 cInt cIv Iv.point) (Env.add 47 (F1 cInt cBool numIn) (Env.add 49 (F0 cIv Iv.none) Env.nil))) Laws.nil 200 Tryz.f52 [cInt.av x0] [] cIv.dec =
      .bind (numIn x0) fun vb0 => .br (!vb0) (.bind (Iv.none) fun viv1 => .ret (viv1)) (.bind (Iv.point (IntKind.i64.wrap (x0 * 65536))) fun viv2 => .ret (viv2)) := by kernel_rfl
theorem c_iv_Whole (x0 : Int) : Plain Tryz.prog 52 [cInt.enc x0] (cIv.enc (Iv.whole x0)) :=
  plain_of_tree (n := 200) (EnvOK.add s_iv_Point (EnvOK.add s_num_In (EnvOK.add s_iv_None EnvOK.nil))) Tryz.func52 (args := [cInt.av x0]) (by simp only [AV.vals, Cod.av_val]) (Nat.le_of_ble_eq_true (by kernel_rfl)) LFn.nil cIv (by
    rw [t_iv_Whole]
    simp only [Tr.den, Iv.whole]
    cases h0 : numIn x0 <;> simp
    have b0 := numIn_iff.1 h0
    simp (disch := omega) only [IntWalk.i64_in])
theorem s_iv_Whole : Ev.Spec Tryz.prog 52 (F1 cInt cIv Iv.whole) := spec1 (fun vs w => Tryz.call52 vs w) c_iv_Whole

/-! iv.both -/
theorem t_iv_both (x0 : Iv) (x1 : Iv) :
    evFn Tryz.prog (Env.add 14 (F1 cIv cBool Iv.right) Env.nil) Laws.nil 200 Tryz.f48 [cIv.av x0, cIv.av x1] [] cBool.dec =
      .bind (x0.right) fun vb0 => .br (vb0) (.bind (x1.right) fun vb1 => .ret (vb1)) (.ret (false)) := by kernel_rfl
theorem c_iv_both (x0 : Iv) (x1 : Iv) : Plain Tryz.prog 48 [cIv.enc x0, cIv.enc x1] (cBool.enc (Iv.both x0 x1)) :=
  plain_of_tree (n := 200) (EnvOK.add s_iv_Right EnvOK.nil) Tryz.func48 (args := [cIv.av x0, cIv.av x1]) (by simp only [AV.vals, Cod.av_val]) (Nat.le_of_ble_eq_true (by kernel_rfl)) LFn.nil cBool (by
    rw [t_iv_both]
    simp only [Tr.den]
    grind [Iv.both])
theorem s_iv_both : Ev.Spec Tryz.prog 48 (F2 cIv cIv cBool Iv.both) := spec2 (fun vs w => Tryz.call48 vs w) c_iv_both

/-! iv.Neg -/
theorem t_iv_Neg (x0 : Iv) :
    evFn Tryz.prog (Env.add 14 (F1 cIv cBool Iv.right) (Env.add 49 (F0 cIv Iv.none) (Env.add 50 (F2 cInt cInt cIv Iv.of) Env.nil))) Laws.nil 200 Tryz.f94 [cIv.av x0] [] cIv.dec =
      .bind (x0.right) fun vb0 => .br (!vb0) (.bind (Iv.none) fun viv1 => .ret (viv1)) (.bind (Iv.of (IntKind.i64.wrap (0 - x0.hi)) (IntKind.i64.wrap (0 - x0.lo))) fun viv2 => .ret (viv2)) := by kernel_rfl
theorem c_iv_Neg (x0 : Iv) : Plain Tryz.prog 94 [cIv.enc x0] (cIv.enc (Iv.neg x0)) :=
  plain_of_tree (n := 200) (EnvOK.add s_iv_Right (EnvOK.add s_iv_None (EnvOK.add s_iv_Of EnvOK.nil))) Tryz.func94 (args := [cIv.av x0]) (by simp only [AV.vals, Cod.av_val]) (Nat.le_of_ble_eq_true (by kernel_rfl)) LFn.nil cIv (by
    rw [t_iv_Neg]
    simp only [Tr.den, Iv.neg]
    cases h0 : x0.right <;> simp
    have b0 := right_bd h0
    simp (disch := omega) only [IntWalk.i64_in])
theorem s_iv_Neg : Ev.Spec Tryz.prog 94 (F1 cIv cIv Iv.neg) := spec1 (fun vs w => Tryz.call94 vs w) c_iv_Neg

/-! iv.Add -/
theorem t_iv_Add (x0 : Iv) (x1 : Iv) :
    evFn Tryz.prog (Env.add 48 (F2 cIv cIv cBool Iv.both) (Env.add 49 (F0 cIv Iv.none) (Env.add 50 (F2 cInt cInt cIv Iv.of) Env.nil))) Laws.nil 200 Tryz.f20 [cIv.av x0, cIv.av x1] [] cIv.dec =
      .bind (x0.both x1) fun vb0 => .br (!vb0) (.bind (Iv.none) fun viv1 => .ret (viv1)) (.bind (Iv.of (IntKind.i64.wrap (x0.lo + x1.lo)) (IntKind.i64.wrap (x0.hi + x1.hi))) fun viv2 => .ret (viv2)) := by kernel_rfl
theorem c_iv_Add (x0 : Iv) (x1 : Iv) : Plain Tryz.prog 20 [cIv.enc x0, cIv.enc x1] (cIv.enc (Iv.add x0 x1)) :=
  plain_of_tree (n := 200) (EnvOK.add s_iv_both (EnvOK.add s_iv_None (EnvOK.add s_iv_Of EnvOK.nil))) Tryz.func20 (args := [cIv.av x0, cIv.av x1]) (by simp only [AV.vals, Cod.av_val]) (Nat.le_of_ble_eq_true (by kernel_rfl)) LFn.nil cIv (by
    rw [t_iv_Add]
    simp only [Tr.den, Iv.add]
    cases h0 : Iv.both x0 x1 <;> simp
    simp [Iv.both] at h0
    have b0 := right_bd h0.1
    have b1 := right_bd h0.2
    simp (disch := omega) only [IntWalk.i64_in])
theorem s_iv_Add : Ev.Spec Tryz.prog 20 (F2 cIv cIv cIv Iv.add) := spec2 (fun vs w => Tryz.call20 vs w) c_iv_Add

/-! iv.Sub -/
theorem t_iv_Sub (x0 : Iv) (x1 : Iv) :
    evFn Tryz.prog (Env.add 20 (F2 cIv cIv cIv Iv.add) (Env.add 94 (F1 cIv cIv Iv.neg) Env.nil)) Laws.nil 200 Tryz.f41 [cIv.av x0, cIv.av x1] [] cIv.dec =
      .bind (x1.neg) fun viv0 => .bind (x0.add viv0) fun viv1 => .ret (viv1) := by kernel_rfl
theorem c_iv_Sub (x0 : Iv) (x1 : Iv) : Plain Tryz.prog 41 [cIv.enc x0, cIv.enc x1] (cIv.enc (Iv.sub x0 x1)) :=
  plain_of_tree (n := 200) (EnvOK.add s_iv_Add (EnvOK.add s_iv_Neg EnvOK.nil)) Tryz.func41 (args := [cIv.av x0, cIv.av x1]) (by simp only [AV.vals, Cod.av_val]) (Nat.le_of_ble_eq_true (by kernel_rfl)) LFn.nil cIv (by
    rw [t_iv_Sub]
    rfl)
theorem s_iv_Sub : Ev.Spec Tryz.prog 41 (F2 cIv cIv cIv Iv.sub) := spec2 (fun vs w => Tryz.call41 vs w) c_iv_Sub

/-! iv.Times -/
theorem t_iv_Times (x0 : Iv) (x1 : Int) :
    evFn Tryz.prog (Env.add 14 (F1 cIv cBool Iv.right) (Env.add 47 (F1 cInt cBool numIn) (Env.add 49 (F0 cIv Iv.none) (Env.add 50 (F2 cInt cInt cIv Iv.of) Env.nil)))) Laws.nil 200 Tryz.f96 [cIv.av x0, cInt.av x1] [] cIv.dec =
      .bind (x0.right) fun vb0 => .br (!vb0) (.bind (Iv.none) fun viv1 => .ret (viv1)) (.bind (numIn x1) fun vb2 => .br (!vb2) (.bind (Iv.none) fun viv3 => .ret (viv3)) (.bind (Iv.of (Min.min (IntKind.i64.wrap (x1 * x0.lo)) (IntKind.i64.wrap (x1 * x0.hi))) (Max.max (IntKind.i64.wrap (x1 * x0.lo)) (IntKind.i64.wrap (x1 * x0.hi)))) fun viv4 => .ret (viv4))) := by kernel_rfl
theorem c_iv_Times (x0 : Iv) (x1 : Int) : Plain Tryz.prog 96 [cIv.enc x0, cInt.enc x1] (cIv.enc (Iv.times x0 x1)) :=
  plain_of_tree (n := 200) (EnvOK.add s_iv_Right (EnvOK.add s_num_In (EnvOK.add s_iv_None (EnvOK.add s_iv_Of EnvOK.nil)))) Tryz.func96 (args := [cIv.av x0, cInt.av x1]) (by simp only [AV.vals, Cod.av_val]) (Nat.le_of_ble_eq_true (by kernel_rfl)) LFn.nil cIv (by
    rw [t_iv_Times]
    simp only [Tr.den, Iv.times]
    cases h0 : x0.right <;> cases h1 : numIn x1 <;> simp
    have b0 := right_bd h0
    have b1 := numIn_iff.1 h1
    have m1 := mul_bd x1 x0.lo h1 (numIn_iff.2 (by omega))
    have m2 := mul_bd x1 x0.hi h1 (numIn_iff.2 (by omega))
    simp (disch := omega) only [IntWalk.i64_in])
theorem s_iv_Times : Ev.Spec Tryz.prog 96 (F2 cIv cInt cIv Iv.times) := spec2 (fun vs w => Tryz.call96 vs w) c_iv_Times

/-! iv.Has -/
theorem t_iv_Has (x0 : Iv) (x1 : Int) :
    evFn Tryz.prog (Env.add 14 (F1 cIv cBool Iv.right) Env.nil) Laws.nil 200 Tryz.f141 [cIv.av x0, cInt.av x1] [] cBool.dec =
      .bind (x0.right) fun vb0 => .br (vb0) (.br (decide (x0.lo ≤ x1)) (.ret (decide (x1 ≤ x0.hi))) (.ret (false))) (.ret (false)) := by kernel_rfl
theorem c_iv_Has (x0 : Iv) (x1 : Int) : Plain Tryz.prog 141 [cIv.enc x0, cInt.enc x1] (cBool.enc (Iv.has x0 x1)) :=
  plain_of_tree (n := 200) (EnvOK.add s_iv_Right EnvOK.nil) Tryz.func141 (args := [cIv.av x0, cInt.av x1]) (by simp only [AV.vals, Cod.av_val]) (Nat.le_of_ble_eq_true (by kernel_rfl)) LFn.nil cBool (by
    rw [t_iv_Has]
    simp only [Tr.den]
    grind [Iv.has])
theorem s_iv_Has : Ev.Spec Tryz.prog 141 (F2 cIv cInt cBool Iv.has) := spec2 (fun vs w => Tryz.call141 vs w) c_iv_Has

/-! iv.ends -/
theorem t_iv_ends_mul (x0 : Unit) (x1 : Iv) (x2 : Iv) :
    evFn Tryz.prog (Env.add 49 (F0 cIv Iv.none) (Env.add 50 (F2 cInt cInt cIv Iv.of) (Env.add 104 (F3 cInt cInt cBool (cTwo cInt cBool) numMul) Env.nil))) Laws.nil 200 Tryz.f129 [(cFn 104).av x0, cIv.av x1, cIv.av x2] [] cIv.dec =
      .bind (numMul x1.lo x2.lo false) fun vy0 => .bind (numMul x1.lo x2.lo true) fun vy1 => .br (!vy0.2) (.bind (Iv.none) fun viv2 => .ret (viv2)) (.br (!vy1.2) (.bind (Iv.none) fun viv3 => .ret (viv3)) (.bind (Iv.of vy0.1 vy1.1) fun viv4 => .bind (Iv.of (Min.min viv4.lo vy0.1) (Max.max viv4.hi vy1.1)) fun viv5 => .bind (numMul x1.lo x2.hi false) fun vy6 => .bind (numMul x1.lo x2.hi true) fun vy7 => .br (!vy6.2) (.bind (Iv.none) fun viv8 => .ret (viv8)) (.br (!vy7.2) (.bind (Iv.none) fun viv9 => .ret (viv9)) (.bind (Iv.of (Min.min viv5.lo vy6.1) (Max.max viv5.hi vy7.1)) fun viv10 => .bind (numMul x1.hi x2.lo false) fun vy11 => .bind (numMul x1.hi x2.lo true) fun vy12 => .br (!vy11.2) (.bind (Iv.none) fun viv13 => .ret (viv13)) (.br (!vy12.2) (.bind (Iv.none) fun viv14 => .ret (viv14)) (.bind (Iv.of (Min.min viv10.lo vy11.1) (Max.max viv10.hi vy12.1)) fun viv15 => .bind (numMul x1.hi x2.hi false) fun vy16 => .bind (numMul x1.hi x2.hi true) fun vy17 => .br (!vy16.2) (.bind (Iv.none) fun viv18 => .ret (viv18)) (.br (!vy17.2) (.bind (Iv.none) fun viv19 => .ret (viv19)) (.bind (Iv.of (Min.min viv15.lo vy16.1) (Max.max viv15.hi vy17.1)) fun viv20 => .ret (viv20))))))))) := by kernel_rfl
theorem c_iv_ends_mul (x0 : Unit) (x1 : Iv) (x2 : Iv) : Plain Tryz.prog 129 [(cFn 104).enc x0, cIv.enc x1, cIv.enc x2] (cIv.enc (((fun (_ : Unit) a b => ends numMul a b)) x0 x1 x2)) :=
  plain_of_tree (n := 200) (EnvOK.add s_iv_None (EnvOK.add s_iv_Of (EnvOK.add s_num_Mul EnvOK.nil))) Tryz.func129 (args := [(cFn 104).av x0, cIv.av x1, cIv.av x2]) (by simp only [AV.vals, Cod.av_val]) (Nat.le_of_ble_eq_true (by kernel_rfl)) LFn.nil cIv (by
    rw [t_iv_ends_mul]
    simp only [den_br, den_bind, den_ret, den_fail, den_inl, den_inr, decide_eq_true_eq]
    exact ends_chain numMul_le x1 x2)
theorem s_iv_ends_mul : Ev.Spec Tryz.prog 129 (F3 (cFn 104) cIv cIv cIv ((fun (_ : Unit) a b => ends numMul a b))) := spec3 (fun vs w => Tryz.call129 vs w) c_iv_ends_mul

/-! iv.ends -/
theorem t_iv_ends_div (x0 : Unit) (x1 : Iv) (x2 : Iv) :
    evFn Tryz.prog (Env.add 49 (F0 cIv Iv.none) (Env.add 50 (F2 cInt cInt cIv Iv.of) (Env.add 142 (F3 cInt cInt cBool (cTwo cInt cBool) numDiv) Env.nil))) Laws.nil 200 Tryz.f129 [(cFn 142).av x0, cIv.av x1, cIv.av x2] [] cIv.dec =
      .bind (numDiv x1.lo x2.lo false) fun vy0 => .bind (numDiv x1.lo x2.lo true) fun vy1 => .br (!vy0.2) (.bind (Iv.none) fun viv2 => .ret (viv2)) (.br (!vy1.2) (.bind (Iv.none) fun viv3 => .ret (viv3)) (.bind (Iv.of vy0.1 vy1.1) fun viv4 => .bind (Iv.of (Min.min viv4.lo vy0.1) (Max.max viv4.hi vy1.1)) fun viv5 => .bind (numDiv x1.lo x2.hi false) fun vy6 => .bind (numDiv x1.lo x2.hi true) fun vy7 => .br (!vy6.2) (.bind (Iv.none) fun viv8 => .ret (viv8)) (.br (!vy7.2) (.bind (Iv.none) fun viv9 => .ret (viv9)) (.bind (Iv.of (Min.min viv5.lo vy6.1) (Max.max viv5.hi vy7.1)) fun viv10 => .bind (numDiv x1.hi x2.lo false) fun vy11 => .bind (numDiv x1.hi x2.lo true) fun vy12 => .br (!vy11.2) (.bind (Iv.none) fun viv13 => .ret (viv13)) (.br (!vy12.2) (.bind (Iv.none) fun viv14 => .ret (viv14)) (.bind (Iv.of (Min.min viv10.lo vy11.1) (Max.max viv10.hi vy12.1)) fun viv15 => .bind (numDiv x1.hi x2.hi false) fun vy16 => .bind (numDiv x1.hi x2.hi true) fun vy17 => .br (!vy16.2) (.bind (Iv.none) fun viv18 => .ret (viv18)) (.br (!vy17.2) (.bind (Iv.none) fun viv19 => .ret (viv19)) (.bind (Iv.of (Min.min viv15.lo vy16.1) (Max.max viv15.hi vy17.1)) fun viv20 => .ret (viv20))))))))) := by kernel_rfl
theorem c_iv_ends_div (x0 : Unit) (x1 : Iv) (x2 : Iv) : Plain Tryz.prog 129 [(cFn 142).enc x0, cIv.enc x1, cIv.enc x2] (cIv.enc (((fun (_ : Unit) a b => ends numDiv a b)) x0 x1 x2)) :=
  plain_of_tree (n := 200) (EnvOK.add s_iv_None (EnvOK.add s_iv_Of (EnvOK.add s_num_Div EnvOK.nil))) Tryz.func129 (args := [(cFn 142).av x0, cIv.av x1, cIv.av x2]) (by simp only [AV.vals, Cod.av_val]) (Nat.le_of_ble_eq_true (by kernel_rfl)) LFn.nil cIv (by
    rw [t_iv_ends_div]
    simp only [den_br, den_bind, den_ret, den_fail, den_inl, den_inr, decide_eq_true_eq]
    exact ends_chain numDiv_le x1 x2)
theorem s_iv_ends_div : Ev.Spec Tryz.prog 129 (F3 (cFn 142) cIv cIv cIv ((fun (_ : Unit) a b => ends numDiv a b))) := spec3 (fun vs w => Tryz.call129 vs w) c_iv_ends_div

/-! iv.Mul -/
theorem t_iv_Mul (x0 : Iv) (x1 : Iv) :
    evFn Tryz.prog (Env.add 48 (F2 cIv cIv cBool Iv.both) (Env.add 49 (F0 cIv Iv.none) (Env.add 104 (F3 cInt cInt cBool (cTwo cInt cBool) numMul) (Env.add 129 (F3 (cFn 104) cIv cIv cIv ((fun (_ : Unit) a b => ends numMul a b))) (Env.add 129 (F3 (cFn 142) cIv cIv cIv ((fun (_ : Unit) a b => ends numDiv a b))) Env.nil))))) Laws.nil 200 Tryz.f95 [cIv.av x0, cIv.av x1] [] cIv.dec =
      .bind (x0.both x1) fun vb0 => .br (!vb0) (.bind (Iv.none) fun viv1 => .ret (viv1)) (.bind (ends numMul x0 x1) fun viv2 => .ret (viv2)) := by kernel_rfl
theorem c_iv_Mul (x0 : Iv) (x1 : Iv) : Plain Tryz.prog 95 [cIv.enc x0, cIv.enc x1] (cIv.enc (Iv.mul x0 x1)) :=
  plain_of_tree (n := 200) (EnvOK.add s_iv_both (EnvOK.add s_iv_None (EnvOK.add s_num_Mul (EnvOK.add s_iv_ends_mul (EnvOK.add s_iv_ends_div EnvOK.nil))))) Tryz.func95 (args := [cIv.av x0, cIv.av x1]) (by simp only [AV.vals, Cod.av_val]) (Nat.le_of_ble_eq_true (by kernel_rfl)) LFn.nil cIv (by
    rw [t_iv_Mul]
    simp only [Tr.den]
    grind [Iv.mul])
theorem s_iv_Mul : Ev.Spec Tryz.prog 95 (F2 cIv cIv cIv Iv.mul) := spec2 (fun vs w => Tryz.call95 vs w) c_iv_Mul

/-! iv.Div -/
theorem t_iv_Div (x0 : Iv) (x1 : Iv) :
    evFn Tryz.prog (Env.add 48 (F2 cIv cIv cBool Iv.both) (Env.add 49 (F0 cIv Iv.none) (Env.add 129 (F3 (cFn 104) cIv cIv cIv ((fun (_ : Unit) a b => ends numMul a b))) (Env.add 129 (F3 (cFn 142) cIv cIv cIv ((fun (_ : Unit) a b => ends numDiv a b))) (Env.add 141 (F2 cIv cInt cBool Iv.has) (Env.add 142 (F3 cInt cInt cBool (cTwo cInt cBool) numDiv) Env.nil)))))) Laws.nil 200 Tryz.f111 [cIv.av x0, cIv.av x1] [] cIv.dec =
      .bind (x0.both x1) fun vb0 => .br (!vb0) (.bind (Iv.none) fun viv1 => .ret (viv1)) (.bind (x1.has 0) fun vb2 => .br (vb2) (.bind (Iv.none) fun viv3 => .ret (viv3)) (.bind (ends numDiv x0 x1) fun viv4 => .ret (viv4))) := by kernel_rfl
theorem c_iv_Div (x0 : Iv) (x1 : Iv) : Plain Tryz.prog 111 [cIv.enc x0, cIv.enc x1] (cIv.enc (Iv.div x0 x1)) :=
  plain_of_tree (n := 200) (EnvOK.add s_iv_both (EnvOK.add s_iv_None (EnvOK.add s_iv_ends_mul (EnvOK.add s_iv_ends_div (EnvOK.add s_iv_Has (EnvOK.add s_num_Div EnvOK.nil)))))) Tryz.func111 (args := [cIv.av x0, cIv.av x1]) (by simp only [AV.vals, Cod.av_val]) (Nat.le_of_ble_eq_true (by kernel_rfl)) LFn.nil cIv (by
    rw [t_iv_Div]
    simp only [den_br, den_bind, den_ret, den_fail, den_inl, den_inr, decide_eq_true_eq]
    simp only [Iv.div]
    cases Iv.both x0 x1 <;> cases Iv.has x1 0 <;> simp)
theorem s_iv_Div : Ev.Spec Tryz.prog 111 (F2 cIv cIv cIv Iv.div) := spec2 (fun vs w => Tryz.call111 vs w) c_iv_Div

/-! iv.Sqr -/
theorem t_iv_Sqr (x0 : Iv) :
    evFn Tryz.prog (Env.add 14 (F1 cIv cBool Iv.right) (Env.add 49 (F0 cIv Iv.none) (Env.add 50 (F2 cInt cInt cIv Iv.of) (Env.add 104 (F3 cInt cInt cBool (cTwo cInt cBool) numMul) Env.nil)))) Laws.nil 200 Tryz.f55 [cIv.av x0] [] cIv.dec =
      .bind (x0.right) fun vb0 => .br (!vb0) (.bind (Iv.none) fun viv1 => .ret (viv1)) (.bind (numMul (Max.max (IntKind.i64.wrap (0 - x0.lo)) x0.hi) (Max.max (IntKind.i64.wrap (0 - x0.lo)) x0.hi) true) fun vy2 => .bind (numMul (Max.max (Max.max x0.lo (IntKind.i64.wrap (0 - x0.hi))) 0) (Max.max (Max.max x0.lo (IntKind.i64.wrap (0 - x0.hi))) 0) false) fun vy3 => .br (!vy2.2) (.bind (Iv.none) fun viv4 => .ret (viv4)) (.bind (Iv.of vy3.1 vy2.1) fun viv5 => .ret (viv5))) := by kernel_rfl
theorem c_iv_Sqr (x0 : Iv) : Plain Tryz.prog 55 [cIv.enc x0] (cIv.enc (Iv.sqr x0)) :=
  plain_of_tree (n := 200) (EnvOK.add s_iv_Right (EnvOK.add s_iv_None (EnvOK.add s_iv_Of (EnvOK.add s_num_Mul EnvOK.nil)))) Tryz.func55 (args := [cIv.av x0]) (by simp only [AV.vals, Cod.av_val]) (Nat.le_of_ble_eq_true (by kernel_rfl)) LFn.nil cIv (by
    rw [t_iv_Sqr]
    simp only [Iv.sqr]
    cases h0 : x0.right
    · simp [Tr.den]
    have b0 := right_bd h0
    have e1 : IntKind.i64.wrap (-x0.lo) = -x0.lo := IntWalk.i64_in _ (by omega)
    have e2 : IntKind.i64.wrap (-x0.hi) = -x0.hi := IntWalk.i64_in _ (by omega)
    simp only [den_br, den_bind, den_ret, den_fail, e1, e2]
    grind)
theorem s_iv_Sqr : Ev.Spec Tryz.prog 55 (F1 cIv cIv Iv.sqr) := spec1 (fun vs w => Tryz.call55 vs w) c_iv_Sqr

/-! iv.Root -/
theorem t_iv_Root (x0 : Iv) :
    evFn Tryz.prog (Env.add 14 (F1 cIv cBool Iv.right) (Env.add 49 (F0 cIv Iv.none) (Env.add 50 (F2 cInt cInt cIv Iv.of) (Env.add 137 (F2 cInt cBool (cTwo cInt cBool) numRoot) Env.nil)))) Laws.nil 200 Tryz.f107 [cIv.av x0] [] cIv.dec =
      .bind (x0.right) fun vb0 => .br (!vb0) (.bind (Iv.none) fun viv1 => .ret (viv1)) (.br (decide (x0.lo < 0)) (.bind (Iv.none) fun viv2 => .ret (viv2)) (.bind (numRoot x0.lo false) fun vy3 => .bind (numRoot x0.hi true) fun vy4 => .bind (Iv.of vy3.1 vy4.1) fun viv5 => .ret (viv5))) := by kernel_rfl
theorem c_iv_Root (x0 : Iv) : Plain Tryz.prog 107 [cIv.enc x0] (cIv.enc (Iv.root x0)) :=
  plain_of_tree (n := 200) (EnvOK.add s_iv_Right (EnvOK.add s_iv_None (EnvOK.add s_iv_Of (EnvOK.add s_num_Root EnvOK.nil)))) Tryz.func107 (args := [cIv.av x0]) (by simp only [AV.vals, Cod.av_val]) (Nat.le_of_ble_eq_true (by kernel_rfl)) LFn.nil cIv (by
    rw [t_iv_Root]
    simp only [Iv.root, den_br, den_bind, den_ret, den_fail, decide_eq_true_eq]
    grind)
theorem s_iv_Root : Ev.Spec Tryz.prog 107 (F1 cIv cIv Iv.root) := spec1 (fun vs w => Tryz.call107 vs w) c_iv_Root

/-! iv.Hull -/
theorem t_iv_Hull (x0 : Iv) (x1 : Iv) :
    evFn Tryz.prog (Env.add 48 (F2 cIv cIv cBool Iv.both) (Env.add 49 (F0 cIv Iv.none) (Env.add 50 (F2 cInt cInt cIv Iv.of) Env.nil))) Laws.nil 200 Tryz.f112 [cIv.av x0, cIv.av x1] [] cIv.dec =
      .bind (x0.both x1) fun vb0 => .br (!vb0) (.bind (Iv.none) fun viv1 => .ret (viv1)) (.bind (Iv.of (Min.min x0.lo x1.lo) (Max.max x0.hi x1.hi)) fun viv2 => .ret (viv2)) := by kernel_rfl
theorem c_iv_Hull (x0 : Iv) (x1 : Iv) : Plain Tryz.prog 112 [cIv.enc x0, cIv.enc x1] (cIv.enc (Iv.hull x0 x1)) :=
  plain_of_tree (n := 200) (EnvOK.add s_iv_both (EnvOK.add s_iv_None (EnvOK.add s_iv_Of EnvOK.nil))) Tryz.func112 (args := [cIv.av x0, cIv.av x1]) (by simp only [AV.vals, Cod.av_val]) (Nat.le_of_ble_eq_true (by kernel_rfl)) LFn.nil cIv (by
    rw [t_iv_Hull]
    simp only [Tr.den]
    grind [Iv.hull])
theorem s_iv_Hull : Ev.Spec Tryz.prog 112 (F2 cIv cIv cIv Iv.hull) := spec2 (fun vs w => Tryz.call112 vs w) c_iv_Hull

/-! iv.Meet -/
theorem t_iv_Meet (x0 : Iv) (x1 : Iv) :
    evFn Tryz.prog (Env.add 48 (F2 cIv cIv cBool Iv.both) (Env.add 49 (F0 cIv Iv.none) (Env.add 50 (F2 cInt cInt cIv Iv.of) Env.nil))) Laws.nil 200 Tryz.f15 [cIv.av x0, cIv.av x1] [] cIv.dec =
      .bind (x0.both x1) fun vb0 => .br (!vb0) (.bind (Iv.none) fun viv1 => .ret (viv1)) (.bind (Iv.of (Max.max x0.lo x1.lo) (Min.min x0.hi x1.hi)) fun viv2 => .ret (viv2)) := by kernel_rfl
theorem c_iv_Meet (x0 : Iv) (x1 : Iv) : Plain Tryz.prog 15 [cIv.enc x0, cIv.enc x1] (cIv.enc (Iv.meet x0 x1)) :=
  plain_of_tree (n := 200) (EnvOK.add s_iv_both (EnvOK.add s_iv_None (EnvOK.add s_iv_Of EnvOK.nil))) Tryz.func15 (args := [cIv.av x0, cIv.av x1]) (by simp only [AV.vals, Cod.av_val]) (Nat.le_of_ble_eq_true (by kernel_rfl)) LFn.nil cIv (by
    rw [t_iv_Meet]
    simp only [Tr.den]
    grind [Iv.meet])
theorem s_iv_Meet : Ev.Spec Tryz.prog 15 (F2 cIv cIv cIv Iv.meet) := spec2 (fun vs w => Tryz.call15 vs w) c_iv_Meet

/-! iv.Mid -/
theorem t_iv_Mid (x0 : Iv) :
    evFn Tryz.prog (Env.add 14 (F1 cIv cBool Iv.right) Env.nil) Laws.nil 200 Tryz.f133 [cIv.av x0] [] cInt.dec =
      .bind (x0.right) fun vb0 => .br (!vb0) (.ret (0)) (.br (decide (0 ≤ 1)) (.ret ((IntKind.i64.wrap (x0.lo + x0.hi)).fdiv (2 ^ Min.min (Int.toNat 1) 64))) (.fail)) := by kernel_rfl
theorem c_iv_Mid (x0 : Iv) : Plain Tryz.prog 133 [cIv.enc x0] (cInt.enc (Iv.mid x0)) :=
  plain_of_tree (n := 200) (EnvOK.add s_iv_Right EnvOK.nil) Tryz.func133 (args := [cIv.av x0]) (by simp only [AV.vals, Cod.av_val]) (Nat.le_of_ble_eq_true (by kernel_rfl)) LFn.nil cInt (by
    rw [t_iv_Mid]
    simp only [Iv.mid]
    cases h0 : x0.right
    · simp [Tr.den]
    have b0 := right_bd h0
    have e1 : IntKind.i64.wrap (x0.lo + x0.hi) = x0.lo + x0.hi := IntWalk.i64_in _ (by omega)
    simp only [Tr.den, e1, if_true]
    exact congrArg some (Int.fdiv_eq_ediv_of_nonneg _ (by decide)))
theorem s_iv_Mid : Ev.Spec Tryz.prog 133 (F1 cIv cInt Iv.mid) := spec1 (fun vs w => Tryz.call133 vs w) c_iv_Mid

/-! iv.Inside -/
theorem t_iv_Inside (x0 : Iv) (x1 : Iv) :
    evFn Tryz.prog (Env.add 48 (F2 cIv cIv cBool Iv.both) Env.nil) Laws.nil 200 Tryz.f16 [cIv.av x0, cIv.av x1] [] cBool.dec =
      .bind (x0.both x1) fun vb0 => .br (vb0) (.br (decide (x1.lo ≤ x0.lo)) (.ret (decide (x0.hi ≤ x1.hi))) (.ret (false))) (.ret (false)) := by kernel_rfl
theorem c_iv_Inside (x0 : Iv) (x1 : Iv) : Plain Tryz.prog 16 [cIv.enc x0, cIv.enc x1] (cBool.enc (Iv.inside x0 x1)) :=
  plain_of_tree (n := 200) (EnvOK.add s_iv_both EnvOK.nil) Tryz.func16 (args := [cIv.av x0, cIv.av x1]) (by simp only [AV.vals, Cod.av_val]) (Nat.le_of_ble_eq_true (by kernel_rfl)) LFn.nil cBool (by
    rw [t_iv_Inside]
    simp only [Tr.den]
    grind [Iv.inside])
theorem s_iv_Inside : Ev.Spec Tryz.prog 16 (F2 cIv cIv cBool Iv.inside) := spec2 (fun vs w => Tryz.call16 vs w) c_iv_Inside

/-! iv.Split -/
theorem t_iv_Split (x0 : Iv) :
    evFn Tryz.prog (Env.add 14 (F1 cIv cBool Iv.right) (Env.add 49 (F0 cIv Iv.none) (Env.add 50 (F2 cInt cInt cIv Iv.of) (Env.add 133 (F1 cIv cInt Iv.mid) Env.nil)))) Laws.nil 200 Tryz.f134 [cIv.av x0] [] (cTwo cIv cIv).dec =
      .bind (x0.right) fun vb0 => .br (!vb0) (.bind (Iv.none) fun viv1 => .bind (Iv.none) fun viv2 => .ret ((viv1, viv2))) (.bind (x0.mid) fun vn3 => .bind (Iv.of x0.lo vn3) fun viv4 => .bind (x0.mid) fun vn5 => .bind (Iv.of vn5 x0.hi) fun viv6 => .ret ((viv4, viv6))) := by kernel_rfl
theorem c_iv_Split (x0 : Iv) : Plain Tryz.prog 134 [cIv.enc x0] ((cTwo cIv cIv).enc (Iv.split x0)) :=
  plain_of_tree (n := 200) (EnvOK.add s_iv_Right (EnvOK.add s_iv_None (EnvOK.add s_iv_Of (EnvOK.add s_iv_Mid EnvOK.nil)))) Tryz.func134 (args := [cIv.av x0]) (by simp only [AV.vals, Cod.av_val]) (Nat.le_of_ble_eq_true (by kernel_rfl)) LFn.nil (cTwo cIv cIv) (by
    rw [t_iv_Split]
    simp only [Tr.den]
    grind [Iv.split])
theorem s_iv_Split : Ev.Spec Tryz.prog 134 (F1 cIv (cTwo cIv cIv) Iv.split) := spec1 (fun vs w => Tryz.call134 vs w) c_iv_Split

/-! vec.Of -/
theorem t_vec_Of (x0 : Iv) (x1 : Iv) (x2 : Iv) :
    evFn Tryz.prog Env.nil Laws.nil 200 Tryz.f23 [cIv.av x0, cIv.av x1, cIv.av x2] [] cV.dec =
      .ret (V.mk x0 x1 x2) := by kernel_rfl
theorem c_vec_Of (x0 : Iv) (x1 : Iv) (x2 : Iv) : Plain Tryz.prog 23 [cIv.enc x0, cIv.enc x1, cIv.enc x2] (cV.enc (V.mk x0 x1 x2)) :=
  plain_of_tree (n := 200) EnvOK.nil Tryz.func23 (args := [cIv.av x0, cIv.av x1, cIv.av x2]) (by simp only [AV.vals, Cod.av_val]) (Nat.le_of_ble_eq_true (by kernel_rfl)) LFn.nil cV (by
    rw [t_vec_Of]
    rfl)
theorem s_vec_Of : Ev.Spec Tryz.prog 23 (F3 cIv cIv cIv cV V.mk) := spec3 (fun vs w => Tryz.call23 vs w) c_vec_Of

/-! vec.Right -/
theorem t_vec_Right (x0 : V) :
    evFn Tryz.prog (Env.add 14 (F1 cIv cBool Iv.right) Env.nil) Laws.nil 200 Tryz.f46 [cV.av x0] [] cBool.dec =
      .bind (x0.x.right) fun vb0 => .br (vb0) (.bind (x0.y.right) fun vb1 => .br (vb1) (.bind (x0.z.right) fun vb2 => .ret (vb2)) (.ret (false))) (.ret (false)) := by kernel_rfl
theorem c_vec_Right (x0 : V) : Plain Tryz.prog 46 [cV.enc x0] (cBool.enc (V.right x0)) :=
  plain_of_tree (n := 200) (EnvOK.add s_iv_Right EnvOK.nil) Tryz.func46 (args := [cV.av x0]) (by simp only [AV.vals, Cod.av_val]) (Nat.le_of_ble_eq_true (by kernel_rfl)) LFn.nil cBool (by
    rw [t_vec_Right]
    simp only [Tr.den]
    grind [V.right])
theorem s_vec_Right : Ev.Spec Tryz.prog 46 (F1 cV cBool V.right) := spec1 (fun vs w => Tryz.call46 vs w) c_vec_Right

/-! vec.Add -/
theorem t_vec_Add (x0 : V) (x1 : V) :
    evFn Tryz.prog (Env.add 20 (F2 cIv cIv cIv Iv.add) (Env.add 23 (F3 cIv cIv cIv cV V.mk) Env.nil)) Laws.nil 200 Tryz.f101 [cV.av x0, cV.av x1] [] cV.dec =
      .bind (x0.x.add x1.x) fun viv0 => .bind (x0.y.add x1.y) fun viv1 => .bind (x0.z.add x1.z) fun viv2 => .bind (V.mk viv0 viv1 viv2) fun vv3 => .ret (vv3) := by kernel_rfl
theorem c_vec_Add (x0 : V) (x1 : V) : Plain Tryz.prog 101 [cV.enc x0, cV.enc x1] (cV.enc (V.add x0 x1)) :=
  plain_of_tree (n := 200) (EnvOK.add s_iv_Add (EnvOK.add s_vec_Of EnvOK.nil)) Tryz.func101 (args := [cV.av x0, cV.av x1]) (by simp only [AV.vals, Cod.av_val]) (Nat.le_of_ble_eq_true (by kernel_rfl)) LFn.nil cV (by
    rw [t_vec_Add]
    rfl)
theorem s_vec_Add : Ev.Spec Tryz.prog 101 (F2 cV cV cV V.add) := spec2 (fun vs w => Tryz.call101 vs w) c_vec_Add

/-! vec.Scale -/
theorem t_vec_Scale (x0 : V) (x1 : Iv) :
    evFn Tryz.prog (Env.add 23 (F3 cIv cIv cIv cV V.mk) (Env.add 95 (F2 cIv cIv cIv Iv.mul) Env.nil)) Laws.nil 200 Tryz.f102 [cV.av x0, cIv.av x1] [] cV.dec =
      .bind (x0.x.mul x1) fun viv0 => .bind (x0.y.mul x1) fun viv1 => .bind (x0.z.mul x1) fun viv2 => .bind (V.mk viv0 viv1 viv2) fun vv3 => .ret (vv3) := by kernel_rfl
theorem c_vec_Scale (x0 : V) (x1 : Iv) : Plain Tryz.prog 102 [cV.enc x0, cIv.enc x1] (cV.enc (V.scale x0 x1)) :=
  plain_of_tree (n := 200) (EnvOK.add s_vec_Of (EnvOK.add s_iv_Mul EnvOK.nil)) Tryz.func102 (args := [cV.av x0, cIv.av x1]) (by simp only [AV.vals, Cod.av_val]) (Nat.le_of_ble_eq_true (by kernel_rfl)) LFn.nil cV (by
    rw [t_vec_Scale]
    rfl)
theorem s_vec_Scale : Ev.Spec Tryz.prog 102 (F2 cV cIv cV V.scale) := spec2 (fun vs w => Tryz.call102 vs w) c_vec_Scale

/-! vec.Dot -/
theorem t_vec_Dot (x0 : V) (x1 : V) :
    evFn Tryz.prog (Env.add 20 (F2 cIv cIv cIv Iv.add) (Env.add 95 (F2 cIv cIv cIv Iv.mul) Env.nil)) Laws.nil 200 Tryz.f105 [cV.av x0, cV.av x1] [] cIv.dec =
      .bind (x0.x.mul x1.x) fun viv0 => .bind (x0.y.mul x1.y) fun viv1 => .bind (viv0.add viv1) fun viv2 => .bind (x0.z.mul x1.z) fun viv3 => .bind (viv2.add viv3) fun viv4 => .ret (viv4) := by kernel_rfl
theorem c_vec_Dot (x0 : V) (x1 : V) : Plain Tryz.prog 105 [cV.enc x0, cV.enc x1] (cIv.enc (V.dot x0 x1)) :=
  plain_of_tree (n := 200) (EnvOK.add s_iv_Add (EnvOK.add s_iv_Mul EnvOK.nil)) Tryz.func105 (args := [cV.av x0, cV.av x1]) (by simp only [AV.vals, Cod.av_val]) (Nat.le_of_ble_eq_true (by kernel_rfl)) LFn.nil cIv (by
    rw [t_vec_Dot]
    rfl)
theorem s_vec_Dot : Ev.Spec Tryz.prog 105 (F2 cV cV cIv V.dot) := spec2 (fun vs w => Tryz.call105 vs w) c_vec_Dot

/-! vec.Len2 -/
theorem t_vec_Len2 (x0 : V) :
    evFn Tryz.prog (Env.add 20 (F2 cIv cIv cIv Iv.add) (Env.add 55 (F1 cIv cIv Iv.sqr) Env.nil)) Laws.nil 200 Tryz.f113 [cV.av x0] [] cIv.dec =
      .bind (x0.x.sqr) fun viv0 => .bind (x0.y.sqr) fun viv1 => .bind (viv0.add viv1) fun viv2 => .bind (x0.z.sqr) fun viv3 => .bind (viv2.add viv3) fun viv4 => .ret (viv4) := by kernel_rfl
theorem c_vec_Len2 (x0 : V) : Plain Tryz.prog 113 [cV.enc x0] (cIv.enc (V.len2 x0)) :=
  plain_of_tree (n := 200) (EnvOK.add s_iv_Add (EnvOK.add s_iv_Sqr EnvOK.nil)) Tryz.func113 (args := [cV.av x0]) (by simp only [AV.vals, Cod.av_val]) (Nat.le_of_ble_eq_true (by kernel_rfl)) LFn.nil cIv (by
    rw [t_vec_Len2]
    rfl)
theorem s_vec_Len2 : Ev.Spec Tryz.prog 113 (F1 cV cIv V.len2) := spec1 (fun vs w => Tryz.call113 vs w) c_vec_Len2

/-! vec.Unit -/
theorem t_vec_Unit (x0 : V) :
    evFn Tryz.prog (Env.add 23 (F3 cIv cIv cIv cV V.mk) (Env.add 107 (F1 cIv cIv Iv.root) (Env.add 111 (F2 cIv cIv cIv Iv.div) (Env.add 113 (F1 cV cIv V.len2) Env.nil)))) Laws.nil 200 Tryz.f71 [cV.av x0] [] cV.dec =
      .bind (x0.len2) fun viv0 => .bind (viv0.root) fun viv1 => .bind (x0.x.div viv1) fun viv2 => .bind (x0.y.div viv1) fun viv3 => .bind (x0.z.div viv1) fun viv4 => .bind (V.mk viv2 viv3 viv4) fun vv5 => .ret (vv5) := by kernel_rfl
theorem c_vec_Unit (x0 : V) : Plain Tryz.prog 71 [cV.enc x0] (cV.enc (V.unit x0)) :=
  plain_of_tree (n := 200) (EnvOK.add s_vec_Of (EnvOK.add s_iv_Root (EnvOK.add s_iv_Div (EnvOK.add s_vec_Len2 EnvOK.nil)))) Tryz.func71 (args := [cV.av x0]) (by simp only [AV.vals, Cod.av_val]) (Nat.le_of_ble_eq_true (by kernel_rfl)) LFn.nil cV (by
    rw [t_vec_Unit]
    rfl)
theorem s_vec_Unit : Ev.Spec Tryz.prog 71 (F1 cV cV V.unit) := spec1 (fun vs w => Tryz.call71 vs w) c_vec_Unit

/-! vec.Along -/
theorem t_vec_Along (x0 : Ray) (x1 : Iv) :
    evFn Tryz.prog (Env.add 101 (F2 cV cV cV V.add) (Env.add 102 (F2 cV cIv cV V.scale) Env.nil)) Laws.nil 200 Tryz.f45 [cRay.av x0, cIv.av x1] [] cV.dec =
      .bind (x0.d.scale x1) fun vv0 => .bind (x0.o.add vv0) fun vv1 => .ret (vv1) := by kernel_rfl
theorem c_vec_Along (x0 : Ray) (x1 : Iv) : Plain Tryz.prog 45 [cRay.enc x0, cIv.enc x1] (cV.enc (along x0 x1)) :=
  plain_of_tree (n := 200) (EnvOK.add s_vec_Add (EnvOK.add s_vec_Scale EnvOK.nil)) Tryz.func45 (args := [cRay.av x0, cIv.av x1]) (by simp only [AV.vals, Cod.av_val]) (Nat.le_of_ble_eq_true (by kernel_rfl)) LFn.nil cV (by
    rw [t_vec_Along]
    rfl)
theorem s_vec_Along : Ev.Spec Tryz.prog 45 (F2 cRay cIv cV along) := spec2 (fun vs w => Tryz.call45 vs w) c_vec_Along

/-! vec.Inside -/
theorem t_vec_Inside (x0 : V) (x1 : V) :
    evFn Tryz.prog (Env.add 16 (F2 cIv cIv cBool Iv.inside) Env.nil) Laws.nil 200 Tryz.f17 [cV.av x0, cV.av x1] [] cBool.dec =
      .bind (x0.x.inside x1.x) fun vb0 => .br (vb0) (.bind (x0.y.inside x1.y) fun vb1 => .br (vb1) (.bind (x0.z.inside x1.z) fun vb2 => .ret (vb2)) (.ret (false))) (.ret (false)) := by kernel_rfl
theorem c_vec_Inside (x0 : V) (x1 : V) : Plain Tryz.prog 17 [cV.enc x0, cV.enc x1] (cBool.enc (V.inside x0 x1)) :=
  plain_of_tree (n := 200) (EnvOK.add s_iv_Inside EnvOK.nil) Tryz.func17 (args := [cV.av x0, cV.av x1]) (by simp only [AV.vals, Cod.av_val]) (Nat.le_of_ble_eq_true (by kernel_rfl)) LFn.nil cBool (by
    rw [t_vec_Inside]
    simp only [Tr.den]
    grind [V.inside])
theorem s_vec_Inside : Ev.Spec Tryz.prog 17 (F2 cV cV cBool V.inside) := spec2 (fun vs w => Tryz.call17 vs w) c_vec_Inside

/-! tri.told -/
theorem t_tri_told (x0 : Bool) (x1 : Bool) :
    evFn Tryz.prog Env.nil Laws.nil 200 Tryz.f103 [cBool.av x0, cBool.av x1] [] cInt.dec =
      .br (x0) (.ret (1)) (.br (x1) (.ret (2)) (.ret (0))) := by kernel_rfl
theorem c_tri_told (x0 : Bool) (x1 : Bool) : Plain Tryz.prog 103 [cBool.enc x0, cBool.enc x1] (cInt.enc (told x0 x1)) :=
  plain_of_tree (n := 200) EnvOK.nil Tryz.func103 (args := [cBool.av x0, cBool.av x1]) (by simp only [AV.vals, Cod.av_val]) (Nat.le_of_ble_eq_true (by kernel_rfl)) LFn.nil cInt (by
    rw [t_tri_told]
    simp only [Tr.den]
    grind [told])
theorem s_tri_told : Ev.Spec Tryz.prog 103 (F2 cBool cBool cInt told) := spec2 (fun vs w => Tryz.call103 vs w) c_tri_told

/-! tri.NotAbove -/
theorem t_tri_NotAbove (x0 : Iv) (x1 : Iv) :
    evFn Tryz.prog (Env.add 14 (F1 cIv cBool Iv.right) (Env.add 103 (F2 cBool cBool cInt told) Env.nil)) Laws.nil 200 Tryz.f54 [cIv.av x0, cIv.av x1] [] cInt.dec =
      .bind (x0.right) fun vb0 => .br (!vb0) (.ret (0)) (.bind (x1.right) fun vb1 => .br (!vb1) (.ret (0)) (.bind (told (decide (x0.hi ≤ x1.lo)) (decide (x0.lo > x1.hi))) fun vn2 => .ret (vn2))) := by kernel_rfl
theorem c_tri_NotAbove (x0 : Iv) (x1 : Iv) : Plain Tryz.prog 54 [cIv.enc x0, cIv.enc x1] (cInt.enc (notAbove x0 x1)) :=
  plain_of_tree (n := 200) (EnvOK.add s_iv_Right (EnvOK.add s_tri_told EnvOK.nil)) Tryz.func54 (args := [cIv.av x0, cIv.av x1]) (by simp only [AV.vals, Cod.av_val]) (Nat.le_of_ble_eq_true (by kernel_rfl)) LFn.nil cInt (by
    rw [t_tri_NotAbove]
    simp only [Tr.den]
    grind [notAbove])
theorem s_tri_NotAbove : Ev.Spec Tryz.prog 54 (F2 cIv cIv cInt notAbove) := spec2 (fun vs w => Tryz.call54 vs w) c_tri_NotAbove

/-! quad.Near -/
theorem t_quad_Near (x0 : Iv) (x1 : Iv) (x2 : Iv) :
    evFn Tryz.prog (Env.add 41 (F2 cIv cIv cIv Iv.sub) (Env.add 49 (F0 cIv Iv.none) (Env.add 55 (F1 cIv cIv Iv.sqr) (Env.add 95 (F2 cIv cIv cIv Iv.mul) (Env.add 107 (F1 cIv cIv Iv.root) (Env.add 111 (F2 cIv cIv cIv Iv.div) Env.nil)))))) Laws.nil 200 Tryz.f97 [cIv.av x0, cIv.av x1, cIv.av x2] [] (cTwo cIv cInt).dec =
      .bind (x1.sqr) fun viv0 => .bind (x0.mul x2) fun viv1 => .bind (viv0.sub viv1) fun viv2 => .br (viv2.no) (.bind (Iv.none) fun viv3 => .ret ((viv3, 0))) (.br (decide (viv2.hi < 0)) (.bind (Iv.none) fun viv4 => .ret ((viv4, 2))) (.br (decide (viv2.lo < 0)) (.bind (Iv.none) fun viv5 => .ret ((viv5, 0))) (.bind (viv2.root) fun viv6 => .bind (viv6.sub x1) fun viv7 => .bind (x2.div viv7) fun viv8 => .br (viv8.no) (.bind (Iv.none) fun viv9 => .ret ((viv9, 0))) (.ret ((viv8, 1)))))) := by kernel_rfl
theorem c_quad_Near (x0 : Iv) (x1 : Iv) (x2 : Iv) : Plain Tryz.prog 97 [cIv.enc x0, cIv.enc x1, cIv.enc x2] ((cTwo cIv cInt).enc (near x0 x1 x2)) :=
  plain_of_tree (n := 200) (EnvOK.add s_iv_Sub (EnvOK.add s_iv_None (EnvOK.add s_iv_Sqr (EnvOK.add s_iv_Mul (EnvOK.add s_iv_Root (EnvOK.add s_iv_Div EnvOK.nil)))))) Tryz.func97 (args := [cIv.av x0, cIv.av x1, cIv.av x2]) (by simp only [AV.vals, Cod.av_val]) (Nat.le_of_ble_eq_true (by kernel_rfl)) LFn.nil (cTwo cIv cInt) (by
    rw [t_quad_Near]
    simp only [Tr.den]
    grind [near])
theorem s_quad_Near : Ev.Spec Tryz.prog 97 (F3 cIv cIv cIv (cTwo cIv cInt) near) := spec3 (fun vs w => Tryz.call97 vs w) c_quad_Near

/-! hit.round -/
theorem t_hit_round (x0 : Surf) (x1 : V) (x2 : V) :
    evFn Tryz.prog (Env.add 20 (F2 cIv cIv cIv Iv.add) (Env.add 41 (F2 cIv cIv cIv Iv.sub) (Env.add 55 (F1 cIv cIv Iv.sqr) (Env.add 95 (F2 cIv cIv cIv Iv.mul) (Env.add 96 (F2 cIv cInt cIv Iv.times) (Env.add 97 (F3 cIv cIv cIv (cTwo cIv cInt) near) Env.nil)))))) Laws.nil 200 Tryz.f42 [cSurf.av x0, cV.av x1, cV.av x2] [] (cTwo cIv cInt).dec =
      .bind (x2.x.sqr) fun viv0 => .bind (x2.y.sqr) fun viv1 => .bind (viv0.add viv1) fun viv2 => .bind (x2.z.sqr) fun viv3 => .bind (x0.conic.mul viv3) fun viv4 => .bind (viv2.add viv4) fun viv5 => .bind (x0.curve.mul viv5) fun viv6 => .bind (x1.x.mul x2.x) fun viv7 => .bind (x1.y.mul x2.y) fun viv8 => .bind (viv7.add viv8) fun viv9 => .bind (x1.z.mul x2.z) fun viv10 => .bind (x0.conic.mul viv10) fun viv11 => .bind (viv9.add viv11) fun viv12 => .bind (x0.curve.mul viv12) fun viv13 => .bind (viv13.sub x2.z) fun viv14 => .bind (x1.x.sqr) fun viv15 => .bind (x1.y.sqr) fun viv16 => .bind (viv15.add viv16) fun viv17 => .bind (x1.z.sqr) fun viv18 => .bind (x0.conic.mul viv18) fun viv19 => .bind (viv17.add viv19) fun viv20 => .bind (x0.curve.mul viv20) fun viv21 => .bind (x1.z.times 2) fun viv22 => .bind (viv21.sub viv22) fun viv23 => .bind (near viv6 viv14 viv23) fun vy24 => .ret (vy24) := by kernel_rfl
theorem c_hit_round (x0 : Surf) (x1 : V) (x2 : V) : Plain Tryz.prog 42 [cSurf.enc x0, cV.enc x1, cV.enc x2] ((cTwo cIv cInt).enc (hitRound x0 x1 x2)) :=
  plain_of_tree (n := 200) (EnvOK.add s_iv_Add (EnvOK.add s_iv_Sub (EnvOK.add s_iv_Sqr (EnvOK.add s_iv_Mul (EnvOK.add s_iv_Times (EnvOK.add s_quad_Near EnvOK.nil)))))) Tryz.func42 (args := [cSurf.av x0, cV.av x1, cV.av x2]) (by simp only [AV.vals, Cod.av_val]) (Nat.le_of_ble_eq_true (by kernel_rfl)) LFn.nil (cTwo cIv cInt) (by
    rw [t_hit_round]
    rfl)
theorem s_hit_round : Ev.Spec Tryz.prog 42 (F3 cSurf cV cV (cTwo cIv cInt) hitRound) := spec3 (fun vs w => Tryz.call42 vs w) c_hit_round

/-! hit.none -/
theorem t_hit_none (x0 : Int) :
    evFn Tryz.prog (Env.add 23 (F3 cIv cIv cIv cV V.mk) (Env.add 49 (F0 cIv Iv.none) Env.nil)) Laws.nil 200 Tryz.f44 [cInt.av x0] [] (cThree cIv cV cInt).dec =
      .bind (Iv.none) fun viv0 => .bind (V.mk viv0 viv0 viv0) fun vv1 => .ret ((viv0, vv1, x0)) := by kernel_rfl
theorem c_hit_none (x0 : Int) : Plain Tryz.prog 44 [cInt.enc x0] ((cThree cIv cV cInt).enc (((fun is => (Iv.none, V.none, is))) x0)) :=
  plain_of_tree (n := 200) (EnvOK.add s_vec_Of (EnvOK.add s_iv_None EnvOK.nil)) Tryz.func44 (args := [cInt.av x0]) (by simp only [AV.vals, Cod.av_val]) (Nat.le_of_ble_eq_true (by kernel_rfl)) LFn.nil (cThree cIv cV cInt) (by
    rw [t_hit_none]
    rfl)
theorem s_hit_none : Ev.Spec Tryz.prog 44 (F1 cInt (cThree cIv cV cInt) ((fun is => (Iv.none, V.none, is)))) := spec1 (fun vs w => Tryz.call44 vs w) c_hit_none

/-! snell.nones -/
theorem t_snell_nones  :
    evFn Tryz.prog (Env.add 23 (F3 cIv cIv cIv cV V.mk) (Env.add 49 (F0 cIv Iv.none) Env.nil)) Laws.nil 200 Tryz.f106 [] [] cV.dec =
      .bind (Iv.none) fun viv0 => .bind (Iv.none) fun viv1 => .bind (Iv.none) fun viv2 => .bind (V.mk viv0 viv1 viv2) fun vv3 => .ret (vv3) := by kernel_rfl
theorem c_snell_nones  : Plain Tryz.prog 106 [] (cV.enc (V.none)) :=
  plain_of_tree (n := 200) (EnvOK.add s_vec_Of (EnvOK.add s_iv_None EnvOK.nil)) Tryz.func106 (args := []) rfl (Nat.le_of_ble_eq_true (by kernel_rfl)) LFn.nil cV (by
    rw [t_snell_nones]
    rfl)
theorem s_snell_nones : Ev.Spec Tryz.prog 106 (F0 cV V.none) := spec0 (fun vs w => Tryz.call106 vs w) c_snell_nones

/-! step.nones -/
theorem t_step_nones  :
    evFn Tryz.prog (Env.add 23 (F3 cIv cIv cIv cV V.mk) (Env.add 49 (F0 cIv Iv.none) Env.nil)) Laws.nil 200 Tryz.f58 [] [] cRay.dec =
      .bind (Iv.none) fun viv0 => .bind (Iv.none) fun viv1 => .bind (Iv.none) fun viv2 => .bind (V.mk viv0 viv1 viv2) fun vv3 => .ret (Ray.mk vv3 vv3) := by kernel_rfl
theorem c_step_nones  : Plain Tryz.prog 58 [] (cRay.enc (Ray.none)) :=
  plain_of_tree (n := 200) (EnvOK.add s_vec_Of (EnvOK.add s_iv_None EnvOK.nil)) Tryz.func58 (args := []) rfl (Nat.le_of_ble_eq_true (by kernel_rfl)) LFn.nil cRay (by
    rw [t_step_nones]
    rfl)
theorem s_step_nones : Ev.Spec Tryz.prog 58 (F0 cRay Ray.none) := spec0 (fun vs w => Tryz.call58 vs w) c_step_nones

/-! snell.Bend -/
theorem t_snell_Bend (x0 : V) (x1 : V) (x2 : Iv) :
    evFn Tryz.prog (Env.add 21 (F1 cInt cIv Iv.point) (Env.add 41 (F2 cIv cIv cIv Iv.sub) (Env.add 46 (F1 cV cBool V.right) (Env.add 55 (F1 cIv cIv Iv.sqr) (Env.add 95 (F2 cIv cIv cIv Iv.mul) (Env.add 101 (F2 cV cV cV V.add) (Env.add 102 (F2 cV cIv cV V.scale) (Env.add 105 (F2 cV cV cIv V.dot) (Env.add 106 (F0 cV V.none) (Env.add 107 (F1 cIv cIv Iv.root) Env.nil)))))))))) Laws.nil 200 Tryz.f56 [cV.av x0, cV.av x1, cIv.av x2] [] (cTwo cV cInt).dec =
      .bind (Iv.point 65536) fun viv0 => .bind (x0.dot x1) fun viv1 => .br (viv1.no) (.bind (V.none) fun vv2 => .ret ((vv2, 0))) (.br (decide (viv1.lo ≤ 0)) (.bind (V.none) fun vv3 => .ret ((vv3, 0))) (.bind (x2.sqr) fun viv4 => .bind (viv1.sqr) fun viv5 => .bind (viv0.sub viv5) fun viv6 => .bind (viv4.mul viv6) fun viv7 => .bind (viv0.sub viv7) fun viv8 => .br (viv8.no) (.bind (V.none) fun vv9 => .ret ((vv9, 0))) (.br (decide (viv8.hi < 0)) (.bind (V.none) fun vv10 => .ret ((vv10, 2))) (.br (decide (viv8.lo < 0)) (.bind (V.none) fun vv11 => .ret ((vv11, 0))) (.bind (x0.scale x2) fun vv12 => .bind (viv8.root) fun viv13 => .bind (x2.mul viv1) fun viv14 => .bind (viv13.sub viv14) fun viv15 => .bind (x1.scale viv15) fun vv16 => .bind (vv12.add vv16) fun vv17 => .bind (vv17.right) fun vb18 => .br (!vb18) (.bind (V.none) fun vv19 => .ret ((vv19, 0))) (.ret ((vv17, 1)))))))) := by kernel_rfl
theorem c_snell_Bend (x0 : V) (x1 : V) (x2 : Iv) : Plain Tryz.prog 56 [cV.enc x0, cV.enc x1, cIv.enc x2] ((cTwo cV cInt).enc (bend x0 x1 x2)) :=
  plain_of_tree (n := 200) (EnvOK.add s_iv_Point (EnvOK.add s_iv_Sub (EnvOK.add s_vec_Right (EnvOK.add s_iv_Sqr (EnvOK.add s_iv_Mul (EnvOK.add s_vec_Add (EnvOK.add s_vec_Scale (EnvOK.add s_vec_Dot (EnvOK.add s_snell_nones (EnvOK.add s_iv_Root EnvOK.nil)))))))))) Tryz.func56 (args := [cV.av x0, cV.av x1, cIv.av x2]) (by simp only [AV.vals, Cod.av_val]) (Nat.le_of_ble_eq_true (by kernel_rfl)) LFn.nil (cTwo cV cInt) (by
    rw [t_snell_Bend]
    simp only [den_br, den_bind, den_ret, den_fail, den_inl, den_inr, decide_eq_true_eq]
    grind [bend])
theorem s_snell_Bend : Ev.Spec Tryz.prog 56 (F3 cV cV cIv (cTwo cV cInt) bend) := spec3 (fun vs w => Tryz.call56 vs w) c_snell_Bend

/-! sag.round -/
theorem t_sag_round (x0 : Surf) (x1 : Iv) :
    evFn Tryz.prog (Env.add 20 (F2 cIv cIv cIv Iv.add) (Env.add 21 (F1 cInt cIv Iv.point) (Env.add 41 (F2 cIv cIv cIv Iv.sub) (Env.add 55 (F1 cIv cIv Iv.sqr) (Env.add 95 (F2 cIv cIv cIv Iv.mul) (Env.add 96 (F2 cIv cInt cIv Iv.times) (Env.add 107 (F1 cIv cIv Iv.root) (Env.add 111 (F2 cIv cIv cIv Iv.div) Env.nil)))))))) Laws.nil 200 Tryz.f130 [cSurf.av x0, cIv.av x1] [] (cTwo cIv cIv).dec =
      .bind (Iv.point 65536) fun viv0 => .bind (x0.curve.sqr) fun viv1 => .bind (x0.conic.mul viv1) fun viv2 => .bind (viv2.mul x1) fun viv3 => .bind (viv0.sub viv3) fun viv4 => .bind (viv4.root) fun viv5 => .bind (x0.curve.mul x1) fun viv6 => .bind (viv0.add viv5) fun viv7 => .bind (viv6.div viv7) fun viv8 => .bind (viv5.times 2) fun viv9 => .bind (x0.curve.div viv9) fun viv10 => .ret ((viv8, viv10)) := by kernel_rfl
theorem c_sag_round (x0 : Surf) (x1 : Iv) : Plain Tryz.prog 130 [cSurf.enc x0, cIv.enc x1] ((cTwo cIv cIv).enc (sagRound x0 x1)) :=
  plain_of_tree (n := 200) (EnvOK.add s_iv_Add (EnvOK.add s_iv_Point (EnvOK.add s_iv_Sub (EnvOK.add s_iv_Sqr (EnvOK.add s_iv_Mul (EnvOK.add s_iv_Times (EnvOK.add s_iv_Root (EnvOK.add s_iv_Div EnvOK.nil)))))))) Tryz.func130 (args := [cSurf.av x0, cIv.av x1]) (by simp only [AV.vals, Cod.av_val]) (Nat.le_of_ble_eq_true (by kernel_rfl)) LFn.nil (cTwo cIv cIv) (by
    rw [t_sag_round]
    rfl)
theorem s_sag_round : Ev.Spec Tryz.prog 130 (F2 cSurf cIv (cTwo cIv cIv) sagRound) := spec2 (fun vs w => Tryz.call130 vs w) c_sag_round

/-! meniscushand.Pick -/
theorem t_meniscushand_Pick (x0 : Int) (x1 : Int) :
    evFn Tryz.prog Env.nil Laws.nil 200 Tryz.f19 [cInt.av x0, cInt.av x1] [] cInt.dec =
      .br (x1 != 0) (.br (decide (x0.tmod x1 < 0)) (.ret (IntKind.i64.wrap (x0.tmod x1 + x1))) (.ret (x0.tmod x1))) (.fail) := by kernel_rfl
theorem c_meniscushand_Pick (x0 : Int) (x1 : Int) (h : pickOk x0 x1 = true) : Plain Tryz.prog 19 [cInt.enc x0, cInt.enc x1] (cInt.enc (pick x0 x1)) :=
  plain_of_tree (n := 200) EnvOK.nil Tryz.func19 (args := [cInt.av x0, cInt.av x1]) (by simp only [AV.vals, Cod.av_val]) (Nat.le_of_ble_eq_true (by kernel_rfl)) LFn.nil cInt (by
    rw [t_meniscushand_Pick]
    simp [pickOk] at h
    have p := tmod_pick x0 h.1
    have hne : (x1 != 0) = true := by simp; omega
    simp only [Tr.den, hne]
    by_cases hlt : x0.tmod x1 < 0
    · simp only [hlt, decide_true]
      rw [IntWalk.i64_in _ (by omega), p.1 hlt]
    · simp only [hlt, decide_false]
      rw [p.2.1 (by omega)])
theorem s_meniscushand_Pick : Ev.Spec Tryz.prog 19 (F2p cInt cInt cInt pickOk pick) := spec2p (fun vs w => Tryz.call19 vs w) c_meniscushand_Pick

/-! meniscusref1.In -/
theorem t_meniscusref1_In (x0 : Int) :
    evFn Tryz.prog Env.nil Laws.nil 200 Tryz.f139 [cInt.av x0] [] cBool.dec =
      .br (decide (x0 ≥ -1073741824)) (.ret (decide (x0 ≤ 1073741824))) (.ret (false)) := by kernel_rfl
theorem c_meniscusref1_In (x0 : Int) : Plain Tryz.prog 139 [cInt.enc x0] (cBool.enc (numIn x0)) :=
  plain_of_tree (n := 200) EnvOK.nil Tryz.func139 (args := [cInt.av x0]) (by simp only [AV.vals, Cod.av_val]) (Nat.le_of_ble_eq_true (by kernel_rfl)) LFn.nil cBool (by
    rw [t_meniscusref1_In]
    simp only [Tr.den]
    grind [numIn])
theorem s_meniscusref1_In : Ev.Spec Tryz.prog 139 (F1 cInt cBool numIn) := spec1 (fun vs w => Tryz.call139 vs w) c_meniscusref1_In

/-! meniscusref1.told -/
theorem t_meniscusref1_told (x0 : Int) :
    evFn Tryz.prog (Env.add 139 (F1 cInt cBool numIn) Env.nil) Laws.nil 200 Tryz.f148 [cInt.av x0] [] (cTwo cInt cBool).dec =
      .bind (numIn x0) fun vb0 => .br (!vb0) (.ret ((0, false))) (.ret ((x0, true))) := by kernel_rfl
theorem c_meniscusref1_told (x0 : Int) : Plain Tryz.prog 148 [cInt.enc x0] ((cTwo cInt cBool).enc (toldN x0)) :=
  plain_of_tree (n := 200) (EnvOK.add s_meniscusref1_In EnvOK.nil) Tryz.func148 (args := [cInt.av x0]) (by simp only [AV.vals, Cod.av_val]) (Nat.le_of_ble_eq_true (by kernel_rfl)) LFn.nil (cTwo cInt cBool) (by
    rw [t_meniscusref1_told]
    simp only [den_br, den_bind, den_ret, den_fail, den_inl, den_inr, decide_eq_true_eq]
    grind [toldN])
theorem s_meniscusref1_told : Ev.Spec Tryz.prog 148 (F1 cInt (cTwo cInt cBool) toldN) := spec1 (fun vs w => Tryz.call148 vs w) c_meniscusref1_told

/-! meniscusref1.Floor -/
theorem t_meniscusref1_Floor (x0 : Int) (x1 : Int) :
    evFn Tryz.prog Env.nil Laws.nil 200 Tryz.f120 [cInt.av x0, cInt.av x1] [] cInt.dec =
      .br (x1 == 0) (.ret (0)) (.br (x1 != 0) (.br (x1 != 0) (.br (x0.tmod x1 != 0) (.br (!decide (x0.tmod x1 < 0) == decide (x1 < 0)) (.ret (IntKind.i64.wrap (IntKind.i64.wrap (x0.tdiv x1) - 1))) (.ret (IntKind.i64.wrap (x0.tdiv x1)))) (.ret (IntKind.i64.wrap (x0.tdiv x1)))) (.fail)) (.fail)) := by kernel_rfl
theorem c_meniscusref1_Floor (x0 : Int) (x1 : Int) (h : flOk x0 x1 = true) : Plain Tryz.prog 120 [cInt.enc x0, cInt.enc x1] (cInt.enc (fl x0 x1)) :=
  plain_of_tree (n := 200) EnvOK.nil Tryz.func120 (args := [cInt.av x0, cInt.av x1]) (by simp only [AV.vals, Cod.av_val]) (Nat.le_of_ble_eq_true (by kernel_rfl)) LFn.nil cInt (by
    rw [t_meniscusref1_Floor]
    simp only [den_br, den_bind, den_ret, den_fail, den_inl, den_inr, decide_eq_true_eq]
    simp [flOk] at h
    by_cases hb : x1 = 0
    · subst hb; simp [fl]
    · have e := fl_tdiv x0 x1 hb
      have hw := tdiv_bd (a := x0) (b := x1) (by omega) (by omega)
      have e1 : IntKind.i64.wrap (x0.tdiv x1) = x0.tdiv x1 := wr (by omega)
      have e2 : IntKind.i64.wrap (x0.tdiv x1 - 1) = x0.tdiv x1 - 1 := wr (by omega)
      rw [e]
      by_cases hm : x0.tmod x1 = 0
      · simp [hb, hm, e1]
      · have hs := tmod_sign hm
        simp only [e1, e2, hs]
        cases hd : decide (x0 < 0) <;> cases hd2 : decide (x1 < 0) <;> simp [hb, hm])
theorem s_meniscusref1_Floor : Ev.Spec Tryz.prog 120 (F2p cInt cInt cInt flOk fl) := spec2p (fun vs w => Tryz.call120 vs w) c_meniscusref1_Floor

/-! meniscusref1.Ceil -/
theorem t_meniscusref1_Ceil (x0 : Int) (x1 : Int) :
    evFn Tryz.prog (Env.add 120 (F2p cInt cInt cInt flOk fl) Env.nil) Laws.nil 200 Tryz.f122 [cInt.av x0, cInt.av x1] [] cInt.dec =
      .br (flOk x0 x1) (.bind (fl x0 x1) fun vn0 => .br (IntKind.i64.wrap (vn0 * x1) != x0) (.ret (IntKind.i64.wrap (vn0 + 1))) (.ret (vn0))) (.fail) := by kernel_rfl
theorem c_meniscusref1_Ceil (x0 : Int) (x1 : Int) (h : clOk x0 x1 = true) : Plain Tryz.prog 122 [cInt.enc x0, cInt.enc x1] (cInt.enc (cl x0 x1)) :=
  plain_of_tree (n := 200) (EnvOK.add s_meniscusref1_Floor EnvOK.nil) Tryz.func122 (args := [cInt.av x0, cInt.av x1]) (by simp only [AV.vals, Cod.av_val]) (Nat.le_of_ble_eq_true (by kernel_rfl)) LFn.nil cInt (by
    rw [t_meniscusref1_Ceil]
    simp only [den_br, den_bind, den_ret, den_fail, den_inl, den_inr, decide_eq_true_eq]
    have e1 := wr (fl_mul_bd h)
    have e2 : IntKind.i64.wrap (fl x0 x1 + 1) = fl x0 x1 + 1 := wr (by have := fl_bd (clOk_fl h); omega)
    simp only [clOk_fl h, e1, e2, if_true, cl]
    by_cases hh : fl x0 x1 * x1 = x0 <;> simp [hh])
theorem s_meniscusref1_Ceil : Ev.Spec Tryz.prog 122 (F2p cInt cInt cInt clOk cl) := spec2p (fun vs w => Tryz.call122 vs w) c_meniscusref1_Ceil

/-! meniscusref1.Mul -/
theorem t_meniscusref1_Mul (x0 : Int) (x1 : Int) (x2 : Bool) :
    evFn Tryz.prog (Env.add 120 (F2p cInt cInt cInt flOk fl) (Env.add 122 (F2p cInt cInt cInt clOk cl) (Env.add 139 (F1 cInt cBool numIn) (Env.add 148 (F1 cInt (cTwo cInt cBool) toldN) Env.nil)))) Laws.nil 200 Tryz.f124 [cInt.av x0, cInt.av x1, cBool.av x2] [] (cTwo cInt cBool).dec =
      .bind (numIn x0) fun vb0 => .br (!vb0) (.ret ((0, false))) (.bind (numIn x1) fun vb1 => .br (!vb1) (.ret ((0, false))) (.br (x2) (.br (clOk (IntKind.i64.wrap (x0 * x1)) 65536) (.bind (cl (IntKind.i64.wrap (x0 * x1)) 65536) fun vn2 => .bind (toldN vn2) fun vy3 => .ret (vy3)) (.fail)) (.br (flOk (IntKind.i64.wrap (x0 * x1)) 65536) (.bind (fl (IntKind.i64.wrap (x0 * x1)) 65536) fun vn4 => .bind (toldN vn4) fun vy5 => .ret (vy5)) (.fail)))) := by kernel_rfl
theorem c_meniscusref1_Mul (x0 : Int) (x1 : Int) (x2 : Bool) : Plain Tryz.prog 124 [cInt.enc x0, cInt.enc x1, cBool.enc x2] ((cTwo cInt cBool).enc (numMul x0 x1 x2)) :=
  plain_of_tree (n := 200) (EnvOK.add s_meniscusref1_Floor (EnvOK.add s_meniscusref1_Ceil (EnvOK.add s_meniscusref1_In (EnvOK.add s_meniscusref1_told EnvOK.nil)))) Tryz.func124 (args := [cInt.av x0, cInt.av x1, cBool.av x2]) (by simp only [AV.vals, Cod.av_val]) (Nat.le_of_ble_eq_true (by kernel_rfl)) LFn.nil (cTwo cInt cBool) (by
    rw [t_meniscusref1_Mul]
    simp only [den_br, den_bind, den_ret, den_fail, den_inl, den_inr, decide_eq_true_eq]
    simp only [numMul, rnd]
    cases h0 : numIn x0 <;> cases h1 : numIn x1 <;> simp
    have hm := mul_bd x0 x1 h0 h1
    have e1 : IntKind.i64.wrap (x0 * x1) = x0 * x1 := wr (by omega)
    have c1 : clOk (x0 * x1) 65536 = true := by simp [clOk]; omega
    simp only [e1, c1, clOk_fl c1, if_true, toldN, cl]
    cases x2 <;> simp)
theorem s_meniscusref1_Mul : Ev.Spec Tryz.prog 124 (F3 cInt cInt cBool (cTwo cInt cBool) numMul) := spec3 (fun vs w => Tryz.call124 vs w) c_meniscusref1_Mul

/-! meniscusref1.Div -/
theorem t_meniscusref1_Div (x0 : Int) (x1 : Int) (x2 : Bool) :
    evFn Tryz.prog (Env.add 120 (F2p cInt cInt cInt flOk fl) (Env.add 122 (F2p cInt cInt cInt clOk cl) (Env.add 139 (F1 cInt cBool numIn) (Env.add 148 (F1 cInt (cTwo cInt cBool) toldN) Env.nil)))) Laws.nil 200 Tryz.f149 [cInt.av x0, cInt.av x1, cBool.av x2] [] (cTwo cInt cBool).dec =
      .bind (numIn x0) fun vb0 => .br (!vb0) (.ret ((0, false))) (.bind (numIn x1) fun vb1 => .br (!vb1) (.ret ((0, false))) (.br (x1 == 0) (.ret ((0, false))) (.br (x2) (.br (clOk (IntKind.i64.wrap (x0 * 65536)) x1) (.bind (cl (IntKind.i64.wrap (x0 * 65536)) x1) fun vn2 => .bind (toldN vn2) fun vy3 => .ret (vy3)) (.fail)) (.br (flOk (IntKind.i64.wrap (x0 * 65536)) x1) (.bind (fl (IntKind.i64.wrap (x0 * 65536)) x1) fun vn4 => .bind (toldN vn4) fun vy5 => .ret (vy5)) (.fail))))) := by kernel_rfl
theorem c_meniscusref1_Div (x0 : Int) (x1 : Int) (x2 : Bool) : Plain Tryz.prog 149 [cInt.enc x0, cInt.enc x1, cBool.enc x2] ((cTwo cInt cBool).enc (numDiv x0 x1 x2)) :=
  plain_of_tree (n := 200) (EnvOK.add s_meniscusref1_Floor (EnvOK.add s_meniscusref1_Ceil (EnvOK.add s_meniscusref1_In (EnvOK.add s_meniscusref1_told EnvOK.nil)))) Tryz.func149 (args := [cInt.av x0, cInt.av x1, cBool.av x2]) (by simp only [AV.vals, Cod.av_val]) (Nat.le_of_ble_eq_true (by kernel_rfl)) LFn.nil (cTwo cInt cBool) (by
    rw [t_meniscusref1_Div]
    simp only [den_br, den_bind, den_ret, den_fail, den_inl, den_inr, decide_eq_true_eq]
    simp only [numDiv, rnd]
    cases h0 : numIn x0 <;> cases h1 : numIn x1 <;> simp
    have b0 := numIn_iff.1 h0
    have b1 := numIn_iff.1 h1
    have e1 : IntKind.i64.wrap (x0 * 65536) = x0 * 65536 := wr (by omega)
    have c1 : clOk (x0 * 65536) x1 = true := by simp [clOk]; omega
    simp only [e1, c1, clOk_fl c1, if_true, toldN, cl]
    by_cases hz : x1 = 0 <;> simp [hz]
    cases x2 <;> simp)
theorem s_meniscusref1_Div : Ev.Spec Tryz.prog 149 (F3 cInt cInt cBool (cTwo cInt cBool) numDiv) := spec3 (fun vs w => Tryz.call149 vs w) c_meniscusref1_Div

/-! meniscusref1.Root -/
theorem tl_meniscusref1_Root_6 (t1 : Bool) (t6 : Int) (t7 : Int) (t8 : Int) :
    ev Tryz.prog (Env.add 139 (F1 cInt cBool numIn) (Env.add 148 (F1 cInt (cTwo cInt cBool) toldN) Env.nil)) Laws.nil 200 none (loopAt Tryz.f128 6) ((sc 48 [1, 6, 7, 8] (tCod 1 cBool (tCod 6 cInt (tCod 7 cInt (tCod 8 cInt tNil)))) rNil).enc ((t1, t6, t7, t8, ()), (()))) (backK (sc 48 [1, 6, 7, 8] (tCod 1 cBool (tCod 6 cInt (tCod 7 cInt (tCod 8 cInt tNil)))) rNil) (ocExit 0 (sc 48 [1, 6, 7] (tCod 1 cBool (tCod 6 cInt (tCod 7 cInt tNil))) rNil))) =
      .br (decide (t8 ≥ 0)) (.br (decide (0 ≤ IntKind.u64.wrap t8)) (.br (decide (IntKind.i64.wrap (IntKind.i64.wrap (t7 + IntKind.i64.wrap (1 * 2 ^ Min.min (IntKind.u64.wrap t8).toNat 64)) * IntKind.i64.wrap (t7 + IntKind.i64.wrap (1 * 2 ^ Min.min (IntKind.u64.wrap t8).toNat 64))) ≤ t6)) (.ret (Sum.inl ((t1, t6, IntKind.i64.wrap (t7 + IntKind.i64.wrap (1 * 2 ^ Min.min (IntKind.u64.wrap t8).toNat 64)), IntKind.i64.wrap (t8 - 1), ()), ()))) (.ret (Sum.inl ((t1, t6, t7, IntKind.i64.wrap (t8 - 1), ()), ())))) (.fail)) (.ret (Sum.inr ((t1, t6, t7, ()), ()))) := by kernel_rfl
theorem ok_meniscusref1_Root_6 : LOK Tryz.prog (LoopR.of (sc 48 [1, 6, 7, 8] (tCod 1 cBool (tCod 6 cInt (tCod 7 cInt (tCod 8 cInt tNil)))) rNil) (ocExit 0 (sc 48 [1, 6, 7] (tCod 1 cBool (tCod 6 cInt (tCod 7 cInt tNil))) rNil)) rootRun2) (loopAt Tryz.f128 6) := by
  refine loop_ok (EnvOK.add s_meniscusref1_In (EnvOK.add s_meniscusref1_told EnvOK.nil)) (LFn.at (fn := Tryz.f128) LFn.nil 6) rootStep2 (n := 200) (fun x z h => ?_) rootRun2_ok
  obtain ⟨⟨t1, t6, t7, t8, ⟨⟩⟩, ⟨⟩⟩ := x
  rw [tl_meniscusref1_Root_6]
  rw [← h]
  simp only [den_br, den_bind, den_ret, den_fail, den_inl, den_inr, decide_eq_true_eq]
  simp only [rootStep2, rootPow]
  by_cases h0 : 0 ≤ t8 <;> simp only [h0, if_true, if_false]
  by_cases h1 : 0 ≤ IntKind.u64.wrap t8 <;> simp only [h1, if_true, if_false]
  split <;> rename_i hh <;> simp only [hh, if_true, if_false]
theorem t_meniscusref1_Root (x0 : Int) (x1 : Bool) :
    evFn Tryz.prog (Env.add 139 (F1 cInt cBool numIn) (Env.add 148 (F1 cInt (cTwo cInt cBool) toldN) Env.nil)) (Laws.add 6 (LoopR.of (sc 48 [1, 6, 7, 8] (tCod 1 cBool (tCod 6 cInt (tCod 7 cInt (tCod 8 cInt tNil)))) rNil) (ocExit 0 (sc 48 [1, 6, 7] (tCod 1 cBool (tCod 6 cInt (tCod 7 cInt tNil))) rNil)) rootRun2) Laws.nil) 200 Tryz.f128 [cInt.av x0, cBool.av x1] [] (cTwo cInt cBool).dec =
      .bind (numIn x0) fun vb0 => .br (!vb0) (.ret ((0, false))) (.br (decide (x0 < 0)) (.ret ((0, false))) (.get (rootRun2 ((x1, IntKind.i64.wrap (x0 * 65536), 0, 23, ()), ())) fun vy1 => .br (vy1.1.1) (.br (IntKind.i64.wrap (vy1.1.2.2.1 * vy1.1.2.2.1) != vy1.1.2.1) (.bind (toldN (IntKind.i64.wrap (vy1.1.2.2.1 + 1))) fun vy2 => .ret (vy2)) (.bind (toldN vy1.1.2.2.1) fun vy3 => .ret (vy3))) (.bind (toldN vy1.1.2.2.1) fun vy4 => .ret (vy4)))) := by kernel_rfl
theorem c_meniscusref1_Root (x0 : Int) (x1 : Bool) : Plain Tryz.prog 128 [cInt.enc x0, cBool.enc x1] ((cTwo cInt cBool).enc (numRoot x0 x1)) :=
  plain_of_tree (n := 200) (EnvOK.add s_meniscusref1_In (EnvOK.add s_meniscusref1_told EnvOK.nil)) Tryz.func128 (args := [cInt.av x0, cBool.av x1]) (by simp only [AV.vals, Cod.av_val]) (Nat.le_of_ble_eq_true (by kernel_rfl)) (LFn.add (fn := Tryz.f128) (i := 6) (by kernel_rfl) ok_meniscusref1_Root_6 LFn.nil) (cTwo cInt cBool) (by
    rw [t_meniscusref1_Root]
    simp only [den_br, den_bind, den_ret, den_fail, den_inl, den_inr, decide_eq_true_eq]
    simp only [numRoot]
    by_cases h0 : x0 < 0
    · simp [h0]
    cases h1 : numIn x0
    · simp
    have b := numIn_iff.1 h1
    have e1 : IntKind.i64.wrap (x0 * 65536) = x0 * 65536 := wr (by omega)
    have s := isqrt_spec (n := x0 * 65536) (by omega) (by omega)
    have l := isqrt_le (n := x0 * 65536) (m := 8388608) (by omega) (by omega) (by omega) (by omega)
    have hr : rootRun2 ((x1, IntKind.i64.wrap (x0 * 65536), 0, 23, ()), ()) = some ((x1, x0 * 65536, isqrt (x0 * 65536), ()), ()) := by
      rw [e1]; exact if_pos ⟨⟨rfl, rfl⟩, by omega, by omega⟩
    rw [hr]
    have e2 : IntKind.i64.wrap (isqrt (x0 * 65536) * isqrt (x0 * 65536)) = isqrt (x0 * 65536) * isqrt (x0 * 65536) := wr (by have := Int.mul_nonneg s.1 s.1; omega)
    have e3 : IntKind.i64.wrap (isqrt (x0 * 65536) + 1) = isqrt (x0 * 65536) + 1 := wr (by omega)
    have t1 : toldN (isqrt (x0 * 65536)) = (isqrt (x0 * 65536), true) := if_pos (numIn_iff.2 (by omega))
    have t2 : toldN (isqrt (x0 * 65536) + 1) = (isqrt (x0 * 65536) + 1, true) := if_pos (numIn_iff.2 (by omega))
    have k1 : (isqrt (x0 * 65536) * isqrt (x0 * 65536) ≠ x0 * 65536) ↔ isqrt (x0 * 65536) * isqrt (x0 * 65536) < x0 * 65536 := by omega
    simp only [den_get, den_br, den_bind, den_ret, e2, e3, h0, t1, t2]
    cases x1 <;> simp [t1, t2]
    by_cases hh : isqrt (x0 * 65536) * isqrt (x0 * 65536) = x0 * 65536 <;> simp [hh, t1, t2]
    omega)
theorem s_meniscusref1_Root : Ev.Spec Tryz.prog 128 (F2 cInt cBool (cTwo cInt cBool) numRoot) := spec2 (fun vs w => Tryz.call128 vs w) c_meniscusref1_Root

/-! meniscusref1.Right -/
theorem t_meniscusref1_Right (x0 : Iv) :
    evFn Tryz.prog (Env.add 139 (F1 cInt cBool numIn) Env.nil) Laws.nil 200 Tryz.f123 [cIv.av x0] [] cBool.dec =
      .br (!x0.no) (.bind (numIn x0.lo) fun vb0 => .br (vb0) (.bind (numIn x0.hi) fun vb1 => .br (vb1) (.ret (decide (x0.lo ≤ x0.hi))) (.ret (false))) (.ret (false))) (.ret (false)) := by kernel_rfl
theorem c_meniscusref1_Right (x0 : Iv) : Plain Tryz.prog 123 [cIv.enc x0] (cBool.enc (Iv.right x0)) :=
  plain_of_tree (n := 200) (EnvOK.add s_meniscusref1_In EnvOK.nil) Tryz.func123 (args := [cIv.av x0]) (by simp only [AV.vals, Cod.av_val]) (Nat.le_of_ble_eq_true (by kernel_rfl)) LFn.nil cBool (by
    rw [t_meniscusref1_Right]
    simp only [Tr.den]
    grind [Iv.right])
theorem s_meniscusref1_Right : Ev.Spec Tryz.prog 123 (F1 cIv cBool Iv.right) := spec1 (fun vs w => Tryz.call123 vs w) c_meniscusref1_Right

/-! meniscusref1.None -/
theorem t_meniscusref1_None  :
    evFn Tryz.prog Env.nil Laws.nil 200 Tryz.f89 [] [] cIv.dec =
      .ret (Iv.mk 0 0 true) := by kernel_rfl
theorem c_meniscusref1_None  : Plain Tryz.prog 89 [] (cIv.enc (Iv.none)) :=
  plain_of_tree (n := 200) EnvOK.nil Tryz.func89 (args := []) rfl (Nat.le_of_ble_eq_true (by kernel_rfl)) LFn.nil cIv (by
    rw [t_meniscusref1_None]
    rfl)
theorem s_meniscusref1_None : Ev.Spec Tryz.prog 89 (F0 cIv Iv.none) := spec0 (fun vs w => Tryz.call89 vs w) c_meniscusref1_None

/-! meniscusref1.Of -/
theorem t_meniscusref1_Of (x0 : Int) (x1 : Int) :
    evFn Tryz.prog (Env.add 89 (F0 cIv Iv.none) (Env.add 123 (F1 cIv cBool Iv.right) Env.nil)) Laws.nil 200 Tryz.f118 [cInt.av x0, cInt.av x1] [] cIv.dec =
      .bind ((Iv.mk x0 x1 false).right) fun vb0 => .br (!vb0) (.bind (Iv.none) fun viv1 => .ret (viv1)) (.ret (Iv.mk x0 x1 false)) := by kernel_rfl
theorem c_meniscusref1_Of (x0 : Int) (x1 : Int) : Plain Tryz.prog 118 [cInt.enc x0, cInt.enc x1] (cIv.enc (Iv.of x0 x1)) :=
  plain_of_tree (n := 200) (EnvOK.add s_meniscusref1_None (EnvOK.add s_meniscusref1_Right EnvOK.nil)) Tryz.func118 (args := [cInt.av x0, cInt.av x1]) (by simp only [AV.vals, Cod.av_val]) (Nat.le_of_ble_eq_true (by kernel_rfl)) LFn.nil cIv (by
    rw [t_meniscusref1_Of]
    simp only [Tr.den]
    grind [Iv.of])
theorem s_meniscusref1_Of : Ev.Spec Tryz.prog 118 (F2 cInt cInt cIv Iv.of) := spec2 (fun vs w => Tryz.call118 vs w) c_meniscusref1_Of

/-! meniscusref1.Point -/
theorem t_meniscusref1_Point (x0 : Int) :
    evFn Tryz.prog (Env.add 118 (F2 cInt cInt cIv Iv.of) Env.nil) Laws.nil 200 Tryz.f80 [cInt.av x0] [] cIv.dec =
      .bind (Iv.of x0 x0) fun viv0 => .ret (viv0) := by kernel_rfl
theorem c_meniscusref1_Point (x0 : Int) : Plain Tryz.prog 80 [cInt.enc x0] (cIv.enc (Iv.point x0)) :=
  plain_of_tree (n := 200) (EnvOK.add s_meniscusref1_Of EnvOK.nil) Tryz.func80 (args := [cInt.av x0]) (by simp only [AV.vals, Cod.av_val]) (Nat.le_of_ble_eq_true (by kernel_rfl)) LFn.nil cIv (by
    rw [t_meniscusref1_Point]
    simp only [Tr.den]
    grind [Iv.point])
theorem s_meniscusref1_Point : Ev.Spec Tryz.prog 80 (F1 cInt cIv Iv.point) := spec1 (fun vs w => Tryz.call80 vs w) c_meniscusref1_Point

/-! meniscusref1.Whole -/
theorem t_meniscusref1_Whole (x0 : Int) :
    evFn Tryz.prog (Env.add 80 (F1 cInt cIv Iv.point) (Env.add 89 (F0 cIv Iv.none) (Env.add 139 (F1 cInt cBool numIn) Env.nil))) Laws.nil 200 Tryz.f109 [cInt.av x0] [] cIv.dec =
      .bind (numIn x0) fun vb0 => .br (!vb0) (.bind (Iv.none) fun viv1 => .ret (viv1)) (.bind (Iv.point (IntKind.i64.wrap (x0 * 65536))) fun viv2 => .ret (viv2)) := by kernel_rfl
theorem c_meniscusref1_Whole (x0 : Int) : Plain Tryz.prog 109 [cInt.enc x0] (cIv.enc (Iv.whole x0)) :=
  plain_of_tree (n := 200) (EnvOK.add s_meniscusref1_Point (EnvOK.add s_meniscusref1_None (EnvOK.add s_meniscusref1_In EnvOK.nil))) Tryz.func109 (args := [cInt.av x0]) (by simp only [AV.vals, Cod.av_val]) (Nat.le_of_ble_eq_true (by kernel_rfl)) LFn.nil cIv (by
    rw [t_meniscusref1_Whole]
    simp only [Tr.den, Iv.whole]
    cases h0 : numIn x0 <;> simp
    have b0 := numIn_iff.1 h0
    simp (disch := omega) only [IntWalk.i64_in])
theorem s_meniscusref1_Whole : Ev.Spec Tryz.prog 109 (F1 cInt cIv Iv.whole) := spec1 (fun vs w => Tryz.call109 vs w) c_meniscusref1_Whole

/-! meniscusref1.Add -/
theorem t_meniscusref1_Add (x0 : Iv) (x1 : Iv) :
    evFn Tryz.prog (Env.add 89 (F0 cIv Iv.none) (Env.add 118 (F2 cInt cInt cIv Iv.of) (Env.add 123 (F1 cIv cBool Iv.right) Env.nil))) Laws.nil 200 Tryz.f83 [cIv.av x0, cIv.av x1] [] cIv.dec =
      .bind (x0.right) fun vb0 => .br (!vb0) (.bind (Iv.none) fun viv1 => .ret (viv1)) (.bind (x1.right) fun vb2 => .br (!vb2) (.bind (Iv.none) fun viv3 => .ret (viv3)) (.bind (Iv.of (IntKind.i64.wrap (x0.lo + x1.lo)) (IntKind.i64.wrap (x0.hi + x1.hi))) fun viv4 => .ret (viv4))) := by kernel_rfl
theorem c_meniscusref1_Add (x0 : Iv) (x1 : Iv) : Plain Tryz.prog 83 [cIv.enc x0, cIv.enc x1] (cIv.enc (Iv.add x0 x1)) :=
  plain_of_tree (n := 200) (EnvOK.add s_meniscusref1_None (EnvOK.add s_meniscusref1_Of (EnvOK.add s_meniscusref1_Right EnvOK.nil))) Tryz.func83 (args := [cIv.av x0, cIv.av x1]) (by simp only [AV.vals, Cod.av_val]) (Nat.le_of_ble_eq_true (by kernel_rfl)) LFn.nil cIv (by
    rw [t_meniscusref1_Add]
    simp only [den_br, den_bind, den_ret, den_fail, den_inl, den_inr, decide_eq_true_eq]
    by_cases h0 : x0.right = true <;> by_cases h1 : x1.right = true <;> simp [Iv.add, Iv.both, h0, h1]
    have b0 := right_bd h0
    have b1 := right_bd h1
    simp (disch := omega) only [IntWalk.i64_in])
theorem s_meniscusref1_Add : Ev.Spec Tryz.prog 83 (F2 cIv cIv cIv Iv.add) := spec2 (fun vs w => Tryz.call83 vs w) c_meniscusref1_Add

/-! meniscusref1.Sub -/
theorem t_meniscusref1_Sub (x0 : Iv) (x1 : Iv) :
    evFn Tryz.prog (Env.add 89 (F0 cIv Iv.none) (Env.add 118 (F2 cInt cInt cIv Iv.of) (Env.add 123 (F1 cIv cBool Iv.right) Env.nil))) Laws.nil 200 Tryz.f127 [cIv.av x0, cIv.av x1] [] cIv.dec =
      .bind (x0.right) fun vb0 => .br (!vb0) (.bind (Iv.none) fun viv1 => .ret (viv1)) (.bind (x1.right) fun vb2 => .br (!vb2) (.bind (Iv.none) fun viv3 => .ret (viv3)) (.bind (Iv.of (IntKind.i64.wrap (x0.lo - x1.hi)) (IntKind.i64.wrap (x0.hi - x1.lo))) fun viv4 => .ret (viv4))) := by kernel_rfl
theorem c_meniscusref1_Sub (x0 : Iv) (x1 : Iv) : Plain Tryz.prog 127 [cIv.enc x0, cIv.enc x1] (cIv.enc (Iv.sub x0 x1)) :=
  plain_of_tree (n := 200) (EnvOK.add s_meniscusref1_None (EnvOK.add s_meniscusref1_Of (EnvOK.add s_meniscusref1_Right EnvOK.nil))) Tryz.func127 (args := [cIv.av x0, cIv.av x1]) (by simp only [AV.vals, Cod.av_val]) (Nat.le_of_ble_eq_true (by kernel_rfl)) LFn.nil cIv (by
    rw [t_meniscusref1_Sub]
    simp only [den_br, den_bind, den_ret, den_fail, den_inl, den_inr, decide_eq_true_eq]
    by_cases h0 : x0.right = true <;> by_cases h1 : x1.right = true <;> simp [sub_eq, Iv.both, h0, h1]
    have b0 := right_bd h0
    have b1 := right_bd h1
    simp (disch := omega) only [IntWalk.i64_in])
theorem s_meniscusref1_Sub : Ev.Spec Tryz.prog 127 (F2 cIv cIv cIv Iv.sub) := spec2 (fun vs w => Tryz.call127 vs w) c_meniscusref1_Sub

/-! meniscusref1.ends -/
theorem tl_meniscusref1_ends_4 (t2 : Bool) (t7 : Int) (t8 : Int) (t9 : Int) (r0 : Iv) (r1 : Iv) (r2 : Iv) :
    ev Tryz.prog (Env.add 89 (F0 cIv Iv.none) (Env.add 118 (F2 cInt cInt cIv Iv.of) (Env.add 124 (F3 cInt cInt cBool (cTwo cInt cBool) numMul) (Env.add 149 (F3 cInt cInt cBool (cTwo cInt cBool) numDiv) Env.nil)))) Laws.nil 200 none (loopAt Tryz.f125 4) ((sc 85 [2, 7, 8, 9, 3, 4, 6] (tCod 2 cBool (tCod 7 cInt (tCod 8 cInt (tCod 9 cInt (tOwn 3 0 (tOwn 4 1 (tOwn 6 2 tNil))))))) (rBox ccIv ccIv_ok (rBox ccIv ccIv_ok (rBox ccIv ccIv_ok rNil)))).enc ((t2, t7, t8, t9, ()), (r0, r1, r2, ()))) (backK (sc 85 [2, 7, 8, 9, 3, 4, 6] (tCod 2 cBool (tCod 7 cInt (tCod 8 cInt (tCod 9 cInt (tOwn 3 0 (tOwn 4 1 (tOwn 6 2 tNil))))))) (rBox ccIv ccIv_ok (rBox ccIv ccIv_ok (rBox ccIv ccIv_ok rNil)))) (ocOr (ocExit 0 (sc 85 [7, 8, 6] (tCod 7 cInt (tCod 8 cInt (tOwn 6 0 tNil))) (rBox ccIv ccIv_ok rNil))) (ocRet (sc 85 [6] (tOwn 6 0 tNil) (rBox ccIv ccIv_ok rNil))))) =
      .br (decide (t9 < 4)) (.br (t9.tmod 2 == 1) (.br (IntKind.i64.wrap (t9.tdiv 2) == 1) (.bind (numMul r0.hi r1.hi false) fun vy0 => .bind (numMul r0.hi r1.hi true) fun vy1 => .br (t2) (.bind (numDiv r0.hi r1.hi false) fun vy2 => .bind (numDiv r0.hi r1.hi true) fun vy3 => .br (!vy2.2) (.bind (Iv.none) fun viv4 => .ret (Sum.inr (Sum.inr ((), viv4, ())))) (.br (!vy3.2) (.bind (Iv.none) fun viv5 => .ret (Sum.inr (Sum.inr ((), viv5, ())))) (.br (t9 == 0) (.br (t9 == 0) (.ret (Sum.inl ((t2, vy2.1, vy3.1, IntKind.i64.wrap (t9 + 1), ()), r0, r1, r2, ()))) (.br (decide (vy3.1 > t8)) (.ret (Sum.inl ((t2, vy2.1, vy3.1, IntKind.i64.wrap (t9 + 1), ()), r0, r1, r2, ()))) (.ret (Sum.inl ((t2, vy2.1, t8, IntKind.i64.wrap (t9 + 1), ()), r0, r1, r2, ()))))) (.br (decide (vy2.1 < t7)) (.br (t9 == 0) (.ret (Sum.inl ((t2, vy2.1, vy3.1, IntKind.i64.wrap (t9 + 1), ()), r0, r1, r2, ()))) (.br (decide (vy3.1 > t8)) (.ret (Sum.inl ((t2, vy2.1, vy3.1, IntKind.i64.wrap (t9 + 1), ()), r0, r1, r2, ()))) (.ret (Sum.inl ((t2, vy2.1, t8, IntKind.i64.wrap (t9 + 1), ()), r0, r1, r2, ()))))) (.br (t9 == 0) (.ret (Sum.inl ((t2, t7, vy3.1, IntKind.i64.wrap (t9 + 1), ()), r0, r1, r2, ()))) (.br (decide (vy3.1 > t8)) (.ret (Sum.inl ((t2, t7, vy3.1, IntKind.i64.wrap (t9 + 1), ()), r0, r1, r2, ()))) (.ret (Sum.inl ((t2, t7, t8, IntKind.i64.wrap (t9 + 1), ()), r0, r1, r2, ()))))))))) (.br (!vy0.2) (.bind (Iv.none) fun viv6 => .ret (Sum.inr (Sum.inr ((), viv6, ())))) (.br (!vy1.2) (.bind (Iv.none) fun viv7 => .ret (Sum.inr (Sum.inr ((), viv7, ())))) (.br (t9 == 0) (.br (t9 == 0) (.ret (Sum.inl ((t2, vy0.1, vy1.1, IntKind.i64.wrap (t9 + 1), ()), r0, r1, r2, ()))) (.br (decide (vy1.1 > t8)) (.ret (Sum.inl ((t2, vy0.1, vy1.1, IntKind.i64.wrap (t9 + 1), ()), r0, r1, r2, ()))) (.ret (Sum.inl ((t2, vy0.1, t8, IntKind.i64.wrap (t9 + 1), ()), r0, r1, r2, ()))))) (.br (decide (vy0.1 < t7)) (.br (t9 == 0) (.ret (Sum.inl ((t2, vy0.1, vy1.1, IntKind.i64.wrap (t9 + 1), ()), r0, r1, r2, ()))) (.br (decide (vy1.1 > t8)) (.ret (Sum.inl ((t2, vy0.1, vy1.1, IntKind.i64.wrap (t9 + 1), ()), r0, r1, r2, ()))) (.ret (Sum.inl ((t2, vy0.1, t8, IntKind.i64.wrap (t9 + 1), ()), r0, r1, r2, ()))))) (.br (t9 == 0) (.ret (Sum.inl ((t2, t7, vy1.1, IntKind.i64.wrap (t9 + 1), ()), r0, r1, r2, ()))) (.br (decide (vy1.1 > t8)) (.ret (Sum.inl ((t2, t7, vy1.1, IntKind.i64.wrap (t9 + 1), ()), r0, r1, r2, ()))) (.ret (Sum.inl ((t2, t7, t8, IntKind.i64.wrap (t9 + 1), ()), r0, r1, r2, ())))))))))) (.bind (numMul r0.hi r1.lo false) fun vy8 => .bind (numMul r0.hi r1.lo true) fun vy9 => .br (t2) (.bind (numDiv r0.hi r1.lo false) fun vy10 => .bind (numDiv r0.hi r1.lo true) fun vy11 => .br (!vy10.2) (.bind (Iv.none) fun viv12 => .ret (Sum.inr (Sum.inr ((), viv12, ())))) (.br (!vy11.2) (.bind (Iv.none) fun viv13 => .ret (Sum.inr (Sum.inr ((), viv13, ())))) (.br (t9 == 0) (.br (t9 == 0) (.ret (Sum.inl ((t2, vy10.1, vy11.1, IntKind.i64.wrap (t9 + 1), ()), r0, r1, r2, ()))) (.br (decide (vy11.1 > t8)) (.ret (Sum.inl ((t2, vy10.1, vy11.1, IntKind.i64.wrap (t9 + 1), ()), r0, r1, r2, ()))) (.ret (Sum.inl ((t2, vy10.1, t8, IntKind.i64.wrap (t9 + 1), ()), r0, r1, r2, ()))))) (.br (decide (vy10.1 < t7)) (.br (t9 == 0) (.ret (Sum.inl ((t2, vy10.1, vy11.1, IntKind.i64.wrap (t9 + 1), ()), r0, r1, r2, ()))) (.br (decide (vy11.1 > t8)) (.ret (Sum.inl ((t2, vy10.1, vy11.1, IntKind.i64.wrap (t9 + 1), ()), r0, r1, r2, ()))) (.ret (Sum.inl ((t2, vy10.1, t8, IntKind.i64.wrap (t9 + 1), ()), r0, r1, r2, ()))))) (.br (t9 == 0) (.ret (Sum.inl ((t2, t7, vy11.1, IntKind.i64.wrap (t9 + 1), ()), r0, r1, r2, ()))) (.br (decide (vy11.1 > t8)) (.ret (Sum.inl ((t2, t7, vy11.1, IntKind.i64.wrap (t9 + 1), ()), r0, r1, r2, ()))) (.ret (Sum.inl ((t2, t7, t8, IntKind.i64.wrap (t9 + 1), ()), r0, r1, r2, ()))))))))) (.br (!vy8.2) (.bind (Iv.none) fun viv14 => .ret (Sum.inr (Sum.inr ((), viv14, ())))) (.br (!vy9.2) (.bind (Iv.none) fun viv15 => .ret (Sum.inr (Sum.inr ((), viv15, ())))) (.br (t9 == 0) (.br (t9 == 0) (.ret (Sum.inl ((t2, vy8.1, vy9.1, IntKind.i64.wrap (t9 + 1), ()), r0, r1, r2, ()))) (.br (decide (vy9.1 > t8)) (.ret (Sum.inl ((t2, vy8.1, vy9.1, IntKind.i64.wrap (t9 + 1), ()), r0, r1, r2, ()))) (.ret (Sum.inl ((t2, vy8.1, t8, IntKind.i64.wrap (t9 + 1), ()), r0, r1, r2, ()))))) (.br (decide (vy8.1 < t7)) (.br (t9 == 0) (.ret (Sum.inl ((t2, vy8.1, vy9.1, IntKind.i64.wrap (t9 + 1), ()), r0, r1, r2, ()))) (.br (decide (vy9.1 > t8)) (.ret (Sum.inl ((t2, vy8.1, vy9.1, IntKind.i64.wrap (t9 + 1), ()), r0, r1, r2, ()))) (.ret (Sum.inl ((t2, vy8.1, t8, IntKind.i64.wrap (t9 + 1), ()), r0, r1, r2, ()))))) (.br (t9 == 0) (.ret (Sum.inl ((t2, t7, vy9.1, IntKind.i64.wrap (t9 + 1), ()), r0, r1, r2, ()))) (.br (decide (vy9.1 > t8)) (.ret (Sum.inl ((t2, t7, vy9.1, IntKind.i64.wrap (t9 + 1), ()), r0, r1, r2, ()))) (.ret (Sum.inl ((t2, t7, t8, IntKind.i64.wrap (t9 + 1), ()), r0, r1, r2, ()))))))))))) (.br (IntKind.i64.wrap (t9.tdiv 2) == 1) (.bind (numMul r0.lo r1.hi false) fun vy16 => .bind (numMul r0.lo r1.hi true) fun vy17 => .br (t2) (.bind (numDiv r0.lo r1.hi false) fun vy18 => .bind (numDiv r0.lo r1.hi true) fun vy19 => .br (!vy18.2) (.bind (Iv.none) fun viv20 => .ret (Sum.inr (Sum.inr ((), viv20, ())))) (.br (!vy19.2) (.bind (Iv.none) fun viv21 => .ret (Sum.inr (Sum.inr ((), viv21, ())))) (.br (t9 == 0) (.br (t9 == 0) (.ret (Sum.inl ((t2, vy18.1, vy19.1, IntKind.i64.wrap (t9 + 1), ()), r0, r1, r2, ()))) (.br (decide (vy19.1 > t8)) (.ret (Sum.inl ((t2, vy18.1, vy19.1, IntKind.i64.wrap (t9 + 1), ()), r0, r1, r2, ()))) (.ret (Sum.inl ((t2, vy18.1, t8, IntKind.i64.wrap (t9 + 1), ()), r0, r1, r2, ()))))) (.br (decide (vy18.1 < t7)) (.br (t9 == 0) (.ret (Sum.inl ((t2, vy18.1, vy19.1, IntKind.i64.wrap (t9 + 1), ()), r0, r1, r2, ()))) (.br (decide (vy19.1 > t8)) (.ret (Sum.inl ((t2, vy18.1, vy19.1, IntKind.i64.wrap (t9 + 1), ()), r0, r1, r2, ()))) (.ret (Sum.inl ((t2, vy18.1, t8, IntKind.i64.wrap (t9 + 1), ()), r0, r1, r2, ()))))) (.br (t9 == 0) (.ret (Sum.inl ((t2, t7, vy19.1, IntKind.i64.wrap (t9 + 1), ()), r0, r1, r2, ()))) (.br (decide (vy19.1 > t8)) (.ret (Sum.inl ((t2, t7, vy19.1, IntKind.i64.wrap (t9 + 1), ()), r0, r1, r2, ()))) (.ret (Sum.inl ((t2, t7, t8, IntKind.i64.wrap (t9 + 1), ()), r0, r1, r2, ()))))))))) (.br (!vy16.2) (.bind (Iv.none) fun viv22 => .ret (Sum.inr (Sum.inr ((), viv22, ())))) (.br (!vy17.2) (.bind (Iv.none) fun viv23 => .ret (Sum.inr (Sum.inr ((), viv23, ())))) (.br (t9 == 0) (.br (t9 == 0) (.ret (Sum.inl ((t2, vy16.1, vy17.1, IntKind.i64.wrap (t9 + 1), ()), r0, r1, r2, ()))) (.br (decide (vy17.1 > t8)) (.ret (Sum.inl ((t2, vy16.1, vy17.1, IntKind.i64.wrap (t9 + 1), ()), r0, r1, r2, ()))) (.ret (Sum.inl ((t2, vy16.1, t8, IntKind.i64.wrap (t9 + 1), ()), r0, r1, r2, ()))))) (.br (decide (vy16.1 < t7)) (.br (t9 == 0) (.ret (Sum.inl ((t2, vy16.1, vy17.1, IntKind.i64.wrap (t9 + 1), ()), r0, r1, r2, ()))) (.br (decide (vy17.1 > t8)) (.ret (Sum.inl ((t2, vy16.1, vy17.1, IntKind.i64.wrap (t9 + 1), ()), r0, r1, r2, ()))) (.ret (Sum.inl ((t2, vy16.1, t8, IntKind.i64.wrap (t9 + 1), ()), r0, r1, r2, ()))))) (.br (t9 == 0) (.ret (Sum.inl ((t2, t7, vy17.1, IntKind.i64.wrap (t9 + 1), ()), r0, r1, r2, ()))) (.br (decide (vy17.1 > t8)) (.ret (Sum.inl ((t2, t7, vy17.1, IntKind.i64.wrap (t9 + 1), ()), r0, r1, r2, ()))) (.ret (Sum.inl ((t2, t7, t8, IntKind.i64.wrap (t9 + 1), ()), r0, r1, r2, ())))))))))) (.bind (numMul r0.lo r1.lo false) fun vy24 => .bind (numMul r0.lo r1.lo true) fun vy25 => .br (t2) (.bind (numDiv r0.lo r1.lo false) fun vy26 => .bind (numDiv r0.lo r1.lo true) fun vy27 => .br (!vy26.2) (.bind (Iv.none) fun viv28 => .ret (Sum.inr (Sum.inr ((), viv28, ())))) (.br (!vy27.2) (.bind (Iv.none) fun viv29 => .ret (Sum.inr (Sum.inr ((), viv29, ())))) (.br (t9 == 0) (.br (t9 == 0) (.ret (Sum.inl ((t2, vy26.1, vy27.1, IntKind.i64.wrap (t9 + 1), ()), r0, r1, r2, ()))) (.br (decide (vy27.1 > t8)) (.ret (Sum.inl ((t2, vy26.1, vy27.1, IntKind.i64.wrap (t9 + 1), ()), r0, r1, r2, ()))) (.ret (Sum.inl ((t2, vy26.1, t8, IntKind.i64.wrap (t9 + 1), ()), r0, r1, r2, ()))))) (.br (decide (vy26.1 < t7)) (.br (t9 == 0) (.ret (Sum.inl ((t2, vy26.1, vy27.1, IntKind.i64.wrap (t9 + 1), ()), r0, r1, r2, ()))) (.br (decide (vy27.1 > t8)) (.ret (Sum.inl ((t2, vy26.1, vy27.1, IntKind.i64.wrap (t9 + 1), ()), r0, r1, r2, ()))) (.ret (Sum.inl ((t2, vy26.1, t8, IntKind.i64.wrap (t9 + 1), ()), r0, r1, r2, ()))))) (.br (t9 == 0) (.ret (Sum.inl ((t2, t7, vy27.1, IntKind.i64.wrap (t9 + 1), ()), r0, r1, r2, ()))) (.br (decide (vy27.1 > t8)) (.ret (Sum.inl ((t2, t7, vy27.1, IntKind.i64.wrap (t9 + 1), ()), r0, r1, r2, ()))) (.ret (Sum.inl ((t2, t7, t8, IntKind.i64.wrap (t9 + 1), ()), r0, r1, r2, ()))))))))) (.br (!vy24.2) (.bind (Iv.none) fun viv30 => .ret (Sum.inr (Sum.inr ((), viv30, ())))) (.br (!vy25.2) (.bind (Iv.none) fun viv31 => .ret (Sum.inr (Sum.inr ((), viv31, ())))) (.br (t9 == 0) (.br (t9 == 0) (.ret (Sum.inl ((t2, vy24.1, vy25.1, IntKind.i64.wrap (t9 + 1), ()), r0, r1, r2, ()))) (.br (decide (vy25.1 > t8)) (.ret (Sum.inl ((t2, vy24.1, vy25.1, IntKind.i64.wrap (t9 + 1), ()), r0, r1, r2, ()))) (.ret (Sum.inl ((t2, vy24.1, t8, IntKind.i64.wrap (t9 + 1), ()), r0, r1, r2, ()))))) (.br (decide (vy24.1 < t7)) (.br (t9 == 0) (.ret (Sum.inl ((t2, vy24.1, vy25.1, IntKind.i64.wrap (t9 + 1), ()), r0, r1, r2, ()))) (.br (decide (vy25.1 > t8)) (.ret (Sum.inl ((t2, vy24.1, vy25.1, IntKind.i64.wrap (t9 + 1), ()), r0, r1, r2, ()))) (.ret (Sum.inl ((t2, vy24.1, t8, IntKind.i64.wrap (t9 + 1), ()), r0, r1, r2, ()))))) (.br (t9 == 0) (.ret (Sum.inl ((t2, t7, vy25.1, IntKind.i64.wrap (t9 + 1), ()), r0, r1, r2, ()))) (.br (decide (vy25.1 > t8)) (.ret (Sum.inl ((t2, t7, vy25.1, IntKind.i64.wrap (t9 + 1), ()), r0, r1, r2, ()))) (.ret (Sum.inl ((t2, t7, t8, IntKind.i64.wrap (t9 + 1), ()), r0, r1, r2, ())))))))))))) (.ret (Sum.inr (Sum.inl ((t7, t8, ()), r2, ())))) := by kernel_rfl
theorem ok_meniscusref1_ends_4 : LOK Tryz.prog (LoopR.of (sc 85 [2, 7, 8, 9, 3, 4, 6] (tCod 2 cBool (tCod 7 cInt (tCod 8 cInt (tCod 9 cInt (tOwn 3 0 (tOwn 4 1 (tOwn 6 2 tNil))))))) (rBox ccIv ccIv_ok (rBox ccIv ccIv_ok (rBox ccIv ccIv_ok rNil)))) (ocOr (ocExit 0 (sc 85 [7, 8, 6] (tCod 7 cInt (tCod 8 cInt (tOwn 6 0 tNil))) (rBox ccIv ccIv_ok rNil))) (ocRet (sc 85 [6] (tOwn 6 0 tNil) (rBox ccIv ccIv_ok rNil)))) endsRun) (loopAt Tryz.f125 4) := by
  refine loop_ok (EnvOK.add s_meniscusref1_None (EnvOK.add s_meniscusref1_Of (EnvOK.add s_meniscusref1_Mul (EnvOK.add s_meniscusref1_Div EnvOK.nil)))) (LFn.at (fn := Tryz.f125) LFn.nil 4) endsStep (n := 200) (fun x z h => ?_) endsRun_ok
  obtain ⟨⟨t2, t7, t8, t9, ⟨⟩⟩, ⟨r0, r1, r2, ⟨⟩⟩⟩ := x
  rw [tl_meniscusref1_ends_4]
  rw [← h]
  simp only [den_br, den_bind, den_ret, den_fail, den_inl, den_inr, decide_eq_true_eq]
  simp only [endsStep, endsX, endsY, endsF, beq_iff_eq, Bool.not_eq_true']
  by_cases hk : t9 < 4 <;> simp only [hk, if_true, if_false]
  by_cases hx : t9.tmod 2 = 1 <;> simp only [hx, if_true, if_false] <;> by_cases hy : IntKind.i64.wrap (t9.tdiv 2) = 1 <;> simp only [hy, if_true, if_false] <;> cases t2 <;> simp only [Bool.false_eq_true, if_true, if_false] <;> grind
theorem t_meniscusref1_ends (x0 : Iv) (x1 : Iv) (x2 : Bool) :
    evFn Tryz.prog (Env.add 89 (F0 cIv Iv.none) (Env.add 118 (F2 cInt cInt cIv Iv.of) (Env.add 124 (F3 cInt cInt cBool (cTwo cInt cBool) numMul) (Env.add 149 (F3 cInt cInt cBool (cTwo cInt cBool) numDiv) Env.nil)))) (Laws.add 4 (LoopR.of (sc 85 [2, 7, 8, 9, 3, 4, 6] (tCod 2 cBool (tCod 7 cInt (tCod 8 cInt (tCod 9 cInt (tOwn 3 0 (tOwn 4 1 (tOwn 6 2 tNil))))))) (rBox ccIv ccIv_ok (rBox ccIv ccIv_ok (rBox ccIv ccIv_ok rNil)))) (ocOr (ocExit 0 (sc 85 [7, 8, 6] (tCod 7 cInt (tCod 8 cInt (tOwn 6 0 tNil))) (rBox ccIv ccIv_ok rNil))) (ocRet (sc 85 [6] (tOwn 6 0 tNil) (rBox ccIv ccIv_ok rNil)))) endsRun) Laws.nil) 200 Tryz.f125 [cIv.av x0, cIv.av x1, cBool.av x2] [] cIv.dec =
      .get (endsRun ((x2, 0, 0, 0, ()), x0, x1, Iv.mk 0 0 false, ())) fun vy0 => .sum (vy0) (fun vs1 => .bind (Iv.of vs1.1.1 vs1.1.2.1) fun viv2 => .ret (viv2)) (fun vs3 => .ret (vs3.2.1)) := by kernel_rfl
theorem c_meniscusref1_ends (x0 : Iv) (x1 : Iv) (x2 : Bool) : Plain Tryz.prog 125 [cIv.enc x0, cIv.enc x1, cBool.enc x2] (cIv.enc (endsD x0 x1 x2)) :=
  plain_of_tree (n := 200) (EnvOK.add s_meniscusref1_None (EnvOK.add s_meniscusref1_Of (EnvOK.add s_meniscusref1_Mul (EnvOK.add s_meniscusref1_Div EnvOK.nil)))) Tryz.func125 (args := [cIv.av x0, cIv.av x1, cBool.av x2]) (by simp only [AV.vals, Cod.av_val]) (Nat.le_of_ble_eq_true (by kernel_rfl)) (LFn.add (fn := Tryz.f125) (i := 4) (by kernel_rfl) ok_meniscusref1_ends_4 LFn.nil) cIv (by
    rw [t_meniscusref1_ends]
    simp only [den_br, den_bind, den_ret, den_fail, den_inl, den_inr, den_gets, decide_eq_true_eq]
    simp only [endsRun, endsD, ends, if_true]
    cases x2 <;> simp only [endsF, Bool.false_eq_true, if_false, if_true] <;> split <;> rfl)
theorem s_meniscusref1_ends : Ev.Spec Tryz.prog 125 (F3 cIv cIv cBool cIv endsD) := spec3 (fun vs w => Tryz.call125 vs w) c_meniscusref1_ends

/-! meniscusref1.MulIv -/
theorem t_meniscusref1_MulIv (x0 : Iv) (x1 : Iv) :
    evFn Tryz.prog (Env.add 89 (F0 cIv Iv.none) (Env.add 123 (F1 cIv cBool Iv.right) (Env.add 125 (F3 cIv cIv cBool cIv endsD) Env.nil))) Laws.nil 200 Tryz.f126 [cIv.av x0, cIv.av x1] [] cIv.dec =
      .bind (x0.right) fun vb0 => .br (!vb0) (.bind (Iv.none) fun viv1 => .ret (viv1)) (.bind (x1.right) fun vb2 => .br (!vb2) (.bind (Iv.none) fun viv3 => .ret (viv3)) (.bind (endsD x0 x1 false) fun viv4 => .ret (viv4))) := by kernel_rfl
theorem c_meniscusref1_MulIv (x0 : Iv) (x1 : Iv) : Plain Tryz.prog 126 [cIv.enc x0, cIv.enc x1] (cIv.enc (Iv.mul x0 x1)) :=
  plain_of_tree (n := 200) (EnvOK.add s_meniscusref1_None (EnvOK.add s_meniscusref1_Right (EnvOK.add s_meniscusref1_ends EnvOK.nil))) Tryz.func126 (args := [cIv.av x0, cIv.av x1]) (by simp only [AV.vals, Cod.av_val]) (Nat.le_of_ble_eq_true (by kernel_rfl)) LFn.nil cIv (by
    rw [t_meniscusref1_MulIv]
    simp only [den_br, den_bind, den_ret, den_fail, den_inl, den_inr, decide_eq_true_eq]
    grind [Iv.mul, Iv.both, endsD])
theorem s_meniscusref1_MulIv : Ev.Spec Tryz.prog 126 (F2 cIv cIv cIv Iv.mul) := spec2 (fun vs w => Tryz.call126 vs w) c_meniscusref1_MulIv

/-! meniscusref1.DivIv -/
theorem t_meniscusref1_DivIv (x0 : Iv) (x1 : Iv) :
    evFn Tryz.prog (Env.add 89 (F0 cIv Iv.none) (Env.add 123 (F1 cIv cBool Iv.right) (Env.add 125 (F3 cIv cIv cBool cIv endsD) Env.nil))) Laws.nil 200 Tryz.f85 [cIv.av x0, cIv.av x1] [] cIv.dec =
      .bind (x0.right) fun vb0 => .br (!vb0) (.bind (Iv.none) fun viv1 => .ret (viv1)) (.bind (x1.right) fun vb2 => .br (!vb2) (.bind (Iv.none) fun viv3 => .ret (viv3)) (.br (decide (x1.lo ≤ 0)) (.br (decide (x1.hi ≥ 0)) (.bind (Iv.none) fun viv4 => .ret (viv4)) (.bind (endsD x0 x1 true) fun viv5 => .ret (viv5))) (.bind (endsD x0 x1 true) fun viv6 => .ret (viv6)))) := by kernel_rfl
theorem c_meniscusref1_DivIv (x0 : Iv) (x1 : Iv) : Plain Tryz.prog 85 [cIv.enc x0, cIv.enc x1] (cIv.enc (Iv.div x0 x1)) :=
  plain_of_tree (n := 200) (EnvOK.add s_meniscusref1_None (EnvOK.add s_meniscusref1_Right (EnvOK.add s_meniscusref1_ends EnvOK.nil))) Tryz.func85 (args := [cIv.av x0, cIv.av x1]) (by simp only [AV.vals, Cod.av_val]) (Nat.le_of_ble_eq_true (by kernel_rfl)) LFn.nil cIv (by
    rw [t_meniscusref1_DivIv]
    simp only [den_br, den_bind, den_ret, den_fail, den_inl, den_inr, decide_eq_true_eq]
    grind [Iv.div, Iv.both, Iv.has, endsD])
theorem s_meniscusref1_DivIv : Ev.Spec Tryz.prog 85 (F2 cIv cIv cIv Iv.div) := spec2 (fun vs w => Tryz.call85 vs w) c_meniscusref1_DivIv

/-! meniscusref1.Sqr -/
theorem t_meniscusref1_Sqr (x0 : Iv) :
    evFn Tryz.prog (Env.add 89 (F0 cIv Iv.none) (Env.add 118 (F2 cInt cInt cIv Iv.of) (Env.add 123 (F1 cIv cBool Iv.right) (Env.add 124 (F3 cInt cInt cBool (cTwo cInt cBool) numMul) Env.nil)))) Laws.nil 200 Tryz.f84 [cIv.av x0] [] cIv.dec =
      .bind (x0.right) fun vb0 => .br (!vb0) (.bind (Iv.none) fun viv1 => .ret (viv1)) (.br (decide (x0.lo ≤ 0)) (.br (decide (x0.hi ≥ 0)) (.bind (numMul 0 0 false) fun vy2 => .bind (numMul (Max.max (Max.max (Max.max x0.lo (IntKind.i64.wrap (0 - x0.lo))) x0.hi) (IntKind.i64.wrap (0 - x0.hi))) (Max.max (Max.max (Max.max x0.lo (IntKind.i64.wrap (0 - x0.lo))) x0.hi) (IntKind.i64.wrap (0 - x0.hi))) true) fun vy3 => .br (!vy3.2) (.bind (Iv.none) fun viv4 => .ret (viv4)) (.bind (Iv.of vy2.1 vy3.1) fun viv5 => .ret (viv5))) (.bind (numMul (Min.min (Max.max x0.lo (IntKind.i64.wrap (0 - x0.lo))) (Max.max x0.hi (IntKind.i64.wrap (0 - x0.hi)))) (Min.min (Max.max x0.lo (IntKind.i64.wrap (0 - x0.lo))) (Max.max x0.hi (IntKind.i64.wrap (0 - x0.hi)))) false) fun vy6 => .bind (numMul (Max.max (Max.max (Max.max x0.lo (IntKind.i64.wrap (0 - x0.lo))) x0.hi) (IntKind.i64.wrap (0 - x0.hi))) (Max.max (Max.max (Max.max x0.lo (IntKind.i64.wrap (0 - x0.lo))) x0.hi) (IntKind.i64.wrap (0 - x0.hi))) true) fun vy7 => .br (!vy7.2) (.bind (Iv.none) fun viv8 => .ret (viv8)) (.bind (Iv.of vy6.1 vy7.1) fun viv9 => .ret (viv9)))) (.bind (numMul (Min.min (Max.max x0.lo (IntKind.i64.wrap (0 - x0.lo))) (Max.max x0.hi (IntKind.i64.wrap (0 - x0.hi)))) (Min.min (Max.max x0.lo (IntKind.i64.wrap (0 - x0.lo))) (Max.max x0.hi (IntKind.i64.wrap (0 - x0.hi)))) false) fun vy10 => .bind (numMul (Max.max (Max.max (Max.max x0.lo (IntKind.i64.wrap (0 - x0.lo))) x0.hi) (IntKind.i64.wrap (0 - x0.hi))) (Max.max (Max.max (Max.max x0.lo (IntKind.i64.wrap (0 - x0.lo))) x0.hi) (IntKind.i64.wrap (0 - x0.hi))) true) fun vy11 => .br (!vy11.2) (.bind (Iv.none) fun viv12 => .ret (viv12)) (.bind (Iv.of vy10.1 vy11.1) fun viv13 => .ret (viv13)))) := by kernel_rfl
theorem c_meniscusref1_Sqr (x0 : Iv) : Plain Tryz.prog 84 [cIv.enc x0] (cIv.enc (Iv.sqr x0)) :=
  plain_of_tree (n := 200) (EnvOK.add s_meniscusref1_None (EnvOK.add s_meniscusref1_Of (EnvOK.add s_meniscusref1_Right (EnvOK.add s_meniscusref1_Mul EnvOK.nil)))) Tryz.func84 (args := [cIv.av x0]) (by simp only [AV.vals, Cod.av_val]) (Nat.le_of_ble_eq_true (by kernel_rfl)) LFn.nil cIv (by
    rw [t_meniscusref1_Sqr]
    simp only [Iv.sqr]
    cases h0 : x0.right
    · simp [Tr.den]
    have b0 := right_bd h0
    have e1 : IntKind.i64.wrap (-x0.lo) = -x0.lo := wr (by omega)
    have e2 : IntKind.i64.wrap (-x0.hi) = -x0.hi := wr (by omega)
    have f1 : max (max (max x0.lo (-x0.lo)) x0.hi) (-x0.hi) = max (-x0.lo) x0.hi := by omega
    simp only [den_br, den_bind, den_ret, den_fail, decide_eq_true_eq, e1, e2, f1]
    by_cases h1 : x0.lo ≤ 0
    · by_cases h2 : 0 ≤ x0.hi
      · have f2 : max (max x0.lo (-x0.hi)) 0 = 0 := by omega
        simp only [h1, h2, f2]
        grind
      · have f2 : min (max x0.lo (-x0.lo)) (max x0.hi (-x0.hi)) = max (max x0.lo (-x0.hi)) 0 := by omega
        simp only [h1, h2, f2]
        grind
    · have f2 : min (max x0.lo (-x0.lo)) (max x0.hi (-x0.hi)) = max (max x0.lo (-x0.hi)) 0 := by omega
      simp only [h1, f2]
      grind)
theorem s_meniscusref1_Sqr : Ev.Spec Tryz.prog 84 (F1 cIv cIv Iv.sqr) := spec1 (fun vs w => Tryz.call84 vs w) c_meniscusref1_Sqr

/-! meniscusref1.RootIv -/
theorem t_meniscusref1_RootIv (x0 : Iv) :
    evFn Tryz.prog (Env.add 89 (F0 cIv Iv.none) (Env.add 118 (F2 cInt cInt cIv Iv.of) (Env.add 123 (F1 cIv cBool Iv.right) (Env.add 128 (F2 cInt cBool (cTwo cInt cBool) numRoot) Env.nil)))) Laws.nil 200 Tryz.f90 [cIv.av x0] [] cIv.dec =
      .bind (x0.right) fun vb0 => .br (!vb0) (.bind (Iv.none) fun viv1 => .ret (viv1)) (.br (decide (x0.lo < 0)) (.bind (Iv.none) fun viv2 => .ret (viv2)) (.bind (numRoot x0.lo false) fun vy3 => .bind (numRoot x0.hi true) fun vy4 => .bind (Iv.of vy3.1 vy4.1) fun viv5 => .ret (viv5))) := by kernel_rfl
theorem c_meniscusref1_RootIv (x0 : Iv) : Plain Tryz.prog 90 [cIv.enc x0] (cIv.enc (Iv.root x0)) :=
  plain_of_tree (n := 200) (EnvOK.add s_meniscusref1_None (EnvOK.add s_meniscusref1_Of (EnvOK.add s_meniscusref1_Right (EnvOK.add s_meniscusref1_Root EnvOK.nil)))) Tryz.func90 (args := [cIv.av x0]) (by simp only [AV.vals, Cod.av_val]) (Nat.le_of_ble_eq_true (by kernel_rfl)) LFn.nil cIv (by
    rw [t_meniscusref1_RootIv]
    simp only [den_br, den_bind, den_ret, den_fail, den_inl, den_inr, decide_eq_true_eq]
    grind [Iv.root])
theorem s_meniscusref1_RootIv : Ev.Spec Tryz.prog 90 (F1 cIv cIv Iv.root) := spec1 (fun vs w => Tryz.call90 vs w) c_meniscusref1_RootIv

/-! meniscusref1.Len2 -/
theorem t_meniscusref1_Len2 (x0 : V) :
    evFn Tryz.prog (Env.add 83 (F2 cIv cIv cIv Iv.add) (Env.add 84 (F1 cIv cIv Iv.sqr) Env.nil)) Laws.nil 200 Tryz.f91 [cV.av x0] [] cIv.dec =
      .bind (x0.x.sqr) fun viv0 => .bind (x0.y.sqr) fun viv1 => .bind (viv0.add viv1) fun viv2 => .bind (x0.z.sqr) fun viv3 => .bind (viv2.add viv3) fun viv4 => .ret (viv4) := by kernel_rfl
theorem c_meniscusref1_Len2 (x0 : V) : Plain Tryz.prog 91 [cV.enc x0] (cIv.enc (V.len2 x0)) :=
  plain_of_tree (n := 200) (EnvOK.add s_meniscusref1_Add (EnvOK.add s_meniscusref1_Sqr EnvOK.nil)) Tryz.func91 (args := [cV.av x0]) (by simp only [AV.vals, Cod.av_val]) (Nat.le_of_ble_eq_true (by kernel_rfl)) LFn.nil cIv (by
    rw [t_meniscusref1_Len2]
    rfl)
theorem s_meniscusref1_Len2 : Ev.Spec Tryz.prog 91 (F1 cV cIv V.len2) := spec1 (fun vs w => Tryz.call91 vs w) c_meniscusref1_Len2

/-! meniscusref1.Unit -/
theorem t_meniscusref1_Unit (x0 : V) :
    evFn Tryz.prog (Env.add 85 (F2 cIv cIv cIv Iv.div) (Env.add 90 (F1 cIv cIv Iv.root) (Env.add 91 (F1 cV cIv V.len2) Env.nil))) Laws.nil 200 Tryz.f38 [cV.av x0] [] cV.dec =
      .bind (x0.len2) fun viv0 => .bind (viv0.root) fun viv1 => .bind (x0.x.div viv1) fun viv2 => .bind (x0.y.div viv1) fun viv3 => .bind (x0.z.div viv1) fun viv4 => .ret (V.mk viv2 viv3 viv4) := by kernel_rfl
theorem c_meniscusref1_Unit (x0 : V) : Plain Tryz.prog 38 [cV.enc x0] (cV.enc (V.unit x0)) :=
  plain_of_tree (n := 200) (EnvOK.add s_meniscusref1_DivIv (EnvOK.add s_meniscusref1_RootIv (EnvOK.add s_meniscusref1_Len2 EnvOK.nil))) Tryz.func38 (args := [cV.av x0]) (by simp only [AV.vals, Cod.av_val]) (Nat.le_of_ble_eq_true (by kernel_rfl)) LFn.nil cV (by
    rw [t_meniscusref1_Unit]
    rfl)
theorem s_meniscusref1_Unit : Ev.Spec Tryz.prog 38 (F1 cV cV V.unit) := spec1 (fun vs w => Tryz.call38 vs w) c_meniscusref1_Unit

/-! poly.Slope -/
theorem tl_poly_Slope_3 (t8 : Int) (t7 : Int) (r0 : List Iv) (r1 : List Iv) :
    ev Tryz.prog (Env.add 96 (F2 cIv cInt cIv Iv.times) Env.nil) Laws.nil 200 none (loopAt Tryz.f132 3) ((sc 23 [8, 7, 6, 3] (tCod 8 cInt (tCod 7 cInt (tSl 6 0 (tSl 3 1 tNil)))) (rL_iv (rG_iv 27 rNil))).enc ((t8, t7, ()), (r0, r1, ()))) (backK (sc 23 [8, 7, 6, 3] (tCod 8 cInt (tCod 7 cInt (tSl 6 0 (tSl 3 1 tNil)))) (rL_iv (rG_iv 27 rNil))) (ocExit 0 (sc 23 [3] (tSl 3 0 tNil) (rG_iv 27 rNil)))) =
      .br (decide (t8 < t7)) (.br (decide (0 ≤ t8 ∧ t8 < (@Nat.cast Int _ r0.length))) (.get (r0[t8.toNat]?) fun vt0 => .br (decide (t8 > 0)) (.bind (Iv.times vt0 t8) fun viv1 => .br (Ev.lenOk (r1 ++ [viv1])) (.ret (Sum.inl ((IntKind.i64.wrap (t8 + 1), t7, ()), r0, r1 ++ [viv1], ()))) (.fail)) (.ret (Sum.inl ((IntKind.i64.wrap (t8 + 1), t7, ()), r0, r1, ())))) (.fail)) (.ret (Sum.inr ((), r1, ()))) := by kernel_rfl
theorem ok_poly_Slope_3 : LOK Tryz.prog (LoopR.of (sc 23 [8, 7, 6, 3] (tCod 8 cInt (tCod 7 cInt (tSl 6 0 (tSl 3 1 tNil)))) (rL_iv (rG_iv 27 rNil))) (ocExit 0 (sc 23 [3] (tSl 3 0 tNil) (rG_iv 27 rNil))) slope2Run) (loopAt Tryz.f132 3) := by
  refine loop_ok (EnvOK.add s_iv_Times EnvOK.nil) (LFn.at (fn := Tryz.f132) LFn.nil 3) slope2Step (n := 200) (fun x z h => ?_) slope2Run_ok
  obtain ⟨⟨t8, t7, ⟨⟩⟩, ⟨r0, r1, ⟨⟩⟩⟩ := x
  rw [tl_poly_Slope_3]
  rw [← h]
  simp only [den_br, den_bind, den_ret, den_fail, den_inl, den_inr, decide_eq_true_eq]
  simp only [slope2Step]
  by_cases h0 : t8 < t7 <;> simp only [h0, if_true, if_false]
  by_cases h1 : 0 ≤ t8 ∧ t8 < (r0.length : Int) <;> simp only [h1, if_true, if_false, and_self]
  cases hg : r0[t8.toNat]? with
  | none => rfl
  | some a =>
    by_cases h2 : 0 < t8 <;> simp only [den_get, den_br, den_bind, den_ret, den_fail, gt_iff_lt, h2, decide_true, decide_false, if_true, if_false, Bool.false_eq_true]
theorem t_poly_Slope (r0 : List Iv) :
    evFnR Tryz.prog (Env.add 96 (F2 cIv cInt cIv Iv.times) Env.nil) (Laws.add 3 (LoopR.of (sc 23 [8, 7, 6, 3] (tCod 8 cInt (tCod 7 cInt (tSl 6 0 (tSl 3 1 tNil)))) (rL_iv (rG_iv 27 rNil))) (ocExit 0 (sc 23 [3] (tSl 3 0 tNil) (rG_iv 27 rNil))) slope2Run) Laws.nil) 200 Tryz.f132 (((sc 1 [0] (tSl 0 0 tNil) (rL_iv rNil)).enc ((()), (r0, ()))).tmps.map Prod.snd) ((sc 1 [0] (tSl 0 0 tNil) (rL_iv rNil)).enc ((()), (r0, ()))).mem (sc 1 [0] (tSl 0 0 tNil) (rG_iv 27 rNil)).ts (sc 1 [0] (tSl 0 0 tNil) (rG_iv 27 rNil)).dec =
      .get (slope2Run ((0, (@Nat.cast Int _ r0.length), ()), r0, [], ())) fun vy0 => .ret (((), vy0.2.1, ())) := by kernel_rfl
theorem c_poly_Slope : PlainR Tryz.prog 132 (sc 1 [0] (tSl 0 0 tNil) (rL_iv rNil)) (sc 1 [0] (tSl 0 0 tNil) (rG_iv 27 rNil)) (fun x => lenOk x.2.1) ((fun x => (((), (slope x.2.1, ()))))) := by
  intro x h N w vs hM hv
  obtain ⟨⟨⟩, ⟨r0, ⟨⟩⟩⟩ := x
  refine calls_of_treeR (n := 200) (EnvOK.add s_iv_Times EnvOK.nil) Tryz.func132 hv (Nat.le_of_ble_eq_true (by kernel_rfl)) (LFn.add (fn := Tryz.f132) (i := 3) (by kernel_rfl) ok_poly_Slope_3 LFn.nil) hM (sc 1 [0] (tSl 0 0 tNil) (rG_iv 27 rNil)) rfl ?_
  rw [t_poly_Slope]
  simp only [den_br, den_bind, den_ret, den_fail, den_inl, den_inr, decide_eq_true_eq]
  simp at h
  have hl := lenOk_iff.1 h
  have hr : slope2Run ((0, (r0.length : Int), ()), (r0, [], ())) = some ((), (slope r0, ())) := by
    refine (if_pos ⟨by omega, hl, by simp⟩).trans ?_
    rw [← slope_go]; rfl
  rw [hr]
  rfl
theorem s_poly_Slope : Ev.Spec Tryz.prog 132 (FR (sc 1 [0] (tSl 0 0 tNil) (rL_iv rNil)) (sc 1 [0] (tSl 0 0 tNil) (rG_iv 27 rNil)) (fun x => lenOk x.2.1) ((fun x => (((), (slope x.2.1, ())))))) := specR rfl (fun _ => rfl) (fun vs w => Tryz.call132 vs w) c_poly_Slope

/-! meniscusref14.none -/
theorem t_meniscusref14_none  :
    evFn Tryz.prog (Env.add 89 (F0 cIv Iv.none) Env.nil) Laws.nil 200 Tryz.f138 [] [] cIv.dec =
      .bind (Iv.none) fun viv0 => .ret (viv0) := by kernel_rfl
theorem c_meniscusref14_none  : Plain Tryz.prog 138 [] (cIv.enc (Iv.none)) :=
  plain_of_tree (n := 200) (EnvOK.add s_meniscusref1_None EnvOK.nil) Tryz.func138 (args := []) rfl (Nat.le_of_ble_eq_true (by kernel_rfl)) LFn.nil cIv (by
    rw [t_meniscusref14_none]
    rfl)
theorem s_meniscusref14_none : Ev.Spec Tryz.prog 138 (F0 cIv Iv.none) := spec0 (fun vs w => Tryz.call138 vs w) c_meniscusref14_none

/-! meniscusref14.NoV -/
theorem t_meniscusref14_NoV  :
    evFn Tryz.prog (Env.add 138 (F0 cIv Iv.none) Env.nil) Laws.nil 200 Tryz.f108 [] [] cV.dec =
      .bind (Iv.none) fun viv0 => .bind (Iv.none) fun viv1 => .bind (Iv.none) fun viv2 => .ret (V.mk viv0 viv1 viv2) := by kernel_rfl
theorem c_meniscusref14_NoV  : Plain Tryz.prog 108 [] (cV.enc (V.none)) :=
  plain_of_tree (n := 200) (EnvOK.add s_meniscusref14_none EnvOK.nil) Tryz.func108 (args := []) rfl (Nat.le_of_ble_eq_true (by kernel_rfl)) LFn.nil cV (by
    rw [t_meniscusref14_NoV]
    rfl)
theorem s_meniscusref14_NoV : Ev.Spec Tryz.prog 108 (F0 cV V.none) := spec0 (fun vs w => Tryz.call108 vs w) c_meniscusref14_NoV

/-! meniscusref14.NoRay -/
theorem t_meniscusref14_NoRay  :
    evFn Tryz.prog (Env.add 108 (F0 cV V.none) Env.nil) Laws.nil 200 Tryz.f61 [] [] cRay.dec =
      .bind (V.none) fun vv0 => .bind (V.none) fun vv1 => .ret (Ray.mk vv0 vv1) := by kernel_rfl
theorem c_meniscusref14_NoRay  : Plain Tryz.prog 61 [] (cRay.enc (Ray.none)) :=
  plain_of_tree (n := 200) (EnvOK.add s_meniscusref14_NoV EnvOK.nil) Tryz.func61 (args := []) rfl (Nat.le_of_ble_eq_true (by kernel_rfl)) LFn.nil cRay (by
    rw [t_meniscusref14_NoRay]
    rfl)
theorem s_meniscusref14_NoRay : Ev.Spec Tryz.prog 61 (F0 cRay Ray.none) := spec0 (fun vs w => Tryz.call61 vs w) c_meniscusref14_NoRay

/-! meniscushand.NoRay -/
theorem t_meniscushand_NoRay  :
    evFn Tryz.prog (Env.add 61 (F0 cRay Ray.none) Env.nil) Laws.nil 200 Tryz.f25 [] [] cRay.dec =
      .bind (Ray.none) fun vra0 => .ret (vra0) := by kernel_rfl
theorem c_meniscushand_NoRay  : Plain Tryz.prog 25 [] (cRay.enc (Ray.none)) :=
  plain_of_tree (n := 200) (EnvOK.add s_meniscusref14_NoRay EnvOK.nil) Tryz.func25 (args := []) rfl (Nat.le_of_ble_eq_true (by kernel_rfl)) LFn.nil cRay (by
    rw [t_meniscushand_NoRay]
    rfl)
theorem s_meniscushand_NoRay : Ev.Spec Tryz.prog 25 (F0 cRay Ray.none) := spec0 (fun vs w => Tryz.call25 vs w) c_meniscushand_NoRay
end Go.Proofs.YtlbmjajjldfigaaGreat
