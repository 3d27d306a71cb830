/-
  Contracts of calls, written by a small program of this session out of the evaluator's trees.
-/
import Derived.Test.YtapbnhnofcbkdaaCore
import Derived.Test.YtapbnhnofcbkdaaCoreLoops
import Derived.Test.YtapbnhnofcbkdaaCore2
import Derived.Test.YtapbnhnofcbkdaaCore3
import Derived.Test.YtapbnhnofcbkdaaCore4
import Derived.Test.YtapbnhnofcbkdaaEvCod
import Derived.Test.YtapbnhnofcbkdaaEvRet
import Derived.Test.YtapbnhnofcbkdaaProg
namespace Go.Proofs.Ytapbnhnofcbkdaa
open Go Go.RowKit Ev
set_option maxRecDepth 100000
set_option linter.unusedVariables false
set_option linter.unusedSimpArgs false

/-! num.In -/
theorem t_num_In (x0 : Int) :
    evFn Try.prog Env.nil Laws.nil 200 Try.f19 [cInt.av x0] [] cBool.dec =
      .br (decide (x0 ≥ -1073741824)) (.ret (decide (x0 ≤ 1073741824))) (.ret (false)) := by kernel_rfl
theorem c_num_In (x0 : Int) : Plain Try.prog 19 [cInt.enc x0] (cBool.enc (numIn x0)) :=
  plain_of_tree (n := 200) EnvOK.nil Try.func19 (args := [cInt.av x0]) (by simp only [AV.vals, Cod.av_val]) (Nat.le_of_ble_eq_true (by kernel_rfl)) LFn.nil cBool (by
    rw [t_num_In]
    simp only [Tr.den]
    grind [numIn])
theorem s_num_In : Ev.Spec Try.prog 19 (F1 cInt cBool numIn) := spec1 (fun vs w => Try.call19 vs w) c_num_In

/-! num.Floor -/
theorem t_num_Floor (x0 : Int) (x1 : Int) :
    evFn Try.prog Env.nil Laws.nil 200 Try.f48 [cInt.av x0, cInt.av x1] [] cInt.dec =
      .br (x1 == 0) (.ret (0)) (.br (x1 != 0) (.br (x1 != 0) (.br (x0.tmod x1 != 0) (.br (!decide (x0 < 0) == decide (x1 < 0)) (.ret (IntKind.i64.wrap (IntKind.i64.wrap (x0.tdiv x1) - 1))) (.ret (IntKind.i64.wrap (x0.tdiv x1)))) (.ret (IntKind.i64.wrap (x0.tdiv x1)))) (.fail)) (.fail)) := by kernel_rfl
theorem c_num_Floor (x0 : Int) (x1 : Int) (h : flOk x0 x1 = true) : Plain Try.prog 48 [cInt.enc x0, cInt.enc x1] (cInt.enc (fl x0 x1)) :=
  plain_of_tree (n := 200) EnvOK.nil Try.func48 (args := [cInt.av x0, cInt.av x1]) (by simp only [AV.vals, Cod.av_val]) (Nat.le_of_ble_eq_true (by kernel_rfl)) LFn.nil cInt (by
    rw [t_num_Floor]
    simp [flOk] at h
    simp only [Tr.den]
    by_cases hb : x1 = 0
    · subst hb; simp [fl]
    · have e := fl_tdiv x0 x1 hb
      have hw := tdiv_bd (a := x0) (b := x1) (by omega) (by omega)
      simp (disch := omega) only [IntWalk.i64_in] at *
      grind)
theorem s_num_Floor : Ev.Spec Try.prog 48 (F2p cInt cInt cInt flOk fl) := spec2p (fun vs w => Try.call48 vs w) c_num_Floor

/-! num.rounded -/
theorem t_num_rounded (x0 : Int) (x1 : Int) (x2 : Bool) :
    evFn Try.prog (Env.add 19 (F1 cInt cBool numIn) (Env.add 48 (F2p cInt cInt cInt flOk fl) Env.nil)) Laws.nil 200 Try.f41 [cInt.av x0, cInt.av x1, cBool.av x2] [] (cTwo cInt cBool).dec =
      .br (flOk x0 x1) (.bind (fl x0 x1) fun vn0 => .br (x2) (.br (x1 != 0) (.br (x0.tmod x1 != 0) (.bind (numIn (IntKind.i64.wrap (vn0 + 1))) fun vb1 => .br (!vb1) (.ret ((0, false))) (.ret ((IntKind.i64.wrap (vn0 + 1), true)))) (.bind (numIn vn0) fun vb2 => .br (!vb2) (.ret ((0, false))) (.ret ((vn0, true))))) (.fail)) (.bind (numIn vn0) fun vb3 => .br (!vb3) (.ret ((0, false))) (.ret ((vn0, true))))) (.fail) := by kernel_rfl
theorem c_num_rounded (x0 : Int) (x1 : Int) (x2 : Bool) (h : rnOk x0 x1 x2 = true) : Plain Try.prog 41 [cInt.enc x0, cInt.enc x1, cBool.enc x2] ((cTwo cInt cBool).enc (rnd x0 x1 x2)) :=
  plain_of_tree (n := 200) (EnvOK.add s_num_In (EnvOK.add s_num_Floor EnvOK.nil)) Try.func41 (args := [cInt.av x0, cInt.av x1, cBool.av x2]) (by simp only [AV.vals, Cod.av_val]) (Nat.le_of_ble_eq_true (by kernel_rfl)) LFn.nil (cTwo cInt cBool) (by
    rw [t_num_rounded]
    simp [rnOk] at h
    simp only [Tr.den, h.1]
    have e := fl_tdiv x0 x1 h.2
    have hw := tdiv_bd (a := x0) (b := x1) (by simp [flOk] at h; omega) (by simp [flOk] at h; omega)
    have hz := fl_mul x0 x1 h.2
    have hfl : -9223372036854775807 < fl x0 x1 ∧ fl x0 x1 < 9223372036854775806 := by rw [e]; split <;> omega
    simp (disch := omega) only [IntWalk.i64_in] at *
    grind [rnd])
theorem s_num_rounded : Ev.Spec Try.prog 41 (F3p cInt cInt cBool (cTwo cInt cBool) rnOk rnd) := spec3p (fun vs w => Try.call41 vs w) c_num_rounded

/-! num.Mul -/
theorem t_num_Mul (x0 : Int) (x1 : Int) (x2 : Bool) :
    evFn Try.prog (Env.add 19 (F1 cInt cBool numIn) (Env.add 41 (F3p cInt cInt cBool (cTwo cInt cBool) rnOk rnd) Env.nil)) Laws.nil 200 Try.f40 [cInt.av x0, cInt.av x1, cBool.av x2] [] (cTwo cInt cBool).dec =
      .bind (numIn x0) fun vb0 => .br (!vb0) (.ret ((0, false))) (.bind (numIn x1) fun vb1 => .br (!vb1) (.ret ((0, false))) (.br (rnOk (IntKind.i64.wrap (x0 * x1)) 65536 x2) (.bind (rnd (IntKind.i64.wrap (x0 * x1)) 65536 x2) fun vy2 => .ret (vy2)) (.fail))) := by kernel_rfl
theorem c_num_Mul (x0 : Int) (x1 : Int) (x2 : Bool) : Plain Try.prog 40 [cInt.enc x0, cInt.enc x1, cBool.enc x2] ((cTwo cInt cBool).enc (numMul x0 x1 x2)) :=
  plain_of_tree (n := 200) (EnvOK.add s_num_In (EnvOK.add s_num_rounded EnvOK.nil)) Try.func40 (args := [cInt.av x0, cInt.av x1, cBool.av x2]) (by simp only [AV.vals, Cod.av_val]) (Nat.le_of_ble_eq_true (by kernel_rfl)) LFn.nil (cTwo cInt cBool) (by
    rw [t_num_Mul]
    simp only [Tr.den]
    have hm := mul_bd x0 x1
    cases h0 : numIn x0 <;> cases h1 : numIn x1 <;> simp [numMul, h0, h1]
    have := hm h0 h1
    simp (disch := omega) only [IntWalk.i64_in]
    grind [rnOk, flOk])
theorem s_num_Mul : Ev.Spec Try.prog 40 (F3 cInt cInt cBool (cTwo cInt cBool) numMul) := spec3 (fun vs w => Try.call40 vs w) c_num_Mul

/-! num.Div -/
theorem t_num_Div (x0 : Int) (x1 : Int) (x2 : Bool) :
    evFn Try.prog (Env.add 19 (F1 cInt cBool numIn) (Env.add 41 (F3p cInt cInt cBool (cTwo cInt cBool) rnOk rnd) Env.nil)) Laws.nil 200 Try.f34 [cInt.av x0, cInt.av x1, cBool.av x2] [] (cTwo cInt cBool).dec =
      .bind (numIn x0) fun vb0 => .br (!vb0) (.ret ((0, false))) (.bind (numIn x1) fun vb1 => .br (!vb1) (.ret ((0, false))) (.br (x1 == 0) (.ret ((0, false))) (.br (rnOk (IntKind.i64.wrap (x0 * 65536)) x1 x2) (.bind (rnd (IntKind.i64.wrap (x0 * 65536)) x1 x2) fun vy2 => .ret (vy2)) (.fail)))) := by kernel_rfl
theorem c_num_Div (x0 : Int) (x1 : Int) (x2 : Bool) : Plain Try.prog 34 [cInt.enc x0, cInt.enc x1, cBool.enc x2] ((cTwo cInt cBool).enc (numDiv x0 x1 x2)) :=
  plain_of_tree (n := 200) (EnvOK.add s_num_In (EnvOK.add s_num_rounded EnvOK.nil)) Try.func34 (args := [cInt.av x0, cInt.av x1, cBool.av x2]) (by simp only [AV.vals, Cod.av_val]) (Nat.le_of_ble_eq_true (by kernel_rfl)) LFn.nil (cTwo cInt cBool) (by
    rw [t_num_Div]
    simp only [Tr.den]
    cases h0 : numIn x0 <;> cases h1 : numIn x1 <;> simp [numDiv, h0, h1]
    have b0 := numIn_iff.1 h0
    have b1 := numIn_iff.1 h1
    simp (disch := omega) only [IntWalk.i64_in]
    grind [rnOk, flOk])
theorem s_num_Div : Ev.Spec Try.prog 34 (F3 cInt cInt cBool (cTwo cInt cBool) numDiv) := spec3 (fun vs w => Try.call34 vs w) c_num_Div

/-! num.Root -/
theorem tl_num_Root_5 (t1 : Bool) (t6 : Int) (t7 : Int) (t8 : Int) :
    ev Try.prog (Env.add 19 (F1 cInt cBool numIn) Env.nil) Laws.nil 200 none (loopAt Try.f28 5) ((sc 44 [1, 6, 7, 8] (tCod 1 cBool (tCod 6 cInt (tCod 7 cInt (tCod 8 cInt tNil)))) rNil).enc ((t1, t6, t7, t8, ()), (()))) (backK (sc 44 [1, 6, 7, 8] (tCod 1 cBool (tCod 6 cInt (tCod 7 cInt (tCod 8 cInt tNil)))) rNil) (ocExit 0 (sc 44 [1, 6, 7] (tCod 1 cBool (tCod 6 cInt (tCod 7 cInt tNil))) rNil))) =
      .br (decide (t8 ≥ 0)) (.br (decide (0 ≤ t8)) (.br (decide (IntKind.i64.wrap (IntKind.i64.wrap (@Nat.cast Int _ (BitVec.ofInt 64 t7 ||| BitVec.ofInt 64 (IntKind.i64.wrap (1 * 2 ^ Min.min t8.toNat 64))).toNat) * IntKind.i64.wrap (@Nat.cast Int _ (BitVec.ofInt 64 t7 ||| BitVec.ofInt 64 (IntKind.i64.wrap (1 * 2 ^ Min.min t8.toNat 64))).toNat)) ≤ t6)) (.ret (Sum.inl ((t1, t6, IntKind.i64.wrap (@Nat.cast Int _ (BitVec.ofInt 64 t7 ||| BitVec.ofInt 64 (IntKind.i64.wrap (1 * 2 ^ Min.min t8.toNat 64))).toNat), IntKind.i64.wrap (t8 - 1), ()), ()))) (.ret (Sum.inl ((t1, t6, t7, IntKind.i64.wrap (t8 - 1), ()), ())))) (.fail)) (.ret (Sum.inr ((t1, t6, t7, ()), ()))) := by kernel_rfl
theorem ok_num_Root_5 : LOK Try.prog (LoopR.of (sc 44 [1, 6, 7, 8] (tCod 1 cBool (tCod 6 cInt (tCod 7 cInt (tCod 8 cInt tNil)))) rNil) (ocExit 0 (sc 44 [1, 6, 7] (tCod 1 cBool (tCod 6 cInt (tCod 7 cInt tNil))) rNil)) rootRun) (loopAt Try.f28 5) := by
  refine loop_ok (EnvOK.add s_num_In EnvOK.nil) (LFn.at (fn := Try.f28) LFn.nil 5) rootStep (n := 200) (fun x z h => ?_) rootRun_ok
  obtain ⟨⟨t1, t6, t7, t8, ⟨⟩⟩, ⟨⟩⟩ := x
  rw [tl_num_Root_5]
  rw [← h]
  simp only [den_br, den_bind, den_ret, den_fail, den_inl, den_inr, decide_eq_true_eq]
  simp only [rootStep, rootBit]
  by_cases h0 : 0 ≤ t8 <;> simp only [h0, if_true, if_false]
  split <;> rename_i hh <;> simp only [hh, if_true, if_false]
theorem t_num_Root (x0 : Int) (x1 : Bool) :
    evFn Try.prog (Env.add 19 (F1 cInt cBool numIn) Env.nil) (Laws.add 5 (LoopR.of (sc 44 [1, 6, 7, 8] (tCod 1 cBool (tCod 6 cInt (tCod 7 cInt (tCod 8 cInt tNil)))) rNil) (ocExit 0 (sc 44 [1, 6, 7] (tCod 1 cBool (tCod 6 cInt (tCod 7 cInt tNil))) rNil)) rootRun) Laws.nil) 200 Try.f28 [cInt.av x0, cBool.av x1] [] (cTwo cInt cBool).dec =
      .br (decide (x0 < 0)) (.ret ((0, false))) (.bind (numIn x0) fun vb0 => .br (!vb0) (.ret ((0, false))) (.get (rootRun ((x1, IntKind.i64.wrap (x0 * 65536), 0, 24, ()), ())) fun vy1 => .br (vy1.1.1) (.br (decide (IntKind.i64.wrap (vy1.1.2.2.1 * vy1.1.2.2.1) < vy1.1.2.1)) (.ret ((IntKind.i64.wrap (vy1.1.2.2.1 + 1), true))) (.ret ((vy1.1.2.2.1, true)))) (.ret ((vy1.1.2.2.1, true))))) := by kernel_rfl
theorem c_num_Root (x0 : Int) (x1 : Bool) : Plain Try.prog 28 [cInt.enc x0, cBool.enc x1] ((cTwo cInt cBool).enc (numRoot x0 x1)) :=
  plain_of_tree (n := 200) (EnvOK.add s_num_In EnvOK.nil) Try.func28 (args := [cInt.av x0, cBool.av x1]) (by simp only [AV.vals, Cod.av_val]) (Nat.le_of_ble_eq_true (by kernel_rfl)) (LFn.add (fn := Try.f28) (i := 5) (by kernel_rfl) ok_num_Root_5 LFn.nil) (cTwo cInt cBool) (by
    rw [t_num_Root]
    simp only [den_br, den_bind, den_ret, den_fail, den_inl, den_inr, decide_eq_true_eq]
    simp only [numRoot]
    by_cases h0 : x0 < 0
    · simp [h0]
    cases h1 : numIn x0
    · simp
    have b := numIn_iff.1 h1
    have e1 : IntKind.i64.wrap (x0 * 65536) = x0 * 65536 := IntWalk.i64_in _ (by omega)
    have s := isqrt_spec (n := x0 * 65536) (by omega) (by omega)
    have l := isqrt_le (n := x0 * 65536) (m := 8388608) (by omega) (by omega) (by omega) (by omega)
    have e2 : IntKind.i64.wrap (isqrt (x0 * 65536) * isqrt (x0 * 65536)) = isqrt (x0 * 65536) * isqrt (x0 * 65536) := IntWalk.i64_in _ (by have := Int.mul_nonneg s.1 s.1; omega)
    have e3 : IntKind.i64.wrap (isqrt (x0 * 65536) + 1) = isqrt (x0 * 65536) + 1 := IntWalk.i64_in _ (by omega)
    have hr : rootRun ((x1, IntKind.i64.wrap (x0 * 65536), 0, 24, ()), ()) = some ((x1, x0 * 65536, isqrt (x0 * 65536), ()), ()) := by
      rw [e1]; exact if_pos ⟨⟨rfl, rfl⟩, by omega, by omega⟩
    rw [hr]
    simp only [den_gets, Option.bind_some, den_br, den_ret, e2, e3, h0]
    cases x1 <;> simp
    split <;> rename_i hh <;> simp [hh])
theorem s_num_Root : Ev.Spec Try.prog 28 (F2 cInt cBool (cTwo cInt cBool) numRoot) := spec2 (fun vs w => Try.call28 vs w) c_num_Root

/-! iv.Right -/
theorem t_iv_Right (x0 : Iv) :
    evFn Try.prog (Env.add 19 (F1 cInt cBool numIn) Env.nil) Laws.nil 200 Try.f12 [cIv.av x0] [] cBool.dec =
      .br (!x0.no) (.bind (numIn x0.lo) fun vb0 => .br (vb0) (.bind (numIn x0.hi) fun vb1 => .br (vb1) (.ret (decide (x0.lo ≤ x0.hi))) (.ret (false))) (.ret (false))) (.ret (false)) := by kernel_rfl
theorem c_iv_Right (x0 : Iv) : Plain Try.prog 12 [cIv.enc x0] (cBool.enc (Iv.right x0)) :=
  plain_of_tree (n := 200) (EnvOK.add s_num_In EnvOK.nil) Try.func12 (args := [cIv.av x0]) (by simp only [AV.vals, Cod.av_val]) (Nat.le_of_ble_eq_true (by kernel_rfl)) LFn.nil cBool (by
    rw [t_iv_Right]
    simp only [Tr.den]
    grind [Iv.right])
theorem s_iv_Right : Ev.Spec Try.prog 12 (F1 cIv cBool Iv.right) := spec1 (fun vs w => Try.call12 vs w) c_iv_Right

/-! iv.None -/
theorem t_iv_None  :
    evFn Try.prog Env.nil Laws.nil 200 Try.f13 [] [] cIv.dec =
      .ret (Iv.mk 0 0 true) := by kernel_rfl
theorem c_iv_None  : Plain Try.prog 13 [] (cIv.enc (Iv.none)) :=
  plain_of_tree (n := 200) EnvOK.nil Try.func13 (args := []) rfl (Nat.le_of_ble_eq_true (by kernel_rfl)) LFn.nil cIv (by
    rw [t_iv_None]
    rfl)
theorem s_iv_None : Ev.Spec Try.prog 13 (F0 cIv Iv.none) := spec0 (fun vs w => Try.call13 vs w) c_iv_None

/-! iv.Of -/
theorem t_iv_Of (x0 : Int) (x1 : Int) :
    evFn Try.prog (Env.add 12 (F1 cIv cBool Iv.right) (Env.add 13 (F0 cIv Iv.none) Env.nil)) Laws.nil 200 Try.f20 [cInt.av x0, cInt.av x1] [] cIv.dec =
      .bind ((Iv.mk x0 x1 false).right) fun vb0 => .br (!vb0) (.bind (Iv.none) fun viv1 => .ret (viv1)) (.ret (Iv.mk x0 x1 false)) := by kernel_rfl
theorem c_iv_Of (x0 : Int) (x1 : Int) : Plain Try.prog 20 [cInt.enc x0, cInt.enc x1] (cIv.enc (Iv.of x0 x1)) :=
  plain_of_tree (n := 200) (EnvOK.add s_iv_Right (EnvOK.add s_iv_None EnvOK.nil)) Try.func20 (args := [cInt.av x0, cInt.av x1]) (by simp only [AV.vals, Cod.av_val]) (Nat.le_of_ble_eq_true (by kernel_rfl)) LFn.nil cIv (by
    rw [t_iv_Of]
    simp only [Tr.den]
    grind [Iv.of])
theorem s_iv_Of : Ev.Spec Try.prog 20 (F2 cInt cInt cIv Iv.of) := spec2 (fun vs w => Try.call20 vs w) c_iv_Of

/-! iv.Point -/
theorem t_iv_Point (x0 : Int) :
    evFn Try.prog (Env.add 20 (F2 cInt cInt cIv Iv.of) Env.nil) Laws.nil 200 Try.f9 [cInt.av x0] [] cIv.dec =
      .bind (Iv.of x0 x0) fun viv0 => .ret (viv0) := by kernel_rfl
theorem c_iv_Point (x0 : Int) : Plain Try.prog 9 [cInt.enc x0] (cIv.enc (Iv.point x0)) :=
  plain_of_tree (n := 200) (EnvOK.add s_iv_Of EnvOK.nil) Try.func9 (args := [cInt.av x0]) (by simp only [AV.vals, Cod.av_val]) (Nat.le_of_ble_eq_true (by kernel_rfl)) LFn.nil cIv (by
    rw [t_iv_Point]
    simp only [Tr.den]
    grind [Iv.point])
theorem s_iv_Point : Ev.Spec Try.prog 9 (F1 cInt cIv Iv.point) := spec1 (fun vs w => Try.call9 vs w) c_iv_Point

/-! iv.Whole -/
theorem t_iv_Whole (x0 : Int) :
    evFn Try.prog (Env.add 9 (F1 cInt cIv Iv.point) (Env.add 13 (F0 cIv Iv.none) (Env.add 19 (F1 cInt cBool numIn) Env.nil))) Laws.nil 200 Try.f8 [cInt.av x0] [] cIv.dec =
      .bind (numIn x0) fun vb0 => .br (!vb0) (.bind (Iv.none) fun viv1 => .ret (viv1)) (.bind (Iv.point (IntKind.i64.wrap (x0 * 65536))) fun viv2 => .ret (viv2)) := by kernel_rfl
theorem c_iv_Whole (x0 : Int) : Plain Try.prog 8 [cInt.enc x0] (cIv.enc (Iv.whole x0)) :=
  plain_of_tree (n := 200) (EnvOK.add s_iv_Point (EnvOK.add s_iv_None (EnvOK.add s_num_In EnvOK.nil))) Try.func8 (args := [cInt.av x0]) (by simp only [AV.vals, Cod.av_val]) (Nat.le_of_ble_eq_true (by kernel_rfl)) LFn.nil cIv (by
    rw [t_iv_Whole]
    simp only [Tr.den, Iv.whole]
    cases h0 : numIn x0 <;> simp
    have b0 := numIn_iff.1 h0
    simp (disch := omega) only [IntWalk.i64_in])
theorem s_iv_Whole : Ev.Spec Try.prog 8 (F1 cInt cIv Iv.whole) := spec1 (fun vs w => Try.call8 vs w) c_iv_Whole

/-! iv.both -/
theorem t_iv_both (x0 : Iv) (x1 : Iv) :
    evFn Try.prog (Env.add 12 (F1 cIv cBool Iv.right) Env.nil) Laws.nil 200 Try.f31 [cIv.av x0, cIv.av x1] [] cBool.dec =
      .bind (x0.right) fun vb0 => .br (vb0) (.bind (x1.right) fun vb1 => .ret (vb1)) (.ret (false)) := by kernel_rfl
theorem c_iv_both (x0 : Iv) (x1 : Iv) : Plain Try.prog 31 [cIv.enc x0, cIv.enc x1] (cBool.enc (Iv.both x0 x1)) :=
  plain_of_tree (n := 200) (EnvOK.add s_iv_Right EnvOK.nil) Try.func31 (args := [cIv.av x0, cIv.av x1]) (by simp only [AV.vals, Cod.av_val]) (Nat.le_of_ble_eq_true (by kernel_rfl)) LFn.nil cBool (by
    rw [t_iv_both]
    simp only [Tr.den]
    grind [Iv.both])
theorem s_iv_both : Ev.Spec Try.prog 31 (F2 cIv cIv cBool Iv.both) := spec2 (fun vs w => Try.call31 vs w) c_iv_both

/-! iv.Neg -/
theorem t_iv_Neg (x0 : Iv) :
    evFn Try.prog (Env.add 12 (F1 cIv cBool Iv.right) (Env.add 13 (F0 cIv Iv.none) (Env.add 20 (F2 cInt cInt cIv Iv.of) Env.nil))) Laws.nil 200 Try.f38 [cIv.av x0] [] cIv.dec =
      .bind (x0.right) fun vb0 => .br (!vb0) (.bind (Iv.none) fun viv1 => .ret (viv1)) (.bind (Iv.of (IntKind.i64.wrap (0 - x0.hi)) (IntKind.i64.wrap (0 - x0.lo))) fun viv2 => .ret (viv2)) := by kernel_rfl
theorem c_iv_Neg (x0 : Iv) : Plain Try.prog 38 [cIv.enc x0] (cIv.enc (Iv.neg x0)) :=
  plain_of_tree (n := 200) (EnvOK.add s_iv_Right (EnvOK.add s_iv_None (EnvOK.add s_iv_Of EnvOK.nil))) Try.func38 (args := [cIv.av x0]) (by simp only [AV.vals, Cod.av_val]) (Nat.le_of_ble_eq_true (by kernel_rfl)) LFn.nil cIv (by
    rw [t_iv_Neg]
    simp only [Tr.den, Iv.neg]
    cases h0 : x0.right <;> simp
    have b0 := right_bd h0
    simp (disch := omega) only [IntWalk.i64_in])
theorem s_iv_Neg : Ev.Spec Try.prog 38 (F1 cIv cIv Iv.neg) := spec1 (fun vs w => Try.call38 vs w) c_iv_Neg

/-! iv.Add -/
theorem t_iv_Add (x0 : Iv) (x1 : Iv) :
    evFn Try.prog (Env.add 13 (F0 cIv Iv.none) (Env.add 20 (F2 cInt cInt cIv Iv.of) (Env.add 31 (F2 cIv cIv cBool Iv.both) Env.nil))) Laws.nil 200 Try.f29 [cIv.av x0, cIv.av x1] [] cIv.dec =
      .bind (x0.both x1) fun vb0 => .br (!vb0) (.bind (Iv.none) fun viv1 => .ret (viv1)) (.bind (Iv.of (IntKind.i64.wrap (x0.lo + x1.lo)) (IntKind.i64.wrap (x0.hi + x1.hi))) fun viv2 => .ret (viv2)) := by kernel_rfl
theorem c_iv_Add (x0 : Iv) (x1 : Iv) : Plain Try.prog 29 [cIv.enc x0, cIv.enc x1] (cIv.enc (Iv.add x0 x1)) :=
  plain_of_tree (n := 200) (EnvOK.add s_iv_None (EnvOK.add s_iv_Of (EnvOK.add s_iv_both EnvOK.nil))) Try.func29 (args := [cIv.av x0, cIv.av x1]) (by simp only [AV.vals, Cod.av_val]) (Nat.le_of_ble_eq_true (by kernel_rfl)) LFn.nil cIv (by
    rw [t_iv_Add]
    simp only [Tr.den, Iv.add]
    cases h0 : Iv.both x0 x1 <;> simp
    simp [Iv.both] at h0
    have b0 := right_bd h0.1
    have b1 := right_bd h0.2
    simp (disch := omega) only [IntWalk.i64_in])
theorem s_iv_Add : Ev.Spec Try.prog 29 (F2 cIv cIv cIv Iv.add) := spec2 (fun vs w => Try.call29 vs w) c_iv_Add

/-! iv.Sub -/
theorem t_iv_Sub (x0 : Iv) (x1 : Iv) :
    evFn Try.prog (Env.add 29 (F2 cIv cIv cIv Iv.add) (Env.add 38 (F1 cIv cIv Iv.neg) Env.nil)) Laws.nil 200 Try.f23 [cIv.av x0, cIv.av x1] [] cIv.dec =
      .bind (x1.neg) fun viv0 => .bind (x0.add viv0) fun viv1 => .ret (viv1) := by kernel_rfl
theorem c_iv_Sub (x0 : Iv) (x1 : Iv) : Plain Try.prog 23 [cIv.enc x0, cIv.enc x1] (cIv.enc (Iv.sub x0 x1)) :=
  plain_of_tree (n := 200) (EnvOK.add s_iv_Add (EnvOK.add s_iv_Neg EnvOK.nil)) Try.func23 (args := [cIv.av x0, cIv.av x1]) (by simp only [AV.vals, Cod.av_val]) (Nat.le_of_ble_eq_true (by kernel_rfl)) LFn.nil cIv (by
    rw [t_iv_Sub]
    rfl)
theorem s_iv_Sub : Ev.Spec Try.prog 23 (F2 cIv cIv cIv Iv.sub) := spec2 (fun vs w => Try.call23 vs w) c_iv_Sub

/-! iv.Times -/
theorem t_iv_Times (x0 : Iv) (x1 : Int) :
    evFn Try.prog (Env.add 12 (F1 cIv cBool Iv.right) (Env.add 13 (F0 cIv Iv.none) (Env.add 19 (F1 cInt cBool numIn) (Env.add 20 (F2 cInt cInt cIv Iv.of) Env.nil)))) Laws.nil 200 Try.f57 [cIv.av x0, cInt.av x1] [] cIv.dec =
      .bind (x0.right) fun vb0 => .br (!vb0) (.bind (Iv.none) fun viv1 => .ret (viv1)) (.bind (numIn x1) fun vb2 => .br (!vb2) (.bind (Iv.none) fun viv3 => .ret (viv3)) (.bind (Iv.of (Min.min (IntKind.i64.wrap (x1 * x0.lo)) (IntKind.i64.wrap (x1 * x0.hi))) (Max.max (IntKind.i64.wrap (x1 * x0.lo)) (IntKind.i64.wrap (x1 * x0.hi)))) fun viv4 => .ret (viv4))) := by kernel_rfl
theorem c_iv_Times (x0 : Iv) (x1 : Int) : Plain Try.prog 57 [cIv.enc x0, cInt.enc x1] (cIv.enc (Iv.times x0 x1)) :=
  plain_of_tree (n := 200) (EnvOK.add s_iv_Right (EnvOK.add s_iv_None (EnvOK.add s_num_In (EnvOK.add s_iv_Of EnvOK.nil)))) Try.func57 (args := [cIv.av x0, cInt.av x1]) (by simp only [AV.vals, Cod.av_val]) (Nat.le_of_ble_eq_true (by kernel_rfl)) LFn.nil cIv (by
    rw [t_iv_Times]
    simp only [Tr.den, Iv.times]
    cases h0 : x0.right <;> cases h1 : numIn x1 <;> simp
    have b0 := right_bd h0
    have b1 := numIn_iff.1 h1
    have m1 := mul_bd x1 x0.lo h1 (numIn_iff.2 (by omega))
    have m2 := mul_bd x1 x0.hi h1 (numIn_iff.2 (by omega))
    simp (disch := omega) only [IntWalk.i64_in])
theorem s_iv_Times : Ev.Spec Try.prog 57 (F2 cIv cInt cIv Iv.times) := spec2 (fun vs w => Try.call57 vs w) c_iv_Times

/-! iv.Has -/
theorem t_iv_Has (x0 : Iv) (x1 : Int) :
    evFn Try.prog (Env.add 12 (F1 cIv cBool Iv.right) Env.nil) Laws.nil 200 Try.f32 [cIv.av x0, cInt.av x1] [] cBool.dec =
      .bind (x0.right) fun vb0 => .br (vb0) (.br (decide (x0.lo ≤ x1)) (.ret (decide (x1 ≤ x0.hi))) (.ret (false))) (.ret (false)) := by kernel_rfl
theorem c_iv_Has (x0 : Iv) (x1 : Int) : Plain Try.prog 32 [cIv.enc x0, cInt.enc x1] (cBool.enc (Iv.has x0 x1)) :=
  plain_of_tree (n := 200) (EnvOK.add s_iv_Right EnvOK.nil) Try.func32 (args := [cIv.av x0, cInt.av x1]) (by simp only [AV.vals, Cod.av_val]) (Nat.le_of_ble_eq_true (by kernel_rfl)) LFn.nil cBool (by
    rw [t_iv_Has]
    simp only [Tr.den]
    grind [Iv.has])
theorem s_iv_Has : Ev.Spec Try.prog 32 (F2 cIv cInt cBool Iv.has) := spec2 (fun vs w => Try.call32 vs w) c_iv_Has

/-! iv.ends -/
theorem t_iv_ends_mul (x0 : Unit) (x1 : Iv) (x2 : Iv) :
    evFn Try.prog (Env.add 13 (F0 cIv Iv.none) (Env.add 20 (F2 cInt cInt cIv Iv.of) (Env.add 40 (F3 cInt cInt cBool (cTwo cInt cBool) numMul) Env.nil))) Laws.nil 200 Try.f33 [(cFn 40).av x0, cIv.av x1, cIv.av x2] [] cIv.dec =
      .bind (numMul x1.lo x2.lo false) fun vy0 => .bind (numMul x1.lo x2.lo true) fun vy1 => .br (!vy0.2) (.bind (Iv.none) fun viv2 => .ret (viv2)) (.br (!vy1.2) (.bind (Iv.none) fun viv3 => .ret (viv3)) (.bind (Iv.of vy0.1 vy1.1) fun viv4 => .bind (Iv.of (Min.min viv4.lo vy0.1) (Max.max viv4.hi vy1.1)) fun viv5 => .bind (numMul x1.lo x2.hi false) fun vy6 => .bind (numMul x1.lo x2.hi true) fun vy7 => .br (!vy6.2) (.bind (Iv.none) fun viv8 => .ret (viv8)) (.br (!vy7.2) (.bind (Iv.none) fun viv9 => .ret (viv9)) (.bind (Iv.of (Min.min viv5.lo vy6.1) (Max.max viv5.hi vy7.1)) fun viv10 => .bind (numMul x1.hi x2.lo false) fun vy11 => .bind (numMul x1.hi x2.lo true) fun vy12 => .br (!vy11.2) (.bind (Iv.none) fun viv13 => .ret (viv13)) (.br (!vy12.2) (.bind (Iv.none) fun viv14 => .ret (viv14)) (.bind (Iv.of (Min.min viv10.lo vy11.1) (Max.max viv10.hi vy12.1)) fun viv15 => .bind (numMul x1.hi x2.hi false) fun vy16 => .bind (numMul x1.hi x2.hi true) fun vy17 => .br (!vy16.2) (.bind (Iv.none) fun viv18 => .ret (viv18)) (.br (!vy17.2) (.bind (Iv.none) fun viv19 => .ret (viv19)) (.bind (Iv.of (Min.min viv15.lo vy16.1) (Max.max viv15.hi vy17.1)) fun viv20 => .ret (viv20))))))))) := by kernel_rfl
theorem c_iv_ends_mul (x0 : Unit) (x1 : Iv) (x2 : Iv) : Plain Try.prog 33 [(cFn 40).enc x0, cIv.enc x1, cIv.enc x2] (cIv.enc (((fun (_ : Unit) a b => ends numMul a b)) x0 x1 x2)) :=
  plain_of_tree (n := 200) (EnvOK.add s_iv_None (EnvOK.add s_iv_Of (EnvOK.add s_num_Mul EnvOK.nil))) Try.func33 (args := [(cFn 40).av x0, cIv.av x1, cIv.av x2]) (by simp only [AV.vals, Cod.av_val]) (Nat.le_of_ble_eq_true (by kernel_rfl)) LFn.nil cIv (by
    rw [t_iv_ends_mul]
    simp only [den_br, den_bind, den_ret, den_fail, den_inl, den_inr, decide_eq_true_eq]
    exact ends_chain numMul_le x1 x2)
theorem s_iv_ends_mul : Ev.Spec Try.prog 33 (F3 (cFn 40) cIv cIv cIv ((fun (_ : Unit) a b => ends numMul a b))) := spec3 (fun vs w => Try.call33 vs w) c_iv_ends_mul

/-! iv.ends -/
theorem t_iv_ends_div (x0 : Unit) (x1 : Iv) (x2 : Iv) :
    evFn Try.prog (Env.add 13 (F0 cIv Iv.none) (Env.add 20 (F2 cInt cInt cIv Iv.of) (Env.add 34 (F3 cInt cInt cBool (cTwo cInt cBool) numDiv) Env.nil))) Laws.nil 200 Try.f33 [(cFn 34).av x0, cIv.av x1, cIv.av x2] [] cIv.dec =
      .bind (numDiv x1.lo x2.lo false) fun vy0 => .bind (numDiv x1.lo x2.lo true) fun vy1 => .br (!vy0.2) (.bind (Iv.none) fun viv2 => .ret (viv2)) (.br (!vy1.2) (.bind (Iv.none) fun viv3 => .ret (viv3)) (.bind (Iv.of vy0.1 vy1.1) fun viv4 => .bind (Iv.of (Min.min viv4.lo vy0.1) (Max.max viv4.hi vy1.1)) fun viv5 => .bind (numDiv x1.lo x2.hi false) fun vy6 => .bind (numDiv x1.lo x2.hi true) fun vy7 => .br (!vy6.2) (.bind (Iv.none) fun viv8 => .ret (viv8)) (.br (!vy7.2) (.bind (Iv.none) fun viv9 => .ret (viv9)) (.bind (Iv.of (Min.min viv5.lo vy6.1) (Max.max viv5.hi vy7.1)) fun viv10 => .bind (numDiv x1.hi x2.lo false) fun vy11 => .bind (numDiv x1.hi x2.lo true) fun vy12 => .br (!vy11.2) (.bind (Iv.none) fun viv13 => .ret (viv13)) (.br (!vy12.2) (.bind (Iv.none) fun viv14 => .ret (viv14)) (.bind (Iv.of (Min.min viv10.lo vy11.1) (Max.max viv10.hi vy12.1)) fun viv15 => .bind (numDiv x1.hi x2.hi false) fun vy16 => .bind (numDiv x1.hi x2.hi true) fun vy17 => .br (!vy16.2) (.bind (Iv.none) fun viv18 => .ret (viv18)) (.br (!vy17.2) (.bind (Iv.none) fun viv19 => .ret (viv19)) (.bind (Iv.of (Min.min viv15.lo vy16.1) (Max.max viv15.hi vy17.1)) fun viv20 => .ret (viv20))))))))) := by kernel_rfl
theorem c_iv_ends_div (x0 : Unit) (x1 : Iv) (x2 : Iv) : Plain Try.prog 33 [(cFn 34).enc x0, cIv.enc x1, cIv.enc x2] (cIv.enc (((fun (_ : Unit) a b => ends numDiv a b)) x0 x1 x2)) :=
  plain_of_tree (n := 200) (EnvOK.add s_iv_None (EnvOK.add s_iv_Of (EnvOK.add s_num_Div EnvOK.nil))) Try.func33 (args := [(cFn 34).av x0, cIv.av x1, cIv.av x2]) (by simp only [AV.vals, Cod.av_val]) (Nat.le_of_ble_eq_true (by kernel_rfl)) LFn.nil cIv (by
    rw [t_iv_ends_div]
    simp only [den_br, den_bind, den_ret, den_fail, den_inl, den_inr, decide_eq_true_eq]
    exact ends_chain numDiv_le x1 x2)
theorem s_iv_ends_div : Ev.Spec Try.prog 33 (F3 (cFn 34) cIv cIv cIv ((fun (_ : Unit) a b => ends numDiv a b))) := spec3 (fun vs w => Try.call33 vs w) c_iv_ends_div

/-! iv.Mul -/
theorem t_iv_Mul (x0 : Iv) (x1 : Iv) :
    evFn Try.prog (Env.add 13 (F0 cIv Iv.none) (Env.add 31 (F2 cIv cIv cBool Iv.both) (Env.add 33 (F3 (cFn 40) cIv cIv cIv ((fun (_ : Unit) a b => ends numMul a b))) (Env.add 33 (F3 (cFn 34) cIv cIv cIv ((fun (_ : Unit) a b => ends numDiv a b))) (Env.add 40 (F3 cInt cInt cBool (cTwo cInt cBool) numMul) Env.nil))))) Laws.nil 200 Try.f47 [cIv.av x0, cIv.av x1] [] cIv.dec =
      .bind (x0.both x1) fun vb0 => .br (!vb0) (.bind (Iv.none) fun viv1 => .ret (viv1)) (.bind (ends numMul x0 x1) fun viv2 => .ret (viv2)) := by kernel_rfl
theorem c_iv_Mul (x0 : Iv) (x1 : Iv) : Plain Try.prog 47 [cIv.enc x0, cIv.enc x1] (cIv.enc (Iv.mul x0 x1)) :=
  plain_of_tree (n := 200) (EnvOK.add s_iv_None (EnvOK.add s_iv_both (EnvOK.add s_iv_ends_mul (EnvOK.add s_iv_ends_div (EnvOK.add s_num_Mul EnvOK.nil))))) Try.func47 (args := [cIv.av x0, cIv.av x1]) (by simp only [AV.vals, Cod.av_val]) (Nat.le_of_ble_eq_true (by kernel_rfl)) LFn.nil cIv (by
    rw [t_iv_Mul]
    simp only [Tr.den]
    grind [Iv.mul])
theorem s_iv_Mul : Ev.Spec Try.prog 47 (F2 cIv cIv cIv Iv.mul) := spec2 (fun vs w => Try.call47 vs w) c_iv_Mul

/-! iv.Div -/
theorem t_iv_Div (x0 : Iv) (x1 : Iv) :
    evFn Try.prog (Env.add 13 (F0 cIv Iv.none) (Env.add 31 (F2 cIv cIv cBool Iv.both) (Env.add 32 (F2 cIv cInt cBool Iv.has) (Env.add 33 (F3 (cFn 40) cIv cIv cIv ((fun (_ : Unit) a b => ends numMul a b))) (Env.add 33 (F3 (cFn 34) cIv cIv cIv ((fun (_ : Unit) a b => ends numDiv a b))) (Env.add 34 (F3 cInt cInt cBool (cTwo cInt cBool) numDiv) Env.nil)))))) Laws.nil 200 Try.f18 [cIv.av x0, cIv.av x1] [] cIv.dec =
      .bind (x0.both x1) fun vb0 => .br (!vb0) (.bind (Iv.none) fun viv1 => .ret (viv1)) (.bind (x1.has 0) fun vb2 => .br (vb2) (.bind (Iv.none) fun viv3 => .ret (viv3)) (.bind (ends numDiv x0 x1) fun viv4 => .ret (viv4))) := by kernel_rfl
theorem c_iv_Div (x0 : Iv) (x1 : Iv) : Plain Try.prog 18 [cIv.enc x0, cIv.enc x1] (cIv.enc (Iv.div x0 x1)) :=
  plain_of_tree (n := 200) (EnvOK.add s_iv_None (EnvOK.add s_iv_both (EnvOK.add s_iv_Has (EnvOK.add s_iv_ends_mul (EnvOK.add s_iv_ends_div (EnvOK.add s_num_Div EnvOK.nil)))))) Try.func18 (args := [cIv.av x0, cIv.av x1]) (by simp only [AV.vals, Cod.av_val]) (Nat.le_of_ble_eq_true (by kernel_rfl)) LFn.nil cIv (by
    rw [t_iv_Div]
    simp only [den_br, den_bind, den_ret, den_fail, den_inl, den_inr, decide_eq_true_eq]
    simp only [Iv.div]
    cases Iv.both x0 x1 <;> cases Iv.has x1 0 <;> simp)
theorem s_iv_Div : Ev.Spec Try.prog 18 (F2 cIv cIv cIv Iv.div) := spec2 (fun vs w => Try.call18 vs w) c_iv_Div

/-! iv.Sqr -/
theorem t_iv_Sqr (x0 : Iv) :
    evFn Try.prog (Env.add 12 (F1 cIv cBool Iv.right) (Env.add 13 (F0 cIv Iv.none) (Env.add 20 (F2 cInt cInt cIv Iv.of) (Env.add 40 (F3 cInt cInt cBool (cTwo cInt cBool) numMul) Env.nil)))) Laws.nil 200 Try.f30 [cIv.av x0] [] cIv.dec =
      .bind (x0.right) fun vb0 => .br (!vb0) (.bind (Iv.none) fun viv1 => .ret (viv1)) (.bind (numMul (Max.max (IntKind.i64.wrap (0 - x0.lo)) x0.hi) (Max.max (IntKind.i64.wrap (0 - x0.lo)) x0.hi) true) fun vy2 => .bind (numMul (Max.max (Max.max x0.lo (IntKind.i64.wrap (0 - x0.hi))) 0) (Max.max (Max.max x0.lo (IntKind.i64.wrap (0 - x0.hi))) 0) false) fun vy3 => .br (!vy2.2) (.bind (Iv.none) fun viv4 => .ret (viv4)) (.bind (Iv.of vy3.1 vy2.1) fun viv5 => .ret (viv5))) := by kernel_rfl
theorem c_iv_Sqr (x0 : Iv) : Plain Try.prog 30 [cIv.enc x0] (cIv.enc (Iv.sqr x0)) :=
  plain_of_tree (n := 200) (EnvOK.add s_iv_Right (EnvOK.add s_iv_None (EnvOK.add s_iv_Of (EnvOK.add s_num_Mul EnvOK.nil)))) Try.func30 (args := [cIv.av x0]) (by simp only [AV.vals, Cod.av_val]) (Nat.le_of_ble_eq_true (by kernel_rfl)) LFn.nil cIv (by
    rw [t_iv_Sqr]
    simp only [Iv.sqr]
    cases h0 : x0.right
    · simp [Tr.den]
    have b0 := right_bd h0
    have e1 : IntKind.i64.wrap (-x0.lo) = -x0.lo := IntWalk.i64_in _ (by omega)
    have e2 : IntKind.i64.wrap (-x0.hi) = -x0.hi := IntWalk.i64_in _ (by omega)
    simp only [den_br, den_bind, den_ret, den_fail, e1, e2]
    grind)
theorem s_iv_Sqr : Ev.Spec Try.prog 30 (F1 cIv cIv Iv.sqr) := spec1 (fun vs w => Try.call30 vs w) c_iv_Sqr

/-! iv.Root -/
theorem t_iv_Root (x0 : Iv) :
    evFn Try.prog (Env.add 12 (F1 cIv cBool Iv.right) (Env.add 13 (F0 cIv Iv.none) (Env.add 20 (F2 cInt cInt cIv Iv.of) (Env.add 28 (F2 cInt cBool (cTwo cInt cBool) numRoot) Env.nil)))) Laws.nil 200 Try.f16 [cIv.av x0] [] cIv.dec =
      .bind (x0.right) fun vb0 => .br (!vb0) (.bind (Iv.none) fun viv1 => .ret (viv1)) (.br (decide (x0.lo < 0)) (.bind (Iv.none) fun viv2 => .ret (viv2)) (.bind (numRoot x0.lo false) fun vy3 => .bind (numRoot x0.hi true) fun vy4 => .bind (Iv.of vy3.1 vy4.1) fun viv5 => .ret (viv5))) := by kernel_rfl
theorem c_iv_Root (x0 : Iv) : Plain Try.prog 16 [cIv.enc x0] (cIv.enc (Iv.root x0)) :=
  plain_of_tree (n := 200) (EnvOK.add s_iv_Right (EnvOK.add s_iv_None (EnvOK.add s_iv_Of (EnvOK.add s_num_Root EnvOK.nil)))) Try.func16 (args := [cIv.av x0]) (by simp only [AV.vals, Cod.av_val]) (Nat.le_of_ble_eq_true (by kernel_rfl)) LFn.nil cIv (by
    rw [t_iv_Root]
    simp only [Iv.root, den_br, den_bind, den_ret, den_fail, decide_eq_true_eq]
    grind)
theorem s_iv_Root : Ev.Spec Try.prog 16 (F1 cIv cIv Iv.root) := spec1 (fun vs w => Try.call16 vs w) c_iv_Root

/-! iv.Meet -/
theorem t_iv_Meet (x0 : Iv) (x1 : Iv) :
    evFn Try.prog (Env.add 13 (F0 cIv Iv.none) (Env.add 20 (F2 cInt cInt cIv Iv.of) (Env.add 31 (F2 cIv cIv cBool Iv.both) Env.nil))) Laws.nil 200 Try.f65 [cIv.av x0, cIv.av x1] [] cIv.dec =
      .bind (x0.both x1) fun vb0 => .br (!vb0) (.bind (Iv.none) fun viv1 => .ret (viv1)) (.bind (Iv.of (Max.max x0.lo x1.lo) (Min.min x0.hi x1.hi)) fun viv2 => .ret (viv2)) := by kernel_rfl
theorem c_iv_Meet (x0 : Iv) (x1 : Iv) : Plain Try.prog 65 [cIv.enc x0, cIv.enc x1] (cIv.enc (Iv.meet x0 x1)) :=
  plain_of_tree (n := 200) (EnvOK.add s_iv_None (EnvOK.add s_iv_Of (EnvOK.add s_iv_both EnvOK.nil))) Try.func65 (args := [cIv.av x0, cIv.av x1]) (by simp only [AV.vals, Cod.av_val]) (Nat.le_of_ble_eq_true (by kernel_rfl)) LFn.nil cIv (by
    rw [t_iv_Meet]
    simp only [Tr.den]
    grind [Iv.meet])
theorem s_iv_Meet : Ev.Spec Try.prog 65 (F2 cIv cIv cIv Iv.meet) := spec2 (fun vs w => Try.call65 vs w) c_iv_Meet

/-! iv.Mid -/
theorem t_iv_Mid (x0 : Iv) :
    evFn Try.prog (Env.add 12 (F1 cIv cBool Iv.right) Env.nil) Laws.nil 200 Try.f64 [cIv.av x0] [] cInt.dec =
      .bind (x0.right) fun vb0 => .br (!vb0) (.ret (0)) (.br (decide (0 ≤ 1)) (.ret ((IntKind.i64.wrap (x0.lo + x0.hi)).fdiv (2 ^ Min.min (Int.toNat 1) 64))) (.fail)) := by kernel_rfl
theorem c_iv_Mid (x0 : Iv) : Plain Try.prog 64 [cIv.enc x0] (cInt.enc (Iv.mid x0)) :=
  plain_of_tree (n := 200) (EnvOK.add s_iv_Right EnvOK.nil) Try.func64 (args := [cIv.av x0]) (by simp only [AV.vals, Cod.av_val]) (Nat.le_of_ble_eq_true (by kernel_rfl)) LFn.nil cInt (by
    rw [t_iv_Mid]
    simp only [Iv.mid]
    cases h0 : x0.right
    · simp [Tr.den]
    have b0 := right_bd h0
    have e1 : IntKind.i64.wrap (x0.lo + x0.hi) = x0.lo + x0.hi := IntWalk.i64_in _ (by omega)
    simp only [Tr.den, e1, if_true]
    exact congrArg some (Int.fdiv_eq_ediv_of_nonneg _ (by decide)))
theorem s_iv_Mid : Ev.Spec Try.prog 64 (F1 cIv cInt Iv.mid) := spec1 (fun vs w => Try.call64 vs w) c_iv_Mid

/-! iv.Split -/
theorem t_iv_Split (x0 : Iv) :
    evFn Try.prog (Env.add 12 (F1 cIv cBool Iv.right) (Env.add 13 (F0 cIv Iv.none) (Env.add 20 (F2 cInt cInt cIv Iv.of) (Env.add 64 (F1 cIv cInt Iv.mid) Env.nil)))) Laws.nil 200 Try.f66 [cIv.av x0] [] (cTwo cIv cIv).dec =
      .bind (x0.right) fun vb0 => .br (!vb0) (.bind (Iv.none) fun viv1 => .bind (Iv.none) fun viv2 => .ret ((viv1, viv2))) (.bind (x0.mid) fun vn3 => .bind (Iv.of x0.lo vn3) fun viv4 => .bind (x0.mid) fun vn5 => .bind (Iv.of vn5 x0.hi) fun viv6 => .ret ((viv4, viv6))) := by kernel_rfl
theorem c_iv_Split (x0 : Iv) : Plain Try.prog 66 [cIv.enc x0] ((cTwo cIv cIv).enc (Iv.split x0)) :=
  plain_of_tree (n := 200) (EnvOK.add s_iv_Right (EnvOK.add s_iv_None (EnvOK.add s_iv_Of (EnvOK.add s_iv_Mid EnvOK.nil)))) Try.func66 (args := [cIv.av x0]) (by simp only [AV.vals, Cod.av_val]) (Nat.le_of_ble_eq_true (by kernel_rfl)) LFn.nil (cTwo cIv cIv) (by
    rw [t_iv_Split]
    simp only [Tr.den]
    grind [Iv.split])
theorem s_iv_Split : Ev.Spec Try.prog 66 (F1 cIv (cTwo cIv cIv) Iv.split) := spec1 (fun vs w => Try.call66 vs w) c_iv_Split

/-! vec.Of -/
theorem t_vec_Of (x0 : Iv) (x1 : Iv) (x2 : Iv) :
    evFn Try.prog Env.nil Laws.nil 200 Try.f7 [cIv.av x0, cIv.av x1, cIv.av x2] [] cV.dec =
      .ret (V.mk x0 x1 x2) := by kernel_rfl
theorem c_vec_Of (x0 : Iv) (x1 : Iv) (x2 : Iv) : Plain Try.prog 7 [cIv.enc x0, cIv.enc x1, cIv.enc x2] (cV.enc (V.mk x0 x1 x2)) :=
  plain_of_tree (n := 200) EnvOK.nil Try.func7 (args := [cIv.av x0, cIv.av x1, cIv.av x2]) (by simp only [AV.vals, Cod.av_val]) (Nat.le_of_ble_eq_true (by kernel_rfl)) LFn.nil cV (by
    rw [t_vec_Of]
    rfl)
theorem s_vec_Of : Ev.Spec Try.prog 7 (F3 cIv cIv cIv cV V.mk) := spec3 (fun vs w => Try.call7 vs w) c_vec_Of

/-! vec.Right -/
theorem t_vec_Right (x0 : V) :
    evFn Try.prog (Env.add 12 (F1 cIv cBool Iv.right) Env.nil) Laws.nil 200 Try.f52 [cV.av x0] [] cBool.dec =
      .bind (x0.x.right) fun vb0 => .br (vb0) (.bind (x0.y.right) fun vb1 => .br (vb1) (.bind (x0.z.right) fun vb2 => .ret (vb2)) (.ret (false))) (.ret (false)) := by kernel_rfl
theorem c_vec_Right (x0 : V) : Plain Try.prog 52 [cV.enc x0] (cBool.enc (V.right x0)) :=
  plain_of_tree (n := 200) (EnvOK.add s_iv_Right EnvOK.nil) Try.func52 (args := [cV.av x0]) (by simp only [AV.vals, Cod.av_val]) (Nat.le_of_ble_eq_true (by kernel_rfl)) LFn.nil cBool (by
    rw [t_vec_Right]
    simp only [Tr.den]
    grind [V.right])
theorem s_vec_Right : Ev.Spec Try.prog 52 (F1 cV cBool V.right) := spec1 (fun vs w => Try.call52 vs w) c_vec_Right

/-! vec.Add -/
theorem t_vec_Add (x0 : V) (x1 : V) :
    evFn Try.prog (Env.add 7 (F3 cIv cIv cIv cV V.mk) (Env.add 29 (F2 cIv cIv cIv Iv.add) Env.nil)) Laws.nil 200 Try.f36 [cV.av x0, cV.av x1] [] cV.dec =
      .bind (x0.x.add x1.x) fun viv0 => .bind (x0.y.add x1.y) fun viv1 => .bind (x0.z.add x1.z) fun viv2 => .bind (V.mk viv0 viv1 viv2) fun vv3 => .ret (vv3) := by kernel_rfl
theorem c_vec_Add (x0 : V) (x1 : V) : Plain Try.prog 36 [cV.enc x0, cV.enc x1] (cV.enc (V.add x0 x1)) :=
  plain_of_tree (n := 200) (EnvOK.add s_vec_Of (EnvOK.add s_iv_Add EnvOK.nil)) Try.func36 (args := [cV.av x0, cV.av x1]) (by simp only [AV.vals, Cod.av_val]) (Nat.le_of_ble_eq_true (by kernel_rfl)) LFn.nil cV (by
    rw [t_vec_Add]
    rfl)
theorem s_vec_Add : Ev.Spec Try.prog 36 (F2 cV cV cV V.add) := spec2 (fun vs w => Try.call36 vs w) c_vec_Add

/-! vec.Scale -/
theorem t_vec_Scale (x0 : V) (x1 : Iv) :
    evFn Try.prog (Env.add 7 (F3 cIv cIv cIv cV V.mk) (Env.add 47 (F2 cIv cIv cIv Iv.mul) Env.nil)) Laws.nil 200 Try.f37 [cV.av x0, cIv.av x1] [] cV.dec =
      .bind (x0.x.mul x1) fun viv0 => .bind (x0.y.mul x1) fun viv1 => .bind (x0.z.mul x1) fun viv2 => .bind (V.mk viv0 viv1 viv2) fun vv3 => .ret (vv3) := by kernel_rfl
theorem c_vec_Scale (x0 : V) (x1 : Iv) : Plain Try.prog 37 [cV.enc x0, cIv.enc x1] (cV.enc (V.scale x0 x1)) :=
  plain_of_tree (n := 200) (EnvOK.add s_vec_Of (EnvOK.add s_iv_Mul EnvOK.nil)) Try.func37 (args := [cV.av x0, cIv.av x1]) (by simp only [AV.vals, Cod.av_val]) (Nat.le_of_ble_eq_true (by kernel_rfl)) LFn.nil cV (by
    rw [t_vec_Scale]
    rfl)
theorem s_vec_Scale : Ev.Spec Try.prog 37 (F2 cV cIv cV V.scale) := spec2 (fun vs w => Try.call37 vs w) c_vec_Scale

/-! vec.Dot -/
theorem t_vec_Dot (x0 : V) (x1 : V) :
    evFn Try.prog (Env.add 29 (F2 cIv cIv cIv Iv.add) (Env.add 47 (F2 cIv cIv cIv Iv.mul) Env.nil)) Laws.nil 200 Try.f54 [cV.av x0, cV.av x1] [] cIv.dec =
      .bind (x0.x.mul x1.x) fun viv0 => .bind (x0.y.mul x1.y) fun viv1 => .bind (viv0.add viv1) fun viv2 => .bind (x0.z.mul x1.z) fun viv3 => .bind (viv2.add viv3) fun viv4 => .ret (viv4) := by kernel_rfl
theorem c_vec_Dot (x0 : V) (x1 : V) : Plain Try.prog 54 [cV.enc x0, cV.enc x1] (cIv.enc (V.dot x0 x1)) :=
  plain_of_tree (n := 200) (EnvOK.add s_iv_Add (EnvOK.add s_iv_Mul EnvOK.nil)) Try.func54 (args := [cV.av x0, cV.av x1]) (by simp only [AV.vals, Cod.av_val]) (Nat.le_of_ble_eq_true (by kernel_rfl)) LFn.nil cIv (by
    rw [t_vec_Dot]
    rfl)
theorem s_vec_Dot : Ev.Spec Try.prog 54 (F2 cV cV cIv V.dot) := spec2 (fun vs w => Try.call54 vs w) c_vec_Dot

/-! vec.Len2 -/
theorem t_vec_Len2 (x0 : V) :
    evFn Try.prog (Env.add 29 (F2 cIv cIv cIv Iv.add) (Env.add 30 (F1 cIv cIv Iv.sqr) Env.nil)) Laws.nil 200 Try.f17 [cV.av x0] [] cIv.dec =
      .bind (x0.x.sqr) fun viv0 => .bind (x0.y.sqr) fun viv1 => .bind (viv0.add viv1) fun viv2 => .bind (x0.z.sqr) fun viv3 => .bind (viv2.add viv3) fun viv4 => .ret (viv4) := by kernel_rfl
theorem c_vec_Len2 (x0 : V) : Plain Try.prog 17 [cV.enc x0] (cIv.enc (V.len2 x0)) :=
  plain_of_tree (n := 200) (EnvOK.add s_iv_Add (EnvOK.add s_iv_Sqr EnvOK.nil)) Try.func17 (args := [cV.av x0]) (by simp only [AV.vals, Cod.av_val]) (Nat.le_of_ble_eq_true (by kernel_rfl)) LFn.nil cIv (by
    rw [t_vec_Len2]
    rfl)
theorem s_vec_Len2 : Ev.Spec Try.prog 17 (F1 cV cIv V.len2) := spec1 (fun vs w => Try.call17 vs w) c_vec_Len2

/-! vec.Unit -/
theorem t_vec_Unit (x0 : V) :
    evFn Try.prog (Env.add 7 (F3 cIv cIv cIv cV V.mk) (Env.add 16 (F1 cIv cIv Iv.root) (Env.add 17 (F1 cV cIv V.len2) (Env.add 18 (F2 cIv cIv cIv Iv.div) Env.nil)))) Laws.nil 200 Try.f6 [cV.av x0] [] cV.dec =
      .bind (x0.len2) fun viv0 => .bind (viv0.root) fun viv1 => .bind (x0.x.div viv1) fun viv2 => .bind (x0.y.div viv1) fun viv3 => .bind (x0.z.div viv1) fun viv4 => .bind (V.mk viv2 viv3 viv4) fun vv5 => .ret (vv5) := by kernel_rfl
theorem c_vec_Unit (x0 : V) : Plain Try.prog 6 [cV.enc x0] (cV.enc (V.unit x0)) :=
  plain_of_tree (n := 200) (EnvOK.add s_vec_Of (EnvOK.add s_iv_Root (EnvOK.add s_vec_Len2 (EnvOK.add s_iv_Div EnvOK.nil)))) Try.func6 (args := [cV.av x0]) (by simp only [AV.vals, Cod.av_val]) (Nat.le_of_ble_eq_true (by kernel_rfl)) LFn.nil cV (by
    rw [t_vec_Unit]
    rfl)
theorem s_vec_Unit : Ev.Spec Try.prog 6 (F1 cV cV V.unit) := spec1 (fun vs w => Try.call6 vs w) c_vec_Unit

/-! vec.Along -/
theorem t_vec_Along (x0 : Ray) (x1 : Iv) :
    evFn Try.prog (Env.add 36 (F2 cV cV cV V.add) (Env.add 37 (F2 cV cIv cV V.scale) Env.nil)) Laws.nil 200 Try.f22 [cRay.av x0, cIv.av x1] [] cV.dec =
      .bind (x0.d.scale x1) fun vv0 => .bind (x0.o.add vv0) fun vv1 => .ret (vv1) := by kernel_rfl
theorem c_vec_Along (x0 : Ray) (x1 : Iv) : Plain Try.prog 22 [cRay.enc x0, cIv.enc x1] (cV.enc (along x0 x1)) :=
  plain_of_tree (n := 200) (EnvOK.add s_vec_Add (EnvOK.add s_vec_Scale EnvOK.nil)) Try.func22 (args := [cRay.av x0, cIv.av x1]) (by simp only [AV.vals, Cod.av_val]) (Nat.le_of_ble_eq_true (by kernel_rfl)) LFn.nil cV (by
    rw [t_vec_Along]
    rfl)
theorem s_vec_Along : Ev.Spec Try.prog 22 (F2 cRay cIv cV along) := spec2 (fun vs w => Try.call22 vs w) c_vec_Along

/-! tri.told -/
theorem t_tri_told (x0 : Bool) (x1 : Bool) :
    evFn Try.prog Env.nil Laws.nil 200 Try.f53 [cBool.av x0, cBool.av x1] [] cInt.dec =
      .br (x0) (.ret (1)) (.br (x1) (.ret (2)) (.ret (0))) := by kernel_rfl
theorem c_tri_told (x0 : Bool) (x1 : Bool) : Plain Try.prog 53 [cBool.enc x0, cBool.enc x1] (cInt.enc (told x0 x1)) :=
  plain_of_tree (n := 200) EnvOK.nil Try.func53 (args := [cBool.av x0, cBool.av x1]) (by simp only [AV.vals, Cod.av_val]) (Nat.le_of_ble_eq_true (by kernel_rfl)) LFn.nil cInt (by
    rw [t_tri_told]
    simp only [Tr.den]
    grind [told])
theorem s_tri_told : Ev.Spec Try.prog 53 (F2 cBool cBool cInt told) := spec2 (fun vs w => Try.call53 vs w) c_tri_told

/-! tri.NotAbove -/
theorem t_tri_NotAbove (x0 : Iv) (x1 : Iv) :
    evFn Try.prog (Env.add 12 (F1 cIv cBool Iv.right) (Env.add 53 (F2 cBool cBool cInt told) Env.nil)) Laws.nil 200 Try.f43 [cIv.av x0, cIv.av x1] [] cInt.dec =
      .bind (x0.right) fun vb0 => .br (!vb0) (.ret (0)) (.bind (x1.right) fun vb1 => .br (!vb1) (.ret (0)) (.bind (told (decide (x0.hi ≤ x1.lo)) (decide (x0.lo > x1.hi))) fun vn2 => .ret (vn2))) := by kernel_rfl
theorem c_tri_NotAbove (x0 : Iv) (x1 : Iv) : Plain Try.prog 43 [cIv.enc x0, cIv.enc x1] (cInt.enc (notAbove x0 x1)) :=
  plain_of_tree (n := 200) (EnvOK.add s_iv_Right (EnvOK.add s_tri_told EnvOK.nil)) Try.func43 (args := [cIv.av x0, cIv.av x1]) (by simp only [AV.vals, Cod.av_val]) (Nat.le_of_ble_eq_true (by kernel_rfl)) LFn.nil cInt (by
    rw [t_tri_NotAbove]
    simp only [Tr.den]
    grind [notAbove])
theorem s_tri_NotAbove : Ev.Spec Try.prog 43 (F2 cIv cIv cInt notAbove) := spec2 (fun vs w => Try.call43 vs w) c_tri_NotAbove

/-! quad.Near -/
theorem t_quad_Near (x0 : Iv) (x1 : Iv) (x2 : Iv) :
    evFn Try.prog (Env.add 13 (F0 cIv Iv.none) (Env.add 16 (F1 cIv cIv Iv.root) (Env.add 18 (F2 cIv cIv cIv Iv.div) (Env.add 23 (F2 cIv cIv cIv Iv.sub) (Env.add 30 (F1 cIv cIv Iv.sqr) (Env.add 47 (F2 cIv cIv cIv Iv.mul) Env.nil)))))) Laws.nil 200 Try.f58 [cIv.av x0, cIv.av x1, cIv.av x2] [] (cTwo cIv cInt).dec =
      .bind (x1.sqr) fun viv0 => .bind (x0.mul x2) fun viv1 => .bind (viv0.sub viv1) fun viv2 => .br (viv2.no) (.bind (Iv.none) fun viv3 => .ret ((viv3, 0))) (.br (decide (viv2.hi < 0)) (.bind (Iv.none) fun viv4 => .ret ((viv4, 2))) (.br (decide (viv2.lo < 0)) (.bind (Iv.none) fun viv5 => .ret ((viv5, 0))) (.bind (viv2.root) fun viv6 => .bind (viv6.sub x1) fun viv7 => .bind (x2.div viv7) fun viv8 => .br (viv8.no) (.bind (Iv.none) fun viv9 => .ret ((viv9, 0))) (.ret ((viv8, 1)))))) := by kernel_rfl
theorem c_quad_Near (x0 : Iv) (x1 : Iv) (x2 : Iv) : Plain Try.prog 58 [cIv.enc x0, cIv.enc x1, cIv.enc x2] ((cTwo cIv cInt).enc (near x0 x1 x2)) :=
  plain_of_tree (n := 200) (EnvOK.add s_iv_None (EnvOK.add s_iv_Root (EnvOK.add s_iv_Div (EnvOK.add s_iv_Sub (EnvOK.add s_iv_Sqr (EnvOK.add s_iv_Mul EnvOK.nil)))))) Try.func58 (args := [cIv.av x0, cIv.av x1, cIv.av x2]) (by simp only [AV.vals, Cod.av_val]) (Nat.le_of_ble_eq_true (by kernel_rfl)) LFn.nil (cTwo cIv cInt) (by
    rw [t_quad_Near]
    simp only [Tr.den]
    grind [near])
theorem s_quad_Near : Ev.Spec Try.prog 58 (F3 cIv cIv cIv (cTwo cIv cInt) near) := spec3 (fun vs w => Try.call58 vs w) c_quad_Near

/-! hit.round -/
theorem t_hit_round (x0 : Surf) (x1 : V) (x2 : V) :
    evFn Try.prog (Env.add 23 (F2 cIv cIv cIv Iv.sub) (Env.add 29 (F2 cIv cIv cIv Iv.add) (Env.add 30 (F1 cIv cIv Iv.sqr) (Env.add 47 (F2 cIv cIv cIv Iv.mul) (Env.add 57 (F2 cIv cInt cIv Iv.times) (Env.add 58 (F3 cIv cIv cIv (cTwo cIv cInt) near) Env.nil)))))) Laws.nil 200 Try.f49 [cSurf.av x0, cV.av x1, cV.av x2] [] (cTwo cIv cInt).dec =
      .bind (x2.x.sqr) fun viv0 => .bind (x2.y.sqr) fun viv1 => .bind (viv0.add viv1) fun viv2 => .bind (x2.z.sqr) fun viv3 => .bind (x0.conic.mul viv3) fun viv4 => .bind (viv2.add viv4) fun viv5 => .bind (x0.curve.mul viv5) fun viv6 => .bind (x1.x.mul x2.x) fun viv7 => .bind (x1.y.mul x2.y) fun viv8 => .bind (viv7.add viv8) fun viv9 => .bind (x1.z.mul x2.z) fun viv10 => .bind (x0.conic.mul viv10) fun viv11 => .bind (viv9.add viv11) fun viv12 => .bind (x0.curve.mul viv12) fun viv13 => .bind (viv13.sub x2.z) fun viv14 => .bind (x1.x.sqr) fun viv15 => .bind (x1.y.sqr) fun viv16 => .bind (viv15.add viv16) fun viv17 => .bind (x1.z.sqr) fun viv18 => .bind (x0.conic.mul viv18) fun viv19 => .bind (viv17.add viv19) fun viv20 => .bind (x0.curve.mul viv20) fun viv21 => .bind (x1.z.times 2) fun viv22 => .bind (viv21.sub viv22) fun viv23 => .bind (near viv6 viv14 viv23) fun vy24 => .ret (vy24) := by kernel_rfl
theorem c_hit_round (x0 : Surf) (x1 : V) (x2 : V) : Plain Try.prog 49 [cSurf.enc x0, cV.enc x1, cV.enc x2] ((cTwo cIv cInt).enc (hitRound x0 x1 x2)) :=
  plain_of_tree (n := 200) (EnvOK.add s_iv_Sub (EnvOK.add s_iv_Add (EnvOK.add s_iv_Sqr (EnvOK.add s_iv_Mul (EnvOK.add s_iv_Times (EnvOK.add s_quad_Near EnvOK.nil)))))) Try.func49 (args := [cSurf.av x0, cV.av x1, cV.av x2]) (by simp only [AV.vals, Cod.av_val]) (Nat.le_of_ble_eq_true (by kernel_rfl)) LFn.nil (cTwo cIv cInt) (by
    rw [t_hit_round]
    rfl)
theorem s_hit_round : Ev.Spec Try.prog 49 (F3 cSurf cV cV (cTwo cIv cInt) hitRound) := spec3 (fun vs w => Try.call49 vs w) c_hit_round

/-! hit.none -/
theorem t_hit_none (x0 : Int) :
    evFn Try.prog (Env.add 7 (F3 cIv cIv cIv cV V.mk) (Env.add 13 (F0 cIv Iv.none) Env.nil)) Laws.nil 200 Try.f51 [cInt.av x0] [] (cThree cIv cV cInt).dec =
      .bind (Iv.none) fun viv0 => .bind (V.mk viv0 viv0 viv0) fun vv1 => .ret ((viv0, vv1, x0)) := by kernel_rfl
theorem c_hit_none (x0 : Int) : Plain Try.prog 51 [cInt.enc x0] ((cThree cIv cV cInt).enc (((fun is => (Iv.none, V.none, is))) x0)) :=
  plain_of_tree (n := 200) (EnvOK.add s_vec_Of (EnvOK.add s_iv_None EnvOK.nil)) Try.func51 (args := [cInt.av x0]) (by simp only [AV.vals, Cod.av_val]) (Nat.le_of_ble_eq_true (by kernel_rfl)) LFn.nil (cThree cIv cV cInt) (by
    rw [t_hit_none]
    rfl)
theorem s_hit_none : Ev.Spec Try.prog 51 (F1 cInt (cThree cIv cV cInt) ((fun is => (Iv.none, V.none, is)))) := spec1 (fun vs w => Try.call51 vs w) c_hit_none

/-! snell.nones -/
theorem t_snell_nones  :
    evFn Try.prog (Env.add 7 (F3 cIv cIv cIv cV V.mk) (Env.add 13 (F0 cIv Iv.none) Env.nil)) Laws.nil 200 Try.f55 [] [] cV.dec =
      .bind (Iv.none) fun viv0 => .bind (Iv.none) fun viv1 => .bind (Iv.none) fun viv2 => .bind (V.mk viv0 viv1 viv2) fun vv3 => .ret (vv3) := by kernel_rfl
theorem c_snell_nones  : Plain Try.prog 55 [] (cV.enc (V.none)) :=
  plain_of_tree (n := 200) (EnvOK.add s_vec_Of (EnvOK.add s_iv_None EnvOK.nil)) Try.func55 (args := []) rfl (Nat.le_of_ble_eq_true (by kernel_rfl)) LFn.nil cV (by
    rw [t_snell_nones]
    rfl)
theorem s_snell_nones : Ev.Spec Try.prog 55 (F0 cV V.none) := spec0 (fun vs w => Try.call55 vs w) c_snell_nones

/-! step.nones -/
theorem t_step_nones  :
    evFn Try.prog (Env.add 7 (F3 cIv cIv cIv cV V.mk) (Env.add 13 (F0 cIv Iv.none) Env.nil)) Laws.nil 200 Try.f46 [] [] cRay.dec =
      .bind (Iv.none) fun viv0 => .bind (Iv.none) fun viv1 => .bind (Iv.none) fun viv2 => .bind (V.mk viv0 viv1 viv2) fun vv3 => .ret (Ray.mk vv3 vv3) := by kernel_rfl
theorem c_step_nones  : Plain Try.prog 46 [] (cRay.enc (Ray.none)) :=
  plain_of_tree (n := 200) (EnvOK.add s_vec_Of (EnvOK.add s_iv_None EnvOK.nil)) Try.func46 (args := []) rfl (Nat.le_of_ble_eq_true (by kernel_rfl)) LFn.nil cRay (by
    rw [t_step_nones]
    rfl)
theorem s_step_nones : Ev.Spec Try.prog 46 (F0 cRay Ray.none) := spec0 (fun vs w => Try.call46 vs w) c_step_nones

/-! snell.Bend -/
theorem t_snell_Bend (x0 : V) (x1 : V) (x2 : Iv) :
    evFn Try.prog (Env.add 9 (F1 cInt cIv Iv.point) (Env.add 16 (F1 cIv cIv Iv.root) (Env.add 23 (F2 cIv cIv cIv Iv.sub) (Env.add 30 (F1 cIv cIv Iv.sqr) (Env.add 36 (F2 cV cV cV V.add) (Env.add 37 (F2 cV cIv cV V.scale) (Env.add 47 (F2 cIv cIv cIv Iv.mul) (Env.add 52 (F1 cV cBool V.right) (Env.add 54 (F2 cV cV cIv V.dot) (Env.add 55 (F0 cV V.none) Env.nil)))))))))) Laws.nil 200 Try.f44 [cV.av x0, cV.av x1, cIv.av x2] [] (cTwo cV cInt).dec =
      .bind (Iv.point 65536) fun viv0 => .bind (x0.dot x1) fun viv1 => .br (viv1.no) (.bind (V.none) fun vv2 => .ret ((vv2, 0))) (.br (decide (viv1.lo ≤ 0)) (.bind (V.none) fun vv3 => .ret ((vv3, 0))) (.bind (x2.sqr) fun viv4 => .bind (viv1.sqr) fun viv5 => .bind (viv0.sub viv5) fun viv6 => .bind (viv4.mul viv6) fun viv7 => .bind (viv0.sub viv7) fun viv8 => .br (viv8.no) (.bind (V.none) fun vv9 => .ret ((vv9, 0))) (.br (decide (viv8.hi < 0)) (.bind (V.none) fun vv10 => .ret ((vv10, 2))) (.br (decide (viv8.lo < 0)) (.bind (V.none) fun vv11 => .ret ((vv11, 0))) (.bind (x0.scale x2) fun vv12 => .bind (viv8.root) fun viv13 => .bind (x2.mul viv1) fun viv14 => .bind (viv13.sub viv14) fun viv15 => .bind (x1.scale viv15) fun vv16 => .bind (vv12.add vv16) fun vv17 => .bind (vv17.right) fun vb18 => .br (!vb18) (.bind (V.none) fun vv19 => .ret ((vv19, 0))) (.ret ((vv17, 1)))))))) := by kernel_rfl
theorem c_snell_Bend (x0 : V) (x1 : V) (x2 : Iv) : Plain Try.prog 44 [cV.enc x0, cV.enc x1, cIv.enc x2] ((cTwo cV cInt).enc (bend x0 x1 x2)) :=
  plain_of_tree (n := 200) (EnvOK.add s_iv_Point (EnvOK.add s_iv_Root (EnvOK.add s_iv_Sub (EnvOK.add s_iv_Sqr (EnvOK.add s_vec_Add (EnvOK.add s_vec_Scale (EnvOK.add s_iv_Mul (EnvOK.add s_vec_Right (EnvOK.add s_vec_Dot (EnvOK.add s_snell_nones EnvOK.nil)))))))))) Try.func44 (args := [cV.av x0, cV.av x1, cIv.av x2]) (by simp only [AV.vals, Cod.av_val]) (Nat.le_of_ble_eq_true (by kernel_rfl)) LFn.nil (cTwo cV cInt) (by
    rw [t_snell_Bend]
    simp only [den_br, den_bind, den_ret, den_fail, den_inl, den_inr, decide_eq_true_eq]
    grind [bend])
theorem s_snell_Bend : Ev.Spec Try.prog 44 (F3 cV cV cIv (cTwo cV cInt) bend) := spec3 (fun vs w => Try.call44 vs w) c_snell_Bend

/-! sag.round -/
theorem t_sag_round (x0 : Surf) (x1 : Iv) :
    evFn Try.prog (Env.add 9 (F1 cInt cIv Iv.point) (Env.add 16 (F1 cIv cIv Iv.root) (Env.add 18 (F2 cIv cIv cIv Iv.div) (Env.add 23 (F2 cIv cIv cIv Iv.sub) (Env.add 29 (F2 cIv cIv cIv Iv.add) (Env.add 30 (F1 cIv cIv Iv.sqr) (Env.add 47 (F2 cIv cIv cIv Iv.mul) (Env.add 57 (F2 cIv cInt cIv Iv.times) Env.nil)))))))) Laws.nil 200 Try.f61 [cSurf.av x0, cIv.av x1] [] (cTwo cIv cIv).dec =
      .bind (Iv.point 65536) fun viv0 => .bind (x0.curve.sqr) fun viv1 => .bind (x0.conic.mul viv1) fun viv2 => .bind (viv2.mul x1) fun viv3 => .bind (viv0.sub viv3) fun viv4 => .bind (viv4.root) fun viv5 => .bind (x0.curve.mul x1) fun viv6 => .bind (viv0.add viv5) fun viv7 => .bind (viv6.div viv7) fun viv8 => .bind (viv5.times 2) fun viv9 => .bind (x0.curve.div viv9) fun viv10 => .ret ((viv8, viv10)) := by kernel_rfl
theorem c_sag_round (x0 : Surf) (x1 : Iv) : Plain Try.prog 61 [cSurf.enc x0, cIv.enc x1] ((cTwo cIv cIv).enc (sagRound x0 x1)) :=
  plain_of_tree (n := 200) (EnvOK.add s_iv_Point (EnvOK.add s_iv_Root (EnvOK.add s_iv_Div (EnvOK.add s_iv_Sub (EnvOK.add s_iv_Add (EnvOK.add s_iv_Sqr (EnvOK.add s_iv_Mul (EnvOK.add s_iv_Times EnvOK.nil)))))))) Try.func61 (args := [cSurf.av x0, cIv.av x1]) (by simp only [AV.vals, Cod.av_val]) (Nat.le_of_ble_eq_true (by kernel_rfl)) LFn.nil (cTwo cIv cIv) (by
    rw [t_sag_round]
    rfl)
theorem s_sag_round : Ev.Spec Try.prog 61 (F2 cSurf cIv (cTwo cIv cIv) sagRound) := spec2 (fun vs w => Try.call61 vs w) c_sag_round

/-! meniscushand.Pick -/
theorem t_meniscushand_Pick (x0 : Int) (x1 : Int) :
    evFn Try.prog Env.nil Laws.nil 200 Try.f5 [cInt.av x0, cInt.av x1] [] cInt.dec =
      .br (x1 != 0) (.br (decide (x0.tmod x1 < 0)) (.ret (IntKind.i64.wrap (x0.tmod x1 + x1))) (.ret (x0.tmod x1))) (.fail) := by kernel_rfl
theorem c_meniscushand_Pick (x0 : Int) (x1 : Int) (h : pickOk x0 x1 = true) : Plain Try.prog 5 [cInt.enc x0, cInt.enc x1] (cInt.enc (pick x0 x1)) :=
  plain_of_tree (n := 200) EnvOK.nil Try.func5 (args := [cInt.av x0, cInt.av x1]) (by simp only [AV.vals, Cod.av_val]) (Nat.le_of_ble_eq_true (by kernel_rfl)) LFn.nil cInt (by
    rw [t_meniscushand_Pick]
    simp [pickOk] at h
    have p := tmod_pick x0 h.1
    have hne : (x1 != 0) = true := by simp; omega
    simp only [Tr.den, hne]
    by_cases hlt : x0.tmod x1 < 0
    · simp only [hlt, decide_true]
      rw [IntWalk.i64_in _ (by omega), p.1 hlt]
    · simp only [hlt, decide_false]
      rw [p.2.1 (by omega)])
theorem s_meniscushand_Pick : Ev.Spec Try.prog 5 (F2p cInt cInt cInt pickOk pick) := spec2p (fun vs w => Try.call5 vs w) c_meniscushand_Pick

/-! meniscusref1.In -/
theorem t_meniscusref1_In (x0 : Int) :
    evFn Try.prog Env.nil Laws.nil 200 Try.f25 [cInt.av x0] [] cBool.dec =
      .br (decide (x0 ≥ -1073741824)) (.ret (decide (x0 ≤ 1073741824))) (.ret (false)) := by kernel_rfl
theorem c_meniscusref1_In (x0 : Int) : Plain Try.prog 25 [cInt.enc x0] (cBool.enc (numIn x0)) :=
  plain_of_tree (n := 200) EnvOK.nil Try.func25 (args := [cInt.av x0]) (by simp only [AV.vals, Cod.av_val]) (Nat.le_of_ble_eq_true (by kernel_rfl)) LFn.nil cBool (by
    rw [t_meniscusref1_In]
    simp only [Tr.den]
    grind [numIn])
theorem s_meniscusref1_In : Ev.Spec Try.prog 25 (F1 cInt cBool numIn) := spec1 (fun vs w => Try.call25 vs w) c_meniscusref1_In

/-! meniscusref1.Right -/
theorem t_meniscusref1_Right (x0 : Iv) :
    evFn Try.prog (Env.add 25 (F1 cInt cBool numIn) Env.nil) Laws.nil 200 Try.f39 [cIv.av x0] [] cBool.dec =
      .br (!x0.no) (.bind (numIn x0.lo) fun vb0 => .br (vb0) (.bind (numIn x0.hi) fun vb1 => .br (vb1) (.ret (decide (x0.lo ≤ x0.hi))) (.ret (false))) (.ret (false))) (.ret (false)) := by kernel_rfl
theorem c_meniscusref1_Right (x0 : Iv) : Plain Try.prog 39 [cIv.enc x0] (cBool.enc (Iv.right x0)) :=
  plain_of_tree (n := 200) (EnvOK.add s_meniscusref1_In EnvOK.nil) Try.func39 (args := [cIv.av x0]) (by simp only [AV.vals, Cod.av_val]) (Nat.le_of_ble_eq_true (by kernel_rfl)) LFn.nil cBool (by
    rw [t_meniscusref1_Right]
    simp only [Tr.den]
    grind [Iv.right])
theorem s_meniscusref1_Right : Ev.Spec Try.prog 39 (F1 cIv cBool Iv.right) := spec1 (fun vs w => Try.call39 vs w) c_meniscusref1_Right

/-! meniscusref1.None -/
theorem t_meniscusref1_None  :
    evFn Try.prog Env.nil Laws.nil 200 Try.f26 [] [] cIv.dec =
      .ret (Iv.mk 0 0 true) := by kernel_rfl
theorem c_meniscusref1_None  : Plain Try.prog 26 [] (cIv.enc (Iv.none)) :=
  plain_of_tree (n := 200) EnvOK.nil Try.func26 (args := []) rfl (Nat.le_of_ble_eq_true (by kernel_rfl)) LFn.nil cIv (by
    rw [t_meniscusref1_None]
    rfl)
theorem s_meniscusref1_None : Ev.Spec Try.prog 26 (F0 cIv Iv.none) := spec0 (fun vs w => Try.call26 vs w) c_meniscusref1_None

/-! meniscusref1.Of -/
theorem t_meniscusref1_Of (x0 : Int) (x1 : Int) :
    evFn Try.prog (Env.add 26 (F0 cIv Iv.none) (Env.add 39 (F1 cIv cBool Iv.right) Env.nil)) Laws.nil 200 Try.f27 [cInt.av x0, cInt.av x1] [] cIv.dec =
      .bind ((Iv.mk x0 x1 false).right) fun vb0 => .br (!vb0) (.bind (Iv.none) fun viv1 => .ret (viv1)) (.ret (Iv.mk x0 x1 false)) := by kernel_rfl
theorem c_meniscusref1_Of (x0 : Int) (x1 : Int) : Plain Try.prog 27 [cInt.enc x0, cInt.enc x1] (cIv.enc (Iv.of x0 x1)) :=
  plain_of_tree (n := 200) (EnvOK.add s_meniscusref1_None (EnvOK.add s_meniscusref1_Right EnvOK.nil)) Try.func27 (args := [cInt.av x0, cInt.av x1]) (by simp only [AV.vals, Cod.av_val]) (Nat.le_of_ble_eq_true (by kernel_rfl)) LFn.nil cIv (by
    rw [t_meniscusref1_Of]
    simp only [Tr.den]
    grind [Iv.of])
theorem s_meniscusref1_Of : Ev.Spec Try.prog 27 (F2 cInt cInt cIv Iv.of) := spec2 (fun vs w => Try.call27 vs w) c_meniscusref1_Of

/-! meniscusref1.Point -/
theorem t_meniscusref1_Point (x0 : Int) :
    evFn Try.prog (Env.add 27 (F2 cInt cInt cIv Iv.of) Env.nil) Laws.nil 200 Try.f15 [cInt.av x0] [] cIv.dec =
      .bind (Iv.of x0 x0) fun viv0 => .ret (viv0) := by kernel_rfl
theorem c_meniscusref1_Point (x0 : Int) : Plain Try.prog 15 [cInt.enc x0] (cIv.enc (Iv.point x0)) :=
  plain_of_tree (n := 200) (EnvOK.add s_meniscusref1_Of EnvOK.nil) Try.func15 (args := [cInt.av x0]) (by simp only [AV.vals, Cod.av_val]) (Nat.le_of_ble_eq_true (by kernel_rfl)) LFn.nil cIv (by
    rw [t_meniscusref1_Point]
    simp only [Tr.den]
    grind [Iv.point])
theorem s_meniscusref1_Point : Ev.Spec Try.prog 15 (F1 cInt cIv Iv.point) := spec1 (fun vs w => Try.call15 vs w) c_meniscusref1_Point

/-! meniscusref1.Whole -/
theorem t_meniscusref1_Whole (x0 : Int) :
    evFn Try.prog (Env.add 15 (F1 cInt cIv Iv.point) (Env.add 25 (F1 cInt cBool numIn) (Env.add 26 (F0 cIv Iv.none) Env.nil))) Laws.nil 200 Try.f14 [cInt.av x0] [] cIv.dec =
      .bind (numIn x0) fun vb0 => .br (!vb0) (.bind (Iv.none) fun viv1 => .ret (viv1)) (.bind (Iv.point (IntKind.i64.wrap (x0 * 65536))) fun viv2 => .ret (viv2)) := by kernel_rfl
theorem c_meniscusref1_Whole (x0 : Int) : Plain Try.prog 14 [cInt.enc x0] (cIv.enc (Iv.whole x0)) :=
  plain_of_tree (n := 200) (EnvOK.add s_meniscusref1_Point (EnvOK.add s_meniscusref1_In (EnvOK.add s_meniscusref1_None EnvOK.nil))) Try.func14 (args := [cInt.av x0]) (by simp only [AV.vals, Cod.av_val]) (Nat.le_of_ble_eq_true (by kernel_rfl)) LFn.nil cIv (by
    rw [t_meniscusref1_Whole]
    simp only [Tr.den, Iv.whole]
    cases h0 : numIn x0 <;> simp
    have b0 := numIn_iff.1 h0
    simp (disch := omega) only [IntWalk.i64_in])
theorem s_meniscusref1_Whole : Ev.Spec Try.prog 14 (F1 cInt cIv Iv.whole) := spec1 (fun vs w => Try.call14 vs w) c_meniscusref1_Whole

/-! poly.Slope -/
theorem tl_poly_Slope_3 (t8 : Int) (t7 : Int) (r0 : List Iv) (r1 : List Iv) :
    ev Try.prog (Env.add 57 (F2 cIv cInt cIv Iv.times) Env.nil) Laws.nil 200 none (loopAt Try.f63 3) ((sc 23 [8, 7, 6, 3] (tCod 8 cInt (tCod 7 cInt (tSl 6 0 (tSl 3 1 tNil)))) (rL_iv (rG_iv 25 rNil))).enc ((t8, t7, ()), (r0, r1, ()))) (backK (sc 23 [8, 7, 6, 3] (tCod 8 cInt (tCod 7 cInt (tSl 6 0 (tSl 3 1 tNil)))) (rL_iv (rG_iv 25 rNil))) (ocExit 0 (sc 23 [3] (tSl 3 0 tNil) (rG_iv 25 rNil)))) =
      .br (decide (t8 < t7)) (.br (decide (0 ≤ t8 ∧ t8 < (@Nat.cast Int _ r0.length))) (.get (r0[t8.toNat]?) fun vt0 => .br (decide (t8 > 0)) (.bind (Iv.times vt0 t8) fun viv1 => .br (Ev.lenOk (r1 ++ [viv1])) (.ret (Sum.inl ((IntKind.i64.wrap (t8 + 1), t7, ()), r0, r1 ++ [viv1], ()))) (.fail)) (.ret (Sum.inl ((IntKind.i64.wrap (t8 + 1), t7, ()), r0, r1, ())))) (.fail)) (.ret (Sum.inr ((), r1, ()))) := by kernel_rfl
theorem ok_poly_Slope_3 : LOK Try.prog (LoopR.of (sc 23 [8, 7, 6, 3] (tCod 8 cInt (tCod 7 cInt (tSl 6 0 (tSl 3 1 tNil)))) (rL_iv (rG_iv 25 rNil))) (ocExit 0 (sc 23 [3] (tSl 3 0 tNil) (rG_iv 25 rNil))) slope2Run) (loopAt Try.f63 3) := by
  refine loop_ok (EnvOK.add s_iv_Times EnvOK.nil) (LFn.at (fn := Try.f63) LFn.nil 3) slope2Step (n := 200) (fun x z h => ?_) slope2Run_ok
  obtain ⟨⟨t8, t7, ⟨⟩⟩, ⟨r0, r1, ⟨⟩⟩⟩ := x
  rw [tl_poly_Slope_3]
  rw [← h]
  simp only [den_br, den_bind, den_ret, den_fail, den_inl, den_inr, decide_eq_true_eq]
  simp only [slope2Step]
  by_cases h0 : t8 < t7 <;> simp only [h0, if_true, if_false]
  by_cases h1 : 0 ≤ t8 ∧ t8 < (r0.length : Int) <;> simp only [h1, if_true, if_false, and_self]
  cases hg : r0[t8.toNat]? with
  | none => rfl
  | some a =>
    by_cases h2 : 0 < t8 <;> simp only [den_get, den_br, den_bind, den_ret, den_fail, gt_iff_lt, h2, decide_true, decide_false, if_true, if_false, Bool.false_eq_true]
theorem t_poly_Slope (r0 : List Iv) :
    evFnR Try.prog (Env.add 57 (F2 cIv cInt cIv Iv.times) Env.nil) (Laws.add 3 (LoopR.of (sc 23 [8, 7, 6, 3] (tCod 8 cInt (tCod 7 cInt (tSl 6 0 (tSl 3 1 tNil)))) (rL_iv (rG_iv 25 rNil))) (ocExit 0 (sc 23 [3] (tSl 3 0 tNil) (rG_iv 25 rNil))) slope2Run) Laws.nil) 200 Try.f63 (((sc 1 [0] (tSl 0 0 tNil) (rL_iv rNil)).enc ((()), (r0, ()))).tmps.map Prod.snd) ((sc 1 [0] (tSl 0 0 tNil) (rL_iv rNil)).enc ((()), (r0, ()))).mem (sc 1 [0] (tSl 0 0 tNil) (rG_iv 25 rNil)).ts (sc 1 [0] (tSl 0 0 tNil) (rG_iv 25 rNil)).dec =
      .get (slope2Run ((0, (@Nat.cast Int _ r0.length), ()), r0, [], ())) fun vy0 => .ret (((), vy0.2.1, ())) := by kernel_rfl
theorem c_poly_Slope : PlainR Try.prog 63 (sc 1 [0] (tSl 0 0 tNil) (rL_iv rNil)) (sc 1 [0] (tSl 0 0 tNil) (rG_iv 25 rNil)) (fun x => lenOk x.2.1) ((fun x => (((), (slope x.2.1, ()))))) := by
  intro x h N w vs hM hv
  obtain ⟨⟨⟩, ⟨r0, ⟨⟩⟩⟩ := x
  refine calls_of_treeR (n := 200) (EnvOK.add s_iv_Times EnvOK.nil) Try.func63 hv (Nat.le_of_ble_eq_true (by kernel_rfl)) (LFn.add (fn := Try.f63) (i := 3) (by kernel_rfl) ok_poly_Slope_3 LFn.nil) hM (sc 1 [0] (tSl 0 0 tNil) (rG_iv 25 rNil)) rfl ?_
  rw [t_poly_Slope]
  simp only [den_br, den_bind, den_ret, den_fail, den_inl, den_inr, decide_eq_true_eq]
  simp at h
  have hl := lenOk_iff.1 h
  have hr : slope2Run ((0, (r0.length : Int), ()), (r0, [], ())) = some ((), (slope r0, ())) := by
    refine (if_pos ⟨by omega, hl, by simp⟩).trans ?_
    rw [← slope_go]; rfl
  rw [hr]
  rfl
theorem s_poly_Slope : Ev.Spec Try.prog 63 (FR (sc 1 [0] (tSl 0 0 tNil) (rL_iv rNil)) (sc 1 [0] (tSl 0 0 tNil) (rG_iv 25 rNil)) (fun x => lenOk x.2.1) ((fun x => (((), (slope x.2.1, ())))))) := specR rfl (fun _ => rfl) (fun vs w => Try.call63 vs w) c_poly_Slope
end Go.Proofs.Ytapbnhnofcbkdaa
