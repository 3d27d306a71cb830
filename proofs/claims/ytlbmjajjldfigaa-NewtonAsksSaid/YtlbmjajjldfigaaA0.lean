/-
  Contracts of calls, written by a small program of this session out of the evaluator's trees.
-/
import Derived.Test.YtlbmjajjldfigaaCore
import Derived.Test.YtlbmjajjldfigaaCoreLoops
import Derived.Test.YtlbmjajjldfigaaCore2
import Derived.Test.YtlbmjajjldfigaaCore3
import Derived.Test.YtlbmjajjldfigaaCore4
import Derived.Test.YtlbmjajjldfigaaCore9
import Derived.Test.YtlbmjajjldfigaaEvMore
import Derived.Test.YtlbmjajjldfigaaEvIn2
import Derived.Test.YtlbmjajjldfigaaAskN
import Derived.Test.YtlbmjajjldfigaaEvCod
import Derived.Test.YtlbmjajjldfigaaEvRet
import Derived.Test.YtlbmjajjldfigaaProg
namespace Go.Proofs.Ytlbmjajjldfigaa
open Go Go.RowKit Ev
set_option maxRecDepth 100000
set_option linter.unusedVariables false
set_option linter.unusedSimpArgs false

/-! num.In -/
theorem t_num_In (x0 : Int) :
    evFn Try.prog Env.nil Laws.nil 200 Try.f54 [cInt.av x0] [] cBool.dec =
      .br (decide (x0 ≥ -1073741824)) (.ret (decide (x0 ≤ 1073741824))) (.ret (false)) := by kernel_rfl
theorem c_num_In (x0 : Int) : Plain Try.prog 54 [cInt.enc x0] (cBool.enc (numIn x0)) :=
  plain_of_tree (n := 200) EnvOK.nil Try.func54 (args := [cInt.av x0]) (by simp only [AV.vals, Cod.av_val]) (Nat.le_of_ble_eq_true (by kernel_rfl)) LFn.nil cBool (by
    rw [t_num_In]
    simp only [Tr.den]
    grind [numIn])
theorem s_num_In : Ev.Spec Try.prog 54 (F1 cInt cBool numIn) := spec1 (fun vs w => Try.call54 vs w) c_num_In

/-! num.Floor -/
theorem t_num_Floor (x0 : Int) (x1 : Int) :
    evFn Try.prog Env.nil Laws.nil 200 Try.f101 [cInt.av x0, cInt.av x1] [] cInt.dec =
      .br (x1 == 0) (.ret (0)) (.br (x1 != 0) (.br (x1 != 0) (.br (x0.tmod x1 != 0) (.br (!decide (x0 < 0) == decide (x1 < 0)) (.ret (IntKind.i64.wrap (IntKind.i64.wrap (x0.tdiv x1) - 1))) (.ret (IntKind.i64.wrap (x0.tdiv x1)))) (.ret (IntKind.i64.wrap (x0.tdiv x1)))) (.fail)) (.fail)) := by kernel_rfl
theorem c_num_Floor (x0 : Int) (x1 : Int) (h : flOk x0 x1 = true) : Plain Try.prog 101 [cInt.enc x0, cInt.enc x1] (cInt.enc (fl x0 x1)) :=
  plain_of_tree (n := 200) EnvOK.nil Try.func101 (args := [cInt.av x0, cInt.av x1]) (by simp only [AV.vals, Cod.av_val]) (Nat.le_of_ble_eq_true (by kernel_rfl)) LFn.nil cInt (by
    rw [t_num_Floor]
    simp [flOk] at h
    simp only [Tr.den]
    by_cases hb : x1 = 0
    · subst hb; simp [fl]
    · have e := fl_tdiv x0 x1 hb
      have hw := tdiv_bd (a := x0) (b := x1) (by omega) (by omega)
      simp (disch := omega) only [IntWalk.i64_in] at *
      grind)
theorem s_num_Floor : Ev.Spec Try.prog 101 (F2p cInt cInt cInt flOk fl) := spec2p (fun vs w => Try.call101 vs w) c_num_Floor

/-! num.rounded -/
theorem t_num_rounded (x0 : Int) (x1 : Int) (x2 : Bool) :
    evFn Try.prog (Env.add 54 (F1 cInt cBool numIn) (Env.add 101 (F2p cInt cInt cInt flOk fl) Env.nil)) Laws.nil 200 Try.f86 [cInt.av x0, cInt.av x1, cBool.av x2] [] (cTwo cInt cBool).dec =
      .br (flOk x0 x1) (.bind (fl x0 x1) fun vn0 => .br (x2) (.br (x1 != 0) (.br (x0.tmod x1 != 0) (.bind (numIn (IntKind.i64.wrap (vn0 + 1))) fun vb1 => .br (!vb1) (.ret ((0, false))) (.ret ((IntKind.i64.wrap (vn0 + 1), true)))) (.bind (numIn vn0) fun vb2 => .br (!vb2) (.ret ((0, false))) (.ret ((vn0, true))))) (.fail)) (.bind (numIn vn0) fun vb3 => .br (!vb3) (.ret ((0, false))) (.ret ((vn0, true))))) (.fail) := by kernel_rfl
theorem c_num_rounded (x0 : Int) (x1 : Int) (x2 : Bool) (h : rnOk x0 x1 x2 = true) : Plain Try.prog 86 [cInt.enc x0, cInt.enc x1, cBool.enc x2] ((cTwo cInt cBool).enc (rnd x0 x1 x2)) :=
  plain_of_tree (n := 200) (EnvOK.add s_num_In (EnvOK.add s_num_Floor EnvOK.nil)) Try.func86 (args := [cInt.av x0, cInt.av x1, cBool.av x2]) (by simp only [AV.vals, Cod.av_val]) (Nat.le_of_ble_eq_true (by kernel_rfl)) LFn.nil (cTwo cInt cBool) (by
    rw [t_num_rounded]
    simp [rnOk] at h
    simp only [Tr.den, h.1]
    have e := fl_tdiv x0 x1 h.2
    have hw := tdiv_bd (a := x0) (b := x1) (by simp [flOk] at h; omega) (by simp [flOk] at h; omega)
    have hz := fl_mul x0 x1 h.2
    have hfl : -9223372036854775807 < fl x0 x1 ∧ fl x0 x1 < 9223372036854775806 := by rw [e]; split <;> omega
    simp (disch := omega) only [IntWalk.i64_in] at *
    grind [rnd])
theorem s_num_rounded : Ev.Spec Try.prog 86 (F3p cInt cInt cBool (cTwo cInt cBool) rnOk rnd) := spec3p (fun vs w => Try.call86 vs w) c_num_rounded

/-! num.Mul -/
theorem t_num_Mul (x0 : Int) (x1 : Int) (x2 : Bool) :
    evFn Try.prog (Env.add 54 (F1 cInt cBool numIn) (Env.add 86 (F3p cInt cInt cBool (cTwo cInt cBool) rnOk rnd) Env.nil)) Laws.nil 200 Try.f56 [cInt.av x0, cInt.av x1, cBool.av x2] [] (cTwo cInt cBool).dec =
      .bind (numIn x0) fun vb0 => .br (!vb0) (.ret ((0, false))) (.bind (numIn x1) fun vb1 => .br (!vb1) (.ret ((0, false))) (.br (rnOk (IntKind.i64.wrap (x0 * x1)) 65536 x2) (.bind (rnd (IntKind.i64.wrap (x0 * x1)) 65536 x2) fun vy2 => .ret (vy2)) (.fail))) := by kernel_rfl
theorem c_num_Mul (x0 : Int) (x1 : Int) (x2 : Bool) : Plain Try.prog 56 [cInt.enc x0, cInt.enc x1, cBool.enc x2] ((cTwo cInt cBool).enc (numMul x0 x1 x2)) :=
  plain_of_tree (n := 200) (EnvOK.add s_num_In (EnvOK.add s_num_rounded EnvOK.nil)) Try.func56 (args := [cInt.av x0, cInt.av x1, cBool.av x2]) (by simp only [AV.vals, Cod.av_val]) (Nat.le_of_ble_eq_true (by kernel_rfl)) LFn.nil (cTwo cInt cBool) (by
    rw [t_num_Mul]
    simp only [Tr.den]
    have hm := mul_bd x0 x1
    cases h0 : numIn x0 <;> cases h1 : numIn x1 <;> simp [numMul, h0, h1]
    have := hm h0 h1
    simp (disch := omega) only [IntWalk.i64_in]
    grind [rnOk, flOk])
theorem s_num_Mul : Ev.Spec Try.prog 56 (F3 cInt cInt cBool (cTwo cInt cBool) numMul) := spec3 (fun vs w => Try.call56 vs w) c_num_Mul

/-! num.Div -/
theorem t_num_Div (x0 : Int) (x1 : Int) (x2 : Bool) :
    evFn Try.prog (Env.add 54 (F1 cInt cBool numIn) (Env.add 86 (F3p cInt cInt cBool (cTwo cInt cBool) rnOk rnd) Env.nil)) Laws.nil 200 Try.f64 [cInt.av x0, cInt.av x1, cBool.av x2] [] (cTwo cInt cBool).dec =
      .bind (numIn x0) fun vb0 => .br (!vb0) (.ret ((0, false))) (.bind (numIn x1) fun vb1 => .br (!vb1) (.ret ((0, false))) (.br (x1 == 0) (.ret ((0, false))) (.br (rnOk (IntKind.i64.wrap (x0 * 65536)) x1 x2) (.bind (rnd (IntKind.i64.wrap (x0 * 65536)) x1 x2) fun vy2 => .ret (vy2)) (.fail)))) := by kernel_rfl
theorem c_num_Div (x0 : Int) (x1 : Int) (x2 : Bool) : Plain Try.prog 64 [cInt.enc x0, cInt.enc x1, cBool.enc x2] ((cTwo cInt cBool).enc (numDiv x0 x1 x2)) :=
  plain_of_tree (n := 200) (EnvOK.add s_num_In (EnvOK.add s_num_rounded EnvOK.nil)) Try.func64 (args := [cInt.av x0, cInt.av x1, cBool.av x2]) (by simp only [AV.vals, Cod.av_val]) (Nat.le_of_ble_eq_true (by kernel_rfl)) LFn.nil (cTwo cInt cBool) (by
    rw [t_num_Div]
    simp only [Tr.den]
    cases h0 : numIn x0 <;> cases h1 : numIn x1 <;> simp [numDiv, h0, h1]
    have b0 := numIn_iff.1 h0
    have b1 := numIn_iff.1 h1
    simp (disch := omega) only [IntWalk.i64_in]
    grind [rnOk, flOk])
theorem s_num_Div : Ev.Spec Try.prog 64 (F3 cInt cInt cBool (cTwo cInt cBool) numDiv) := spec3 (fun vs w => Try.call64 vs w) c_num_Div

/-! iv.Right -/
theorem t_iv_Right (x0 : Iv) :
    evFn Try.prog (Env.add 54 (F1 cInt cBool numIn) Env.nil) Laws.nil 200 Try.f25 [cIv.av x0] [] cBool.dec =
      .br (!x0.no) (.bind (numIn x0.lo) fun vb0 => .br (vb0) (.bind (numIn x0.hi) fun vb1 => .br (vb1) (.ret (decide (x0.lo ≤ x0.hi))) (.ret (false))) (.ret (false))) (.ret (false)) := by kernel_rfl
theorem c_iv_Right (x0 : Iv) : Plain Try.prog 25 [cIv.enc x0] (cBool.enc (Iv.right x0)) :=
  plain_of_tree (n := 200) (EnvOK.add s_num_In EnvOK.nil) Try.func25 (args := [cIv.av x0]) (by simp only [AV.vals, Cod.av_val]) (Nat.le_of_ble_eq_true (by kernel_rfl)) LFn.nil cBool (by
    rw [t_iv_Right]
    simp only [Tr.den]
    grind [Iv.right])
theorem s_iv_Right : Ev.Spec Try.prog 25 (F1 cIv cBool Iv.right) := spec1 (fun vs w => Try.call25 vs w) c_iv_Right

/-! iv.None -/
theorem t_iv_None  :
    evFn Try.prog Env.nil Laws.nil 200 Try.f17 [] [] cIv.dec =
      .ret (Iv.mk 0 0 true) := by kernel_rfl
theorem c_iv_None  : Plain Try.prog 17 [] (cIv.enc (Iv.none)) :=
  plain_of_tree (n := 200) EnvOK.nil Try.func17 (args := []) rfl (Nat.le_of_ble_eq_true (by kernel_rfl)) LFn.nil cIv (by
    rw [t_iv_None]
    rfl)
theorem s_iv_None : Ev.Spec Try.prog 17 (F0 cIv Iv.none) := spec0 (fun vs w => Try.call17 vs w) c_iv_None

/-! iv.Of -/
theorem t_iv_Of (x0 : Int) (x1 : Int) :
    evFn Try.prog (Env.add 17 (F0 cIv Iv.none) (Env.add 25 (F1 cIv cBool Iv.right) Env.nil)) Laws.nil 200 Try.f42 [cInt.av x0, cInt.av x1] [] cIv.dec =
      .bind ((Iv.mk x0 x1 false).right) fun vb0 => .br (!vb0) (.bind (Iv.none) fun viv1 => .ret (viv1)) (.ret (Iv.mk x0 x1 false)) := by kernel_rfl
theorem c_iv_Of (x0 : Int) (x1 : Int) : Plain Try.prog 42 [cInt.enc x0, cInt.enc x1] (cIv.enc (Iv.of x0 x1)) :=
  plain_of_tree (n := 200) (EnvOK.add s_iv_None (EnvOK.add s_iv_Right EnvOK.nil)) Try.func42 (args := [cInt.av x0, cInt.av x1]) (by simp only [AV.vals, Cod.av_val]) (Nat.le_of_ble_eq_true (by kernel_rfl)) LFn.nil cIv (by
    rw [t_iv_Of]
    simp only [Tr.den]
    grind [Iv.of])
theorem s_iv_Of : Ev.Spec Try.prog 42 (F2 cInt cInt cIv Iv.of) := spec2 (fun vs w => Try.call42 vs w) c_iv_Of

/-! iv.Point -/
theorem t_iv_Point (x0 : Int) :
    evFn Try.prog (Env.add 42 (F2 cInt cInt cIv Iv.of) Env.nil) Laws.nil 200 Try.f29 [cInt.av x0] [] cIv.dec =
      .bind (Iv.of x0 x0) fun viv0 => .ret (viv0) := by kernel_rfl
theorem c_iv_Point (x0 : Int) : Plain Try.prog 29 [cInt.enc x0] (cIv.enc (Iv.point x0)) :=
  plain_of_tree (n := 200) (EnvOK.add s_iv_Of EnvOK.nil) Try.func29 (args := [cInt.av x0]) (by simp only [AV.vals, Cod.av_val]) (Nat.le_of_ble_eq_true (by kernel_rfl)) LFn.nil cIv (by
    rw [t_iv_Point]
    simp only [Tr.den]
    grind [Iv.point])
theorem s_iv_Point : Ev.Spec Try.prog 29 (F1 cInt cIv Iv.point) := spec1 (fun vs w => Try.call29 vs w) c_iv_Point

/-! iv.Whole -/
theorem t_iv_Whole (x0 : Int) :
    evFn Try.prog (Env.add 17 (F0 cIv Iv.none) (Env.add 29 (F1 cInt cIv Iv.point) (Env.add 54 (F1 cInt cBool numIn) Env.nil))) Laws.nil 200 Try.f20 [cInt.av x0] [] cIv.dec =
      .bind (numIn x0) fun vb0 => .br (!vb0) (.bind (Iv.none) fun viv1 => .ret (viv1)) (.bind (Iv.point (IntKind.i64.wrap (x0 * 65536))) fun viv2 => .ret (viv2)) := by kernel_rfl
theorem c_iv_Whole (x0 : Int) : Plain Try.prog 20 [cInt.enc x0] (cIv.enc (Iv.whole x0)) :=
  plain_of_tree (n := 200) (EnvOK.add s_iv_None (EnvOK.add s_iv_Point (EnvOK.add s_num_In EnvOK.nil))) Try.func20 (args := [cInt.av x0]) (by simp only [AV.vals, Cod.av_val]) (Nat.le_of_ble_eq_true (by kernel_rfl)) LFn.nil cIv (by
    rw [t_iv_Whole]
    simp only [Tr.den, Iv.whole]
    cases h0 : numIn x0 <;> simp
    have b0 := numIn_iff.1 h0
    simp (disch := omega) only [IntWalk.i64_in])
theorem s_iv_Whole : Ev.Spec Try.prog 20 (F1 cInt cIv Iv.whole) := spec1 (fun vs w => Try.call20 vs w) c_iv_Whole

/-! iv.both -/
theorem t_iv_both (x0 : Iv) (x1 : Iv) :
    evFn Try.prog (Env.add 25 (F1 cIv cBool Iv.right) Env.nil) Laws.nil 200 Try.f34 [cIv.av x0, cIv.av x1] [] cBool.dec =
      .bind (x0.right) fun vb0 => .br (vb0) (.bind (x1.right) fun vb1 => .ret (vb1)) (.ret (false)) := by kernel_rfl
theorem c_iv_both (x0 : Iv) (x1 : Iv) : Plain Try.prog 34 [cIv.enc x0, cIv.enc x1] (cBool.enc (Iv.both x0 x1)) :=
  plain_of_tree (n := 200) (EnvOK.add s_iv_Right EnvOK.nil) Try.func34 (args := [cIv.av x0, cIv.av x1]) (by simp only [AV.vals, Cod.av_val]) (Nat.le_of_ble_eq_true (by kernel_rfl)) LFn.nil cBool (by
    rw [t_iv_both]
    simp only [Tr.den]
    grind [Iv.both])
theorem s_iv_both : Ev.Spec Try.prog 34 (F2 cIv cIv cBool Iv.both) := spec2 (fun vs w => Try.call34 vs w) c_iv_both

/-! iv.Neg -/
theorem t_iv_Neg (x0 : Iv) :
    evFn Try.prog (Env.add 17 (F0 cIv Iv.none) (Env.add 25 (F1 cIv cBool Iv.right) (Env.add 42 (F2 cInt cInt cIv Iv.of) Env.nil))) Laws.nil 200 Try.f53 [cIv.av x0] [] cIv.dec =
      .bind (x0.right) fun vb0 => .br (!vb0) (.bind (Iv.none) fun viv1 => .ret (viv1)) (.bind (Iv.of (IntKind.i64.wrap (0 - x0.hi)) (IntKind.i64.wrap (0 - x0.lo))) fun viv2 => .ret (viv2)) := by kernel_rfl
theorem c_iv_Neg (x0 : Iv) : Plain Try.prog 53 [cIv.enc x0] (cIv.enc (Iv.neg x0)) :=
  plain_of_tree (n := 200) (EnvOK.add s_iv_None (EnvOK.add s_iv_Right (EnvOK.add s_iv_Of EnvOK.nil))) Try.func53 (args := [cIv.av x0]) (by simp only [AV.vals, Cod.av_val]) (Nat.le_of_ble_eq_true (by kernel_rfl)) LFn.nil cIv (by
    rw [t_iv_Neg]
    simp only [Tr.den, Iv.neg]
    cases h0 : x0.right <;> simp
    have b0 := right_bd h0
    simp (disch := omega) only [IntWalk.i64_in])
theorem s_iv_Neg : Ev.Spec Try.prog 53 (F1 cIv cIv Iv.neg) := spec1 (fun vs w => Try.call53 vs w) c_iv_Neg

/-! iv.Add -/
theorem t_iv_Add (x0 : Iv) (x1 : Iv) :
    evFn Try.prog (Env.add 17 (F0 cIv Iv.none) (Env.add 34 (F2 cIv cIv cBool Iv.both) (Env.add 42 (F2 cInt cInt cIv Iv.of) Env.nil))) Laws.nil 200 Try.f23 [cIv.av x0, cIv.av x1] [] cIv.dec =
      .bind (x0.both x1) fun vb0 => .br (!vb0) (.bind (Iv.none) fun viv1 => .ret (viv1)) (.bind (Iv.of (IntKind.i64.wrap (x0.lo + x1.lo)) (IntKind.i64.wrap (x0.hi + x1.hi))) fun viv2 => .ret (viv2)) := by kernel_rfl
theorem c_iv_Add (x0 : Iv) (x1 : Iv) : Plain Try.prog 23 [cIv.enc x0, cIv.enc x1] (cIv.enc (Iv.add x0 x1)) :=
  plain_of_tree (n := 200) (EnvOK.add s_iv_None (EnvOK.add s_iv_both (EnvOK.add s_iv_Of EnvOK.nil))) Try.func23 (args := [cIv.av x0, cIv.av x1]) (by simp only [AV.vals, Cod.av_val]) (Nat.le_of_ble_eq_true (by kernel_rfl)) LFn.nil cIv (by
    rw [t_iv_Add]
    simp only [Tr.den, Iv.add]
    cases h0 : Iv.both x0 x1 <;> simp
    simp [Iv.both] at h0
    have b0 := right_bd h0.1
    have b1 := right_bd h0.2
    simp (disch := omega) only [IntWalk.i64_in])
theorem s_iv_Add : Ev.Spec Try.prog 23 (F2 cIv cIv cIv Iv.add) := spec2 (fun vs w => Try.call23 vs w) c_iv_Add

/-! iv.Sub -/
theorem t_iv_Sub (x0 : Iv) (x1 : Iv) :
    evFn Try.prog (Env.add 23 (F2 cIv cIv cIv Iv.add) (Env.add 53 (F1 cIv cIv Iv.neg) Env.nil)) Laws.nil 200 Try.f19 [cIv.av x0, cIv.av x1] [] cIv.dec =
      .bind (x1.neg) fun viv0 => .bind (x0.add viv0) fun viv1 => .ret (viv1) := by kernel_rfl
theorem c_iv_Sub (x0 : Iv) (x1 : Iv) : Plain Try.prog 19 [cIv.enc x0, cIv.enc x1] (cIv.enc (Iv.sub x0 x1)) :=
  plain_of_tree (n := 200) (EnvOK.add s_iv_Add (EnvOK.add s_iv_Neg EnvOK.nil)) Try.func19 (args := [cIv.av x0, cIv.av x1]) (by simp only [AV.vals, Cod.av_val]) (Nat.le_of_ble_eq_true (by kernel_rfl)) LFn.nil cIv (by
    rw [t_iv_Sub]
    rfl)
theorem s_iv_Sub : Ev.Spec Try.prog 19 (F2 cIv cIv cIv Iv.sub) := spec2 (fun vs w => Try.call19 vs w) c_iv_Sub

/-! iv.Times -/
theorem t_iv_Times (x0 : Iv) (x1 : Int) :
    evFn Try.prog (Env.add 17 (F0 cIv Iv.none) (Env.add 25 (F1 cIv cBool Iv.right) (Env.add 42 (F2 cInt cInt cIv Iv.of) (Env.add 54 (F1 cInt cBool numIn) Env.nil)))) Laws.nil 200 Try.f81 [cIv.av x0, cInt.av x1] [] cIv.dec =
      .bind (x0.right) fun vb0 => .br (!vb0) (.bind (Iv.none) fun viv1 => .ret (viv1)) (.bind (numIn x1) fun vb2 => .br (!vb2) (.bind (Iv.none) fun viv3 => .ret (viv3)) (.bind (Iv.of (Min.min (IntKind.i64.wrap (x1 * x0.lo)) (IntKind.i64.wrap (x1 * x0.hi))) (Max.max (IntKind.i64.wrap (x1 * x0.lo)) (IntKind.i64.wrap (x1 * x0.hi)))) fun viv4 => .ret (viv4))) := by kernel_rfl
theorem c_iv_Times (x0 : Iv) (x1 : Int) : Plain Try.prog 81 [cIv.enc x0, cInt.enc x1] (cIv.enc (Iv.times x0 x1)) :=
  plain_of_tree (n := 200) (EnvOK.add s_iv_None (EnvOK.add s_iv_Right (EnvOK.add s_iv_Of (EnvOK.add s_num_In EnvOK.nil)))) Try.func81 (args := [cIv.av x0, cInt.av x1]) (by simp only [AV.vals, Cod.av_val]) (Nat.le_of_ble_eq_true (by kernel_rfl)) LFn.nil cIv (by
    rw [t_iv_Times]
    simp only [Tr.den, Iv.times]
    cases h0 : x0.right <;> cases h1 : numIn x1 <;> simp
    have b0 := right_bd h0
    have b1 := numIn_iff.1 h1
    have m1 := mul_bd x1 x0.lo h1 (numIn_iff.2 (by omega))
    have m2 := mul_bd x1 x0.hi h1 (numIn_iff.2 (by omega))
    simp (disch := omega) only [IntWalk.i64_in])
theorem s_iv_Times : Ev.Spec Try.prog 81 (F2 cIv cInt cIv Iv.times) := spec2 (fun vs w => Try.call81 vs w) c_iv_Times

/-! iv.Has -/
theorem t_iv_Has (x0 : Iv) (x1 : Int) :
    evFn Try.prog (Env.add 25 (F1 cIv cBool Iv.right) Env.nil) Laws.nil 200 Try.f63 [cIv.av x0, cInt.av x1] [] cBool.dec =
      .bind (x0.right) fun vb0 => .br (vb0) (.br (decide (x0.lo ≤ x1)) (.ret (decide (x1 ≤ x0.hi))) (.ret (false))) (.ret (false)) := by kernel_rfl
theorem c_iv_Has (x0 : Iv) (x1 : Int) : Plain Try.prog 63 [cIv.enc x0, cInt.enc x1] (cBool.enc (Iv.has x0 x1)) :=
  plain_of_tree (n := 200) (EnvOK.add s_iv_Right EnvOK.nil) Try.func63 (args := [cIv.av x0, cInt.av x1]) (by simp only [AV.vals, Cod.av_val]) (Nat.le_of_ble_eq_true (by kernel_rfl)) LFn.nil cBool (by
    rw [t_iv_Has]
    simp only [Tr.den]
    grind [Iv.has])
theorem s_iv_Has : Ev.Spec Try.prog 63 (F2 cIv cInt cBool Iv.has) := spec2 (fun vs w => Try.call63 vs w) c_iv_Has

/-! iv.ends -/
theorem t_iv_ends_mul (x0 : Unit) (x1 : Iv) (x2 : Iv) :
    evFn Try.prog (Env.add 17 (F0 cIv Iv.none) (Env.add 42 (F2 cInt cInt cIv Iv.of) (Env.add 56 (F3 cInt cInt cBool (cTwo cInt cBool) numMul) Env.nil))) Laws.nil 200 Try.f55 [(cFn 56).av x0, cIv.av x1, cIv.av x2] [] cIv.dec =
      .bind (numMul x1.lo x2.lo false) fun vy0 => .bind (numMul x1.lo x2.lo true) fun vy1 => .br (!vy0.2) (.bind (Iv.none) fun viv2 => .ret (viv2)) (.br (!vy1.2) (.bind (Iv.none) fun viv3 => .ret (viv3)) (.bind (Iv.of vy0.1 vy1.1) fun viv4 => .bind (Iv.of (Min.min viv4.lo vy0.1) (Max.max viv4.hi vy1.1)) fun viv5 => .bind (numMul x1.lo x2.hi false) fun vy6 => .bind (numMul x1.lo x2.hi true) fun vy7 => .br (!vy6.2) (.bind (Iv.none) fun viv8 => .ret (viv8)) (.br (!vy7.2) (.bind (Iv.none) fun viv9 => .ret (viv9)) (.bind (Iv.of (Min.min viv5.lo vy6.1) (Max.max viv5.hi vy7.1)) fun viv10 => .bind (numMul x1.hi x2.lo false) fun vy11 => .bind (numMul x1.hi x2.lo true) fun vy12 => .br (!vy11.2) (.bind (Iv.none) fun viv13 => .ret (viv13)) (.br (!vy12.2) (.bind (Iv.none) fun viv14 => .ret (viv14)) (.bind (Iv.of (Min.min viv10.lo vy11.1) (Max.max viv10.hi vy12.1)) fun viv15 => .bind (numMul x1.hi x2.hi false) fun vy16 => .bind (numMul x1.hi x2.hi true) fun vy17 => .br (!vy16.2) (.bind (Iv.none) fun viv18 => .ret (viv18)) (.br (!vy17.2) (.bind (Iv.none) fun viv19 => .ret (viv19)) (.bind (Iv.of (Min.min viv15.lo vy16.1) (Max.max viv15.hi vy17.1)) fun viv20 => .ret (viv20))))))))) := by kernel_rfl
theorem c_iv_ends_mul (x0 : Unit) (x1 : Iv) (x2 : Iv) : Plain Try.prog 55 [(cFn 56).enc x0, cIv.enc x1, cIv.enc x2] (cIv.enc (((fun (_ : Unit) a b => ends numMul a b)) x0 x1 x2)) :=
  plain_of_tree (n := 200) (EnvOK.add s_iv_None (EnvOK.add s_iv_Of (EnvOK.add s_num_Mul EnvOK.nil))) Try.func55 (args := [(cFn 56).av x0, cIv.av x1, cIv.av x2]) (by simp only [AV.vals, Cod.av_val]) (Nat.le_of_ble_eq_true (by kernel_rfl)) LFn.nil cIv (by
    rw [t_iv_ends_mul]
    simp only [den_br, den_bind, den_ret, den_fail, den_inl, den_inr, decide_eq_true_eq]
    exact ends_chain numMul_le x1 x2)
theorem s_iv_ends_mul : Ev.Spec Try.prog 55 (F3 (cFn 56) cIv cIv cIv ((fun (_ : Unit) a b => ends numMul a b))) := spec3 (fun vs w => Try.call55 vs w) c_iv_ends_mul

/-! iv.ends -/
theorem t_iv_ends_div (x0 : Unit) (x1 : Iv) (x2 : Iv) :
    evFn Try.prog (Env.add 17 (F0 cIv Iv.none) (Env.add 42 (F2 cInt cInt cIv Iv.of) (Env.add 64 (F3 cInt cInt cBool (cTwo cInt cBool) numDiv) Env.nil))) Laws.nil 200 Try.f55 [(cFn 64).av x0, cIv.av x1, cIv.av x2] [] cIv.dec =
      .bind (numDiv x1.lo x2.lo false) fun vy0 => .bind (numDiv x1.lo x2.lo true) fun vy1 => .br (!vy0.2) (.bind (Iv.none) fun viv2 => .ret (viv2)) (.br (!vy1.2) (.bind (Iv.none) fun viv3 => .ret (viv3)) (.bind (Iv.of vy0.1 vy1.1) fun viv4 => .bind (Iv.of (Min.min viv4.lo vy0.1) (Max.max viv4.hi vy1.1)) fun viv5 => .bind (numDiv x1.lo x2.hi false) fun vy6 => .bind (numDiv x1.lo x2.hi true) fun vy7 => .br (!vy6.2) (.bind (Iv.none) fun viv8 => .ret (viv8)) (.br (!vy7.2) (.bind (Iv.none) fun viv9 => .ret (viv9)) (.bind (Iv.of (Min.min viv5.lo vy6.1) (Max.max viv5.hi vy7.1)) fun viv10 => .bind (numDiv x1.hi x2.lo false) fun vy11 => .bind (numDiv x1.hi x2.lo true) fun vy12 => .br (!vy11.2) (.bind (Iv.none) fun viv13 => .ret (viv13)) (.br (!vy12.2) (.bind (Iv.none) fun viv14 => .ret (viv14)) (.bind (Iv.of (Min.min viv10.lo vy11.1) (Max.max viv10.hi vy12.1)) fun viv15 => .bind (numDiv x1.hi x2.hi false) fun vy16 => .bind (numDiv x1.hi x2.hi true) fun vy17 => .br (!vy16.2) (.bind (Iv.none) fun viv18 => .ret (viv18)) (.br (!vy17.2) (.bind (Iv.none) fun viv19 => .ret (viv19)) (.bind (Iv.of (Min.min viv15.lo vy16.1) (Max.max viv15.hi vy17.1)) fun viv20 => .ret (viv20))))))))) := by kernel_rfl
theorem c_iv_ends_div (x0 : Unit) (x1 : Iv) (x2 : Iv) : Plain Try.prog 55 [(cFn 64).enc x0, cIv.enc x1, cIv.enc x2] (cIv.enc (((fun (_ : Unit) a b => ends numDiv a b)) x0 x1 x2)) :=
  plain_of_tree (n := 200) (EnvOK.add s_iv_None (EnvOK.add s_iv_Of (EnvOK.add s_num_Div EnvOK.nil))) Try.func55 (args := [(cFn 64).av x0, cIv.av x1, cIv.av x2]) (by simp only [AV.vals, Cod.av_val]) (Nat.le_of_ble_eq_true (by kernel_rfl)) LFn.nil cIv (by
    rw [t_iv_ends_div]
    simp only [den_br, den_bind, den_ret, den_fail, den_inl, den_inr, decide_eq_true_eq]
    exact ends_chain numDiv_le x1 x2)
theorem s_iv_ends_div : Ev.Spec Try.prog 55 (F3 (cFn 64) cIv cIv cIv ((fun (_ : Unit) a b => ends numDiv a b))) := spec3 (fun vs w => Try.call55 vs w) c_iv_ends_div

/-! iv.Mul -/
theorem t_iv_Mul (x0 : Iv) (x1 : Iv) :
    evFn Try.prog (Env.add 17 (F0 cIv Iv.none) (Env.add 34 (F2 cIv cIv cBool Iv.both) (Env.add 55 (F3 (cFn 56) cIv cIv cIv ((fun (_ : Unit) a b => ends numMul a b))) (Env.add 55 (F3 (cFn 64) cIv cIv cIv ((fun (_ : Unit) a b => ends numDiv a b))) (Env.add 56 (F3 cInt cInt cBool (cTwo cInt cBool) numMul) Env.nil))))) Laws.nil 200 Try.f21 [cIv.av x0, cIv.av x1] [] cIv.dec =
      .bind (x0.both x1) fun vb0 => .br (!vb0) (.bind (Iv.none) fun viv1 => .ret (viv1)) (.bind (ends numMul x0 x1) fun viv2 => .ret (viv2)) := by kernel_rfl
theorem c_iv_Mul (x0 : Iv) (x1 : Iv) : Plain Try.prog 21 [cIv.enc x0, cIv.enc x1] (cIv.enc (Iv.mul x0 x1)) :=
  plain_of_tree (n := 200) (EnvOK.add s_iv_None (EnvOK.add s_iv_both (EnvOK.add s_iv_ends_mul (EnvOK.add s_iv_ends_div (EnvOK.add s_num_Mul EnvOK.nil))))) Try.func21 (args := [cIv.av x0, cIv.av x1]) (by simp only [AV.vals, Cod.av_val]) (Nat.le_of_ble_eq_true (by kernel_rfl)) LFn.nil cIv (by
    rw [t_iv_Mul]
    simp only [Tr.den]
    grind [Iv.mul])
theorem s_iv_Mul : Ev.Spec Try.prog 21 (F2 cIv cIv cIv Iv.mul) := spec2 (fun vs w => Try.call21 vs w) c_iv_Mul

/-! iv.Div -/
theorem t_iv_Div (x0 : Iv) (x1 : Iv) :
    evFn Try.prog (Env.add 17 (F0 cIv Iv.none) (Env.add 34 (F2 cIv cIv cBool Iv.both) (Env.add 55 (F3 (cFn 56) cIv cIv cIv ((fun (_ : Unit) a b => ends numMul a b))) (Env.add 55 (F3 (cFn 64) cIv cIv cIv ((fun (_ : Unit) a b => ends numDiv a b))) (Env.add 63 (F2 cIv cInt cBool Iv.has) (Env.add 64 (F3 cInt cInt cBool (cTwo cInt cBool) numDiv) Env.nil)))))) Laws.nil 200 Try.f31 [cIv.av x0, cIv.av x1] [] cIv.dec =
      .bind (x0.both x1) fun vb0 => .br (!vb0) (.bind (Iv.none) fun viv1 => .ret (viv1)) (.bind (x1.has 0) fun vb2 => .br (vb2) (.bind (Iv.none) fun viv3 => .ret (viv3)) (.bind (ends numDiv x0 x1) fun viv4 => .ret (viv4))) := by kernel_rfl
theorem c_iv_Div (x0 : Iv) (x1 : Iv) : Plain Try.prog 31 [cIv.enc x0, cIv.enc x1] (cIv.enc (Iv.div x0 x1)) :=
  plain_of_tree (n := 200) (EnvOK.add s_iv_None (EnvOK.add s_iv_both (EnvOK.add s_iv_ends_mul (EnvOK.add s_iv_ends_div (EnvOK.add s_iv_Has (EnvOK.add s_num_Div EnvOK.nil)))))) Try.func31 (args := [cIv.av x0, cIv.av x1]) (by simp only [AV.vals, Cod.av_val]) (Nat.le_of_ble_eq_true (by kernel_rfl)) LFn.nil cIv (by
    rw [t_iv_Div]
    simp only [den_br, den_bind, den_ret, den_fail, den_inl, den_inr, decide_eq_true_eq]
    simp only [Iv.div]
    cases Iv.both x0 x1 <;> cases Iv.has x1 0 <;> simp)
theorem s_iv_Div : Ev.Spec Try.prog 31 (F2 cIv cIv cIv Iv.div) := spec2 (fun vs w => Try.call31 vs w) c_iv_Div

/-! iv.Sqr -/
theorem t_iv_Sqr (x0 : Iv) :
    evFn Try.prog (Env.add 17 (F0 cIv Iv.none) (Env.add 25 (F1 cIv cBool Iv.right) (Env.add 42 (F2 cInt cInt cIv Iv.of) (Env.add 56 (F3 cInt cInt cBool (cTwo cInt cBool) numMul) Env.nil)))) Laws.nil 200 Try.f24 [cIv.av x0] [] cIv.dec =
      .bind (x0.right) fun vb0 => .br (!vb0) (.bind (Iv.none) fun viv1 => .ret (viv1)) (.bind (numMul (Max.max (IntKind.i64.wrap (0 - x0.lo)) x0.hi) (Max.max (IntKind.i64.wrap (0 - x0.lo)) x0.hi) true) fun vy2 => .bind (numMul (Max.max (Max.max x0.lo (IntKind.i64.wrap (0 - x0.hi))) 0) (Max.max (Max.max x0.lo (IntKind.i64.wrap (0 - x0.hi))) 0) false) fun vy3 => .br (!vy2.2) (.bind (Iv.none) fun viv4 => .ret (viv4)) (.bind (Iv.of vy3.1 vy2.1) fun viv5 => .ret (viv5))) := by kernel_rfl
theorem c_iv_Sqr (x0 : Iv) : Plain Try.prog 24 [cIv.enc x0] (cIv.enc (Iv.sqr x0)) :=
  plain_of_tree (n := 200) (EnvOK.add s_iv_None (EnvOK.add s_iv_Right (EnvOK.add s_iv_Of (EnvOK.add s_num_Mul EnvOK.nil)))) Try.func24 (args := [cIv.av x0]) (by simp only [AV.vals, Cod.av_val]) (Nat.le_of_ble_eq_true (by kernel_rfl)) LFn.nil cIv (by
    rw [t_iv_Sqr]
    simp only [Iv.sqr]
    cases h0 : x0.right
    · simp [Tr.den]
    have b0 := right_bd h0
    have e1 : IntKind.i64.wrap (-x0.lo) = -x0.lo := IntWalk.i64_in _ (by omega)
    have e2 : IntKind.i64.wrap (-x0.hi) = -x0.hi := IntWalk.i64_in _ (by omega)
    simp only [den_br, den_bind, den_ret, den_fail, e1, e2]
    grind)
theorem s_iv_Sqr : Ev.Spec Try.prog 24 (F1 cIv cIv Iv.sqr) := spec1 (fun vs w => Try.call24 vs w) c_iv_Sqr

/-! iv.Meet -/
theorem t_iv_Meet (x0 : Iv) (x1 : Iv) :
    evFn Try.prog (Env.add 17 (F0 cIv Iv.none) (Env.add 34 (F2 cIv cIv cBool Iv.both) (Env.add 42 (F2 cInt cInt cIv Iv.of) Env.nil))) Laws.nil 200 Try.f26 [cIv.av x0, cIv.av x1] [] cIv.dec =
      .bind (x0.both x1) fun vb0 => .br (!vb0) (.bind (Iv.none) fun viv1 => .ret (viv1)) (.bind (Iv.of (Max.max x0.lo x1.lo) (Min.min x0.hi x1.hi)) fun viv2 => .ret (viv2)) := by kernel_rfl
theorem c_iv_Meet (x0 : Iv) (x1 : Iv) : Plain Try.prog 26 [cIv.enc x0, cIv.enc x1] (cIv.enc (Iv.meet x0 x1)) :=
  plain_of_tree (n := 200) (EnvOK.add s_iv_None (EnvOK.add s_iv_both (EnvOK.add s_iv_Of EnvOK.nil))) Try.func26 (args := [cIv.av x0, cIv.av x1]) (by simp only [AV.vals, Cod.av_val]) (Nat.le_of_ble_eq_true (by kernel_rfl)) LFn.nil cIv (by
    rw [t_iv_Meet]
    simp only [Tr.den]
    grind [Iv.meet])
theorem s_iv_Meet : Ev.Spec Try.prog 26 (F2 cIv cIv cIv Iv.meet) := spec2 (fun vs w => Try.call26 vs w) c_iv_Meet

/-! iv.Mid -/
theorem t_iv_Mid (x0 : Iv) :
    evFn Try.prog (Env.add 25 (F1 cIv cBool Iv.right) Env.nil) Laws.nil 200 Try.f30 [cIv.av x0] [] cInt.dec =
      .bind (x0.right) fun vb0 => .br (!vb0) (.ret (0)) (.br (decide (0 ≤ 1)) (.ret ((IntKind.i64.wrap (x0.lo + x0.hi)).fdiv (2 ^ Min.min (Int.toNat 1) 64))) (.fail)) := by kernel_rfl
theorem c_iv_Mid (x0 : Iv) : Plain Try.prog 30 [cIv.enc x0] (cInt.enc (Iv.mid x0)) :=
  plain_of_tree (n := 200) (EnvOK.add s_iv_Right EnvOK.nil) Try.func30 (args := [cIv.av x0]) (by simp only [AV.vals, Cod.av_val]) (Nat.le_of_ble_eq_true (by kernel_rfl)) LFn.nil cInt (by
    rw [t_iv_Mid]
    simp only [Iv.mid]
    cases h0 : x0.right
    · simp [Tr.den]
    have b0 := right_bd h0
    have e1 : IntKind.i64.wrap (x0.lo + x0.hi) = x0.lo + x0.hi := IntWalk.i64_in _ (by omega)
    simp only [Tr.den, e1, if_true]
    exact congrArg some (Int.fdiv_eq_ediv_of_nonneg _ (by decide)))
theorem s_iv_Mid : Ev.Spec Try.prog 30 (F1 cIv cInt Iv.mid) := spec1 (fun vs w => Try.call30 vs w) c_iv_Mid

/-! iv.Inside -/
theorem t_iv_Inside (x0 : Iv) (x1 : Iv) :
    evFn Try.prog (Env.add 34 (F2 cIv cIv cBool Iv.both) Env.nil) Laws.nil 200 Try.f10 [cIv.av x0, cIv.av x1] [] cBool.dec =
      .bind (x0.both x1) fun vb0 => .br (vb0) (.br (decide (x1.lo ≤ x0.lo)) (.ret (decide (x0.hi ≤ x1.hi))) (.ret (false))) (.ret (false)) := by kernel_rfl
theorem c_iv_Inside (x0 : Iv) (x1 : Iv) : Plain Try.prog 10 [cIv.enc x0, cIv.enc x1] (cBool.enc (Iv.inside x0 x1)) :=
  plain_of_tree (n := 200) (EnvOK.add s_iv_both EnvOK.nil) Try.func10 (args := [cIv.av x0, cIv.av x1]) (by simp only [AV.vals, Cod.av_val]) (Nat.le_of_ble_eq_true (by kernel_rfl)) LFn.nil cBool (by
    rw [t_iv_Inside]
    simp only [Tr.den]
    grind [Iv.inside])
theorem s_iv_Inside : Ev.Spec Try.prog 10 (F2 cIv cIv cBool Iv.inside) := spec2 (fun vs w => Try.call10 vs w) c_iv_Inside

/-! iv.Split -/
theorem t_iv_Split (x0 : Iv) :
    evFn Try.prog (Env.add 17 (F0 cIv Iv.none) (Env.add 25 (F1 cIv cBool Iv.right) (Env.add 30 (F1 cIv cInt Iv.mid) (Env.add 42 (F2 cInt cInt cIv Iv.of) Env.nil)))) Laws.nil 200 Try.f32 [cIv.av x0] [] (cTwo cIv cIv).dec =
      .bind (x0.right) fun vb0 => .br (!vb0) (.bind (Iv.none) fun viv1 => .bind (Iv.none) fun viv2 => .ret ((viv1, viv2))) (.bind (x0.mid) fun vn3 => .bind (Iv.of x0.lo vn3) fun viv4 => .bind (x0.mid) fun vn5 => .bind (Iv.of vn5 x0.hi) fun viv6 => .ret ((viv4, viv6))) := by kernel_rfl
theorem c_iv_Split (x0 : Iv) : Plain Try.prog 32 [cIv.enc x0] ((cTwo cIv cIv).enc (Iv.split x0)) :=
  plain_of_tree (n := 200) (EnvOK.add s_iv_None (EnvOK.add s_iv_Right (EnvOK.add s_iv_Mid (EnvOK.add s_iv_Of EnvOK.nil)))) Try.func32 (args := [cIv.av x0]) (by simp only [AV.vals, Cod.av_val]) (Nat.le_of_ble_eq_true (by kernel_rfl)) LFn.nil (cTwo cIv cIv) (by
    rw [t_iv_Split]
    simp only [Tr.den]
    grind [Iv.split])
theorem s_iv_Split : Ev.Spec Try.prog 32 (F1 cIv (cTwo cIv cIv) Iv.split) := spec1 (fun vs w => Try.call32 vs w) c_iv_Split

/-! meniscushand.Pick -/
theorem t_meniscushand_Pick (x0 : Int) (x1 : Int) :
    evFn Try.prog Env.nil Laws.nil 200 Try.f7 [cInt.av x0, cInt.av x1] [] cInt.dec =
      .br (x1 != 0) (.br (decide (x0.tmod x1 < 0)) (.ret (IntKind.i64.wrap (x0.tmod x1 + x1))) (.ret (x0.tmod x1))) (.fail) := by kernel_rfl
theorem c_meniscushand_Pick (x0 : Int) (x1 : Int) (h : pickOk x0 x1 = true) : Plain Try.prog 7 [cInt.enc x0, cInt.enc x1] (cInt.enc (pick x0 x1)) :=
  plain_of_tree (n := 200) EnvOK.nil Try.func7 (args := [cInt.av x0, cInt.av x1]) (by simp only [AV.vals, Cod.av_val]) (Nat.le_of_ble_eq_true (by kernel_rfl)) LFn.nil cInt (by
    rw [t_meniscushand_Pick]
    simp [pickOk] at h
    have p := tmod_pick x0 h.1
    have hne : (x1 != 0) = true := by simp; omega
    simp only [Tr.den, hne]
    by_cases hlt : x0.tmod x1 < 0
    · simp only [hlt, decide_true]
      rw [IntWalk.i64_in _ (by omega), p.1 hlt]
    · simp only [hlt, decide_false]
      rw [p.2.1 (by omega)])
theorem s_meniscushand_Pick : Ev.Spec Try.prog 7 (F2p cInt cInt cInt pickOk pick) := spec2p (fun vs w => Try.call7 vs w) c_meniscushand_Pick

/-! meniscusref1.In -/
theorem t_meniscusref1_In (x0 : Int) :
    evFn Try.prog Env.nil Laws.nil 200 Try.f67 [cInt.av x0] [] cBool.dec =
      .br (decide (x0 ≥ -1073741824)) (.ret (decide (x0 ≤ 1073741824))) (.ret (false)) := by kernel_rfl
theorem c_meniscusref1_In (x0 : Int) : Plain Try.prog 67 [cInt.enc x0] (cBool.enc (numIn x0)) :=
  plain_of_tree (n := 200) EnvOK.nil Try.func67 (args := [cInt.av x0]) (by simp only [AV.vals, Cod.av_val]) (Nat.le_of_ble_eq_true (by kernel_rfl)) LFn.nil cBool (by
    rw [t_meniscusref1_In]
    simp only [Tr.den]
    grind [numIn])
theorem s_meniscusref1_In : Ev.Spec Try.prog 67 (F1 cInt cBool numIn) := spec1 (fun vs w => Try.call67 vs w) c_meniscusref1_In

/-! meniscusref1.told -/
theorem t_meniscusref1_told (x0 : Int) :
    evFn Try.prog (Env.add 67 (F1 cInt cBool numIn) Env.nil) Laws.nil 200 Try.f104 [cInt.av x0] [] (cTwo cInt cBool).dec =
      .bind (numIn x0) fun vb0 => .br (!vb0) (.ret ((0, false))) (.ret ((x0, true))) := by kernel_rfl
theorem c_meniscusref1_told (x0 : Int) : Plain Try.prog 104 [cInt.enc x0] ((cTwo cInt cBool).enc (toldN x0)) :=
  plain_of_tree (n := 200) (EnvOK.add s_meniscusref1_In EnvOK.nil) Try.func104 (args := [cInt.av x0]) (by simp only [AV.vals, Cod.av_val]) (Nat.le_of_ble_eq_true (by kernel_rfl)) LFn.nil (cTwo cInt cBool) (by
    rw [t_meniscusref1_told]
    simp only [den_br, den_bind, den_ret, den_fail, den_inl, den_inr, decide_eq_true_eq]
    grind [toldN])
theorem s_meniscusref1_told : Ev.Spec Try.prog 104 (F1 cInt (cTwo cInt cBool) toldN) := spec1 (fun vs w => Try.call104 vs w) c_meniscusref1_told

/-! meniscusref1.Floor -/
theorem t_meniscusref1_Floor (x0 : Int) (x1 : Int) :
    evFn Try.prog Env.nil Laws.nil 200 Try.f96 [cInt.av x0, cInt.av x1] [] cInt.dec =
      .br (x1 == 0) (.ret (0)) (.br (x1 != 0) (.br (x1 != 0) (.br (x0.tmod x1 != 0) (.br (!decide (x0.tmod x1 < 0) == decide (x1 < 0)) (.ret (IntKind.i64.wrap (IntKind.i64.wrap (x0.tdiv x1) - 1))) (.ret (IntKind.i64.wrap (x0.tdiv x1)))) (.ret (IntKind.i64.wrap (x0.tdiv x1)))) (.fail)) (.fail)) := by kernel_rfl
theorem c_meniscusref1_Floor (x0 : Int) (x1 : Int) (h : flOk x0 x1 = true) : Plain Try.prog 96 [cInt.enc x0, cInt.enc x1] (cInt.enc (fl x0 x1)) :=
  plain_of_tree (n := 200) EnvOK.nil Try.func96 (args := [cInt.av x0, cInt.av x1]) (by simp only [AV.vals, Cod.av_val]) (Nat.le_of_ble_eq_true (by kernel_rfl)) LFn.nil cInt (by
    rw [t_meniscusref1_Floor]
    simp only [den_br, den_bind, den_ret, den_fail, den_inl, den_inr, decide_eq_true_eq]
    simp [flOk] at h
    by_cases hb : x1 = 0
    · subst hb; simp [fl]
    · have e := fl_tdiv x0 x1 hb
      have hw := tdiv_bd (a := x0) (b := x1) (by omega) (by omega)
      have e1 : IntKind.i64.wrap (x0.tdiv x1) = x0.tdiv x1 := wr (by omega)
      have e2 : IntKind.i64.wrap (x0.tdiv x1 - 1) = x0.tdiv x1 - 1 := wr (by omega)
      rw [e]
      by_cases hm : x0.tmod x1 = 0
      · simp [hb, hm, e1]
      · have hs := tmod_sign hm
        simp only [e1, e2, hs]
        cases hd : decide (x0 < 0) <;> cases hd2 : decide (x1 < 0) <;> simp [hb, hm])
theorem s_meniscusref1_Floor : Ev.Spec Try.prog 96 (F2p cInt cInt cInt flOk fl) := spec2p (fun vs w => Try.call96 vs w) c_meniscusref1_Floor

/-! meniscusref1.Ceil -/
theorem t_meniscusref1_Ceil (x0 : Int) (x1 : Int) :
    evFn Try.prog (Env.add 96 (F2p cInt cInt cInt flOk fl) Env.nil) Laws.nil 200 Try.f98 [cInt.av x0, cInt.av x1] [] cInt.dec =
      .br (flOk x0 x1) (.bind (fl x0 x1) fun vn0 => .br (IntKind.i64.wrap (vn0 * x1) != x0) (.ret (IntKind.i64.wrap (vn0 + 1))) (.ret (vn0))) (.fail) := by kernel_rfl
theorem c_meniscusref1_Ceil (x0 : Int) (x1 : Int) (h : clOk x0 x1 = true) : Plain Try.prog 98 [cInt.enc x0, cInt.enc x1] (cInt.enc (cl x0 x1)) :=
  plain_of_tree (n := 200) (EnvOK.add s_meniscusref1_Floor EnvOK.nil) Try.func98 (args := [cInt.av x0, cInt.av x1]) (by simp only [AV.vals, Cod.av_val]) (Nat.le_of_ble_eq_true (by kernel_rfl)) LFn.nil cInt (by
    rw [t_meniscusref1_Ceil]
    simp only [den_br, den_bind, den_ret, den_fail, den_inl, den_inr, decide_eq_true_eq]
    have e1 := wr (fl_mul_bd h)
    have e2 : IntKind.i64.wrap (fl x0 x1 + 1) = fl x0 x1 + 1 := wr (by have := fl_bd (clOk_fl h); omega)
    simp only [clOk_fl h, e1, e2, if_true, cl]
    by_cases hh : fl x0 x1 * x1 = x0 <;> simp [hh])
theorem s_meniscusref1_Ceil : Ev.Spec Try.prog 98 (F2p cInt cInt cInt clOk cl) := spec2p (fun vs w => Try.call98 vs w) c_meniscusref1_Ceil

/-! meniscusref1.Mul -/
theorem t_meniscusref1_Mul (x0 : Int) (x1 : Int) (x2 : Bool) :
    evFn Try.prog (Env.add 67 (F1 cInt cBool numIn) (Env.add 96 (F2p cInt cInt cInt flOk fl) (Env.add 98 (F2p cInt cInt cInt clOk cl) (Env.add 104 (F1 cInt (cTwo cInt cBool) toldN) Env.nil)))) Laws.nil 200 Try.f89 [cInt.av x0, cInt.av x1, cBool.av x2] [] (cTwo cInt cBool).dec =
      .bind (numIn x0) fun vb0 => .br (!vb0) (.ret ((0, false))) (.bind (numIn x1) fun vb1 => .br (!vb1) (.ret ((0, false))) (.br (x2) (.br (clOk (IntKind.i64.wrap (x0 * x1)) 65536) (.bind (cl (IntKind.i64.wrap (x0 * x1)) 65536) fun vn2 => .bind (toldN vn2) fun vy3 => .ret (vy3)) (.fail)) (.br (flOk (IntKind.i64.wrap (x0 * x1)) 65536) (.bind (fl (IntKind.i64.wrap (x0 * x1)) 65536) fun vn4 => .bind (toldN vn4) fun vy5 => .ret (vy5)) (.fail)))) := by kernel_rfl
theorem c_meniscusref1_Mul (x0 : Int) (x1 : Int) (x2 : Bool) : Plain Try.prog 89 [cInt.enc x0, cInt.enc x1, cBool.enc x2] ((cTwo cInt cBool).enc (numMul x0 x1 x2)) :=
  plain_of_tree (n := 200) (EnvOK.add s_meniscusref1_In (EnvOK.add s_meniscusref1_Floor (EnvOK.add s_meniscusref1_Ceil (EnvOK.add s_meniscusref1_told EnvOK.nil)))) Try.func89 (args := [cInt.av x0, cInt.av x1, cBool.av x2]) (by simp only [AV.vals, Cod.av_val]) (Nat.le_of_ble_eq_true (by kernel_rfl)) LFn.nil (cTwo cInt cBool) (by
    rw [t_meniscusref1_Mul]
    simp only [den_br, den_bind, den_ret, den_fail, den_inl, den_inr, decide_eq_true_eq]
    simp only [numMul, rnd]
    cases h0 : numIn x0 <;> cases h1 : numIn x1 <;> simp
    have hm := mul_bd x0 x1 h0 h1
    have e1 : IntKind.i64.wrap (x0 * x1) = x0 * x1 := wr (by omega)
    have c1 : clOk (x0 * x1) 65536 = true := by simp [clOk]; omega
    simp only [e1, c1, clOk_fl c1, if_true, toldN, cl]
    cases x2 <;> simp)
theorem s_meniscusref1_Mul : Ev.Spec Try.prog 89 (F3 cInt cInt cBool (cTwo cInt cBool) numMul) := spec3 (fun vs w => Try.call89 vs w) c_meniscusref1_Mul

/-! meniscusref1.Div -/
theorem t_meniscusref1_Div (x0 : Int) (x1 : Int) (x2 : Bool) :
    evFn Try.prog (Env.add 67 (F1 cInt cBool numIn) (Env.add 96 (F2p cInt cInt cInt flOk fl) (Env.add 98 (F2p cInt cInt cInt clOk cl) (Env.add 104 (F1 cInt (cTwo cInt cBool) toldN) Env.nil)))) Laws.nil 200 Try.f90 [cInt.av x0, cInt.av x1, cBool.av x2] [] (cTwo cInt cBool).dec =
      .bind (numIn x0) fun vb0 => .br (!vb0) (.ret ((0, false))) (.bind (numIn x1) fun vb1 => .br (!vb1) (.ret ((0, false))) (.br (x1 == 0) (.ret ((0, false))) (.br (x2) (.br (clOk (IntKind.i64.wrap (x0 * 65536)) x1) (.bind (cl (IntKind.i64.wrap (x0 * 65536)) x1) fun vn2 => .bind (toldN vn2) fun vy3 => .ret (vy3)) (.fail)) (.br (flOk (IntKind.i64.wrap (x0 * 65536)) x1) (.bind (fl (IntKind.i64.wrap (x0 * 65536)) x1) fun vn4 => .bind (toldN vn4) fun vy5 => .ret (vy5)) (.fail))))) := by kernel_rfl
theorem c_meniscusref1_Div (x0 : Int) (x1 : Int) (x2 : Bool) : Plain Try.prog 90 [cInt.enc x0, cInt.enc x1, cBool.enc x2] ((cTwo cInt cBool).enc (numDiv x0 x1 x2)) :=
  plain_of_tree (n := 200) (EnvOK.add s_meniscusref1_In (EnvOK.add s_meniscusref1_Floor (EnvOK.add s_meniscusref1_Ceil (EnvOK.add s_meniscusref1_told EnvOK.nil)))) Try.func90 (args := [cInt.av x0, cInt.av x1, cBool.av x2]) (by simp only [AV.vals, Cod.av_val]) (Nat.le_of_ble_eq_true (by kernel_rfl)) LFn.nil (cTwo cInt cBool) (by
    rw [t_meniscusref1_Div]
    simp only [den_br, den_bind, den_ret, den_fail, den_inl, den_inr, decide_eq_true_eq]
    simp only [numDiv, rnd]
    cases h0 : numIn x0 <;> cases h1 : numIn x1 <;> simp
    have b0 := numIn_iff.1 h0
    have b1 := numIn_iff.1 h1
    have e1 : IntKind.i64.wrap (x0 * 65536) = x0 * 65536 := wr (by omega)
    have c1 : clOk (x0 * 65536) x1 = true := by simp [clOk]; omega
    simp only [e1, c1, clOk_fl c1, if_true, toldN, cl]
    by_cases hz : x1 = 0 <;> simp [hz]
    cases x2 <;> simp)
theorem s_meniscusref1_Div : Ev.Spec Try.prog 90 (F3 cInt cInt cBool (cTwo cInt cBool) numDiv) := spec3 (fun vs w => Try.call90 vs w) c_meniscusref1_Div

/-! meniscusref1.Right -/
theorem t_meniscusref1_Right (x0 : Iv) :
    evFn Try.prog (Env.add 67 (F1 cInt cBool numIn) Env.nil) Laws.nil 200 Try.f38 [cIv.av x0] [] cBool.dec =
      .br (!x0.no) (.bind (numIn x0.lo) fun vb0 => .br (vb0) (.bind (numIn x0.hi) fun vb1 => .br (vb1) (.ret (decide (x0.lo ≤ x0.hi))) (.ret (false))) (.ret (false))) (.ret (false)) := by kernel_rfl
theorem c_meniscusref1_Right (x0 : Iv) : Plain Try.prog 38 [cIv.enc x0] (cBool.enc (Iv.right x0)) :=
  plain_of_tree (n := 200) (EnvOK.add s_meniscusref1_In EnvOK.nil) Try.func38 (args := [cIv.av x0]) (by simp only [AV.vals, Cod.av_val]) (Nat.le_of_ble_eq_true (by kernel_rfl)) LFn.nil cBool (by
    rw [t_meniscusref1_Right]
    simp only [Tr.den]
    grind [Iv.right])
theorem s_meniscusref1_Right : Ev.Spec Try.prog 38 (F1 cIv cBool Iv.right) := spec1 (fun vs w => Try.call38 vs w) c_meniscusref1_Right

/-! meniscusref1.None -/
theorem t_meniscusref1_None  :
    evFn Try.prog Env.nil Laws.nil 200 Try.f39 [] [] cIv.dec =
      .ret (Iv.mk 0 0 true) := by kernel_rfl
theorem c_meniscusref1_None  : Plain Try.prog 39 [] (cIv.enc (Iv.none)) :=
  plain_of_tree (n := 200) EnvOK.nil Try.func39 (args := []) rfl (Nat.le_of_ble_eq_true (by kernel_rfl)) LFn.nil cIv (by
    rw [t_meniscusref1_None]
    rfl)
theorem s_meniscusref1_None : Ev.Spec Try.prog 39 (F0 cIv Iv.none) := spec0 (fun vs w => Try.call39 vs w) c_meniscusref1_None

/-! meniscusref1.Of -/
theorem t_meniscusref1_Of (x0 : Int) (x1 : Int) :
    evFn Try.prog (Env.add 38 (F1 cIv cBool Iv.right) (Env.add 39 (F0 cIv Iv.none) Env.nil)) Laws.nil 200 Try.f65 [cInt.av x0, cInt.av x1] [] cIv.dec =
      .bind ((Iv.mk x0 x1 false).right) fun vb0 => .br (!vb0) (.bind (Iv.none) fun viv1 => .ret (viv1)) (.ret (Iv.mk x0 x1 false)) := by kernel_rfl
theorem c_meniscusref1_Of (x0 : Int) (x1 : Int) : Plain Try.prog 65 [cInt.enc x0, cInt.enc x1] (cIv.enc (Iv.of x0 x1)) :=
  plain_of_tree (n := 200) (EnvOK.add s_meniscusref1_Right (EnvOK.add s_meniscusref1_None EnvOK.nil)) Try.func65 (args := [cInt.av x0, cInt.av x1]) (by simp only [AV.vals, Cod.av_val]) (Nat.le_of_ble_eq_true (by kernel_rfl)) LFn.nil cIv (by
    rw [t_meniscusref1_Of]
    simp only [Tr.den]
    grind [Iv.of])
theorem s_meniscusref1_Of : Ev.Spec Try.prog 65 (F2 cInt cInt cIv Iv.of) := spec2 (fun vs w => Try.call65 vs w) c_meniscusref1_Of

/-! meniscusref1.Point -/
theorem t_meniscusref1_Point (x0 : Int) :
    evFn Try.prog (Env.add 65 (F2 cInt cInt cIv Iv.of) Env.nil) Laws.nil 200 Try.f35 [cInt.av x0] [] cIv.dec =
      .bind (Iv.of x0 x0) fun viv0 => .ret (viv0) := by kernel_rfl
theorem c_meniscusref1_Point (x0 : Int) : Plain Try.prog 35 [cInt.enc x0] (cIv.enc (Iv.point x0)) :=
  plain_of_tree (n := 200) (EnvOK.add s_meniscusref1_Of EnvOK.nil) Try.func35 (args := [cInt.av x0]) (by simp only [AV.vals, Cod.av_val]) (Nat.le_of_ble_eq_true (by kernel_rfl)) LFn.nil cIv (by
    rw [t_meniscusref1_Point]
    simp only [Tr.den]
    grind [Iv.point])
theorem s_meniscusref1_Point : Ev.Spec Try.prog 35 (F1 cInt cIv Iv.point) := spec1 (fun vs w => Try.call35 vs w) c_meniscusref1_Point

/-! meniscusref1.Add -/
theorem t_meniscusref1_Add (x0 : Iv) (x1 : Iv) :
    evFn Try.prog (Env.add 38 (F1 cIv cBool Iv.right) (Env.add 39 (F0 cIv Iv.none) (Env.add 65 (F2 cInt cInt cIv Iv.of) Env.nil))) Laws.nil 200 Try.f36 [cIv.av x0, cIv.av x1] [] cIv.dec =
      .bind (x0.right) fun vb0 => .br (!vb0) (.bind (Iv.none) fun viv1 => .ret (viv1)) (.bind (x1.right) fun vb2 => .br (!vb2) (.bind (Iv.none) fun viv3 => .ret (viv3)) (.bind (Iv.of (IntKind.i64.wrap (x0.lo + x1.lo)) (IntKind.i64.wrap (x0.hi + x1.hi))) fun viv4 => .ret (viv4))) := by kernel_rfl
theorem c_meniscusref1_Add (x0 : Iv) (x1 : Iv) : Plain Try.prog 36 [cIv.enc x0, cIv.enc x1] (cIv.enc (Iv.add x0 x1)) :=
  plain_of_tree (n := 200) (EnvOK.add s_meniscusref1_Right (EnvOK.add s_meniscusref1_None (EnvOK.add s_meniscusref1_Of EnvOK.nil))) Try.func36 (args := [cIv.av x0, cIv.av x1]) (by simp only [AV.vals, Cod.av_val]) (Nat.le_of_ble_eq_true (by kernel_rfl)) LFn.nil cIv (by
    rw [t_meniscusref1_Add]
    simp only [den_br, den_bind, den_ret, den_fail, den_inl, den_inr, decide_eq_true_eq]
    by_cases h0 : x0.right = true <;> by_cases h1 : x1.right = true <;> simp [Iv.add, Iv.both, h0, h1]
    have b0 := right_bd h0
    have b1 := right_bd h1
    simp (disch := omega) only [IntWalk.i64_in])
theorem s_meniscusref1_Add : Ev.Spec Try.prog 36 (F2 cIv cIv cIv Iv.add) := spec2 (fun vs w => Try.call36 vs w) c_meniscusref1_Add

/-! meniscusref1.Sub -/
theorem t_meniscusref1_Sub (x0 : Iv) (x1 : Iv) :
    evFn Try.prog (Env.add 38 (F1 cIv cBool Iv.right) (Env.add 39 (F0 cIv Iv.none) (Env.add 65 (F2 cInt cInt cIv Iv.of) Env.nil))) Laws.nil 200 Try.f99 [cIv.av x0, cIv.av x1] [] cIv.dec =
      .bind (x0.right) fun vb0 => .br (!vb0) (.bind (Iv.none) fun viv1 => .ret (viv1)) (.bind (x1.right) fun vb2 => .br (!vb2) (.bind (Iv.none) fun viv3 => .ret (viv3)) (.bind (Iv.of (IntKind.i64.wrap (x0.lo - x1.hi)) (IntKind.i64.wrap (x0.hi - x1.lo))) fun viv4 => .ret (viv4))) := by kernel_rfl
theorem c_meniscusref1_Sub (x0 : Iv) (x1 : Iv) : Plain Try.prog 99 [cIv.enc x0, cIv.enc x1] (cIv.enc (Iv.sub x0 x1)) :=
  plain_of_tree (n := 200) (EnvOK.add s_meniscusref1_Right (EnvOK.add s_meniscusref1_None (EnvOK.add s_meniscusref1_Of EnvOK.nil))) Try.func99 (args := [cIv.av x0, cIv.av x1]) (by simp only [AV.vals, Cod.av_val]) (Nat.le_of_ble_eq_true (by kernel_rfl)) LFn.nil cIv (by
    rw [t_meniscusref1_Sub]
    simp only [den_br, den_bind, den_ret, den_fail, den_inl, den_inr, decide_eq_true_eq]
    by_cases h0 : x0.right = true <;> by_cases h1 : x1.right = true <;> simp [sub_eq, Iv.both, h0, h1]
    have b0 := right_bd h0
    have b1 := right_bd h1
    simp (disch := omega) only [IntWalk.i64_in])
theorem s_meniscusref1_Sub : Ev.Spec Try.prog 99 (F2 cIv cIv cIv Iv.sub) := spec2 (fun vs w => Try.call99 vs w) c_meniscusref1_Sub

/-! meniscusref1.ends -/
theorem tl_meniscusref1_ends_4 (t2 : Bool) (t7 : Int) (t8 : Int) (t9 : Int) (r0 : Iv) (r1 : Iv) (r2 : Iv) :
    ev Try.prog (Env.add 39 (F0 cIv Iv.none) (Env.add 65 (F2 cInt cInt cIv Iv.of) (Env.add 89 (F3 cInt cInt cBool (cTwo cInt cBool) numMul) (Env.add 90 (F3 cInt cInt cBool (cTwo cInt cBool) numDiv) Env.nil)))) Laws.nil 200 none (loopAt Try.f66 4) ((sc 85 [2, 7, 8, 9, 3, 4, 6] (tCod 2 cBool (tCod 7 cInt (tCod 8 cInt (tCod 9 cInt (tOwn 3 0 (tOwn 4 1 (tOwn 6 2 tNil))))))) (rBox ccIv ccIv_ok (rBox ccIv ccIv_ok (rBox ccIv ccIv_ok rNil)))).enc ((t2, t7, t8, t9, ()), (r0, r1, r2, ()))) (backK (sc 85 [2, 7, 8, 9, 3, 4, 6] (tCod 2 cBool (tCod 7 cInt (tCod 8 cInt (tCod 9 cInt (tOwn 3 0 (tOwn 4 1 (tOwn 6 2 tNil))))))) (rBox ccIv ccIv_ok (rBox ccIv ccIv_ok (rBox ccIv ccIv_ok rNil)))) (ocOr (ocExit 0 (sc 85 [7, 8, 6] (tCod 7 cInt (tCod 8 cInt (tOwn 6 0 tNil))) (rBox ccIv ccIv_ok rNil))) (ocRet (sc 85 [6] (tOwn 6 0 tNil) (rBox ccIv ccIv_ok rNil))))) =
      .br (decide (t9 < 4)) (.br (t9.tmod 2 == 1) (.br (IntKind.i64.wrap (t9.tdiv 2) == 1) (.bind (numMul r0.hi r1.hi false) fun vy0 => .bind (numMul r0.hi r1.hi true) fun vy1 => .br (t2) (.bind (numDiv r0.hi r1.hi false) fun vy2 => .bind (numDiv r0.hi r1.hi true) fun vy3 => .br (!vy2.2) (.bind (Iv.none) fun viv4 => .ret (Sum.inr (Sum.inr ((), viv4, ())))) (.br (!vy3.2) (.bind (Iv.none) fun viv5 => .ret (Sum.inr (Sum.inr ((), viv5, ())))) (.br (t9 == 0) (.br (t9 == 0) (.ret (Sum.inl ((t2, vy2.1, vy3.1, IntKind.i64.wrap (t9 + 1), ()), r0, r1, r2, ()))) (.br (decide (vy3.1 > t8)) (.ret (Sum.inl ((t2, vy2.1, vy3.1, IntKind.i64.wrap (t9 + 1), ()), r0, r1, r2, ()))) (.ret (Sum.inl ((t2, vy2.1, t8, IntKind.i64.wrap (t9 + 1), ()), r0, r1, r2, ()))))) (.br (decide (vy2.1 < t7)) (.br (t9 == 0) (.ret (Sum.inl ((t2, vy2.1, vy3.1, IntKind.i64.wrap (t9 + 1), ()), r0, r1, r2, ()))) (.br (decide (vy3.1 > t8)) (.ret (Sum.inl ((t2, vy2.1, vy3.1, IntKind.i64.wrap (t9 + 1), ()), r0, r1, r2, ()))) (.ret (Sum.inl ((t2, vy2.1, t8, IntKind.i64.wrap (t9 + 1), ()), r0, r1, r2, ()))))) (.br (t9 == 0) (.ret (Sum.inl ((t2, t7, vy3.1, IntKind.i64.wrap (t9 + 1), ()), r0, r1, r2, ()))) (.br (decide (vy3.1 > t8)) (.ret (Sum.inl ((t2, t7, vy3.1, IntKind.i64.wrap (t9 + 1), ()), r0, r1, r2, ()))) (.ret (Sum.inl ((t2, t7, t8, IntKind.i64.wrap (t9 + 1), ()), r0, r1, r2, ()))))))))) (.br (!vy0.2) (.bind (Iv.none) fun viv6 => .ret (Sum.inr (Sum.inr ((), viv6, ())))) (.br (!vy1.2) (.bind (Iv.none) fun viv7 => .ret (Sum.inr (Sum.inr ((), viv7, ())))) (.br (t9 == 0) (.br (t9 == 0) (.ret (Sum.inl ((t2, vy0.1, vy1.1, IntKind.i64.wrap (t9 + 1), ()), r0, r1, r2, ()))) (.br (decide (vy1.1 > t8)) (.ret (Sum.inl ((t2, vy0.1, vy1.1, IntKind.i64.wrap (t9 + 1), ()), r0, r1, r2, ()))) (.ret (Sum.inl ((t2, vy0.1, t8, IntKind.i64.wrap (t9 + 1), ()), r0, r1, r2, ()))))) (.br (decide (vy0.1 < t7)) (.br (t9 == 0) (.ret (Sum.inl ((t2, vy0.1, vy1.1, IntKind.i64.wrap (t9 + 1), ()), r0, r1, r2, ()))) (.br (decide (vy1.1 > t8)) (.ret (Sum.inl ((t2, vy0.1, vy1.1, IntKind.i64.wrap (t9 + 1), ()), r0, r1, r2, ()))) (.ret (Sum.inl ((t2, vy0.1, t8, IntKind.i64.wrap (t9 + 1), ()), r0, r1, r2, ()))))) (.br (t9 == 0) (.ret (Sum.inl ((t2, t7, vy1.1, IntKind.i64.wrap (t9 + 1), ()), r0, r1, r2, ()))) (.br (decide (vy1.1 > t8)) (.ret (Sum.inl ((t2, t7, vy1.1, IntKind.i64.wrap (t9 + 1), ()), r0, r1, r2, ()))) (.ret (Sum.inl ((t2, t7, t8, IntKind.i64.wrap (t9 + 1), ()), r0, r1, r2, ())))))))))) (.bind (numMul r0.hi r1.lo false) fun vy8 => .bind (numMul r0.hi r1.lo true) fun vy9 => .br (t2) (.bind (numDiv r0.hi r1.lo false) fun vy10 => .bind (numDiv r0.hi r1.lo true) fun vy11 => .br (!vy10.2) (.bind (Iv.none) fun viv12 => .ret (Sum.inr (Sum.inr ((), viv12, ())))) (.br (!vy11.2) (.bind (Iv.none) fun viv13 => .ret (Sum.inr (Sum.inr ((), viv13, ())))) (.br (t9 == 0) (.br (t9 == 0) (.ret (Sum.inl ((t2, vy10.1, vy11.1, IntKind.i64.wrap (t9 + 1), ()), r0, r1, r2, ()))) (.br (decide (vy11.1 > t8)) (.ret (Sum.inl ((t2, vy10.1, vy11.1, IntKind.i64.wrap (t9 + 1), ()), r0, r1, r2, ()))) (.ret (Sum.inl ((t2, vy10.1, t8, IntKind.i64.wrap (t9 + 1), ()), r0, r1, r2, ()))))) (.br (decide (vy10.1 < t7)) (.br (t9 == 0) (.ret (Sum.inl ((t2, vy10.1, vy11.1, IntKind.i64.wrap (t9 + 1), ()), r0, r1, r2, ()))) (.br (decide (vy11.1 > t8)) (.ret (Sum.inl ((t2, vy10.1, vy11.1, IntKind.i64.wrap (t9 + 1), ()), r0, r1, r2, ()))) (.ret (Sum.inl ((t2, vy10.1, t8, IntKind.i64.wrap (t9 + 1), ()), r0, r1, r2, ()))))) (.br (t9 == 0) (.ret (Sum.inl ((t2, t7, vy11.1, IntKind.i64.wrap (t9 + 1), ()), r0, r1, r2, ()))) (.br (decide (vy11.1 > t8)) (.ret (Sum.inl ((t2, t7, vy11.1, IntKind.i64.wrap (t9 + 1), ()), r0, r1, r2, ()))) (.ret (Sum.inl ((t2, t7, t8, IntKind.i64.wrap (t9 + 1), ()), r0, r1, r2, ()))))))))) (.br (!vy8.2) (.bind (Iv.none) fun viv14 => .ret (Sum.inr (Sum.inr ((), viv14, ())))) (.br (!vy9.2) (.bind (Iv.none) fun viv15 => .ret (Sum.inr (Sum.inr ((), viv15, ())))) (.br (t9 == 0) (.br (t9 == 0) (.ret (Sum.inl ((t2, vy8.1, vy9.1, IntKind.i64.wrap (t9 + 1), ()), r0, r1, r2, ()))) (.br (decide (vy9.1 > t8)) (.ret (Sum.inl ((t2, vy8.1, vy9.1, IntKind.i64.wrap (t9 + 1), ()), r0, r1, r2, ()))) (.ret (Sum.inl ((t2, vy8.1, t8, IntKind.i64.wrap (t9 + 1), ()), r0, r1, r2, ()))))) (.br (decide (vy8.1 < t7)) (.br (t9 == 0) (.ret (Sum.inl ((t2, vy8.1, vy9.1, IntKind.i64.wrap (t9 + 1), ()), r0, r1, r2, ()))) (.br (decide (vy9.1 > t8)) (.ret (Sum.inl ((t2, vy8.1, vy9.1, IntKind.i64.wrap (t9 + 1), ()), r0, r1, r2, ()))) (.ret (Sum.inl ((t2, vy8.1, t8, IntKind.i64.wrap (t9 + 1), ()), r0, r1, r2, ()))))) (.br (t9 == 0) (.ret (Sum.inl ((t2, t7, vy9.1, IntKind.i64.wrap (t9 + 1), ()), r0, r1, r2, ()))) (.br (decide (vy9.1 > t8)) (.ret (Sum.inl ((t2, t7, vy9.1, IntKind.i64.wrap (t9 + 1), ()), r0, r1, r2, ()))) (.ret (Sum.inl ((t2, t7, t8, IntKind.i64.wrap (t9 + 1), ()), r0, r1, r2, ()))))))))))) (.br (IntKind.i64.wrap (t9.tdiv 2) == 1) (.bind (numMul r0.lo r1.hi false) fun vy16 => .bind (numMul r0.lo r1.hi true) fun vy17 => .br (t2) (.bind (numDiv r0.lo r1.hi false) fun vy18 => .bind (numDiv r0.lo r1.hi true) fun vy19 => .br (!vy18.2) (.bind (Iv.none) fun viv20 => .ret (Sum.inr (Sum.inr ((), viv20, ())))) (.br (!vy19.2) (.bind (Iv.none) fun viv21 => .ret (Sum.inr (Sum.inr ((), viv21, ())))) (.br (t9 == 0) (.br (t9 == 0) (.ret (Sum.inl ((t2, vy18.1, vy19.1, IntKind.i64.wrap (t9 + 1), ()), r0, r1, r2, ()))) (.br (decide (vy19.1 > t8)) (.ret (Sum.inl ((t2, vy18.1, vy19.1, IntKind.i64.wrap (t9 + 1), ()), r0, r1, r2, ()))) (.ret (Sum.inl ((t2, vy18.1, t8, IntKind.i64.wrap (t9 + 1), ()), r0, r1, r2, ()))))) (.br (decide (vy18.1 < t7)) (.br (t9 == 0) (.ret (Sum.inl ((t2, vy18.1, vy19.1, IntKind.i64.wrap (t9 + 1), ()), r0, r1, r2, ()))) (.br (decide (vy19.1 > t8)) (.ret (Sum.inl ((t2, vy18.1, vy19.1, IntKind.i64.wrap (t9 + 1), ()), r0, r1, r2, ()))) (.ret (Sum.inl ((t2, vy18.1, t8, IntKind.i64.wrap (t9 + 1), ()), r0, r1, r2, ()))))) (.br (t9 == 0) (.ret (Sum.inl ((t2, t7, vy19.1, IntKind.i64.wrap (t9 + 1), ()), r0, r1, r2, ()))) (.br (decide (vy19.1 > t8)) (.ret (Sum.inl ((t2, t7, vy19.1, IntKind.i64.wrap (t9 + 1), ()), r0, r1, r2, ()))) (.ret (Sum.inl ((t2, t7, t8, IntKind.i64.wrap (t9 + 1), ()), r0, r1, r2, ()))))))))) (.br (!vy16.2) (.bind (Iv.none) fun viv22 => .ret (Sum.inr (Sum.inr ((), viv22, ())))) (.br (!vy17.2) (.bind (Iv.none) fun viv23 => .ret (Sum.inr (Sum.inr ((), viv23, ())))) (.br (t9 == 0) (.br (t9 == 0) (.ret (Sum.inl ((t2, vy16.1, vy17.1, IntKind.i64.wrap (t9 + 1), ()), r0, r1, r2, ()))) (.br (decide (vy17.1 > t8)) (.ret (Sum.inl ((t2, vy16.1, vy17.1, IntKind.i64.wrap (t9 + 1), ()), r0, r1, r2, ()))) (.ret (Sum.inl ((t2, vy16.1, t8, IntKind.i64.wrap (t9 + 1), ()), r0, r1, r2, ()))))) (.br (decide (vy16.1 < t7)) (.br (t9 == 0) (.ret (Sum.inl ((t2, vy16.1, vy17.1, IntKind.i64.wrap (t9 + 1), ()), r0, r1, r2, ()))) (.br (decide (vy17.1 > t8)) (.ret (Sum.inl ((t2, vy16.1, vy17.1, IntKind.i64.wrap (t9 + 1), ()), r0, r1, r2, ()))) (.ret (Sum.inl ((t2, vy16.1, t8, IntKind.i64.wrap (t9 + 1), ()), r0, r1, r2, ()))))) (.br (t9 == 0) (.ret (Sum.inl ((t2, t7, vy17.1, IntKind.i64.wrap (t9 + 1), ()), r0, r1, r2, ()))) (.br (decide (vy17.1 > t8)) (.ret (Sum.inl ((t2, t7, vy17.1, IntKind.i64.wrap (t9 + 1), ()), r0, r1, r2, ()))) (.ret (Sum.inl ((t2, t7, t8, IntKind.i64.wrap (t9 + 1), ()), r0, r1, r2, ())))))))))) (.bind (numMul r0.lo r1.lo false) fun vy24 => .bind (numMul r0.lo r1.lo true) fun vy25 => .br (t2) (.bind (numDiv r0.lo r1.lo false) fun vy26 => .bind (numDiv r0.lo r1.lo true) fun vy27 => .br (!vy26.2) (.bind (Iv.none) fun viv28 => .ret (Sum.inr (Sum.inr ((), viv28, ())))) (.br (!vy27.2) (.bind (Iv.none) fun viv29 => .ret (Sum.inr (Sum.inr ((), viv29, ())))) (.br (t9 == 0) (.br (t9 == 0) (.ret (Sum.inl ((t2, vy26.1, vy27.1, IntKind.i64.wrap (t9 + 1), ()), r0, r1, r2, ()))) (.br (decide (vy27.1 > t8)) (.ret (Sum.inl ((t2, vy26.1, vy27.1, IntKind.i64.wrap (t9 + 1), ()), r0, r1, r2, ()))) (.ret (Sum.inl ((t2, vy26.1, t8, IntKind.i64.wrap (t9 + 1), ()), r0, r1, r2, ()))))) (.br (decide (vy26.1 < t7)) (.br (t9 == 0) (.ret (Sum.inl ((t2, vy26.1, vy27.1, IntKind.i64.wrap (t9 + 1), ()), r0, r1, r2, ()))) (.br (decide (vy27.1 > t8)) (.ret (Sum.inl ((t2, vy26.1, vy27.1, IntKind.i64.wrap (t9 + 1), ()), r0, r1, r2, ()))) (.ret (Sum.inl ((t2, vy26.1, t8, IntKind.i64.wrap (t9 + 1), ()), r0, r1, r2, ()))))) (.br (t9 == 0) (.ret (Sum.inl ((t2, t7, vy27.1, IntKind.i64.wrap (t9 + 1), ()), r0, r1, r2, ()))) (.br (decide (vy27.1 > t8)) (.ret (Sum.inl ((t2, t7, vy27.1, IntKind.i64.wrap (t9 + 1), ()), r0, r1, r2, ()))) (.ret (Sum.inl ((t2, t7, t8, IntKind.i64.wrap (t9 + 1), ()), r0, r1, r2, ()))))))))) (.br (!vy24.2) (.bind (Iv.none) fun viv30 => .ret (Sum.inr (Sum.inr ((), viv30, ())))) (.br (!vy25.2) (.bind (Iv.none) fun viv31 => .ret (Sum.inr (Sum.inr ((), viv31, ())))) (.br (t9 == 0) (.br (t9 == 0) (.ret (Sum.inl ((t2, vy24.1, vy25.1, IntKind.i64.wrap (t9 + 1), ()), r0, r1, r2, ()))) (.br (decide (vy25.1 > t8)) (.ret (Sum.inl ((t2, vy24.1, vy25.1, IntKind.i64.wrap (t9 + 1), ()), r0, r1, r2, ()))) (.ret (Sum.inl ((t2, vy24.1, t8, IntKind.i64.wrap (t9 + 1), ()), r0, r1, r2, ()))))) (.br (decide (vy24.1 < t7)) (.br (t9 == 0) (.ret (Sum.inl ((t2, vy24.1, vy25.1, IntKind.i64.wrap (t9 + 1), ()), r0, r1, r2, ()))) (.br (decide (vy25.1 > t8)) (.ret (Sum.inl ((t2, vy24.1, vy25.1, IntKind.i64.wrap (t9 + 1), ()), r0, r1, r2, ()))) (.ret (Sum.inl ((t2, vy24.1, t8, IntKind.i64.wrap (t9 + 1), ()), r0, r1, r2, ()))))) (.br (t9 == 0) (.ret (Sum.inl ((t2, t7, vy25.1, IntKind.i64.wrap (t9 + 1), ()), r0, r1, r2, ()))) (.br (decide (vy25.1 > t8)) (.ret (Sum.inl ((t2, t7, vy25.1, IntKind.i64.wrap (t9 + 1), ()), r0, r1, r2, ()))) (.ret (Sum.inl ((t2, t7, t8, IntKind.i64.wrap (t9 + 1), ()), r0, r1, r2, ())))))))))))) (.ret (Sum.inr (Sum.inl ((t7, t8, ()), r2, ())))) := by kernel_rfl
theorem ok_meniscusref1_ends_4 : LOK Try.prog (LoopR.of (sc 85 [2, 7, 8, 9, 3, 4, 6] (tCod 2 cBool (tCod 7 cInt (tCod 8 cInt (tCod 9 cInt (tOwn 3 0 (tOwn 4 1 (tOwn 6 2 tNil))))))) (rBox ccIv ccIv_ok (rBox ccIv ccIv_ok (rBox ccIv ccIv_ok rNil)))) (ocOr (ocExit 0 (sc 85 [7, 8, 6] (tCod 7 cInt (tCod 8 cInt (tOwn 6 0 tNil))) (rBox ccIv ccIv_ok rNil))) (ocRet (sc 85 [6] (tOwn 6 0 tNil) (rBox ccIv ccIv_ok rNil)))) endsRun) (loopAt Try.f66 4) := by
  refine loop_ok (EnvOK.add s_meniscusref1_None (EnvOK.add s_meniscusref1_Of (EnvOK.add s_meniscusref1_Mul (EnvOK.add s_meniscusref1_Div EnvOK.nil)))) (LFn.at (fn := Try.f66) LFn.nil 4) endsStep (n := 200) (fun x z h => ?_) endsRun_ok
  obtain ⟨⟨t2, t7, t8, t9, ⟨⟩⟩, ⟨r0, r1, r2, ⟨⟩⟩⟩ := x
  rw [tl_meniscusref1_ends_4]
  rw [← h]
  simp only [den_br, den_bind, den_ret, den_fail, den_inl, den_inr, decide_eq_true_eq]
  simp only [endsStep, endsX, endsY, endsF, beq_iff_eq, Bool.not_eq_true']
  by_cases hk : t9 < 4 <;> simp only [hk, if_true, if_false]
  by_cases hx : t9.tmod 2 = 1 <;> simp only [hx, if_true, if_false] <;> by_cases hy : IntKind.i64.wrap (t9.tdiv 2) = 1 <;> simp only [hy, if_true, if_false] <;> cases t2 <;> simp only [Bool.false_eq_true, if_true, if_false] <;> grind
theorem t_meniscusref1_ends (x0 : Iv) (x1 : Iv) (x2 : Bool) :
    evFn Try.prog (Env.add 39 (F0 cIv Iv.none) (Env.add 65 (F2 cInt cInt cIv Iv.of) (Env.add 89 (F3 cInt cInt cBool (cTwo cInt cBool) numMul) (Env.add 90 (F3 cInt cInt cBool (cTwo cInt cBool) numDiv) Env.nil)))) (Laws.add 4 (LoopR.of (sc 85 [2, 7, 8, 9, 3, 4, 6] (tCod 2 cBool (tCod 7 cInt (tCod 8 cInt (tCod 9 cInt (tOwn 3 0 (tOwn 4 1 (tOwn 6 2 tNil))))))) (rBox ccIv ccIv_ok (rBox ccIv ccIv_ok (rBox ccIv ccIv_ok rNil)))) (ocOr (ocExit 0 (sc 85 [7, 8, 6] (tCod 7 cInt (tCod 8 cInt (tOwn 6 0 tNil))) (rBox ccIv ccIv_ok rNil))) (ocRet (sc 85 [6] (tOwn 6 0 tNil) (rBox ccIv ccIv_ok rNil)))) endsRun) Laws.nil) 200 Try.f66 [cIv.av x0, cIv.av x1, cBool.av x2] [] cIv.dec =
      .get (endsRun ((x2, 0, 0, 0, ()), x0, x1, Iv.mk 0 0 false, ())) fun vy0 => .sum (vy0) (fun vs1 => .bind (Iv.of vs1.1.1 vs1.1.2.1) fun viv2 => .ret (viv2)) (fun vs3 => .ret (vs3.2.1)) := by kernel_rfl
theorem c_meniscusref1_ends (x0 : Iv) (x1 : Iv) (x2 : Bool) : Plain Try.prog 66 [cIv.enc x0, cIv.enc x1, cBool.enc x2] (cIv.enc (endsD x0 x1 x2)) :=
  plain_of_tree (n := 200) (EnvOK.add s_meniscusref1_None (EnvOK.add s_meniscusref1_Of (EnvOK.add s_meniscusref1_Mul (EnvOK.add s_meniscusref1_Div EnvOK.nil)))) Try.func66 (args := [cIv.av x0, cIv.av x1, cBool.av x2]) (by simp only [AV.vals, Cod.av_val]) (Nat.le_of_ble_eq_true (by kernel_rfl)) (LFn.add (fn := Try.f66) (i := 4) (by kernel_rfl) ok_meniscusref1_ends_4 LFn.nil) cIv (by
    rw [t_meniscusref1_ends]
    simp only [den_br, den_bind, den_ret, den_fail, den_inl, den_inr, den_gets, decide_eq_true_eq]
    simp only [endsRun, endsD, ends, if_true]
    cases x2 <;> simp only [endsF, Bool.false_eq_true, if_false, if_true] <;> split <;> rfl)
theorem s_meniscusref1_ends : Ev.Spec Try.prog 66 (F3 cIv cIv cBool cIv endsD) := spec3 (fun vs w => Try.call66 vs w) c_meniscusref1_ends

/-! meniscusref1.MulIv -/
theorem t_meniscusref1_MulIv (x0 : Iv) (x1 : Iv) :
    evFn Try.prog (Env.add 38 (F1 cIv cBool Iv.right) (Env.add 39 (F0 cIv Iv.none) (Env.add 66 (F3 cIv cIv cBool cIv endsD) Env.nil))) Laws.nil 200 Try.f37 [cIv.av x0, cIv.av x1] [] cIv.dec =
      .bind (x0.right) fun vb0 => .br (!vb0) (.bind (Iv.none) fun viv1 => .ret (viv1)) (.bind (x1.right) fun vb2 => .br (!vb2) (.bind (Iv.none) fun viv3 => .ret (viv3)) (.bind (endsD x0 x1 false) fun viv4 => .ret (viv4))) := by kernel_rfl
theorem c_meniscusref1_MulIv (x0 : Iv) (x1 : Iv) : Plain Try.prog 37 [cIv.enc x0, cIv.enc x1] (cIv.enc (Iv.mul x0 x1)) :=
  plain_of_tree (n := 200) (EnvOK.add s_meniscusref1_Right (EnvOK.add s_meniscusref1_None (EnvOK.add s_meniscusref1_ends EnvOK.nil))) Try.func37 (args := [cIv.av x0, cIv.av x1]) (by simp only [AV.vals, Cod.av_val]) (Nat.le_of_ble_eq_true (by kernel_rfl)) LFn.nil cIv (by
    rw [t_meniscusref1_MulIv]
    simp only [den_br, den_bind, den_ret, den_fail, den_inl, den_inr, decide_eq_true_eq]
    grind [Iv.mul, Iv.both, endsD])
theorem s_meniscusref1_MulIv : Ev.Spec Try.prog 37 (F2 cIv cIv cIv Iv.mul) := spec2 (fun vs w => Try.call37 vs w) c_meniscusref1_MulIv

/-! meniscusref1.DivIv -/
theorem t_meniscusref1_DivIv (x0 : Iv) (x1 : Iv) :
    evFn Try.prog (Env.add 38 (F1 cIv cBool Iv.right) (Env.add 39 (F0 cIv Iv.none) (Env.add 66 (F3 cIv cIv cBool cIv endsD) Env.nil))) Laws.nil 200 Try.f75 [cIv.av x0, cIv.av x1] [] cIv.dec =
      .bind (x0.right) fun vb0 => .br (!vb0) (.bind (Iv.none) fun viv1 => .ret (viv1)) (.bind (x1.right) fun vb2 => .br (!vb2) (.bind (Iv.none) fun viv3 => .ret (viv3)) (.br (decide (x1.lo ≤ 0)) (.br (decide (x1.hi ≥ 0)) (.bind (Iv.none) fun viv4 => .ret (viv4)) (.bind (endsD x0 x1 true) fun viv5 => .ret (viv5))) (.bind (endsD x0 x1 true) fun viv6 => .ret (viv6)))) := by kernel_rfl
theorem c_meniscusref1_DivIv (x0 : Iv) (x1 : Iv) : Plain Try.prog 75 [cIv.enc x0, cIv.enc x1] (cIv.enc (Iv.div x0 x1)) :=
  plain_of_tree (n := 200) (EnvOK.add s_meniscusref1_Right (EnvOK.add s_meniscusref1_None (EnvOK.add s_meniscusref1_ends EnvOK.nil))) Try.func75 (args := [cIv.av x0, cIv.av x1]) (by simp only [AV.vals, Cod.av_val]) (Nat.le_of_ble_eq_true (by kernel_rfl)) LFn.nil cIv (by
    rw [t_meniscusref1_DivIv]
    simp only [den_br, den_bind, den_ret, den_fail, den_inl, den_inr, decide_eq_true_eq]
    grind [Iv.div, Iv.both, Iv.has, endsD])
theorem s_meniscusref1_DivIv : Ev.Spec Try.prog 75 (F2 cIv cIv cIv Iv.div) := spec2 (fun vs w => Try.call75 vs w) c_meniscusref1_DivIv

/-! meniscusref1.Times -/
theorem t_meniscusref1_Times (x0 : Iv) (x1 : Int) :
    evFn Try.prog (Env.add 38 (F1 cIv cBool Iv.right) (Env.add 39 (F0 cIv Iv.none) (Env.add 65 (F2 cInt cInt cIv Iv.of) (Env.add 67 (F1 cInt cBool numIn) Env.nil)))) Laws.nil 200 Try.f40 [cIv.av x0, cInt.av x1] [] cIv.dec =
      .bind (x0.right) fun vb0 => .br (!vb0) (.bind (Iv.none) fun viv1 => .ret (viv1)) (.bind (numIn x1) fun vb2 => .br (!vb2) (.bind (Iv.none) fun viv3 => .ret (viv3)) (.bind (Iv.of (Min.min (IntKind.i64.wrap (x1 * x0.lo)) (IntKind.i64.wrap (x1 * x0.hi))) (Max.max (IntKind.i64.wrap (x1 * x0.lo)) (IntKind.i64.wrap (x1 * x0.hi)))) fun viv4 => .ret (viv4))) := by kernel_rfl
theorem c_meniscusref1_Times (x0 : Iv) (x1 : Int) : Plain Try.prog 40 [cIv.enc x0, cInt.enc x1] (cIv.enc (Iv.times x0 x1)) :=
  plain_of_tree (n := 200) (EnvOK.add s_meniscusref1_Right (EnvOK.add s_meniscusref1_None (EnvOK.add s_meniscusref1_Of (EnvOK.add s_meniscusref1_In EnvOK.nil)))) Try.func40 (args := [cIv.av x0, cInt.av x1]) (by simp only [AV.vals, Cod.av_val]) (Nat.le_of_ble_eq_true (by kernel_rfl)) LFn.nil cIv (by
    rw [t_meniscusref1_Times]
    simp only [Tr.den, Iv.times]
    cases h0 : x0.right <;> cases h1 : numIn x1 <;> simp
    have b0 := right_bd h0
    have b1 := numIn_iff.1 h1
    have m1 := mul_bd x1 x0.lo h1 (numIn_iff.2 (by omega))
    have m2 := mul_bd x1 x0.hi h1 (numIn_iff.2 (by omega))
    simp (disch := omega) only [IntWalk.i64_in])
theorem s_meniscusref1_Times : Ev.Spec Try.prog 40 (F2 cIv cInt cIv Iv.times) := spec2 (fun vs w => Try.call40 vs w) c_meniscusref1_Times

/-! meniscusref1.Sqr -/
theorem t_meniscusref1_Sqr (x0 : Iv) :
    evFn Try.prog (Env.add 38 (F1 cIv cBool Iv.right) (Env.add 39 (F0 cIv Iv.none) (Env.add 65 (F2 cInt cInt cIv Iv.of) (Env.add 89 (F3 cInt cInt cBool (cTwo cInt cBool) numMul) Env.nil)))) Laws.nil 200 Try.f74 [cIv.av x0] [] cIv.dec =
      .bind (x0.right) fun vb0 => .br (!vb0) (.bind (Iv.none) fun viv1 => .ret (viv1)) (.br (decide (x0.lo ≤ 0)) (.br (decide (x0.hi ≥ 0)) (.bind (numMul 0 0 false) fun vy2 => .bind (numMul (Max.max (Max.max (Max.max x0.lo (IntKind.i64.wrap (0 - x0.lo))) x0.hi) (IntKind.i64.wrap (0 - x0.hi))) (Max.max (Max.max (Max.max x0.lo (IntKind.i64.wrap (0 - x0.lo))) x0.hi) (IntKind.i64.wrap (0 - x0.hi))) true) fun vy3 => .br (!vy3.2) (.bind (Iv.none) fun viv4 => .ret (viv4)) (.bind (Iv.of vy2.1 vy3.1) fun viv5 => .ret (viv5))) (.bind (numMul (Min.min (Max.max x0.lo (IntKind.i64.wrap (0 - x0.lo))) (Max.max x0.hi (IntKind.i64.wrap (0 - x0.hi)))) (Min.min (Max.max x0.lo (IntKind.i64.wrap (0 - x0.lo))) (Max.max x0.hi (IntKind.i64.wrap (0 - x0.hi)))) false) fun vy6 => .bind (numMul (Max.max (Max.max (Max.max x0.lo (IntKind.i64.wrap (0 - x0.lo))) x0.hi) (IntKind.i64.wrap (0 - x0.hi))) (Max.max (Max.max (Max.max x0.lo (IntKind.i64.wrap (0 - x0.lo))) x0.hi) (IntKind.i64.wrap (0 - x0.hi))) true) fun vy7 => .br (!vy7.2) (.bind (Iv.none) fun viv8 => .ret (viv8)) (.bind (Iv.of vy6.1 vy7.1) fun viv9 => .ret (viv9)))) (.bind (numMul (Min.min (Max.max x0.lo (IntKind.i64.wrap (0 - x0.lo))) (Max.max x0.hi (IntKind.i64.wrap (0 - x0.hi)))) (Min.min (Max.max x0.lo (IntKind.i64.wrap (0 - x0.lo))) (Max.max x0.hi (IntKind.i64.wrap (0 - x0.hi)))) false) fun vy10 => .bind (numMul (Max.max (Max.max (Max.max x0.lo (IntKind.i64.wrap (0 - x0.lo))) x0.hi) (IntKind.i64.wrap (0 - x0.hi))) (Max.max (Max.max (Max.max x0.lo (IntKind.i64.wrap (0 - x0.lo))) x0.hi) (IntKind.i64.wrap (0 - x0.hi))) true) fun vy11 => .br (!vy11.2) (.bind (Iv.none) fun viv12 => .ret (viv12)) (.bind (Iv.of vy10.1 vy11.1) fun viv13 => .ret (viv13)))) := by kernel_rfl
theorem c_meniscusref1_Sqr (x0 : Iv) : Plain Try.prog 74 [cIv.enc x0] (cIv.enc (Iv.sqr x0)) :=
  plain_of_tree (n := 200) (EnvOK.add s_meniscusref1_Right (EnvOK.add s_meniscusref1_None (EnvOK.add s_meniscusref1_Of (EnvOK.add s_meniscusref1_Mul EnvOK.nil)))) Try.func74 (args := [cIv.av x0]) (by simp only [AV.vals, Cod.av_val]) (Nat.le_of_ble_eq_true (by kernel_rfl)) LFn.nil cIv (by
    rw [t_meniscusref1_Sqr]
    simp only [Iv.sqr]
    cases h0 : x0.right
    · simp [Tr.den]
    have b0 := right_bd h0
    have e1 : IntKind.i64.wrap (-x0.lo) = -x0.lo := wr (by omega)
    have e2 : IntKind.i64.wrap (-x0.hi) = -x0.hi := wr (by omega)
    have f1 : max (max (max x0.lo (-x0.lo)) x0.hi) (-x0.hi) = max (-x0.lo) x0.hi := by omega
    simp only [den_br, den_bind, den_ret, den_fail, decide_eq_true_eq, e1, e2, f1]
    by_cases h1 : x0.lo ≤ 0
    · by_cases h2 : 0 ≤ x0.hi
      · have f2 : max (max x0.lo (-x0.hi)) 0 = 0 := by omega
        simp only [h1, h2, f2]
        grind
      · have f2 : min (max x0.lo (-x0.lo)) (max x0.hi (-x0.hi)) = max (max x0.lo (-x0.hi)) 0 := by omega
        simp only [h1, h2, f2]
        grind
    · have f2 : min (max x0.lo (-x0.lo)) (max x0.hi (-x0.hi)) = max (max x0.lo (-x0.hi)) 0 := by omega
      simp only [h1, f2]
      grind)
theorem s_meniscusref1_Sqr : Ev.Spec Try.prog 74 (F1 cIv cIv Iv.sqr) := spec1 (fun vs w => Try.call74 vs w) c_meniscusref1_Sqr

/-! meniscusref1.Horner -/
theorem tl_meniscusref1_Horner_5 (t6 : Int) (r0 : List Iv) (r1 : Iv) (r2 : Iv) (r3 : Iv) :
    ev Try.prog (Env.add 35 (F1 cInt cIv Iv.point) (Env.add 36 (F2 cIv cIv cIv Iv.add) (Env.add 37 (F2 cIv cIv cIv Iv.mul) (Env.add 38 (F1 cIv cBool Iv.right) (Env.add 39 (F0 cIv Iv.none) Env.nil))))) Laws.nil 200 none (loopAt Try.f11 5) ((sc 37 [6, 0, 3, 4, 5] (tCod 6 cInt (tSl 0 0 (tOwn 3 1 (tOwn 4 2 (tOwn 5 3 tNil))))) (rL_iv (rBox ccIv ccIv_ok (rBox ccIv ccIv_ok (rBox ccIv ccIv_ok rNil))))).enc ((t6, ()), (r0, r1, r2, r3, ()))) (backK (sc 37 [6, 0, 3, 4, 5] (tCod 6 cInt (tSl 0 0 (tOwn 3 1 (tOwn 4 2 (tOwn 5 3 tNil))))) (rL_iv (rBox ccIv ccIv_ok (rBox ccIv ccIv_ok (rBox ccIv ccIv_ok rNil))))) (ocExit 0 (sc 37 [4, 5] (tOwn 4 0 (tOwn 5 1 tNil)) (rBox ccIv ccIv_ok (rBox ccIv ccIv_ok rNil))))) =
      .br (decide (t6 ≥ 0)) (.bind (r3.mul r1) fun viv0 => .br (decide (0 ≤ t6 ∧ t6 < (@Nat.cast Int _ r0.length))) (.get (r0[t6.toNat]?) fun vt1 => .bind (viv0.add vt1) fun viv2 => .ret (Sum.inl ((IntKind.i64.wrap (t6 - 1), ()), r0, r1, r2, viv2, ()))) (.fail)) (.ret (Sum.inr ((), r2, r3, ()))) := by kernel_rfl
theorem ok_meniscusref1_Horner_5 : LOK Try.prog (LoopR.of (sc 37 [6, 0, 3, 4, 5] (tCod 6 cInt (tSl 0 0 (tOwn 3 1 (tOwn 4 2 (tOwn 5 3 tNil))))) (rL_iv (rBox ccIv ccIv_ok (rBox ccIv ccIv_ok (rBox ccIv ccIv_ok rNil))))) (ocExit 0 (sc 37 [4, 5] (tOwn 4 0 (tOwn 5 1 tNil)) (rBox ccIv ccIv_ok (rBox ccIv ccIv_ok rNil)))) hornRun) (loopAt Try.f11 5) := by
  refine loop_ok (EnvOK.add s_meniscusref1_Point (EnvOK.add s_meniscusref1_Add (EnvOK.add s_meniscusref1_MulIv (EnvOK.add s_meniscusref1_Right (EnvOK.add s_meniscusref1_None EnvOK.nil))))) (LFn.at (fn := Try.f11) LFn.nil 5) hornStep (n := 200) (fun x z h => ?_) hornRun_ok
  obtain ⟨⟨t6, ⟨⟩⟩, ⟨r0, r1, r2, r3, ⟨⟩⟩⟩ := x
  rw [tl_meniscusref1_Horner_5]
  rw [← h]
  simp only [den_br, den_bind, den_ret, den_fail, den_inl, den_inr, decide_eq_true_eq]
  simp only [hornStep]
  by_cases h0 : 0 ≤ t6 <;> simp only [h0, if_true, if_false, true_and]
  by_cases h1 : t6 < (r0.length : Int) <;> simp only [h1, if_true, if_false]
  cases hg : r0[t6.toNat]? with
  | none => rfl
  | some a => simp only [den_get, den_br, den_bind, den_ret, den_fail]
theorem t_meniscusref1_Horner (t1 : Iv) (r0 : List Iv) :
    evFn Try.prog (Env.add 35 (F1 cInt cIv Iv.point) (Env.add 36 (F2 cIv cIv cIv Iv.add) (Env.add 37 (F2 cIv cIv cIv Iv.mul) (Env.add 38 (F1 cIv cBool Iv.right) (Env.add 39 (F0 cIv Iv.none) Env.nil))))) (Laws.add 5 (LoopR.of (sc 37 [6, 0, 3, 4, 5] (tCod 6 cInt (tSl 0 0 (tOwn 3 1 (tOwn 4 2 (tOwn 5 3 tNil))))) (rL_iv (rBox ccIv ccIv_ok (rBox ccIv ccIv_ok (rBox ccIv ccIv_ok rNil))))) (ocExit 0 (sc 37 [4, 5] (tOwn 4 0 (tOwn 5 1 tNil)) (rBox ccIv ccIv_ok (rBox ccIv ccIv_ok rNil)))) hornRun) Laws.nil) 200 Try.f11 (((sc 2 [0, 1] (tSl 0 0 (tCod 1 cIv tNil)) (rL_iv rNil)).enc ((t1, ()), (r0, ()))).tmps.map Prod.snd) ((sc 2 [0, 1] (tSl 0 0 (tCod 1 cIv tNil)) (rL_iv rNil)).enc ((t1, ()), (r0, ()))).mem cIv.dec =
      .br ((@Nat.cast Int _ r0.length) == 0) (.bind (Iv.point 0) fun viv0 => .ret (viv0)) (.br (decide (0 ≤ IntKind.i64.wrap ((@Nat.cast Int _ r0.length) - 1) ∧ IntKind.i64.wrap ((@Nat.cast Int _ r0.length) - 1) < (@Nat.cast Int _ r0.length))) (.get (r0[(IntKind.i64.wrap ((@Nat.cast Int _ r0.length) - 1)).toNat]?) fun vt1 => .get (hornRun ((IntKind.i64.wrap ((@Nat.cast Int _ r0.length) - 2), ()), r0, t1, Iv.mk 0 0 false, vt1, ())) fun vy2 => .bind (vy2.2.2.1.right) fun vb3 => .br (!vb3) (.bind (Iv.none) fun viv4 => .ret (viv4)) (.ret (vy2.2.2.1))) (.fail)) := by kernel_rfl
theorem c_meniscusref1_Horner : PlainS Try.prog 11 (sc 2 [0, 1] (tSl 0 0 (tCod 1 cIv tNil)) (rL_iv rNil)) cIv (fun x => lenOk x.2.1) ((fun x => horner x.2.1 x.1.1)) := by
  intro x h N w vs hM hv
  obtain ⟨⟨t1, ⟨⟩⟩, ⟨r0, ⟨⟩⟩⟩ := x
  refine calls_of_tree (n := 200) (EnvOK.add s_meniscusref1_Point (EnvOK.add s_meniscusref1_Add (EnvOK.add s_meniscusref1_MulIv (EnvOK.add s_meniscusref1_Right (EnvOK.add s_meniscusref1_None EnvOK.nil))))) Try.func11 hv (Nat.le_of_ble_eq_true (by kernel_rfl)) (LFn.add (fn := Try.f11) (i := 5) (by kernel_rfl) ok_meniscusref1_Horner_5 LFn.nil) hM cIv ?_
  rw [t_meniscusref1_Horner]
  simp only [den_br, den_bind, den_ret, den_fail, den_inl, den_inr, decide_eq_true_eq]
  simp at h
  have hl := lenOk_iff.1 h
  have e1 : IntKind.i64.wrap ((r0.length : Int) - 1) = (r0.length : Int) - 1 := wr (by omega)
  have e2 : IntKind.i64.wrap ((r0.length : Int) - 2) = (r0.length : Int) - 2 := wr (by omega)
  simp only [e1, e2, horner]
  by_cases h0 : r0.length = 0
  · simp [h0]
  have h1 : ¬ ((r0.length : Int) = 0) := by omega
  have hlt : ((r0.length : Int) - 1).toNat < r0.length := by omega
  have et : ((r0.length : Int) - 1).toNat = r0.length - 1 := by omega
  have hr : hornRun (((r0.length : Int) - 2, ()), (r0, t1, Iv.zero, atI r0 (r0.length - 1), ())) = some ((), (Iv.zero, hornerD r0 t1 (r0.length - 1) (atI r0 (r0.length - 1)), ())) := by
    simp only [hornRun]
    rw [if_pos (by omega)]
    have : ((r0.length : Int) - 2 + 1).toNat = r0.length - 1 := by omega
    rw [this]
  rw [get_atI hlt, et]
  have h2 : 0 ≤ (r0.length : Int) - 1 ∧ (r0.length : Int) - 1 < (r0.length : Int) := by omega
  have h3 : ((r0.length : Int) == 0) = false := beq_eq_false_iff_ne.2 h1
  simp only [h0, h2, h3, if_true, if_false, Bool.false_eq_true, den_get]
  rw [show (⟨0, 0, false⟩ : Iv) = Iv.zero from rfl, hr]
  simp only [den_get, den_bind, den_br, den_ret]
  cases (hornerD r0 t1 (r0.length - 1) (atI r0 (r0.length - 1))).right <;> rfl
theorem s_meniscusref1_Horner : Ev.Spec Try.prog 11 (FS (sc 2 [0, 1] (tSl 0 0 (tCod 1 cIv tNil)) (rL_iv rNil)) cIv (fun x => lenOk x.2.1) ((fun x => horner x.2.1 x.1.1))) := specS rfl (fun vs w => Try.call11 vs w) c_meniscusref1_Horner

/-! meniscusref1.Slope -/
theorem tl_meniscusref1_Slope_3 (t4 : Int) (r0 : List Iv) (r1 : List Iv) :
    ev Try.prog (Env.add 40 (F2 cIv cInt cIv Iv.times) Env.nil) Laws.nil 200 none (loopAt Try.f12 3) ((sc 21 [4, 0, 3] (tCod 4 cInt (tSl 0 0 (tSl 3 1 tNil))) (rL_iv (rG_iv 26 rNil))).enc ((t4, ()), (r0, r1, ()))) (backK (sc 21 [4, 0, 3] (tCod 4 cInt (tSl 0 0 (tSl 3 1 tNil))) (rL_iv (rG_iv 26 rNil))) (ocExit 0 (sc 21 [3] (tSl 3 0 tNil) (rG_iv 26 rNil)))) =
      .br (decide (t4 < (@Nat.cast Int _ r0.length))) (.br (decide (0 ≤ t4 ∧ t4 < (@Nat.cast Int _ r0.length))) (.get (r0[t4.toNat]?) fun vt0 => .bind (Iv.times vt0 t4) fun viv1 => .br (Ev.lenOk (r1 ++ [viv1])) (.ret (Sum.inl ((IntKind.i64.wrap (t4 + 1), ()), r0, r1 ++ [viv1], ()))) (.fail)) (.fail)) (.ret (Sum.inr ((), r1, ()))) := by kernel_rfl
theorem ok_meniscusref1_Slope_3 : LOK Try.prog (LoopR.of (sc 21 [4, 0, 3] (tCod 4 cInt (tSl 0 0 (tSl 3 1 tNil))) (rL_iv (rG_iv 26 rNil))) (ocExit 0 (sc 21 [3] (tSl 3 0 tNil) (rG_iv 26 rNil))) slopeRun) (loopAt Try.f12 3) := by
  refine loop_ok (EnvOK.add s_meniscusref1_Times EnvOK.nil) (LFn.at (fn := Try.f12) LFn.nil 3) slopeStep (n := 200) (fun x z h => ?_) slopeRun_ok
  obtain ⟨⟨t4, ⟨⟩⟩, ⟨r0, r1, ⟨⟩⟩⟩ := x
  rw [tl_meniscusref1_Slope_3]
  rw [← h]
  simp only [den_br, den_bind, den_ret, den_fail, den_inl, den_inr, decide_eq_true_eq]
  simp only [slopeStep]
  by_cases h0 : t4 < (r0.length : Int) <;> simp only [h0, if_true, if_false, and_true]
  by_cases h1 : 0 ≤ t4 <;> simp only [h1, if_true, if_false]
  cases hg : r0[t4.toNat]? with
  | none => rfl
  | some a => simp only [den_get, den_br, den_bind, den_ret, den_fail]
theorem t_meniscusref1_Slope (r0 : List Iv) :
    evFnR Try.prog (Env.add 40 (F2 cIv cInt cIv Iv.times) Env.nil) (Laws.add 3 (LoopR.of (sc 21 [4, 0, 3] (tCod 4 cInt (tSl 0 0 (tSl 3 1 tNil))) (rL_iv (rG_iv 26 rNil))) (ocExit 0 (sc 21 [3] (tSl 3 0 tNil) (rG_iv 26 rNil))) slopeRun) Laws.nil) 200 Try.f12 (((sc 1 [0] (tSl 0 0 tNil) (rL_iv rNil)).enc ((()), (r0, ()))).tmps.map Prod.snd) ((sc 1 [0] (tSl 0 0 tNil) (rL_iv rNil)).enc ((()), (r0, ()))).mem (sc 1 [0] (tSl 0 0 tNil) (rG_iv 26 rNil)).ts (sc 1 [0] (tSl 0 0 tNil) (rG_iv 26 rNil)).dec =
      .get (slopeRun ((1, ()), r0, [], ())) fun vy0 => .ret (((), vy0.2.1, ())) := by kernel_rfl
theorem c_meniscusref1_Slope : PlainR Try.prog 12 (sc 1 [0] (tSl 0 0 tNil) (rL_iv rNil)) (sc 1 [0] (tSl 0 0 tNil) (rG_iv 26 rNil)) (fun x => lenOk x.2.1) ((fun x => (((), (slope x.2.1, ()))))) := by
  intro x h N w vs hM hv
  obtain ⟨⟨⟩, ⟨r0, ⟨⟩⟩⟩ := x
  refine calls_of_treeR (n := 200) (EnvOK.add s_meniscusref1_Times EnvOK.nil) Try.func12 hv (Nat.le_of_ble_eq_true (by kernel_rfl)) (LFn.add (fn := Try.f12) (i := 3) (by kernel_rfl) ok_meniscusref1_Slope_3 LFn.nil) hM (sc 1 [0] (tSl 0 0 tNil) (rG_iv 26 rNil)) rfl ?_
  rw [t_meniscusref1_Slope]
  simp only [den_br, den_bind, den_ret, den_fail, den_inl, den_inr, decide_eq_true_eq]
  simp at h
  have hl := lenOk_iff.1 h
  have hr : slopeRun ((1, ()), (r0, [], ())) = some ((), (slope r0, ())) := by
    refine (if_pos ⟨by omega, by omega, by omega, by simp⟩).trans ?_
    rfl
  rw [hr]
  rfl
theorem s_meniscusref1_Slope : Ev.Spec Try.prog 12 (FR (sc 1 [0] (tSl 0 0 tNil) (rL_iv rNil)) (sc 1 [0] (tSl 0 0 tNil) (rG_iv 26 rNil)) (fun x => lenOk x.2.1) ((fun x => (((), (slope x.2.1, ())))))) := specR rfl (fun _ => rfl) (fun vs w => Try.call12 vs w) c_meniscusref1_Slope

/-! meniscusref8.Within -/
theorem t_meniscusref8_Within (x0 : Int) (x1 : Int) (x2 : Int) :
    evFn Try.prog Env.nil Laws.nil 200 Try.f28 [cInt.av x0, cInt.av x1, cInt.av x2] [] cInt.dec =
      .ret (Max.max x1 (Min.min x2 x0)) := by kernel_rfl
theorem c_meniscusref8_Within (x0 : Int) (x1 : Int) (x2 : Int) : Plain Try.prog 28 [cInt.enc x0, cInt.enc x1, cInt.enc x2] (cInt.enc (within x0 x1 x2)) :=
  plain_of_tree (n := 200) EnvOK.nil Try.func28 (args := [cInt.av x0, cInt.av x1, cInt.av x2]) (by simp only [AV.vals, Cod.av_val]) (Nat.le_of_ble_eq_true (by kernel_rfl)) LFn.nil cInt (by
    rw [t_meniscusref8_Within]
    rfl)
theorem s_meniscusref8_Within : Ev.Spec Try.prog 28 (F3 cInt cInt cInt cInt within) := spec3 (fun vs w => Try.call28 vs w) c_meniscusref8_Within

/-! meniscushand.Wide -/
theorem t_meniscushand_Wide (x0 : Int) (x1 : Int) :
    evFn Try.prog (Env.add 28 (F3 cInt cInt cInt cInt within) Env.nil) Laws.nil 200 Try.f6 [cInt.av x0, cInt.av x1] [] cIv.dec =
      .bind (within x0 (-1073741824) 1073741824) fun vn0 => .ret (Iv.mk vn0 (Min.min 1073741824 (IntKind.i64.wrap (vn0 + x1))) false) := by kernel_rfl
theorem c_meniscushand_Wide (x0 : Int) (x1 : Int) : Plain Try.prog 6 [cInt.enc x0, cInt.enc x1] (cIv.enc (wide x0 x1)) :=
  plain_of_tree (n := 200) (EnvOK.add s_meniscusref8_Within EnvOK.nil) Try.func6 (args := [cInt.av x0, cInt.av x1]) (by simp only [AV.vals, Cod.av_val]) (Nat.le_of_ble_eq_true (by kernel_rfl)) LFn.nil cIv (by
    rw [t_meniscushand_Wide]
    rfl)
theorem s_meniscushand_Wide : Ev.Spec Try.prog 6 (F2 cInt cInt cIv wide) := spec2 (fun vs w => Try.call6 vs w) c_meniscushand_Wide

/-! meniscuslaw7.line -/
theorem t_meniscuslaw7_line (x0 : Iv) :
    evFn Try.prog (Env.add 19 (F2 cIv cIv cIv Iv.sub) (Env.add 20 (F1 cInt cIv Iv.whole) Env.nil)) Laws.nil 200 Try.f41 [cIv.av x0] [] (cTwo cIv cIv).dec =
      .bind (Iv.whole 1) fun viv0 => .bind (x0.sub viv0) fun viv1 => .bind (Iv.whole 1) fun viv2 => .ret ((viv1, viv2)) := by kernel_rfl
theorem c_meniscuslaw7_line (x0 : Iv) : Plain Try.prog 41 [cIv.enc x0] ((cTwo cIv cIv).enc (lineF x0)) :=
  plain_of_tree (n := 200) (EnvOK.add s_iv_Sub (EnvOK.add s_iv_Whole EnvOK.nil)) Try.func41 (args := [cIv.av x0]) (by simp only [AV.vals, Cod.av_val]) (Nat.le_of_ble_eq_true (by kernel_rfl)) LFn.nil (cTwo cIv cIv) (by
    rw [t_meniscuslaw7_line]
    rfl)
theorem s_meniscuslaw7_line : Ev.Spec Try.prog 41 (F1 cIv (cTwo cIv cIv) lineF) := spec1 (fun vs w => Try.call41 vs w) c_meniscuslaw7_line

/-! newton.without -/
theorem t_newton_without_line (t1 : Iv) :
    evFn Try.prog (Env.add 25 (F1 cIv cBool Iv.right) (Env.add 63 (F2 cIv cInt cBool Iv.has) (Env.add 41 (F1 cIv (cTwo cIv cIv) lineF) Env.nil))) Laws.nil 200 Try.f33 (((sc 2 [0, 1] (tClo 0 41 [] (tCod 1 cIv tNil)) rNil).enc ((t1, ()), (()))).tmps.map Prod.snd) ((sc 2 [0, 1] (tClo 0 41 [] (tCod 1 cIv tNil)) rNil).enc ((t1, ()), (()))).mem cBool.dec =
      .bind (lineF t1) fun vy0 => .bind (vy0.1.right) fun vb1 => .br (vb1) (.bind (vy0.1.has 0) fun vb2 => .ret (!vb2)) (.ret (false)) := by kernel_rfl
theorem c_newton_without_line : PlainS Try.prog 33 (sc 2 [0, 1] (tClo 0 41 [] (tCod 1 cIv tNil)) rNil) cBool (fun _ => true) ((fun x => without ((fun (_ : Unit) => lineF) x.2) x.1.1)) := by
  intro x h N w vs hM hv
  obtain ⟨⟨t1, ⟨⟩⟩, ⟨⟩⟩ := x
  refine calls_of_tree (n := 200) (EnvOK.add s_iv_Right (EnvOK.add s_iv_Has (EnvOK.add s_meniscuslaw7_line EnvOK.nil))) Try.func33 hv (Nat.le_of_ble_eq_true (by kernel_rfl)) LFn.nil hM cBool ?_
  rw [t_newton_without_line]
  simp only [den_br, den_bind, den_ret, den_fail, den_inl, den_inr, decide_eq_true_eq]
  simp only [without]
  grind
theorem s_newton_without_line : Ev.Spec Try.prog 33 (FS (sc 2 [0, 1] (tClo 0 41 [] (tCod 1 cIv tNil)) rNil) cBool (fun _ => true) ((fun x => without ((fun (_ : Unit) => lineF) x.2) x.1.1))) := specS rfl (fun vs w => Try.call33 vs w) c_newton_without_line

/-! newton.Solve -/
theorem tl_newton_Solve_line_5 (t15 : Bool) (t16 : Int) (r0 : Iv) (r1 : Iv) (r2 : Iv) (r3 : Iv) (r4 : Iv) (r5 : Iv) (r6 : Iv) (r7 : Iv) (r8 : Iv) :
    ev Try.prog (Env.add 17 (F0 cIv Iv.none) (Env.add 19 (F2 cIv cIv cIv Iv.sub) (Env.add 25 (F1 cIv cBool Iv.right) (Env.add 26 (F2 cIv cIv cIv Iv.meet) (Env.add 29 (F1 cInt cIv Iv.point) (Env.add 30 (F1 cIv cInt Iv.mid) (Env.add 31 (F2 cIv cIv cIv Iv.div) (Env.add 32 (F1 cIv (cTwo cIv cIv) Iv.split) (Env.add 33 (FS (sc 2 [0, 1] (tClo 0 41 [] (tCod 1 cIv tNil)) rNil) cBool (fun _ => true) ((fun x => without ((fun (_ : Unit) => lineF) x.2) x.1.1))) (Env.add 41 (F1 cIv (cTwo cIv cIv) lineF) Env.nil)))))))))) Laws.nil 200 none (loopAt Try.f8 5) ((sc 95 [15, 16, 4, 6, 8, 9, 10, 11, 12, 13, 14, 0] (tCod 15 cBool (tCod 16 cInt (tOwn 4 0 (tOwn 6 1 (tOwn 8 2 (tOwn 9 3 (tOwn 10 4 (tOwn 11 5 (tOwn 12 6 (tOwn 13 7 (tOwn 14 8 (tClo 0 41 [] tNil)))))))))))) (rBox ccIv ccIv_ok (rBox ccIv ccIv_ok (rBox ccIv ccIv_ok (rBox ccIv ccIv_ok (rBox ccIv ccIv_ok (rBox ccIv ccIv_ok (rBox ccIv ccIv_ok (rBox ccIv ccIv_ok (rBox ccIv ccIv_ok rNil)))))))))).enc ((t15, t16, ()), (r0, r1, r2, r3, r4, r5, r6, r7, r8, ()))) (backK (sc 95 [15, 16, 4, 6, 8, 9, 10, 11, 12, 13, 14, 0] (tCod 15 cBool (tCod 16 cInt (tOwn 4 0 (tOwn 6 1 (tOwn 8 2 (tOwn 9 3 (tOwn 10 4 (tOwn 11 5 (tOwn 12 6 (tOwn 13 7 (tOwn 14 8 (tClo 0 41 [] tNil)))))))))))) (rBox ccIv ccIv_ok (rBox ccIv ccIv_ok (rBox ccIv ccIv_ok (rBox ccIv ccIv_ok (rBox ccIv ccIv_ok (rBox ccIv ccIv_ok (rBox ccIv ccIv_ok (rBox ccIv ccIv_ok (rBox ccIv ccIv_ok rNil)))))))))) (ocOr (ocExit 0 (sc 95 [15, 4, 6] (tCod 15 cBool (tOwn 4 0 (tOwn 6 1 tNil))) (rBox ccIv ccIv_ok (rBox ccIv ccIv_ok rNil)))) (ocOr (ocRet (sc 95 [7, 6] (tCod 7 cInt (tOwn 6 0 tNil)) (rBox ccIv ccIv_ok rNil))) (ocGoto 0 (sc 95 [6] (tOwn 6 0 tNil) (rBox ccIv ccIv_ok rNil)))))) =
      .br (decide (t16 > 0)) (.bind (r0.mid) fun vn0 => .bind (Iv.point vn0) fun viv1 => .bind (lineF viv1) fun vy2 => .bind (lineF r0) fun vy3 => .bind (vy2.1.div vy3.2) fun viv4 => .bind (viv1.sub viv4) fun viv5 => .br (viv5.no) (.bind (r0.split) fun vy6 => .br (true) (.bind (without lineF vy6.1) fun vb7 => .br (vb7) (.ret (Sum.inl ((t15, IntKind.i64.wrap (t16 - 1), ()), vy6.2, r1, viv5, viv1, r4, vy6.1, vy6.2, vy2.1, vy3.2, ()))) (.br (true) (.bind (without lineF vy6.2) fun vb8 => .br (!vb8) (.ret (Sum.inr (Sum.inr (Sum.inr ((), r1, ()))))) (.ret (Sum.inl ((t15, IntKind.i64.wrap (t16 - 1), ()), vy6.1, r1, viv5, viv1, r4, vy6.1, vy6.2, vy2.1, vy3.2, ())))) (.fail))) (.fail)) (.br (t15) (.bind (r0.meet viv5) fun viv9 => .br (viv9.no) (.bind (Iv.none) fun viv10 => .ret (Sum.inr (Sum.inr (Sum.inl ((2, ()), viv10, ()))))) (.br (viv9.lo == r0.lo && (viv9.hi == r0.hi && viv9.no == r0.no)) (.ret (Sum.inr (Sum.inl ((true, ()), r0, r1, ())))) (.ret (Sum.inl ((true, IntKind.i64.wrap (t16 - 1), ()), viv9, r1, viv5, viv1, viv9, r5, r6, vy2.1, vy3.2, ()))))) (.br (decide (r0.lo < viv5.lo)) (.bind (r0.meet viv5) fun viv11 => .br (viv11.no) (.bind (Iv.none) fun viv12 => .ret (Sum.inr (Sum.inr (Sum.inl ((2, ()), viv12, ()))))) (.br (viv11.lo == r0.lo && (viv11.hi == r0.hi && viv11.no == r0.no)) (.ret (Sum.inr (Sum.inl ((decide (viv5.hi < r0.hi), ()), r0, r1, ())))) (.ret (Sum.inl ((decide (viv5.hi < r0.hi), IntKind.i64.wrap (t16 - 1), ()), viv11, r1, viv5, viv1, viv11, r5, r6, vy2.1, vy3.2, ()))))) (.bind (r0.meet viv5) fun viv13 => .br (viv13.no) (.bind (Iv.none) fun viv14 => .ret (Sum.inr (Sum.inr (Sum.inl ((2, ()), viv14, ()))))) (.br (viv13.lo == r0.lo && (viv13.hi == r0.hi && viv13.no == r0.no)) (.ret (Sum.inr (Sum.inl ((false, ()), r0, r1, ())))) (.ret (Sum.inl ((false, IntKind.i64.wrap (t16 - 1), ()), viv13, r1, viv5, viv1, viv13, r5, r6, vy2.1, vy3.2, ())))))))) (.ret (Sum.inr (Sum.inl ((t15, ()), r0, r1, ())))) := by kernel_rfl
theorem ok_newton_Solve_line_5 : LOK Try.prog (LoopR.of (sc 95 [15, 16, 4, 6, 8, 9, 10, 11, 12, 13, 14, 0] (tCod 15 cBool (tCod 16 cInt (tOwn 4 0 (tOwn 6 1 (tOwn 8 2 (tOwn 9 3 (tOwn 10 4 (tOwn 11 5 (tOwn 12 6 (tOwn 13 7 (tOwn 14 8 (tClo 0 41 [] tNil)))))))))))) (rBox ccIv ccIv_ok (rBox ccIv ccIv_ok (rBox ccIv ccIv_ok (rBox ccIv ccIv_ok (rBox ccIv ccIv_ok (rBox ccIv ccIv_ok (rBox ccIv ccIv_ok (rBox ccIv ccIv_ok (rBox ccIv ccIv_ok rNil)))))))))) (ocOr (ocExit 0 (sc 95 [15, 4, 6] (tCod 15 cBool (tOwn 4 0 (tOwn 6 1 tNil))) (rBox ccIv ccIv_ok (rBox ccIv ccIv_ok rNil)))) (ocOr (ocRet (sc 95 [7, 6] (tCod 7 cInt (tOwn 6 0 tNil)) (rBox ccIv ccIv_ok rNil))) (ocGoto 0 (sc 95 [6] (tOwn 6 0 tNil) (rBox ccIv ccIv_ok rNil))))) (solveRun (fun _ => true) ((fun (_ : Unit) => lineF)))) (loopAt Try.f8 5) := by
  refine loop_ok (EnvOK.add s_iv_None (EnvOK.add s_iv_Sub (EnvOK.add s_iv_Right (EnvOK.add s_iv_Meet (EnvOK.add s_iv_Point (EnvOK.add s_iv_Mid (EnvOK.add s_iv_Div (EnvOK.add s_iv_Split (EnvOK.add s_newton_without_line (EnvOK.add s_meniscuslaw7_line EnvOK.nil)))))))))) (LFn.at (fn := Try.f8) LFn.nil 5) (solveStep (fun _ => true) ((fun (_ : Unit) => lineF))) (n := 200) (fun x z h => ?_) (solveRun_ok _ _)
  obtain ⟨⟨t15, t16, ⟨⟩⟩, ⟨r0, r1, r2, r3, r4, r5, r6, r7, r8, ⟨⟩⟩⟩ := x
  rw [tl_newton_Solve_line_5]
  by_cases hk : 0 < t16
  case neg =>
    rw [← h]
    simp only [den_br, den_bind, den_ret, den_fail, den_inl, den_inr, decide_eq_true_eq, solveStep, gt_iff_lt, hk, if_false]
  have hq : True := trivial
  rw [← h]
  simp only [den_br, den_bind, den_ret, den_fail, den_inl, den_inr, decide_eq_true_eq]
  rw [show (Iv.point r0.mid).sub ((lineF (Iv.point r0.mid)).1.div (lineF r0).2) = nextN (lineF) r0 from rfl]
  simp only [solveStep, solveSure, ivEq, gt_iff_lt, hk, hq, Bool.and_self, if_true]
  generalize nextN (lineF) r0 = n
  simp only [ltB]
  cases h1 : n.no
  case true =>
    simp only [if_true]
    split
    · rfl
    · split <;> simp_all
  simp only [Bool.false_eq_true, if_false]
  cases t15 <;> simp only [Bool.false_eq_true, if_true, if_false, Bool.true_or, Bool.false_or]
  by_cases h2 : r0.lo < n.lo <;> simp only [h2, if_true, if_false, decide_true, decide_false, Bool.true_and, Bool.false_and]
theorem t_newton_Solve_line (t1 : Iv) (t2 : Int) :
    evFn Try.prog (Env.add 17 (F0 cIv Iv.none) (Env.add 19 (F2 cIv cIv cIv Iv.sub) (Env.add 25 (F1 cIv cBool Iv.right) (Env.add 26 (F2 cIv cIv cIv Iv.meet) (Env.add 29 (F1 cInt cIv Iv.point) (Env.add 30 (F1 cIv cInt Iv.mid) (Env.add 31 (F2 cIv cIv cIv Iv.div) (Env.add 32 (F1 cIv (cTwo cIv cIv) Iv.split) (Env.add 33 (FS (sc 2 [0, 1] (tClo 0 41 [] (tCod 1 cIv tNil)) rNil) cBool (fun _ => true) ((fun x => without ((fun (_ : Unit) => lineF) x.2) x.1.1))) (Env.add 41 (F1 cIv (cTwo cIv cIv) lineF) Env.nil)))))))))) (Laws.add 5 (LoopR.of (sc 95 [15, 16, 4, 6, 8, 9, 10, 11, 12, 13, 14, 0] (tCod 15 cBool (tCod 16 cInt (tOwn 4 0 (tOwn 6 1 (tOwn 8 2 (tOwn 9 3 (tOwn 10 4 (tOwn 11 5 (tOwn 12 6 (tOwn 13 7 (tOwn 14 8 (tClo 0 41 [] tNil)))))))))))) (rBox ccIv ccIv_ok (rBox ccIv ccIv_ok (rBox ccIv ccIv_ok (rBox ccIv ccIv_ok (rBox ccIv ccIv_ok (rBox ccIv ccIv_ok (rBox ccIv ccIv_ok (rBox ccIv ccIv_ok (rBox ccIv ccIv_ok rNil)))))))))) (ocOr (ocExit 0 (sc 95 [15, 4, 6] (tCod 15 cBool (tOwn 4 0 (tOwn 6 1 tNil))) (rBox ccIv ccIv_ok (rBox ccIv ccIv_ok rNil)))) (ocOr (ocRet (sc 95 [7, 6] (tCod 7 cInt (tOwn 6 0 tNil)) (rBox ccIv ccIv_ok rNil))) (ocGoto 0 (sc 95 [6] (tOwn 6 0 tNil) (rBox ccIv ccIv_ok rNil))))) (solveRun (fun _ => true) ((fun (_ : Unit) => lineF)))) Laws.nil) 200 Try.f8 (((sc 3 [0, 1, 2] (tClo 0 41 [] (tCod 1 cIv (tCod 2 cInt tNil))) rNil).enc ((t1, t2, ()), (()))).tmps.map Prod.snd) ((sc 3 [0, 1, 2] (tClo 0 41 [] (tCod 1 cIv (tCod 2 cInt tNil))) rNil).enc ((t1, t2, ()), (()))).mem (cTwo cIv cInt).dec =
      .bind (t1.right) fun vb0 => .br (!vb0) (.bind (Iv.none) fun viv1 => .ret ((viv1, 0))) (.get (solveRun (fun x => true) (fun x => lineF) ((false, Max.max 0 (Min.min t2 40), ()), t1, Iv.mk 0 0 false, Iv.mk 0 0 false, Iv.mk 0 0 false, Iv.mk 0 0 false, Iv.mk 0 0 false, Iv.mk 0 0 false, Iv.mk 0 0 false, Iv.mk 0 0 false, ())) fun vy2 => .sum (vy2) (fun vs3 => .br (vs3.1.1) (.ret ((vs3.2.1, 1))) (.bind (Iv.none) fun viv4 => .ret ((viv4, 0)))) (fun vs5 => .sum (vs5) (fun vs6 => .ret ((vs6.2.1, vs6.1.1))) (fun vs7 => .bind (Iv.none) fun viv8 => .ret ((viv8, 0))))) := by kernel_rfl
theorem c_newton_Solve_line : PlainS Try.prog 8 (sc 3 [0, 1, 2] (tClo 0 41 [] (tCod 1 cIv (tCod 2 cInt tNil))) rNil) (cTwo cIv cInt) (fun _ => true) ((fun x => _root_.Go.Proofs.Ytlbmjajjldfigaa.solve ((fun (_ : Unit) => lineF) x.2) x.1.1 x.1.2.1)) := by
  intro x h N w vs hM hv
  obtain ⟨⟨t1, t2, ⟨⟩⟩, ⟨⟩⟩ := x
  refine calls_of_tree (n := 200) (EnvOK.add s_iv_None (EnvOK.add s_iv_Sub (EnvOK.add s_iv_Right (EnvOK.add s_iv_Meet (EnvOK.add s_iv_Point (EnvOK.add s_iv_Mid (EnvOK.add s_iv_Div (EnvOK.add s_iv_Split (EnvOK.add s_newton_without_line (EnvOK.add s_meniscuslaw7_line EnvOK.nil)))))))))) Try.func8 hv (Nat.le_of_ble_eq_true (by kernel_rfl)) (LFn.add (fn := Try.f8) (i := 5) (by kernel_rfl) ok_newton_Solve_line_5 LFn.nil) hM (cTwo cIv cInt) ?_
  rw [t_newton_Solve_line]
  simp only [den_br, den_bind, den_ret, den_fail, den_inl, den_inr, den_gets, decide_eq_true_eq]
  cases h0 : t1.right
  · simp [_root_.Go.Proofs.Ytlbmjajjldfigaa.solve, h0]
  have hr : ∀ {C : Type} (q : C → Bool) (F : C → Iv → Iv × Iv) (res n m u a b v s : Iv) (c : C), q c = true → solveRun q F ((false, max 0 (min t2 40), ()), (t1, res, n, m, u, a, b, v, s, c)) = some (solveOut (F c) res (rounds t2) t1 false) := by
    intro C q F res n m u a b v s c hq
    simp only [solveRun]
    rw [if_pos ⟨hq, by omega, by omega⟩]
    rfl
  rw [hr _ _ _ _ _ _ _ _ _ _ _ (by first | rfl | exact h)]
  simp only [Bool.not_true, Bool.false_eq_true, if_false, Option.bind_some, _root_.Go.Proofs.Ytlbmjajjldfigaa.solve, h0, if_true]
  rw [← solveEnd_out _ ⟨0, 0, false⟩]
  generalize solveOut _ _ _ _ _ = y
  rcases y with ⟨⟨sure, _⟩, ⟨t, res, _⟩⟩ | ⟨⟨is, _⟩, ⟨r, _⟩⟩ | ⟨_, ⟨r, _⟩⟩
  · cases sure <;> rfl
  · rfl
  · rfl
theorem s_newton_Solve_line : Ev.Spec Try.prog 8 (FS (sc 3 [0, 1, 2] (tClo 0 41 [] (tCod 1 cIv (tCod 2 cInt tNil))) rNil) (cTwo cIv cInt) (fun _ => true) ((fun x => _root_.Go.Proofs.Ytlbmjajjldfigaa.solve ((fun (_ : Unit) => lineF) x.2) x.1.1 x.1.2.1))) := specS rfl (fun vs w => Try.call8 vs w) c_newton_Solve_line

/-! newton.Solve -/
theorem tl_newton_Solve_ask_5 (t15 : Bool) (t16 : Int) (r0 : List Int) (r1 : List Iv) (r2 : Unit) (r3 : Iv) (r4 : Int) (r5 : Bool) (r6 : Iv) (r7 : Iv) (r8 : Iv) (r9 : Iv) (r10 : Iv) (r11 : Iv) (r12 : Iv) (r13 : Iv) (r14 : Iv) :
    evI Try.prog (Env.add 17 (F0 cIv Iv.none) (Env.add 19 (F2 cIv cIv cIv Iv.sub) (Env.add 25 (F1 cIv cBool Iv.right) (Env.add 26 (F2 cIv cIv cIv Iv.meet) (Env.add 29 (F1 cInt cIv Iv.point) (Env.add 30 (F1 cIv cInt Iv.mid) (Env.add 31 (F2 cIv cIv cIv Iv.div) (Env.add 32 (F1 cIv (cTwo cIv cIv) Iv.split) (Env.addT 33 (inl Try.prog (Env.add 25 (F1 cIv cBool Iv.right) (Env.add 63 (F2 cIv cInt cBool Iv.has) (Env.addT 9 (inl Try.prog (Env.add 10 (F2 cIv cIv cBool Iv.inside) (Env.add 11 (FS (sc 2 [0, 1] (tSl 0 0 (tCod 1 cIv tNil)) (rL_iv rNil)) cIv (fun x => lenOk x.2.1) ((fun x => horner x.2.1 x.1.1))) (Env.add 12 (FR (sc 1 [0] (tSl 0 0 tNil) (rL_iv rNil)) (sc 1 [0] (tSl 0 0 tNil) (rG_iv 26 rNil)) (fun x => lenOk x.2.1) ((fun x => (((), (slope x.2.1, ())))))) Env.nil))) 60 Try.f9) Env.nil))) 60 Try.f33) (Env.addT 9 (inl Try.prog (Env.add 10 (F2 cIv cIv cBool Iv.inside) (Env.add 11 (FS (sc 2 [0, 1] (tSl 0 0 (tCod 1 cIv tNil)) (rL_iv rNil)) cIv (fun x => lenOk x.2.1) ((fun x => horner x.2.1 x.1.1))) (Env.add 12 (FR (sc 1 [0] (tSl 0 0 tNil) (rL_iv rNil)) (sc 1 [0] (tSl 0 0 tNil) (rG_iv 26 rNil)) (fun x => lenOk x.2.1) ((fun x => (((), (slope x.2.1, ())))))) Env.nil))) 60 Try.f9) Env.nil)))))))))) Laws.nil 200 none (loopAt Try.f8 5) ((sc 95 [15, 16, 4, 6, 8, 9, 10, 11, 12, 13, 14, 0] (tCod 15 cBool (tCod 16 cInt (tOwn 4 6 (tOwn 6 7 (tOwn 8 8 (tOwn 9 9 (tOwn 10 10 (tOwn 11 11 (tOwn 12 12 (tOwn 13 13 (tOwn 14 14 (tClo 0 9 [4,5,3,2] tNil)))))))))))) (rL_int (rG_iv 26 (rBoxSl 1 ccNil ccNil_ok (rBox ccIv ccIv_ok (rBox ccInt ccInt_ok (rBox ccBool ccBool_ok (rBox ccIv ccIv_ok (rBox ccIv ccIv_ok (rBox ccIv ccIv_ok (rBox ccIv ccIv_ok (rBox ccIv ccIv_ok (rBox ccIv ccIv_ok (rBox ccIv ccIv_ok (rBox ccIv ccIv_ok (rBox ccIv ccIv_ok rNil)))))))))))))))).enc ((t15, t16, ()), (r0, r1, r2, r3, r4, r5, r6, r7, r8, r9, r10, r11, r12, r13, r14, ()))) (backI 15 (sc 95 [15, 16, 4, 6, 8, 9, 10, 11, 12, 13, 14, 0] (tCod 15 cBool (tCod 16 cInt (tOwn 4 6 (tOwn 6 7 (tOwn 8 8 (tOwn 9 9 (tOwn 10 10 (tOwn 11 11 (tOwn 12 12 (tOwn 13 13 (tOwn 14 14 (tClo 0 9 [4,5,3,2] tNil)))))))))))) (rL_int (rG_iv 26 (rBoxSl 1 ccNil ccNil_ok (rBox ccIv ccIv_ok (rBox ccInt ccInt_ok (rBox ccBool ccBool_ok (rBox ccIv ccIv_ok (rBox ccIv ccIv_ok (rBox ccIv ccIv_ok (rBox ccIv ccIv_ok (rBox ccIv ccIv_ok (rBox ccIv ccIv_ok (rBox ccIv ccIv_ok (rBox ccIv ccIv_ok (rBox ccIv ccIv_ok rNil)))))))))))))))) (ocOr (ocExit 0 (sc 95 [15, 4, 6] (tCod 15 cBool (tOwn 4 6 (tOwn 6 7 tNil))) (rL_int (rG_iv 26 (rBoxSl 1 ccNil ccNil_ok (rBox ccIv ccIv_ok (rBox ccInt ccInt_ok (rBox ccBool ccBool_ok (rBox ccIv ccIv_ok (rBox ccIv ccIv_ok (rBox ccIv ccIv_ok (rBox ccIv ccIv_ok (rBox ccIv ccIv_ok (rBox ccIv ccIv_ok (rBox ccIv ccIv_ok (rBox ccIv ccIv_ok (rBox ccIv ccIv_ok rNil))))))))))))))))) (ocOr (ocRet (sc 95 [7, 6] (tCod 7 cInt (tOwn 6 7 tNil)) (rL_int (rG_iv 26 (rBoxSl 1 ccNil ccNil_ok (rBox ccIv ccIv_ok (rBox ccInt ccInt_ok (rBox ccBool ccBool_ok (rBox ccIv ccIv_ok (rBox ccIv ccIv_ok (rBox ccIv ccIv_ok (rBox ccIv ccIv_ok (rBox ccIv ccIv_ok (rBox ccIv ccIv_ok (rBox ccIv ccIv_ok (rBox ccIv ccIv_ok (rBox ccIv ccIv_ok rNil))))))))))))))))) (ocGoto 0 (sc 95 [6] (tOwn 6 7 tNil) (rL_int (rG_iv 26 (rBoxSl 1 ccNil ccNil_ok (rBox ccIv ccIv_ok (rBox ccInt ccInt_ok (rBox ccBool ccBool_ok (rBox ccIv ccIv_ok (rBox ccIv ccIv_ok (rBox ccIv ccIv_ok (rBox ccIv ccIv_ok (rBox ccIv ccIv_ok (rBox ccIv ccIv_ok (rBox ccIv ccIv_ok (rBox ccIv ccIv_ok (rBox ccIv ccIv_ok rNil)))))))))))))))))))) =
      .br (decide (t16 > 0)) (.bind (r6.mid) fun vn0 => .bind (Iv.point vn0) fun viv1 => .br (r5) (.br (Ev.lenOk r1) (.bind (horner r1 viv1) fun viv2 => .br (Ev.lenOk r1) (.bind (((), slope r1, ())) fun vy3 => .br (Ev.lenOk vy3.2.1) (.bind (horner vy3.2.1 viv1) fun viv4 => .br (Ev.lenOk r1) (.bind (horner r1 r6) fun viv5 => .br (Ev.lenOk r1) (.bind (((), slope r1, ())) fun vy6 => .br (Ev.lenOk vy6.2.1) (.bind (horner vy6.2.1 r6) fun viv7 => .bind (viv2.div viv7) fun viv8 => .bind (viv1.sub viv8) fun viv9 => .br (viv9.no) (.bind (r6.split) fun vy10 => .br (Ev.lenOk r1) (.bind (horner r1 vy10.1) fun viv11 => .br (Ev.lenOk r1) (.bind (((), slope r1, ())) fun vy12 => .br (Ev.lenOk vy12.2.1) (.bind (horner vy12.2.1 vy10.1) fun viv13 => .bind (viv11.right) fun vb14 => .br (vb14) (.bind (viv11.has 0) fun vb15 => .br (!vb15) (.ret (Sum.inl ((t15, IntKind.i64.wrap (t16 - 1), ()), r0, r1, (), r3, IntKind.i64.wrap (IntKind.i64.wrap (IntKind.i64.wrap (r4 + 1) + 1) + 1), true, vy10.2, r7, viv9, viv1, r10, vy10.1, vy10.2, viv2, viv7, ()))) (.br (Ev.lenOk r1) (.bind (horner r1 vy10.2) fun viv16 => .br (Ev.lenOk r1) (.bind (((), slope r1, ())) fun vy17 => .br (Ev.lenOk vy17.2.1) (.bind (horner vy17.2.1 vy10.2) fun viv18 => .bind (viv16.right) fun vb19 => .br (vb19) (.bind (viv16.has 0) fun vb20 => .br (!!vb20) (.ret (Sum.inr (Sum.inr (Sum.inr ((), r0, r1, (), r3, IntKind.i64.wrap (IntKind.i64.wrap (IntKind.i64.wrap (IntKind.i64.wrap (r4 + 1) + 1) + 1) + 1), true, r6, r7, viv9, viv1, r10, vy10.1, vy10.2, viv2, viv7, ()))))) (.ret (Sum.inl ((t15, IntKind.i64.wrap (t16 - 1), ()), r0, r1, (), r3, IntKind.i64.wrap (IntKind.i64.wrap (IntKind.i64.wrap (IntKind.i64.wrap (r4 + 1) + 1) + 1) + 1), true, vy10.1, r7, viv9, viv1, r10, vy10.1, vy10.2, viv2, viv7, ())))) (.ret (Sum.inr (Sum.inr (Sum.inr ((), r0, r1, (), r3, IntKind.i64.wrap (IntKind.i64.wrap (IntKind.i64.wrap (IntKind.i64.wrap (r4 + 1) + 1) + 1) + 1), true, r6, r7, viv9, viv1, r10, vy10.1, vy10.2, viv2, viv7, ())))))) (.fail)) (.fail)) (.fail))) (.br (Ev.lenOk r1) (.bind (horner r1 vy10.2) fun viv21 => .br (Ev.lenOk r1) (.bind (((), slope r1, ())) fun vy22 => .br (Ev.lenOk vy22.2.1) (.bind (horner vy22.2.1 vy10.2) fun viv23 => .bind (viv21.right) fun vb24 => .br (vb24) (.bind (viv21.has 0) fun vb25 => .br (!!vb25) (.ret (Sum.inr (Sum.inr (Sum.inr ((), r0, r1, (), r3, IntKind.i64.wrap (IntKind.i64.wrap (IntKind.i64.wrap (IntKind.i64.wrap (r4 + 1) + 1) + 1) + 1), true, r6, r7, viv9, viv1, r10, vy10.1, vy10.2, viv2, viv7, ()))))) (.ret (Sum.inl ((t15, IntKind.i64.wrap (t16 - 1), ()), r0, r1, (), r3, IntKind.i64.wrap (IntKind.i64.wrap (IntKind.i64.wrap (IntKind.i64.wrap (r4 + 1) + 1) + 1) + 1), true, vy10.1, r7, viv9, viv1, r10, vy10.1, vy10.2, viv2, viv7, ())))) (.ret (Sum.inr (Sum.inr (Sum.inr ((), r0, r1, (), r3, IntKind.i64.wrap (IntKind.i64.wrap (IntKind.i64.wrap (IntKind.i64.wrap (r4 + 1) + 1) + 1) + 1), true, r6, r7, viv9, viv1, r10, vy10.1, vy10.2, viv2, viv7, ())))))) (.fail)) (.fail)) (.fail))) (.fail)) (.fail)) (.fail)) (.br (t15) (.bind (r6.meet viv9) fun viv26 => .br (viv26.no) (.bind (Iv.none) fun viv27 => .ret (Sum.inr (Sum.inr (Sum.inl ((2, ()), r0, r1, (), r3, IntKind.i64.wrap (IntKind.i64.wrap (r4 + 1) + 1), true, r6, viv27, viv9, viv1, viv26, r11, r12, viv2, viv7, ()))))) (.br (viv26.lo == r6.lo && (viv26.hi == r6.hi && viv26.no == r6.no)) (.ret (Sum.inr (Sum.inl ((true, ()), r0, r1, (), r3, IntKind.i64.wrap (IntKind.i64.wrap (r4 + 1) + 1), true, r6, r7, viv9, viv1, viv26, r11, r12, viv2, viv7, ())))) (.ret (Sum.inl ((true, IntKind.i64.wrap (t16 - 1), ()), r0, r1, (), r3, IntKind.i64.wrap (IntKind.i64.wrap (r4 + 1) + 1), true, viv26, r7, viv9, viv1, viv26, r11, r12, viv2, viv7, ()))))) (.br (decide (r6.lo < viv9.lo)) (.bind (r6.meet viv9) fun viv28 => .br (viv28.no) (.bind (Iv.none) fun viv29 => .ret (Sum.inr (Sum.inr (Sum.inl ((2, ()), r0, r1, (), r3, IntKind.i64.wrap (IntKind.i64.wrap (r4 + 1) + 1), true, r6, viv29, viv9, viv1, viv28, r11, r12, viv2, viv7, ()))))) (.br (viv28.lo == r6.lo && (viv28.hi == r6.hi && viv28.no == r6.no)) (.ret (Sum.inr (Sum.inl ((decide (viv9.hi < r6.hi), ()), r0, r1, (), r3, IntKind.i64.wrap (IntKind.i64.wrap (r4 + 1) + 1), true, r6, r7, viv9, viv1, viv28, r11, r12, viv2, viv7, ())))) (.ret (Sum.inl ((decide (viv9.hi < r6.hi), IntKind.i64.wrap (t16 - 1), ()), r0, r1, (), r3, IntKind.i64.wrap (IntKind.i64.wrap (r4 + 1) + 1), true, viv28, r7, viv9, viv1, viv28, r11, r12, viv2, viv7, ()))))) (.bind (r6.meet viv9) fun viv30 => .br (viv30.no) (.bind (Iv.none) fun viv31 => .ret (Sum.inr (Sum.inr (Sum.inl ((2, ()), r0, r1, (), r3, IntKind.i64.wrap (IntKind.i64.wrap (r4 + 1) + 1), true, r6, viv31, viv9, viv1, viv30, r11, r12, viv2, viv7, ()))))) (.br (viv30.lo == r6.lo && (viv30.hi == r6.hi && viv30.no == r6.no)) (.ret (Sum.inr (Sum.inl ((false, ()), r0, r1, (), r3, IntKind.i64.wrap (IntKind.i64.wrap (r4 + 1) + 1), true, r6, r7, viv9, viv1, viv30, r11, r12, viv2, viv7, ())))) (.ret (Sum.inl ((false, IntKind.i64.wrap (t16 - 1), ()), r0, r1, (), r3, IntKind.i64.wrap (IntKind.i64.wrap (r4 + 1) + 1), true, viv30, r7, viv9, viv1, viv30, r11, r12, viv2, viv7, ())))))))) (.fail)) (.fail)) (.fail)) (.fail)) (.fail)) (.fail)) (.bind (viv1.inside r3) fun vb32 => .br (Ev.lenOk r1) (.bind (horner r1 viv1) fun viv33 => .br (Ev.lenOk r1) (.bind (((), slope r1, ())) fun vy34 => .br (Ev.lenOk vy34.2.1) (.bind (horner vy34.2.1 viv1) fun viv35 => .br (!vb32) (.br (Ev.lenOk r1) (.bind (horner r1 r6) fun viv36 => .br (Ev.lenOk r1) (.bind (((), slope r1, ())) fun vy37 => .br (Ev.lenOk vy37.2.1) (.bind (horner vy37.2.1 r6) fun viv38 => .bind (viv33.div viv38) fun viv39 => .bind (viv1.sub viv39) fun viv40 => .br (viv40.no) (.bind (r6.split) fun vy41 => .br (Ev.lenOk r1) (.bind (horner r1 vy41.1) fun viv42 => .br (Ev.lenOk r1) (.bind (((), slope r1, ())) fun vy43 => .br (Ev.lenOk vy43.2.1) (.bind (horner vy43.2.1 vy41.1) fun viv44 => .bind (viv42.right) fun vb45 => .br (vb45) (.bind (viv42.has 0) fun vb46 => .br (!vb46) (.ret (Sum.inl ((t15, IntKind.i64.wrap (t16 - 1), ()), r0, r1, (), r3, IntKind.i64.wrap (IntKind.i64.wrap (IntKind.i64.wrap (r4 + 1) + 1) + 1), true, vy41.2, r7, viv40, viv1, r10, vy41.1, vy41.2, viv33, viv38, ()))) (.br (Ev.lenOk r1) (.bind (horner r1 vy41.2) fun viv47 => .br (Ev.lenOk r1) (.bind (((), slope r1, ())) fun vy48 => .br (Ev.lenOk vy48.2.1) (.bind (horner vy48.2.1 vy41.2) fun viv49 => .bind (viv47.right) fun vb50 => .br (vb50) (.bind (viv47.has 0) fun vb51 => .br (!!vb51) (.ret (Sum.inr (Sum.inr (Sum.inr ((), r0, r1, (), r3, IntKind.i64.wrap (IntKind.i64.wrap (IntKind.i64.wrap (IntKind.i64.wrap (r4 + 1) + 1) + 1) + 1), true, r6, r7, viv40, viv1, r10, vy41.1, vy41.2, viv33, viv38, ()))))) (.ret (Sum.inl ((t15, IntKind.i64.wrap (t16 - 1), ()), r0, r1, (), r3, IntKind.i64.wrap (IntKind.i64.wrap (IntKind.i64.wrap (IntKind.i64.wrap (r4 + 1) + 1) + 1) + 1), true, vy41.1, r7, viv40, viv1, r10, vy41.1, vy41.2, viv33, viv38, ())))) (.ret (Sum.inr (Sum.inr (Sum.inr ((), r0, r1, (), r3, IntKind.i64.wrap (IntKind.i64.wrap (IntKind.i64.wrap (IntKind.i64.wrap (r4 + 1) + 1) + 1) + 1), true, r6, r7, viv40, viv1, r10, vy41.1, vy41.2, viv33, viv38, ())))))) (.fail)) (.fail)) (.fail))) (.br (Ev.lenOk r1) (.bind (horner r1 vy41.2) fun viv52 => .br (Ev.lenOk r1) (.bind (((), slope r1, ())) fun vy53 => .br (Ev.lenOk vy53.2.1) (.bind (horner vy53.2.1 vy41.2) fun viv54 => .bind (viv52.right) fun vb55 => .br (vb55) (.bind (viv52.has 0) fun vb56 => .br (!!vb56) (.ret (Sum.inr (Sum.inr (Sum.inr ((), r0, r1, (), r3, IntKind.i64.wrap (IntKind.i64.wrap (IntKind.i64.wrap (IntKind.i64.wrap (r4 + 1) + 1) + 1) + 1), true, r6, r7, viv40, viv1, r10, vy41.1, vy41.2, viv33, viv38, ()))))) (.ret (Sum.inl ((t15, IntKind.i64.wrap (t16 - 1), ()), r0, r1, (), r3, IntKind.i64.wrap (IntKind.i64.wrap (IntKind.i64.wrap (IntKind.i64.wrap (r4 + 1) + 1) + 1) + 1), true, vy41.1, r7, viv40, viv1, r10, vy41.1, vy41.2, viv33, viv38, ())))) (.ret (Sum.inr (Sum.inr (Sum.inr ((), r0, r1, (), r3, IntKind.i64.wrap (IntKind.i64.wrap (IntKind.i64.wrap (IntKind.i64.wrap (r4 + 1) + 1) + 1) + 1), true, r6, r7, viv40, viv1, r10, vy41.1, vy41.2, viv33, viv38, ())))))) (.fail)) (.fail)) (.fail))) (.fail)) (.fail)) (.fail)) (.br (t15) (.bind (r6.meet viv40) fun viv57 => .br (viv57.no) (.bind (Iv.none) fun viv58 => .ret (Sum.inr (Sum.inr (Sum.inl ((2, ()), r0, r1, (), r3, IntKind.i64.wrap (IntKind.i64.wrap (r4 + 1) + 1), true, r6, viv58, viv40, viv1, viv57, r11, r12, viv33, viv38, ()))))) (.br (viv57.lo == r6.lo && (viv57.hi == r6.hi && viv57.no == r6.no)) (.ret (Sum.inr (Sum.inl ((true, ()), r0, r1, (), r3, IntKind.i64.wrap (IntKind.i64.wrap (r4 + 1) + 1), true, r6, r7, viv40, viv1, viv57, r11, r12, viv33, viv38, ())))) (.ret (Sum.inl ((true, IntKind.i64.wrap (t16 - 1), ()), r0, r1, (), r3, IntKind.i64.wrap (IntKind.i64.wrap (r4 + 1) + 1), true, viv57, r7, viv40, viv1, viv57, r11, r12, viv33, viv38, ()))))) (.br (decide (r6.lo < viv40.lo)) (.bind (r6.meet viv40) fun viv59 => .br (viv59.no) (.bind (Iv.none) fun viv60 => .ret (Sum.inr (Sum.inr (Sum.inl ((2, ()), r0, r1, (), r3, IntKind.i64.wrap (IntKind.i64.wrap (r4 + 1) + 1), true, r6, viv60, viv40, viv1, viv59, r11, r12, viv33, viv38, ()))))) (.br (viv59.lo == r6.lo && (viv59.hi == r6.hi && viv59.no == r6.no)) (.ret (Sum.inr (Sum.inl ((decide (viv40.hi < r6.hi), ()), r0, r1, (), r3, IntKind.i64.wrap (IntKind.i64.wrap (r4 + 1) + 1), true, r6, r7, viv40, viv1, viv59, r11, r12, viv33, viv38, ())))) (.ret (Sum.inl ((decide (viv40.hi < r6.hi), IntKind.i64.wrap (t16 - 1), ()), r0, r1, (), r3, IntKind.i64.wrap (IntKind.i64.wrap (r4 + 1) + 1), true, viv59, r7, viv40, viv1, viv59, r11, r12, viv33, viv38, ()))))) (.bind (r6.meet viv40) fun viv61 => .br (viv61.no) (.bind (Iv.none) fun viv62 => .ret (Sum.inr (Sum.inr (Sum.inl ((2, ()), r0, r1, (), r3, IntKind.i64.wrap (IntKind.i64.wrap (r4 + 1) + 1), true, r6, viv62, viv40, viv1, viv61, r11, r12, viv33, viv38, ()))))) (.br (viv61.lo == r6.lo && (viv61.hi == r6.hi && viv61.no == r6.no)) (.ret (Sum.inr (Sum.inl ((false, ()), r0, r1, (), r3, IntKind.i64.wrap (IntKind.i64.wrap (r4 + 1) + 1), true, r6, r7, viv40, viv1, viv61, r11, r12, viv33, viv38, ())))) (.ret (Sum.inl ((false, IntKind.i64.wrap (t16 - 1), ()), r0, r1, (), r3, IntKind.i64.wrap (IntKind.i64.wrap (r4 + 1) + 1), true, viv61, r7, viv40, viv1, viv61, r11, r12, viv33, viv38, ())))))))) (.fail)) (.fail)) (.fail)) (.bind (r6.inside r3) fun vb63 => .br (Ev.lenOk r1) (.bind (horner r1 r6) fun viv64 => .br (Ev.lenOk r1) (.bind (((), slope r1, ())) fun vy65 => .br (Ev.lenOk vy65.2.1) (.bind (horner vy65.2.1 r6) fun viv66 => .bind (viv33.div viv66) fun viv67 => .bind (viv1.sub viv67) fun viv68 => .br (viv68.no) (.bind (r6.split) fun vy69 => .br (!vb63) (.br (Ev.lenOk r1) (.bind (horner r1 vy69.1) fun viv70 => .br (Ev.lenOk r1) (.bind (((), slope r1, ())) fun vy71 => .br (Ev.lenOk vy71.2.1) (.bind (horner vy71.2.1 vy69.1) fun viv72 => .bind (viv70.right) fun vb73 => .br (vb73) (.bind (viv70.has 0) fun vb74 => .br (!vb74) (.ret (Sum.inl ((t15, IntKind.i64.wrap (t16 - 1), ()), r0, r1, (), r3, IntKind.i64.wrap (IntKind.i64.wrap (IntKind.i64.wrap (r4 + 1) + 1) + 1), true, vy69.2, r7, viv68, viv1, r10, vy69.1, vy69.2, viv33, viv66, ()))) (.br (Ev.lenOk r1) (.bind (horner r1 vy69.2) fun viv75 => .br (Ev.lenOk r1) (.bind (((), slope r1, ())) fun vy76 => .br (Ev.lenOk vy76.2.1) (.bind (horner vy76.2.1 vy69.2) fun viv77 => .bind (viv75.right) fun vb78 => .br (vb78) (.bind (viv75.has 0) fun vb79 => .br (!!vb79) (.ret (Sum.inr (Sum.inr (Sum.inr ((), r0, r1, (), r3, IntKind.i64.wrap (IntKind.i64.wrap (IntKind.i64.wrap (IntKind.i64.wrap (r4 + 1) + 1) + 1) + 1), true, r6, r7, viv68, viv1, r10, vy69.1, vy69.2, viv33, viv66, ()))))) (.ret (Sum.inl ((t15, IntKind.i64.wrap (t16 - 1), ()), r0, r1, (), r3, IntKind.i64.wrap (IntKind.i64.wrap (IntKind.i64.wrap (IntKind.i64.wrap (r4 + 1) + 1) + 1) + 1), true, vy69.1, r7, viv68, viv1, r10, vy69.1, vy69.2, viv33, viv66, ())))) (.ret (Sum.inr (Sum.inr (Sum.inr ((), r0, r1, (), r3, IntKind.i64.wrap (IntKind.i64.wrap (IntKind.i64.wrap (IntKind.i64.wrap (r4 + 1) + 1) + 1) + 1), true, r6, r7, viv68, viv1, r10, vy69.1, vy69.2, viv33, viv66, ())))))) (.fail)) (.fail)) (.fail))) (.br (Ev.lenOk r1) (.bind (horner r1 vy69.2) fun viv80 => .br (Ev.lenOk r1) (.bind (((), slope r1, ())) fun vy81 => .br (Ev.lenOk vy81.2.1) (.bind (horner vy81.2.1 vy69.2) fun viv82 => .bind (viv80.right) fun vb83 => .br (vb83) (.bind (viv80.has 0) fun vb84 => .br (!!vb84) (.ret (Sum.inr (Sum.inr (Sum.inr ((), r0, r1, (), r3, IntKind.i64.wrap (IntKind.i64.wrap (IntKind.i64.wrap (IntKind.i64.wrap (r4 + 1) + 1) + 1) + 1), true, r6, r7, viv68, viv1, r10, vy69.1, vy69.2, viv33, viv66, ()))))) (.ret (Sum.inl ((t15, IntKind.i64.wrap (t16 - 1), ()), r0, r1, (), r3, IntKind.i64.wrap (IntKind.i64.wrap (IntKind.i64.wrap (IntKind.i64.wrap (r4 + 1) + 1) + 1) + 1), true, vy69.1, r7, viv68, viv1, r10, vy69.1, vy69.2, viv33, viv66, ())))) (.ret (Sum.inr (Sum.inr (Sum.inr ((), r0, r1, (), r3, IntKind.i64.wrap (IntKind.i64.wrap (IntKind.i64.wrap (IntKind.i64.wrap (r4 + 1) + 1) + 1) + 1), true, r6, r7, viv68, viv1, r10, vy69.1, vy69.2, viv33, viv66, ())))))) (.fail)) (.fail)) (.fail))) (.fail)) (.fail)) (.fail)) (.bind (vy69.1.inside r3) fun vb85 => .br (Ev.lenOk r1) (.bind (horner r1 vy69.1) fun viv86 => .br (Ev.lenOk r1) (.bind (((), slope r1, ())) fun vy87 => .br (Ev.lenOk vy87.2.1) (.bind (horner vy87.2.1 vy69.1) fun viv88 => .bind (viv86.right) fun vb89 => .br (vb89) (.bind (viv86.has 0) fun vb90 => .br (!vb90) (.ret (Sum.inl ((t15, IntKind.i64.wrap (t16 - 1), ()), r0, r1, (), r3, IntKind.i64.wrap (IntKind.i64.wrap (IntKind.i64.wrap (r4 + 1) + 1) + 1), !vb85, vy69.2, r7, viv68, viv1, r10, vy69.1, vy69.2, viv33, viv66, ()))) (.br (!vb85) (.br (Ev.lenOk r1) (.bind (horner r1 vy69.2) fun viv91 => .br (Ev.lenOk r1) (.bind (((), slope r1, ())) fun vy92 => .br (Ev.lenOk vy92.2.1) (.bind (horner vy92.2.1 vy69.2) fun viv93 => .bind (viv91.right) fun vb94 => .br (vb94) (.bind (viv91.has 0) fun vb95 => .br (!!vb95) (.ret (Sum.inr (Sum.inr (Sum.inr ((), r0, r1, (), r3, IntKind.i64.wrap (IntKind.i64.wrap (IntKind.i64.wrap (IntKind.i64.wrap (r4 + 1) + 1) + 1) + 1), true, r6, r7, viv68, viv1, r10, vy69.1, vy69.2, viv33, viv66, ()))))) (.ret (Sum.inl ((t15, IntKind.i64.wrap (t16 - 1), ()), r0, r1, (), r3, IntKind.i64.wrap (IntKind.i64.wrap (IntKind.i64.wrap (IntKind.i64.wrap (r4 + 1) + 1) + 1) + 1), true, vy69.1, r7, viv68, viv1, r10, vy69.1, vy69.2, viv33, viv66, ())))) (.ret (Sum.inr (Sum.inr (Sum.inr ((), r0, r1, (), r3, IntKind.i64.wrap (IntKind.i64.wrap (IntKind.i64.wrap (IntKind.i64.wrap (r4 + 1) + 1) + 1) + 1), true, r6, r7, viv68, viv1, r10, vy69.1, vy69.2, viv33, viv66, ())))))) (.fail)) (.fail)) (.fail)) (.bind (vy69.2.inside r3) fun vb96 => .br (Ev.lenOk r1) (.bind (horner r1 vy69.2) fun viv97 => .br (Ev.lenOk r1) (.bind (((), slope r1, ())) fun vy98 => .br (Ev.lenOk vy98.2.1) (.bind (horner vy98.2.1 vy69.2) fun viv99 => .bind (viv97.right) fun vb100 => .br (vb100) (.bind (viv97.has 0) fun vb101 => .br (!!vb101) (.ret (Sum.inr (Sum.inr (Sum.inr ((), r0, r1, (), r3, IntKind.i64.wrap (IntKind.i64.wrap (IntKind.i64.wrap (IntKind.i64.wrap (r4 + 1) + 1) + 1) + 1), !vb96, r6, r7, viv68, viv1, r10, vy69.1, vy69.2, viv33, viv66, ()))))) (.ret (Sum.inl ((t15, IntKind.i64.wrap (t16 - 1), ()), r0, r1, (), r3, IntKind.i64.wrap (IntKind.i64.wrap (IntKind.i64.wrap (IntKind.i64.wrap (r4 + 1) + 1) + 1) + 1), !vb96, vy69.1, r7, viv68, viv1, r10, vy69.1, vy69.2, viv33, viv66, ())))) (.ret (Sum.inr (Sum.inr (Sum.inr ((), r0, r1, (), r3, IntKind.i64.wrap (IntKind.i64.wrap (IntKind.i64.wrap (IntKind.i64.wrap (r4 + 1) + 1) + 1) + 1), !vb96, r6, r7, viv68, viv1, r10, vy69.1, vy69.2, viv33, viv66, ())))))) (.fail)) (.fail)) (.fail)))) (.br (!vb85) (.br (Ev.lenOk r1) (.bind (horner r1 vy69.2) fun viv102 => .br (Ev.lenOk r1) (.bind (((), slope r1, ())) fun vy103 => .br (Ev.lenOk vy103.2.1) (.bind (horner vy103.2.1 vy69.2) fun viv104 => .bind (viv102.right) fun vb105 => .br (vb105) (.bind (viv102.has 0) fun vb106 => .br (!!vb106) (.ret (Sum.inr (Sum.inr (Sum.inr ((), r0, r1, (), r3, IntKind.i64.wrap (IntKind.i64.wrap (IntKind.i64.wrap (IntKind.i64.wrap (r4 + 1) + 1) + 1) + 1), true, r6, r7, viv68, viv1, r10, vy69.1, vy69.2, viv33, viv66, ()))))) (.ret (Sum.inl ((t15, IntKind.i64.wrap (t16 - 1), ()), r0, r1, (), r3, IntKind.i64.wrap (IntKind.i64.wrap (IntKind.i64.wrap (IntKind.i64.wrap (r4 + 1) + 1) + 1) + 1), true, vy69.1, r7, viv68, viv1, r10, vy69.1, vy69.2, viv33, viv66, ())))) (.ret (Sum.inr (Sum.inr (Sum.inr ((), r0, r1, (), r3, IntKind.i64.wrap (IntKind.i64.wrap (IntKind.i64.wrap (IntKind.i64.wrap (r4 + 1) + 1) + 1) + 1), true, r6, r7, viv68, viv1, r10, vy69.1, vy69.2, viv33, viv66, ())))))) (.fail)) (.fail)) (.fail)) (.bind (vy69.2.inside r3) fun vb107 => .br (Ev.lenOk r1) (.bind (horner r1 vy69.2) fun viv108 => .br (Ev.lenOk r1) (.bind (((), slope r1, ())) fun vy109 => .br (Ev.lenOk vy109.2.1) (.bind (horner vy109.2.1 vy69.2) fun viv110 => .bind (viv108.right) fun vb111 => .br (vb111) (.bind (viv108.has 0) fun vb112 => .br (!!vb112) (.ret (Sum.inr (Sum.inr (Sum.inr ((), r0, r1, (), r3, IntKind.i64.wrap (IntKind.i64.wrap (IntKind.i64.wrap (IntKind.i64.wrap (r4 + 1) + 1) + 1) + 1), !vb107, r6, r7, viv68, viv1, r10, vy69.1, vy69.2, viv33, viv66, ()))))) (.ret (Sum.inl ((t15, IntKind.i64.wrap (t16 - 1), ()), r0, r1, (), r3, IntKind.i64.wrap (IntKind.i64.wrap (IntKind.i64.wrap (IntKind.i64.wrap (r4 + 1) + 1) + 1) + 1), !vb107, vy69.1, r7, viv68, viv1, r10, vy69.1, vy69.2, viv33, viv66, ())))) (.ret (Sum.inr (Sum.inr (Sum.inr ((), r0, r1, (), r3, IntKind.i64.wrap (IntKind.i64.wrap (IntKind.i64.wrap (IntKind.i64.wrap (r4 + 1) + 1) + 1) + 1), !vb107, r6, r7, viv68, viv1, r10, vy69.1, vy69.2, viv33, viv66, ())))))) (.fail)) (.fail)) (.fail)))) (.fail)) (.fail)) (.fail))) (.br (t15) (.bind (r6.meet viv68) fun viv113 => .br (viv113.no) (.bind (Iv.none) fun viv114 => .ret (Sum.inr (Sum.inr (Sum.inl ((2, ()), r0, r1, (), r3, IntKind.i64.wrap (IntKind.i64.wrap (r4 + 1) + 1), !vb63, r6, viv114, viv68, viv1, viv113, r11, r12, viv33, viv66, ()))))) (.br (viv113.lo == r6.lo && (viv113.hi == r6.hi && viv113.no == r6.no)) (.ret (Sum.inr (Sum.inl ((true, ()), r0, r1, (), r3, IntKind.i64.wrap (IntKind.i64.wrap (r4 + 1) + 1), !vb63, r6, r7, viv68, viv1, viv113, r11, r12, viv33, viv66, ())))) (.ret (Sum.inl ((true, IntKind.i64.wrap (t16 - 1), ()), r0, r1, (), r3, IntKind.i64.wrap (IntKind.i64.wrap (r4 + 1) + 1), !vb63, viv113, r7, viv68, viv1, viv113, r11, r12, viv33, viv66, ()))))) (.br (decide (r6.lo < viv68.lo)) (.bind (r6.meet viv68) fun viv115 => .br (viv115.no) (.bind (Iv.none) fun viv116 => .ret (Sum.inr (Sum.inr (Sum.inl ((2, ()), r0, r1, (), r3, IntKind.i64.wrap (IntKind.i64.wrap (r4 + 1) + 1), !vb63, r6, viv116, viv68, viv1, viv115, r11, r12, viv33, viv66, ()))))) (.br (viv115.lo == r6.lo && (viv115.hi == r6.hi && viv115.no == r6.no)) (.ret (Sum.inr (Sum.inl ((decide (viv68.hi < r6.hi), ()), r0, r1, (), r3, IntKind.i64.wrap (IntKind.i64.wrap (r4 + 1) + 1), !vb63, r6, r7, viv68, viv1, viv115, r11, r12, viv33, viv66, ())))) (.ret (Sum.inl ((decide (viv68.hi < r6.hi), IntKind.i64.wrap (t16 - 1), ()), r0, r1, (), r3, IntKind.i64.wrap (IntKind.i64.wrap (r4 + 1) + 1), !vb63, viv115, r7, viv68, viv1, viv115, r11, r12, viv33, viv66, ()))))) (.bind (r6.meet viv68) fun viv117 => .br (viv117.no) (.bind (Iv.none) fun viv118 => .ret (Sum.inr (Sum.inr (Sum.inl ((2, ()), r0, r1, (), r3, IntKind.i64.wrap (IntKind.i64.wrap (r4 + 1) + 1), !vb63, r6, viv118, viv68, viv1, viv117, r11, r12, viv33, viv66, ()))))) (.br (viv117.lo == r6.lo && (viv117.hi == r6.hi && viv117.no == r6.no)) (.ret (Sum.inr (Sum.inl ((false, ()), r0, r1, (), r3, IntKind.i64.wrap (IntKind.i64.wrap (r4 + 1) + 1), !vb63, r6, r7, viv68, viv1, viv117, r11, r12, viv33, viv66, ())))) (.ret (Sum.inl ((false, IntKind.i64.wrap (t16 - 1), ()), r0, r1, (), r3, IntKind.i64.wrap (IntKind.i64.wrap (r4 + 1) + 1), !vb63, viv117, r7, viv68, viv1, viv117, r11, r12, viv33, viv66, ())))))))) (.fail)) (.fail)) (.fail))) (.fail)) (.fail)) (.fail))) (.ret (Sum.inr (Sum.inl ((t15, ()), r0, r1, (), r3, r4, r5, r6, r7, r8, r9, r10, r11, r12, r13, r14, ())))) := by kernel_rfl
theorem ok_newton_Solve_ask_5 : LOKN Try.prog (LoopR.of (sc 95 [15, 16, 4, 6, 8, 9, 10, 11, 12, 13, 14, 0] (tCod 15 cBool (tCod 16 cInt (tOwn 4 6 (tOwn 6 7 (tOwn 8 8 (tOwn 9 9 (tOwn 10 10 (tOwn 11 11 (tOwn 12 12 (tOwn 13 13 (tOwn 14 14 (tClo 0 9 [4,5,3,2] tNil)))))))))))) (rL_int (rG_iv 26 (rBoxSl 1 ccNil ccNil_ok (rBox ccIv ccIv_ok (rBox ccInt ccInt_ok (rBox ccBool ccBool_ok (rBox ccIv ccIv_ok (rBox ccIv ccIv_ok (rBox ccIv ccIv_ok (rBox ccIv ccIv_ok (rBox ccIv ccIv_ok (rBox ccIv ccIv_ok (rBox ccIv ccIv_ok (rBox ccIv ccIv_ok (rBox ccIv ccIv_ok rNil)))))))))))))))) (ocOr (ocExit 0 (sc 95 [15, 4, 6] (tCod 15 cBool (tOwn 4 6 (tOwn 6 7 tNil))) (rL_int (rG_iv 26 (rBoxSl 1 ccNil ccNil_ok (rBox ccIv ccIv_ok (rBox ccInt ccInt_ok (rBox ccBool ccBool_ok (rBox ccIv ccIv_ok (rBox ccIv ccIv_ok (rBox ccIv ccIv_ok (rBox ccIv ccIv_ok (rBox ccIv ccIv_ok (rBox ccIv ccIv_ok (rBox ccIv ccIv_ok (rBox ccIv ccIv_ok (rBox ccIv ccIv_ok rNil))))))))))))))))) (ocOr (ocRet (sc 95 [7, 6] (tCod 7 cInt (tOwn 6 7 tNil)) (rL_int (rG_iv 26 (rBoxSl 1 ccNil ccNil_ok (rBox ccIv ccIv_ok (rBox ccInt ccInt_ok (rBox ccBool ccBool_ok (rBox ccIv ccIv_ok (rBox ccIv ccIv_ok (rBox ccIv ccIv_ok (rBox ccIv ccIv_ok (rBox ccIv ccIv_ok (rBox ccIv ccIv_ok (rBox ccIv ccIv_ok (rBox ccIv ccIv_ok (rBox ccIv ccIv_ok rNil))))))))))))))))) (ocGoto 0 (sc 95 [6] (tOwn 6 7 tNil) (rL_int (rG_iv 26 (rBoxSl 1 ccNil ccNil_ok (rBox ccIv ccIv_ok (rBox ccInt ccInt_ok (rBox ccBool ccBool_ok (rBox ccIv ccIv_ok (rBox ccIv ccIv_ok (rBox ccIv ccIv_ok (rBox ccIv ccIv_ok (rBox ccIv ccIv_ok (rBox ccIv ccIv_ok (rBox ccIv ccIv_ok (rBox ccIv ccIv_ok (rBox ccIv ccIv_ok rNil))))))))))))))))))) askRun) (loopAt Try.f8 5) := by
  refine loopN_ok (EnvOK.add s_iv_None (EnvOK.add s_iv_Sub (EnvOK.add s_iv_Right (EnvOK.add s_iv_Meet (EnvOK.add s_iv_Point (EnvOK.add s_iv_Mid (EnvOK.add s_iv_Div (EnvOK.add s_iv_Split (EnvOK.addT (n := 60) (EnvOK.add s_iv_Right (EnvOK.add s_iv_Has (EnvOK.addT (n := 60) (EnvOK.add s_iv_Inside (EnvOK.add s_meniscusref1_Horner (EnvOK.add s_meniscusref1_Slope EnvOK.nil))) Try.func9 (fun vs w => Try.call9 vs w) EnvOK.nil))) Try.func33 (fun vs w => Try.call33 vs w) (EnvOK.addT (n := 60) (EnvOK.add s_iv_Inside (EnvOK.add s_meniscusref1_Horner (EnvOK.add s_meniscusref1_Slope EnvOK.nil))) Try.func9 (fun vs w => Try.call9 vs w) EnvOK.nil)))))))))) (LFnN.at (fn := Try.f8) LFnN.nil 5) (m := 15) (fun x => rfl) askStep (n := 200) (fun x z h => ?_) askRun_ok
  obtain ⟨⟨t15, t16, ⟨⟩⟩, ⟨r0, r1, r2, r3, r4, r5, r6, r7, r8, r9, r10, r11, r12, r13, r14, ⟨⟩⟩⟩ := x
  rw [tl_newton_Solve_ask_5]
  by_cases hk : 0 < t16
  case neg =>
    rw [← h]
    simp only [den_br, den_bind, den_get, den_ret, den_fail, decide_eq_true_eq, gt_iff_lt, askStep, hk, if_false]
  by_cases hq : askOk r1 r3 r5 r6 = true
  case neg => simp [askStep, hk, hq] at h
  rw [← h]
  have hq' := hq
  simp only [askOk, Bool.and_eq_true, Bool.not_eq_true'] at hq'
  obtain ⟨l1, l2, l3, l4, l5⟩ := hq'
  subst l3
  cases r2
  obtain ⟨i1, i2, i3, _, _⟩ := ask_in l4 l5
  simp only [den_br, den_bind, den_get, den_ret, den_fail, decide_eq_true_eq, gt_iff_lt, hk, l1, l2, l5, i1, i2, i3, Bool.not_true, Bool.false_eq_true, if_true, if_false]
  rw [show (Iv.point r6.mid).sub ((horner r1 (Iv.point r6.mid)).div (horner (slope r1) r6)) = nextN (polyAt r1) r6 from rfl]
  simp only [askStep, hk, hq, if_true, solveSure, ivEq, ltB, ask4, ask3, ask2]
  have hw1 : without (polyAt r1) r6.split.1 = ((horner r1 r6.split.1).right && !(horner r1 r6.split.1).has 0) := rfl
  have hw2 : without (polyAt r1) r6.split.2 = ((horner r1 r6.split.2).right && !(horner r1 r6.split.2).has 0) := rfl
  rw [hw1, hw2, show (polyAt r1 (Iv.point r6.mid)).1 = horner r1 (Iv.point r6.mid) from rfl, show (polyAt r1 r6).2 = horner (slope r1) r6 from rfl]
  generalize nextN (polyAt r1) r6 = n
  generalize (horner r1 r6.split.1).right = w1
  generalize (horner r1 r6.split.1).has 0 = w2
  generalize (horner r1 r6.split.2).right = w3
  generalize (horner r1 r6.split.2).has 0 = w4
  cases h1 : n.no
  case true => cases w1 <;> cases w2 <;> cases w3 <;> cases w4 <;> rfl
  simp only [Bool.false_eq_true, if_false]
  cases t15 <;> simp only [Bool.false_eq_true, if_true, if_false, Bool.true_or, Bool.false_or]
  by_cases h2 : r6.lo < n.lo <;> simp only [h2, if_true, if_false, decide_true, decide_false, Bool.true_and, Bool.false_and]

/-! meniscuslaw7.known -/
theorem t_meniscuslaw7_known  :
    evFn Try.prog (Env.add 8 (FS (sc 3 [0, 1, 2] (tClo 0 41 [] (tCod 1 cIv (tCod 2 cInt tNil))) rNil) (cTwo cIv cInt) (fun _ => true) ((fun x => _root_.Go.Proofs.Ytlbmjajjldfigaa.solve ((fun (_ : Unit) => lineF) x.2) x.1.1 x.1.2.1))) (Env.addT 8 (inlI Try.prog (Env.add 17 (F0 cIv Iv.none) (Env.add 19 (F2 cIv cIv cIv Iv.sub) (Env.add 25 (F1 cIv cBool Iv.right) (Env.add 26 (F2 cIv cIv cIv Iv.meet) (Env.add 29 (F1 cInt cIv Iv.point) (Env.add 30 (F1 cIv cInt Iv.mid) (Env.add 31 (F2 cIv cIv cIv Iv.div) (Env.add 32 (F1 cIv (cTwo cIv cIv) Iv.split) (Env.addT 33 (inl Try.prog (Env.add 25 (F1 cIv cBool Iv.right) (Env.add 63 (F2 cIv cInt cBool Iv.has) (Env.addT 9 (inl Try.prog (Env.add 10 (F2 cIv cIv cBool Iv.inside) (Env.add 11 (FS (sc 2 [0, 1] (tSl 0 0 (tCod 1 cIv tNil)) (rL_iv rNil)) cIv (fun x => lenOk x.2.1) ((fun x => horner x.2.1 x.1.1))) (Env.add 12 (FR (sc 1 [0] (tSl 0 0 tNil) (rL_iv rNil)) (sc 1 [0] (tSl 0 0 tNil) (rG_iv 26 rNil)) (fun x => lenOk x.2.1) ((fun x => (((), (slope x.2.1, ())))))) Env.nil))) 60 Try.f9) Env.nil))) 60 Try.f33) (Env.addT 9 (inl Try.prog (Env.add 10 (F2 cIv cIv cBool Iv.inside) (Env.add 11 (FS (sc 2 [0, 1] (tSl 0 0 (tCod 1 cIv tNil)) (rL_iv rNil)) cIv (fun x => lenOk x.2.1) ((fun x => horner x.2.1 x.1.1))) (Env.add 12 (FR (sc 1 [0] (tSl 0 0 tNil) (rL_iv rNil)) (sc 1 [0] (tSl 0 0 tNil) (rG_iv 26 rNil)) (fun x => lenOk x.2.1) ((fun x => (((), (slope x.2.1, ())))))) Env.nil))) 60 Try.f9) Env.nil)))))))))) (Laws.add 5 (LoopR.of (sc 95 [15, 16, 4, 6, 8, 9, 10, 11, 12, 13, 14, 0] (tCod 15 cBool (tCod 16 cInt (tOwn 4 6 (tOwn 6 7 (tOwn 8 8 (tOwn 9 9 (tOwn 10 10 (tOwn 11 11 (tOwn 12 12 (tOwn 13 13 (tOwn 14 14 (tClo 0 9 [4,5,3,2] tNil)))))))))))) (rL_int (rG_iv 26 (rBoxSl 1 ccNil ccNil_ok (rBox ccIv ccIv_ok (rBox ccInt ccInt_ok (rBox ccBool ccBool_ok (rBox ccIv ccIv_ok (rBox ccIv ccIv_ok (rBox ccIv ccIv_ok (rBox ccIv ccIv_ok (rBox ccIv ccIv_ok (rBox ccIv ccIv_ok (rBox ccIv ccIv_ok (rBox ccIv ccIv_ok (rBox ccIv ccIv_ok rNil)))))))))))))))) (ocOr (ocExit 0 (sc 95 [15, 4, 6] (tCod 15 cBool (tOwn 4 6 (tOwn 6 7 tNil))) (rL_int (rG_iv 26 (rBoxSl 1 ccNil ccNil_ok (rBox ccIv ccIv_ok (rBox ccInt ccInt_ok (rBox ccBool ccBool_ok (rBox ccIv ccIv_ok (rBox ccIv ccIv_ok (rBox ccIv ccIv_ok (rBox ccIv ccIv_ok (rBox ccIv ccIv_ok (rBox ccIv ccIv_ok (rBox ccIv ccIv_ok (rBox ccIv ccIv_ok (rBox ccIv ccIv_ok rNil))))))))))))))))) (ocOr (ocRet (sc 95 [7, 6] (tCod 7 cInt (tOwn 6 7 tNil)) (rL_int (rG_iv 26 (rBoxSl 1 ccNil ccNil_ok (rBox ccIv ccIv_ok (rBox ccInt ccInt_ok (rBox ccBool ccBool_ok (rBox ccIv ccIv_ok (rBox ccIv ccIv_ok (rBox ccIv ccIv_ok (rBox ccIv ccIv_ok (rBox ccIv ccIv_ok (rBox ccIv ccIv_ok (rBox ccIv ccIv_ok (rBox ccIv ccIv_ok (rBox ccIv ccIv_ok rNil))))))))))))))))) (ocGoto 0 (sc 95 [6] (tOwn 6 7 tNil) (rL_int (rG_iv 26 (rBoxSl 1 ccNil ccNil_ok (rBox ccIv ccIv_ok (rBox ccInt ccInt_ok (rBox ccBool ccBool_ok (rBox ccIv ccIv_ok (rBox ccIv ccIv_ok (rBox ccIv ccIv_ok (rBox ccIv ccIv_ok (rBox ccIv ccIv_ok (rBox ccIv ccIv_ok (rBox ccIv ccIv_ok (rBox ccIv ccIv_ok (rBox ccIv ccIv_ok rNil))))))))))))))))))) askRun) Laws.nil) 200 Try.f8) (Env.add 20 (F1 cInt cIv Iv.whole) (Env.add 41 (F1 cIv (cTwo cIv cIv) lineF) (Env.add 42 (F2 cInt cInt cIv Iv.of) Env.nil))))) Laws.nil 200 Try.f13 [] [] cBool.dec =
      .bind (Iv.of 0 262144) fun viv0 => .br (true) (.bind (solve lineF viv0 10) fun vy1 => .br (vy1.2 == 1) (.bind (Iv.whole 1) fun viv2 => .ret (vy1.1.lo == viv2.lo && (vy1.1.hi == viv2.hi && vy1.1.no == viv2.no))) (.ret (false))) (.fail) := by kernel_rfl
theorem c_meniscuslaw7_known  : Plain Try.prog 13 [] (cBool.enc (true)) :=
  plain_of_tree (n := 200) (EnvOK.add s_newton_Solve_line (EnvOK.addI (n := 200) (EnvOK.add s_iv_None (EnvOK.add s_iv_Sub (EnvOK.add s_iv_Right (EnvOK.add s_iv_Meet (EnvOK.add s_iv_Point (EnvOK.add s_iv_Mid (EnvOK.add s_iv_Div (EnvOK.add s_iv_Split (EnvOK.addT (n := 60) (EnvOK.add s_iv_Right (EnvOK.add s_iv_Has (EnvOK.addT (n := 60) (EnvOK.add s_iv_Inside (EnvOK.add s_meniscusref1_Horner (EnvOK.add s_meniscusref1_Slope EnvOK.nil))) Try.func9 (fun vs w => Try.call9 vs w) EnvOK.nil))) Try.func33 (fun vs w => Try.call33 vs w) (EnvOK.addT (n := 60) (EnvOK.add s_iv_Inside (EnvOK.add s_meniscusref1_Horner (EnvOK.add s_meniscusref1_Slope EnvOK.nil))) Try.func9 (fun vs w => Try.call9 vs w) EnvOK.nil)))))))))) (LFnN.add (fn := Try.f8) (i := 5) (by kernel_rfl) ok_newton_Solve_ask_5 LFnN.nil) Try.func8 (fun vs w => Try.call8 vs w) (EnvOK.add s_iv_Whole (EnvOK.add s_meniscuslaw7_line (EnvOK.add s_iv_Of EnvOK.nil))))) Try.func13 (args := []) rfl (Nat.le_of_ble_eq_true (by kernel_rfl)) LFn.nil cBool (by
    rw [t_meniscuslaw7_known]
    decide +kernel)
theorem s_meniscuslaw7_known : Ev.Spec Try.prog 13 (F0 cBool true) := spec0 (fun vs w => Try.call13 vs w) c_meniscuslaw7_known

/-! meniscuslaw7.powers -/
theorem tl_meniscuslaw7_powers_3 (t4 : Int) (r0 : List Int) (r1 : List Iv) :
    ev Try.prog (Env.add 6 (F2 cInt cInt cIv wide) (Env.add 7 (F2p cInt cInt cInt pickOk pick) Env.nil)) Laws.nil 200 none (loopAt Try.f5 3) ((sc 33 [4, 0, 3] (tCod 4 cInt (tSl 0 0 (tSl 3 1 tNil))) (rL_int (rG_iv 26 rNil))).enc ((t4, ()), (r0, r1, ()))) (backK (sc 33 [4, 0, 3] (tCod 4 cInt (tSl 0 0 (tSl 3 1 tNil))) (rL_int (rG_iv 26 rNil))) (ocExit 0 (sc 33 [3] (tSl 3 0 tNil) (rG_iv 26 rNil)))) =
      .br (decide (IntKind.i64.wrap (t4 + 1) < (@Nat.cast Int _ r0.length))) (.br (decide (t4 < 10)) (.br (decide (0 ≤ t4 ∧ t4 < (@Nat.cast Int _ r0.length))) (.get (r0[t4.toNat]?) fun vt0 => .br (pickOk vt0 393216) (.bind (pick vt0 393216) fun vn1 => .br (decide (0 ≤ IntKind.i64.wrap (t4 + 1) ∧ IntKind.i64.wrap (t4 + 1) < (@Nat.cast Int _ r0.length))) (.get (r0[(IntKind.i64.wrap (t4 + 1)).toNat]?) fun vt2 => .br (pickOk vt2 12) (.bind (pick vt2 12) fun vn3 => .bind (wide (IntKind.i64.wrap (vn1 - 196608)) vn3) fun viv4 => .br (Ev.lenOk (r1 ++ [viv4])) (.ret (Sum.inl ((IntKind.i64.wrap (t4 + 2), ()), r0, r1 ++ [viv4], ()))) (.fail)) (.fail)) (.fail)) (.fail)) (.fail)) (.ret (Sum.inr ((), r1, ())))) (.ret (Sum.inr ((), r1, ()))) := by kernel_rfl
theorem ok_meniscuslaw7_powers_3 : LOK Try.prog (LoopR.of (sc 33 [4, 0, 3] (tCod 4 cInt (tSl 0 0 (tSl 3 1 tNil))) (rL_int (rG_iv 26 rNil))) (ocExit 0 (sc 33 [3] (tSl 3 0 tNil) (rG_iv 26 rNil))) powRun) (loopAt Try.f5 3) := by
  refine loop_ok (EnvOK.add s_meniscushand_Wide (EnvOK.add s_meniscushand_Pick EnvOK.nil)) (LFn.at (fn := Try.f5) LFn.nil 3) powStep (n := 200) (fun x z h => ?_) powRun_ok
  obtain ⟨⟨t4, ⟨⟩⟩, ⟨r0, r1, ⟨⟩⟩⟩ := x
  rw [tl_meniscuslaw7_powers_3]
  rw [← h]
  simp only [den_br, den_bind, den_ret, den_fail, den_inl, den_inr, decide_eq_true_eq]
  have p1 : ∀ n : Int, pickOk n 393216 = true := fun _ => by simp [pickOk]
  have p2 : ∀ n : Int, pickOk n 12 = true := fun _ => by simp [pickOk]
  have w1 : ∀ n : Int, IntKind.i64.wrap (pick n 393216 - 196608) = pick n 393216 - 196608 := fun n => wr (by have := pick_bd n (m := 393216) (by decide); omega)
  simp only [p1, p2, w1, if_true, powStep]
  by_cases c1 : IntKind.i64.wrap (t4 + 1) < (r0.length : Int)
  case neg => simp only [c1, if_false, false_and]
  by_cases c2 : t4 < 10
  case neg => simp only [c1, c2, if_true, if_false, and_false]
  simp only [c1, c2, if_true, and_self]
  by_cases c3 : 0 ≤ t4 ∧ t4 < (r0.length : Int)
  case neg => simp only [c3, if_false]
  simp only [c3, if_true, and_self]
  cases hg : r0[t4.toNat]? with
  | none => rfl
  | some a =>
    simp only [den_get, den_br, den_bind, den_ret, den_fail, p1, p2, w1, if_true, decide_eq_true_eq]
    by_cases c4 : 0 ≤ IntKind.i64.wrap (t4 + 1)
    case neg => simp only [c4, false_and, if_false]
    simp only [c4, and_self, if_true]
    cases hg2 : r0[(IntKind.i64.wrap (t4 + 1)).toNat]? with
    | none => rfl
    | some b =>
      simp only [den_get, den_br, den_bind, den_ret, den_fail, p1, p2, w1, if_true, decide_eq_true_eq]
      rw [show wide (pick a 393216 - 196608) (pick b 12) = powOne a b from rfl]
theorem t_meniscuslaw7_powers (r0 : List Int) :
    evFnR Try.prog (Env.add 6 (F2 cInt cInt cIv wide) (Env.add 7 (F2p cInt cInt cInt pickOk pick) Env.nil)) (Laws.add 3 (LoopR.of (sc 33 [4, 0, 3] (tCod 4 cInt (tSl 0 0 (tSl 3 1 tNil))) (rL_int (rG_iv 26 rNil))) (ocExit 0 (sc 33 [3] (tSl 3 0 tNil) (rG_iv 26 rNil))) powRun) Laws.nil) 200 Try.f5 (((sc 1 [0] (tSl 0 0 tNil) (rL_int rNil)).enc ((()), (r0, ()))).tmps.map Prod.snd) ((sc 1 [0] (tSl 0 0 tNil) (rL_int rNil)).enc ((()), (r0, ()))).mem (sc 1 [0] (tSl 0 0 tNil) (rG_iv 26 rNil)).ts (sc 1 [0] (tSl 0 0 tNil) (rG_iv 26 rNil)).dec =
      .get (powRun ((0, ()), r0, [], ())) fun vy0 => .ret (((), vy0.2.1, ())) := by kernel_rfl
theorem c_meniscuslaw7_powers : PlainR Try.prog 5 (sc 1 [0] (tSl 0 0 tNil) (rL_int rNil)) (sc 1 [0] (tSl 0 0 tNil) (rG_iv 26 rNil)) (fun _ => true) ((fun x => ((), (powersOf x.2.1, ())))) := by
  intro x h N w vs hM hv
  obtain ⟨⟨⟩, ⟨r0, ⟨⟩⟩⟩ := x
  refine calls_of_treeR (n := 200) (EnvOK.add s_meniscushand_Wide (EnvOK.add s_meniscushand_Pick EnvOK.nil)) Try.func5 hv (Nat.le_of_ble_eq_true (by kernel_rfl)) (LFn.add (fn := Try.f5) (i := 3) (by kernel_rfl) ok_meniscuslaw7_powers_3 LFn.nil) hM (sc 1 [0] (tSl 0 0 tNil) (rG_iv 26 rNil)) rfl ?_
  rw [t_meniscuslaw7_powers]
  simp only [den_br, den_bind, den_ret, den_fail, den_inl, den_inr, decide_eq_true_eq]
  have hr : powRun ((0, ()), (r0, [], ())) = some ((), (powersOf r0, ())) := rfl
  rw [hr]
  rfl
theorem s_meniscuslaw7_powers : Ev.Spec Try.prog 5 (FR (sc 1 [0] (tSl 0 0 tNil) (rL_int rNil)) (sc 1 [0] (tSl 0 0 tNil) (rG_iv 26 rNil)) (fun _ => true) ((fun x => ((), (powersOf x.2.1, ()))))) := specR rfl (fun _ => rfl) (fun vs w => Try.call5 vs w) c_meniscuslaw7_powers

/-! meniscuslaw7.NewtonAsks -/
theorem t_meniscuslaw7_NewtonAsks (t1 : Int) (t2 : Int) (t3 : Int) (r0 : List Int) :
    evFn Try.prog (Env.add 5 (FR (sc 1 [0] (tSl 0 0 tNil) (rL_int rNil)) (sc 1 [0] (tSl 0 0 tNil) (rG_iv 26 rNil)) (fun _ => true) ((fun x => ((), (powersOf x.2.1, ()))))) (Env.add 6 (F2 cInt cInt cIv wide) (Env.add 7 (F2p cInt cInt cInt pickOk pick) (Env.addT 8 (inlI Try.prog (Env.add 17 (F0 cIv Iv.none) (Env.add 19 (F2 cIv cIv cIv Iv.sub) (Env.add 25 (F1 cIv cBool Iv.right) (Env.add 26 (F2 cIv cIv cIv Iv.meet) (Env.add 29 (F1 cInt cIv Iv.point) (Env.add 30 (F1 cIv cInt Iv.mid) (Env.add 31 (F2 cIv cIv cIv Iv.div) (Env.add 32 (F1 cIv (cTwo cIv cIv) Iv.split) (Env.addT 33 (inl Try.prog (Env.add 25 (F1 cIv cBool Iv.right) (Env.add 63 (F2 cIv cInt cBool Iv.has) (Env.addT 9 (inl Try.prog (Env.add 10 (F2 cIv cIv cBool Iv.inside) (Env.add 11 (FS (sc 2 [0, 1] (tSl 0 0 (tCod 1 cIv tNil)) (rL_iv rNil)) cIv (fun x => lenOk x.2.1) ((fun x => horner x.2.1 x.1.1))) (Env.add 12 (FR (sc 1 [0] (tSl 0 0 tNil) (rL_iv rNil)) (sc 1 [0] (tSl 0 0 tNil) (rG_iv 26 rNil)) (fun x => lenOk x.2.1) ((fun x => (((), (slope x.2.1, ())))))) Env.nil))) 60 Try.f9) Env.nil))) 60 Try.f33) (Env.addT 9 (inl Try.prog (Env.add 10 (F2 cIv cIv cBool Iv.inside) (Env.add 11 (FS (sc 2 [0, 1] (tSl 0 0 (tCod 1 cIv tNil)) (rL_iv rNil)) cIv (fun x => lenOk x.2.1) ((fun x => horner x.2.1 x.1.1))) (Env.add 12 (FR (sc 1 [0] (tSl 0 0 tNil) (rL_iv rNil)) (sc 1 [0] (tSl 0 0 tNil) (rG_iv 26 rNil)) (fun x => lenOk x.2.1) ((fun x => (((), (slope x.2.1, ())))))) Env.nil))) 60 Try.f9) Env.nil)))))))))) (Laws.add 5 (LoopR.of (sc 95 [15, 16, 4, 6, 8, 9, 10, 11, 12, 13, 14, 0] (tCod 15 cBool (tCod 16 cInt (tOwn 4 6 (tOwn 6 7 (tOwn 8 8 (tOwn 9 9 (tOwn 10 10 (tOwn 11 11 (tOwn 12 12 (tOwn 13 13 (tOwn 14 14 (tClo 0 9 [4,5,3,2] tNil)))))))))))) (rL_int (rG_iv 26 (rBoxSl 1 ccNil ccNil_ok (rBox ccIv ccIv_ok (rBox ccInt ccInt_ok (rBox ccBool ccBool_ok (rBox ccIv ccIv_ok (rBox ccIv ccIv_ok (rBox ccIv ccIv_ok (rBox ccIv ccIv_ok (rBox ccIv ccIv_ok (rBox ccIv ccIv_ok (rBox ccIv ccIv_ok (rBox ccIv ccIv_ok (rBox ccIv ccIv_ok rNil)))))))))))))))) (ocOr (ocExit 0 (sc 95 [15, 4, 6] (tCod 15 cBool (tOwn 4 6 (tOwn 6 7 tNil))) (rL_int (rG_iv 26 (rBoxSl 1 ccNil ccNil_ok (rBox ccIv ccIv_ok (rBox ccInt ccInt_ok (rBox ccBool ccBool_ok (rBox ccIv ccIv_ok (rBox ccIv ccIv_ok (rBox ccIv ccIv_ok (rBox ccIv ccIv_ok (rBox ccIv ccIv_ok (rBox ccIv ccIv_ok (rBox ccIv ccIv_ok (rBox ccIv ccIv_ok (rBox ccIv ccIv_ok rNil))))))))))))))))) (ocOr (ocRet (sc 95 [7, 6] (tCod 7 cInt (tOwn 6 7 tNil)) (rL_int (rG_iv 26 (rBoxSl 1 ccNil ccNil_ok (rBox ccIv ccIv_ok (rBox ccInt ccInt_ok (rBox ccBool ccBool_ok (rBox ccIv ccIv_ok (rBox ccIv ccIv_ok (rBox ccIv ccIv_ok (rBox ccIv ccIv_ok (rBox ccIv ccIv_ok (rBox ccIv ccIv_ok (rBox ccIv ccIv_ok (rBox ccIv ccIv_ok (rBox ccIv ccIv_ok rNil))))))))))))))))) (ocGoto 0 (sc 95 [6] (tOwn 6 7 tNil) (rL_int (rG_iv 26 (rBoxSl 1 ccNil ccNil_ok (rBox ccIv ccIv_ok (rBox ccInt ccInt_ok (rBox ccBool ccBool_ok (rBox ccIv ccIv_ok (rBox ccIv ccIv_ok (rBox ccIv ccIv_ok (rBox ccIv ccIv_ok (rBox ccIv ccIv_ok (rBox ccIv ccIv_ok (rBox ccIv ccIv_ok (rBox ccIv ccIv_ok (rBox ccIv ccIv_ok rNil))))))))))))))))))) askRun) Laws.nil) 200 Try.f8) (Env.addT 9 (inl Try.prog (Env.add 10 (F2 cIv cIv cBool Iv.inside) (Env.add 11 (FS (sc 2 [0, 1] (tSl 0 0 (tCod 1 cIv tNil)) (rL_iv rNil)) cIv (fun x => lenOk x.2.1) ((fun x => horner x.2.1 x.1.1))) (Env.add 12 (FR (sc 1 [0] (tSl 0 0 tNil) (rL_iv rNil)) (sc 1 [0] (tSl 0 0 tNil) (rG_iv 26 rNil)) (fun x => lenOk x.2.1) ((fun x => (((), (slope x.2.1, ())))))) Env.nil))) 60 Try.f9) (Env.add 13 (F0 cBool true) (Env.addT 9 (inl Try.prog (Env.add 10 (F2 cIv cIv cBool Iv.inside) (Env.add 11 (FS (sc 2 [0, 1] (tSl 0 0 (tCod 1 cIv tNil)) (rL_iv rNil)) cIv (fun x => lenOk x.2.1) ((fun x => horner x.2.1 x.1.1))) (Env.add 12 (FR (sc 1 [0] (tSl 0 0 tNil) (rL_iv rNil)) (sc 1 [0] (tSl 0 0 tNil) (rG_iv 26 rNil)) (fun x => lenOk x.2.1) ((fun x => (((), (slope x.2.1, ())))))) Env.nil))) 60 Try.f9) Env.nil))))))) Laws.nil 200 Try.f3 (((sc 4 [0, 1, 2, 3] (tSl 0 0 (tCod 1 cInt (tCod 2 cInt (tCod 3 cInt tNil)))) (rL_int rNil)).enc ((t1, t2, t3, ()), (r0, ()))).tmps.map Prod.snd) ((sc 4 [0, 1, 2, 3] (tSl 0 0 (tCod 1 cInt (tCod 2 cInt (tCod 3 cInt tNil)))) (rL_int rNil)).enc ((t1, t2, t3, ()), (r0, ()))).mem cBool.dec =
      .br (true) (.bind (((), powersOf r0, ())) fun vy0 => .br (pickOk t1 524288) (.bind (pick t1 524288) fun vn1 => .br (pickOk t2 393216) (.bind (pick t2 393216) fun vn2 => .bind (wide (IntKind.i64.wrap (vn1 - 262144)) vn2) fun viv3 => .br (pickOk t3 12) (.bind (pick t3 12) fun vn4 => .bind (viv3.right) fun vb5 => .br (!vb5) (.bind (Iv.none) fun viv6 => .bind (true) fun vb7 => .br (vb7) (.br (decide (0 ≤ IntKind.i64.wrap (4 * vn4))) (.ret (decide (0 > 0) == decide (vn4 > 0))) (.ret (false))) (.ret (false))) (.get (askRun ((false, Max.max 0 (Min.min vn4 40), ()), r0, vy0.2.1, (), viv3, 0, false, viv3, Iv.mk 0 0 false, Iv.mk 0 0 false, Iv.mk 0 0 false, Iv.mk 0 0 false, Iv.mk 0 0 false, Iv.mk 0 0 false, Iv.mk 0 0 false, Iv.mk 0 0 false, ())) fun vy8 => .sum (vy8) (fun vs9 => .br (vs9.1.1) (.bind (true) fun vb10 => .br (vb10) (.br (!vs9.2.2.2.2.2.2.1) (.br (decide (vs9.2.2.2.2.2.1 ≤ IntKind.i64.wrap (4 * vn4))) (.ret (decide (vs9.2.2.2.2.2.1 > 0) == decide (vn4 > 0))) (.ret (false))) (.ret (false))) (.ret (false))) (.bind (Iv.none) fun viv11 => .bind (true) fun vb12 => .br (vb12) (.br (!vs9.2.2.2.2.2.2.1) (.br (decide (vs9.2.2.2.2.2.1 ≤ IntKind.i64.wrap (4 * vn4))) (.ret (decide (vs9.2.2.2.2.2.1 > 0) == decide (vn4 > 0))) (.ret (false))) (.ret (false))) (.ret (false)))) (fun vs13 => .sum (vs13) (fun vs14 => .bind (true) fun vb15 => .br (vb15) (.br (!vs14.2.2.2.2.2.2.1) (.br (decide (vs14.2.2.2.2.2.1 ≤ IntKind.i64.wrap (4 * vn4))) (.ret (decide (vs14.2.2.2.2.2.1 > 0) == decide (vn4 > 0))) (.ret (false))) (.ret (false))) (.ret (false))) (fun vs16 => .bind (Iv.none) fun viv17 => .bind (true) fun vb18 => .br (vb18) (.br (!vs16.2.2.2.2.2.2.1) (.br (decide (vs16.2.2.2.2.2.1 ≤ IntKind.i64.wrap (4 * vn4))) (.ret (decide (vs16.2.2.2.2.2.1 > 0) == decide (vn4 > 0))) (.ret (false))) (.ret (false))) (.ret (false)))))) (.fail)) (.fail)) (.fail)) (.fail) := by kernel_rfl
theorem c_meniscuslaw7_NewtonAsks : PlainS Try.prog 3 (sc 4 [0, 1, 2, 3] (tSl 0 0 (tCod 1 cInt (tCod 2 cInt (tCod 3 cInt tNil)))) (rL_int rNil)) cBool (fun _ => true) ((fun _ => true)) := by
  intro x h N w vs hM hv
  obtain ⟨⟨t1, t2, t3, ⟨⟩⟩, ⟨r0, ⟨⟩⟩⟩ := x
  refine calls_of_tree (n := 200) (EnvOK.add s_meniscuslaw7_powers (EnvOK.add s_meniscushand_Wide (EnvOK.add s_meniscushand_Pick (EnvOK.addI (n := 200) (EnvOK.add s_iv_None (EnvOK.add s_iv_Sub (EnvOK.add s_iv_Right (EnvOK.add s_iv_Meet (EnvOK.add s_iv_Point (EnvOK.add s_iv_Mid (EnvOK.add s_iv_Div (EnvOK.add s_iv_Split (EnvOK.addT (n := 60) (EnvOK.add s_iv_Right (EnvOK.add s_iv_Has (EnvOK.addT (n := 60) (EnvOK.add s_iv_Inside (EnvOK.add s_meniscusref1_Horner (EnvOK.add s_meniscusref1_Slope EnvOK.nil))) Try.func9 (fun vs w => Try.call9 vs w) EnvOK.nil))) Try.func33 (fun vs w => Try.call33 vs w) (EnvOK.addT (n := 60) (EnvOK.add s_iv_Inside (EnvOK.add s_meniscusref1_Horner (EnvOK.add s_meniscusref1_Slope EnvOK.nil))) Try.func9 (fun vs w => Try.call9 vs w) EnvOK.nil)))))))))) (LFnN.add (fn := Try.f8) (i := 5) (by kernel_rfl) ok_newton_Solve_ask_5 LFnN.nil) Try.func8 (fun vs w => Try.call8 vs w) (EnvOK.addT (n := 60) (EnvOK.add s_iv_Inside (EnvOK.add s_meniscusref1_Horner (EnvOK.add s_meniscusref1_Slope EnvOK.nil))) Try.func9 (fun vs w => Try.call9 vs w) (EnvOK.add s_meniscuslaw7_known (EnvOK.addT (n := 60) (EnvOK.add s_iv_Inside (EnvOK.add s_meniscusref1_Horner (EnvOK.add s_meniscusref1_Slope EnvOK.nil))) Try.func9 (fun vs w => Try.call9 vs w) EnvOK.nil))))))) Try.func3 hv (Nat.le_of_ble_eq_true (by kernel_rfl)) LFn.nil hM cBool ?_
  rw [t_meniscuslaw7_NewtonAsks]
  have hl : lenOk (powersOf r0) = true := lenOk_iff.2 (by have := powGo_len r0 5 0; simp only [powersOf]; omega)
  have hs : lenOk (slope (powersOf r0)) = true := lenOk_iff.2 (by have := lenOk_iff.1 hl; simp [slope]; omega)
  have p1 : pickOk t1 524288 = true := by simp [pickOk]
  have p2 : pickOk t2 393216 = true := by simp [pickOk]
  have p3 : pickOk t3 12 = true := by simp [pickOk]
  have b1 := pick_bd t1 (m := 524288) (by decide)
  have b2 := pick_bd t2 (m := 393216) (by decide)
  have b3 := pick_bd t3 (m := 12) (by decide)
  have w1 : IntKind.i64.wrap (pick t1 524288 - 262144) = pick t1 524288 - 262144 := wr (by omega)
  have w2 : IntKind.i64.wrap (4 * pick t3 12) = 4 * pick t3 12 := wr (by omega)
  have rT : (wide (pick t1 524288 - 262144) (pick t2 393216)).right = true := wideA_right (by omega) (by omega)
  have hk : max 0 (min (pick t3 12) 40) = pick t3 12 := by omega
  simp only [den_br, den_bind, den_get, den_ret, den_fail, p1, p2, p3, w1, w2, rT, hk, Bool.not_true, Bool.false_eq_true, if_true, if_false]
  obtain ⟨y, hy, hp⟩ := ask_run r0 (powersOf r0) () (wide (pick t1 524288 - 262144) (pick t2 393216)) (pick t3 12) ⟨0, 0, false⟩ ⟨0, 0, false⟩ ⟨0, 0, false⟩ ⟨0, 0, false⟩ ⟨0, 0, false⟩ ⟨0, 0, false⟩ ⟨0, 0, false⟩ ⟨0, 0, false⟩ hl hs rT (by omega)
  simp only [hy, Option.bind_some]
  have fin : ∀ r : AskR, AskP (pick t3 12) r → r.2.2.2.2.2.1 = false ∧ r.2.2.2.2.1 ≤ 4 * pick t3 12 ∧ (decide (r.2.2.2.2.1 > 0) == decide (pick t3 12 > 0)) = true := by
    rintro r ⟨f1, f2, f3, f4⟩
    refine ⟨f1, f3, ?_⟩
    by_cases c : 0 < pick t3 12
    · simp [c, f4 c]
    · have : r.2.2.2.2.1 = 0 := by omega
      simp [this]; omega
  rcases y with ⟨e, r⟩ | ⟨e, r⟩ | ⟨e, r⟩
  · obtain ⟨f1, f2, f3⟩ := fin r hp
    obtain ⟨sure, _⟩ := e
    cases sure <;> (simp only [den_get, den_inl, den_inr, den_br, den_bind, den_ret, f1, f2, f3, decide_true, Bool.not_false, if_true, if_false, Bool.false_eq_true]; try rfl)
  · obtain ⟨f1, f2, f3⟩ := fin r hp
    simp only [den_get, den_inl, den_inr, den_br, den_bind, den_ret, f1, f2, f3, decide_true, Bool.not_false, if_true]; try rfl
  · obtain ⟨f1, f2, f3⟩ := fin r hp
    simp only [den_get, den_inl, den_inr, den_br, den_bind, den_ret, f1, f2, f3, decide_true, Bool.not_false, if_true]; try rfl
theorem s_meniscuslaw7_NewtonAsks : Ev.Spec Try.prog 3 (FS (sc 4 [0, 1, 2, 3] (tSl 0 0 (tCod 1 cInt (tCod 2 cInt (tCod 3 cInt tNil)))) (rL_int rNil)) cBool (fun _ => true) ((fun _ => true))) := specS rfl (fun vs w => Try.call3 vs w) c_meniscuslaw7_NewtonAsks
end Go.Proofs.Ytlbmjajjldfigaa
