/-
  Contracts of calls, written by a small program of this session out of the evaluator's trees.
-/
import Derived.Test.YthgpgnijbajlgaaCore
import Derived.Test.YthgpgnijbajlgaaCoreLoops
import Derived.Test.YthgpgnijbajlgaaCore2
import Derived.Test.YthgpgnijbajlgaaCore3
import Derived.Test.YthgpgnijbajlgaaCore4
import Derived.Test.YthgpgnijbajlgaaEvCod
import Derived.Test.YthgpgnijbajlgaaEvRet
import Derived.Test.YthgpgnijbajlgaaProg
namespace Go.Proofs.Ythgpgnijbajlgaa
open Go Go.RowKit Ev
set_option maxRecDepth 100000
set_option linter.unusedVariables false
set_option linter.unusedSimpArgs false

/-! num.In -/
theorem t_num_In (x0 : Int) :
    evFn Try.prog Env.nil Laws.nil 200 Try.f94 [cInt.av x0] [] cBool.dec =
      .br (decide (x0 ≥ -1073741824)) (.ret (decide (x0 ≤ 1073741824))) (.ret (false)) := by kernel_rfl
theorem c_num_In (x0 : Int) : Plain Try.prog 94 [cInt.enc x0] (cBool.enc (numIn x0)) :=
  plain_of_tree (n := 200) EnvOK.nil Try.func94 (args := [cInt.av x0]) (by simp only [AV.vals, Cod.av_val]) (Nat.le_of_ble_eq_true (by kernel_rfl)) LFn.nil cBool (by
    rw [t_num_In]
    simp only [Tr.den]
    grind [numIn])
theorem s_num_In : Ev.Spec Try.prog 94 (F1 cInt cBool numIn) := spec1 (fun vs w => Try.call94 vs w) c_num_In

/-! num.Floor -/
theorem t_num_Floor (x0 : Int) (x1 : Int) :
    evFn Try.prog Env.nil Laws.nil 200 Try.f150 [cInt.av x0, cInt.av x1] [] cInt.dec =
      .br (x1 == 0) (.ret (0)) (.br (x1 != 0) (.br (x1 != 0) (.br (x0.tmod x1 != 0) (.br (!decide (x0 < 0) == decide (x1 < 0)) (.ret (IntKind.i64.wrap (IntKind.i64.wrap (x0.tdiv x1) - 1))) (.ret (IntKind.i64.wrap (x0.tdiv x1)))) (.ret (IntKind.i64.wrap (x0.tdiv x1)))) (.fail)) (.fail)) := by kernel_rfl
theorem c_num_Floor (x0 : Int) (x1 : Int) (h : flOk x0 x1 = true) : Plain Try.prog 150 [cInt.enc x0, cInt.enc x1] (cInt.enc (fl x0 x1)) :=
  plain_of_tree (n := 200) EnvOK.nil Try.func150 (args := [cInt.av x0, cInt.av x1]) (by simp only [AV.vals, Cod.av_val]) (Nat.le_of_ble_eq_true (by kernel_rfl)) LFn.nil cInt (by
    rw [t_num_Floor]
    simp [flOk] at h
    simp only [Tr.den]
    by_cases hb : x1 = 0
    · subst hb; simp [fl]
    · have e := fl_tdiv x0 x1 hb
      have hw := tdiv_bd (a := x0) (b := x1) (by omega) (by omega)
      simp (disch := omega) only [IntWalk.i64_in] at *
      grind)
theorem s_num_Floor : Ev.Spec Try.prog 150 (F2p cInt cInt cInt flOk fl) := spec2p (fun vs w => Try.call150 vs w) c_num_Floor

/-! num.rounded -/
theorem t_num_rounded (x0 : Int) (x1 : Int) (x2 : Bool) :
    evFn Try.prog (Env.add 94 (F1 cInt cBool numIn) (Env.add 150 (F2p cInt cInt cInt flOk fl) Env.nil)) Laws.nil 200 Try.f130 [cInt.av x0, cInt.av x1, cBool.av x2] [] (cTwo cInt cBool).dec =
      .br (flOk x0 x1) (.bind (fl x0 x1) fun vn0 => .br (x2) (.br (x1 != 0) (.br (x0.tmod x1 != 0) (.bind (numIn (IntKind.i64.wrap (vn0 + 1))) fun vb1 => .br (!vb1) (.ret ((0, false))) (.ret ((IntKind.i64.wrap (vn0 + 1), true)))) (.bind (numIn vn0) fun vb2 => .br (!vb2) (.ret ((0, false))) (.ret ((vn0, true))))) (.fail)) (.bind (numIn vn0) fun vb3 => .br (!vb3) (.ret ((0, false))) (.ret ((vn0, true))))) (.fail) := by kernel_rfl
theorem c_num_rounded (x0 : Int) (x1 : Int) (x2 : Bool) (h : rnOk x0 x1 x2 = true) : Plain Try.prog 130 [cInt.enc x0, cInt.enc x1, cBool.enc x2] ((cTwo cInt cBool).enc (rnd x0 x1 x2)) :=
  plain_of_tree (n := 200) (EnvOK.add s_num_In (EnvOK.add s_num_Floor EnvOK.nil)) Try.func130 (args := [cInt.av x0, cInt.av x1, cBool.av x2]) (by simp only [AV.vals, Cod.av_val]) (Nat.le_of_ble_eq_true (by kernel_rfl)) LFn.nil (cTwo cInt cBool) (by
    rw [t_num_rounded]
    simp [rnOk] at h
    simp only [Tr.den, h.1]
    have e := fl_tdiv x0 x1 h.2
    have hw := tdiv_bd (a := x0) (b := x1) (by simp [flOk] at h; omega) (by simp [flOk] at h; omega)
    have hz := fl_mul x0 x1 h.2
    have hfl : -9223372036854775807 < fl x0 x1 ∧ fl x0 x1 < 9223372036854775806 := by rw [e]; split <;> omega
    simp (disch := omega) only [IntWalk.i64_in] at *
    grind [rnd])
theorem s_num_rounded : Ev.Spec Try.prog 130 (F3p cInt cInt cBool (cTwo cInt cBool) rnOk rnd) := spec3p (fun vs w => Try.call130 vs w) c_num_rounded

/-! num.Mul -/
theorem t_num_Mul (x0 : Int) (x1 : Int) (x2 : Bool) :
    evFn Try.prog (Env.add 94 (F1 cInt cBool numIn) (Env.add 130 (F3p cInt cInt cBool (cTwo cInt cBool) rnOk rnd) Env.nil)) Laws.nil 200 Try.f118 [cInt.av x0, cInt.av x1, cBool.av x2] [] (cTwo cInt cBool).dec =
      .bind (numIn x0) fun vb0 => .br (!vb0) (.ret ((0, false))) (.bind (numIn x1) fun vb1 => .br (!vb1) (.ret ((0, false))) (.br (rnOk (IntKind.i64.wrap (x0 * x1)) 65536 x2) (.bind (rnd (IntKind.i64.wrap (x0 * x1)) 65536 x2) fun vy2 => .ret (vy2)) (.fail))) := by kernel_rfl
theorem c_num_Mul (x0 : Int) (x1 : Int) (x2 : Bool) : Plain Try.prog 118 [cInt.enc x0, cInt.enc x1, cBool.enc x2] ((cTwo cInt cBool).enc (numMul x0 x1 x2)) :=
  plain_of_tree (n := 200) (EnvOK.add s_num_In (EnvOK.add s_num_rounded EnvOK.nil)) Try.func118 (args := [cInt.av x0, cInt.av x1, cBool.av x2]) (by simp only [AV.vals, Cod.av_val]) (Nat.le_of_ble_eq_true (by kernel_rfl)) LFn.nil (cTwo cInt cBool) (by
    rw [t_num_Mul]
    simp only [Tr.den]
    have hm := mul_bd x0 x1
    cases h0 : numIn x0 <;> cases h1 : numIn x1 <;> simp [numMul, h0, h1]
    have := hm h0 h1
    simp (disch := omega) only [IntWalk.i64_in]
    grind [rnOk, flOk])
theorem s_num_Mul : Ev.Spec Try.prog 118 (F3 cInt cInt cBool (cTwo cInt cBool) numMul) := spec3 (fun vs w => Try.call118 vs w) c_num_Mul

/-! num.Div -/
theorem t_num_Div (x0 : Int) (x1 : Int) (x2 : Bool) :
    evFn Try.prog (Env.add 94 (F1 cInt cBool numIn) (Env.add 130 (F3p cInt cInt cBool (cTwo cInt cBool) rnOk rnd) Env.nil)) Laws.nil 200 Try.f93 [cInt.av x0, cInt.av x1, cBool.av x2] [] (cTwo cInt cBool).dec =
      .bind (numIn x0) fun vb0 => .br (!vb0) (.ret ((0, false))) (.bind (numIn x1) fun vb1 => .br (!vb1) (.ret ((0, false))) (.br (x1 == 0) (.ret ((0, false))) (.br (rnOk (IntKind.i64.wrap (x0 * 65536)) x1 x2) (.bind (rnd (IntKind.i64.wrap (x0 * 65536)) x1 x2) fun vy2 => .ret (vy2)) (.fail)))) := by kernel_rfl
theorem c_num_Div (x0 : Int) (x1 : Int) (x2 : Bool) : Plain Try.prog 93 [cInt.enc x0, cInt.enc x1, cBool.enc x2] ((cTwo cInt cBool).enc (numDiv x0 x1 x2)) :=
  plain_of_tree (n := 200) (EnvOK.add s_num_In (EnvOK.add s_num_rounded EnvOK.nil)) Try.func93 (args := [cInt.av x0, cInt.av x1, cBool.av x2]) (by simp only [AV.vals, Cod.av_val]) (Nat.le_of_ble_eq_true (by kernel_rfl)) LFn.nil (cTwo cInt cBool) (by
    rw [t_num_Div]
    simp only [Tr.den]
    cases h0 : numIn x0 <;> cases h1 : numIn x1 <;> simp [numDiv, h0, h1]
    have b0 := numIn_iff.1 h0
    have b1 := numIn_iff.1 h1
    simp (disch := omega) only [IntWalk.i64_in]
    grind [rnOk, flOk])
theorem s_num_Div : Ev.Spec Try.prog 93 (F3 cInt cInt cBool (cTwo cInt cBool) numDiv) := spec3 (fun vs w => Try.call93 vs w) c_num_Div

/-! iv.Right -/
theorem t_iv_Right (x0 : Iv) :
    evFn Try.prog (Env.add 94 (F1 cInt cBool numIn) Env.nil) Laws.nil 200 Try.f91 [cIv.av x0] [] cBool.dec =
      .br (!x0.no) (.bind (numIn x0.lo) fun vb0 => .br (vb0) (.bind (numIn x0.hi) fun vb1 => .br (vb1) (.ret (decide (x0.lo ≤ x0.hi))) (.ret (false))) (.ret (false))) (.ret (false)) := by kernel_rfl
theorem c_iv_Right (x0 : Iv) : Plain Try.prog 91 [cIv.enc x0] (cBool.enc (Iv.right x0)) :=
  plain_of_tree (n := 200) (EnvOK.add s_num_In EnvOK.nil) Try.func91 (args := [cIv.av x0]) (by simp only [AV.vals, Cod.av_val]) (Nat.le_of_ble_eq_true (by kernel_rfl)) LFn.nil cBool (by
    rw [t_iv_Right]
    simp only [Tr.den]
    grind [Iv.right])
theorem s_iv_Right : Ev.Spec Try.prog 91 (F1 cIv cBool Iv.right) := spec1 (fun vs w => Try.call91 vs w) c_iv_Right

/-! iv.None -/
theorem t_iv_None  :
    evFn Try.prog Env.nil Laws.nil 200 Try.f66 [] [] cIv.dec =
      .ret (Iv.mk 0 0 true) := by kernel_rfl
theorem c_iv_None  : Plain Try.prog 66 [] (cIv.enc (Iv.none)) :=
  plain_of_tree (n := 200) EnvOK.nil Try.func66 (args := []) rfl (Nat.le_of_ble_eq_true (by kernel_rfl)) LFn.nil cIv (by
    rw [t_iv_None]
    rfl)
theorem s_iv_None : Ev.Spec Try.prog 66 (F0 cIv Iv.none) := spec0 (fun vs w => Try.call66 vs w) c_iv_None

/-! iv.Of -/
theorem t_iv_Of (x0 : Int) (x1 : Int) :
    evFn Try.prog (Env.add 66 (F0 cIv Iv.none) (Env.add 91 (F1 cIv cBool Iv.right) Env.nil)) Laws.nil 200 Try.f70 [cInt.av x0, cInt.av x1] [] cIv.dec =
      .bind ((Iv.mk x0 x1 false).right) fun vb0 => .br (!vb0) (.bind (Iv.none) fun viv1 => .ret (viv1)) (.ret (Iv.mk x0 x1 false)) := by kernel_rfl
theorem c_iv_Of (x0 : Int) (x1 : Int) : Plain Try.prog 70 [cInt.enc x0, cInt.enc x1] (cIv.enc (Iv.of x0 x1)) :=
  plain_of_tree (n := 200) (EnvOK.add s_iv_None (EnvOK.add s_iv_Right EnvOK.nil)) Try.func70 (args := [cInt.av x0, cInt.av x1]) (by simp only [AV.vals, Cod.av_val]) (Nat.le_of_ble_eq_true (by kernel_rfl)) LFn.nil cIv (by
    rw [t_iv_Of]
    simp only [Tr.den]
    grind [Iv.of])
theorem s_iv_Of : Ev.Spec Try.prog 70 (F2 cInt cInt cIv Iv.of) := spec2 (fun vs w => Try.call70 vs w) c_iv_Of

/-! iv.Point -/
theorem t_iv_Point (x0 : Int) :
    evFn Try.prog (Env.add 70 (F2 cInt cInt cIv Iv.of) Env.nil) Laws.nil 200 Try.f39 [cInt.av x0] [] cIv.dec =
      .bind (Iv.of x0 x0) fun viv0 => .ret (viv0) := by kernel_rfl
theorem c_iv_Point (x0 : Int) : Plain Try.prog 39 [cInt.enc x0] (cIv.enc (Iv.point x0)) :=
  plain_of_tree (n := 200) (EnvOK.add s_iv_Of EnvOK.nil) Try.func39 (args := [cInt.av x0]) (by simp only [AV.vals, Cod.av_val]) (Nat.le_of_ble_eq_true (by kernel_rfl)) LFn.nil cIv (by
    rw [t_iv_Point]
    simp only [Tr.den]
    grind [Iv.point])
theorem s_iv_Point : Ev.Spec Try.prog 39 (F1 cInt cIv Iv.point) := spec1 (fun vs w => Try.call39 vs w) c_iv_Point

/-! iv.Whole -/
theorem t_iv_Whole (x0 : Int) :
    evFn Try.prog (Env.add 39 (F1 cInt cIv Iv.point) (Env.add 66 (F0 cIv Iv.none) (Env.add 94 (F1 cInt cBool numIn) Env.nil))) Laws.nil 200 Try.f46 [cInt.av x0] [] cIv.dec =
      .bind (numIn x0) fun vb0 => .br (!vb0) (.bind (Iv.none) fun viv1 => .ret (viv1)) (.bind (Iv.point (IntKind.i64.wrap (x0 * 65536))) fun viv2 => .ret (viv2)) := by kernel_rfl
theorem c_iv_Whole (x0 : Int) : Plain Try.prog 46 [cInt.enc x0] (cIv.enc (Iv.whole x0)) :=
  plain_of_tree (n := 200) (EnvOK.add s_iv_Point (EnvOK.add s_iv_None (EnvOK.add s_num_In EnvOK.nil))) Try.func46 (args := [cInt.av x0]) (by simp only [AV.vals, Cod.av_val]) (Nat.le_of_ble_eq_true (by kernel_rfl)) LFn.nil cIv (by
    rw [t_iv_Whole]
    simp only [Tr.den, Iv.whole]
    cases h0 : numIn x0 <;> simp
    have b0 := numIn_iff.1 h0
    simp (disch := omega) only [IntWalk.i64_in])
theorem s_iv_Whole : Ev.Spec Try.prog 46 (F1 cInt cIv Iv.whole) := spec1 (fun vs w => Try.call46 vs w) c_iv_Whole

/-! iv.both -/
theorem t_iv_both (x0 : Iv) (x1 : Iv) :
    evFn Try.prog (Env.add 91 (F1 cIv cBool Iv.right) Env.nil) Laws.nil 200 Try.f89 [cIv.av x0, cIv.av x1] [] cBool.dec =
      .bind (x0.right) fun vb0 => .br (vb0) (.bind (x1.right) fun vb1 => .ret (vb1)) (.ret (false)) := by kernel_rfl
theorem c_iv_both (x0 : Iv) (x1 : Iv) : Plain Try.prog 89 [cIv.enc x0, cIv.enc x1] (cBool.enc (Iv.both x0 x1)) :=
  plain_of_tree (n := 200) (EnvOK.add s_iv_Right EnvOK.nil) Try.func89 (args := [cIv.av x0, cIv.av x1]) (by simp only [AV.vals, Cod.av_val]) (Nat.le_of_ble_eq_true (by kernel_rfl)) LFn.nil cBool (by
    rw [t_iv_both]
    simp only [Tr.den]
    grind [Iv.both])
theorem s_iv_both : Ev.Spec Try.prog 89 (F2 cIv cIv cBool Iv.both) := spec2 (fun vs w => Try.call89 vs w) c_iv_both

/-! iv.Neg -/
theorem t_iv_Neg (x0 : Iv) :
    evFn Try.prog (Env.add 66 (F0 cIv Iv.none) (Env.add 70 (F2 cInt cInt cIv Iv.of) (Env.add 91 (F1 cIv cBool Iv.right) Env.nil))) Laws.nil 200 Try.f90 [cIv.av x0] [] cIv.dec =
      .bind (x0.right) fun vb0 => .br (!vb0) (.bind (Iv.none) fun viv1 => .ret (viv1)) (.bind (Iv.of (IntKind.i64.wrap (0 - x0.hi)) (IntKind.i64.wrap (0 - x0.lo))) fun viv2 => .ret (viv2)) := by kernel_rfl
theorem c_iv_Neg (x0 : Iv) : Plain Try.prog 90 [cIv.enc x0] (cIv.enc (Iv.neg x0)) :=
  plain_of_tree (n := 200) (EnvOK.add s_iv_None (EnvOK.add s_iv_Of (EnvOK.add s_iv_Right EnvOK.nil))) Try.func90 (args := [cIv.av x0]) (by simp only [AV.vals, Cod.av_val]) (Nat.le_of_ble_eq_true (by kernel_rfl)) LFn.nil cIv (by
    rw [t_iv_Neg]
    simp only [Tr.den, Iv.neg]
    cases h0 : x0.right <;> simp
    have b0 := right_bd h0
    simp (disch := omega) only [IntWalk.i64_in])
theorem s_iv_Neg : Ev.Spec Try.prog 90 (F1 cIv cIv Iv.neg) := spec1 (fun vs w => Try.call90 vs w) c_iv_Neg

/-! iv.Add -/
theorem t_iv_Add (x0 : Iv) (x1 : Iv) :
    evFn Try.prog (Env.add 66 (F0 cIv Iv.none) (Env.add 70 (F2 cInt cInt cIv Iv.of) (Env.add 89 (F2 cIv cIv cBool Iv.both) Env.nil))) Laws.nil 200 Try.f38 [cIv.av x0, cIv.av x1] [] cIv.dec =
      .bind (x0.both x1) fun vb0 => .br (!vb0) (.bind (Iv.none) fun viv1 => .ret (viv1)) (.bind (Iv.of (IntKind.i64.wrap (x0.lo + x1.lo)) (IntKind.i64.wrap (x0.hi + x1.hi))) fun viv2 => .ret (viv2)) := by kernel_rfl
theorem c_iv_Add (x0 : Iv) (x1 : Iv) : Plain Try.prog 38 [cIv.enc x0, cIv.enc x1] (cIv.enc (Iv.add x0 x1)) :=
  plain_of_tree (n := 200) (EnvOK.add s_iv_None (EnvOK.add s_iv_Of (EnvOK.add s_iv_both EnvOK.nil))) Try.func38 (args := [cIv.av x0, cIv.av x1]) (by simp only [AV.vals, Cod.av_val]) (Nat.le_of_ble_eq_true (by kernel_rfl)) LFn.nil cIv (by
    rw [t_iv_Add]
    simp only [Tr.den, Iv.add]
    cases h0 : Iv.both x0 x1 <;> simp
    simp [Iv.both] at h0
    have b0 := right_bd h0.1
    have b1 := right_bd h0.2
    simp (disch := omega) only [IntWalk.i64_in])
theorem s_iv_Add : Ev.Spec Try.prog 38 (F2 cIv cIv cIv Iv.add) := spec2 (fun vs w => Try.call38 vs w) c_iv_Add

/-! iv.Sub -/
theorem t_iv_Sub (x0 : Iv) (x1 : Iv) :
    evFn Try.prog (Env.add 38 (F2 cIv cIv cIv Iv.add) (Env.add 90 (F1 cIv cIv Iv.neg) Env.nil)) Laws.nil 200 Try.f40 [cIv.av x0, cIv.av x1] [] cIv.dec =
      .bind (x1.neg) fun viv0 => .bind (x0.add viv0) fun viv1 => .ret (viv1) := by kernel_rfl
theorem c_iv_Sub (x0 : Iv) (x1 : Iv) : Plain Try.prog 40 [cIv.enc x0, cIv.enc x1] (cIv.enc (Iv.sub x0 x1)) :=
  plain_of_tree (n := 200) (EnvOK.add s_iv_Add (EnvOK.add s_iv_Neg EnvOK.nil)) Try.func40 (args := [cIv.av x0, cIv.av x1]) (by simp only [AV.vals, Cod.av_val]) (Nat.le_of_ble_eq_true (by kernel_rfl)) LFn.nil cIv (by
    rw [t_iv_Sub]
    rfl)
theorem s_iv_Sub : Ev.Spec Try.prog 40 (F2 cIv cIv cIv Iv.sub) := spec2 (fun vs w => Try.call40 vs w) c_iv_Sub

/-! iv.Times -/
theorem t_iv_Times (x0 : Iv) (x1 : Int) :
    evFn Try.prog (Env.add 66 (F0 cIv Iv.none) (Env.add 70 (F2 cInt cInt cIv Iv.of) (Env.add 91 (F1 cIv cBool Iv.right) (Env.add 94 (F1 cInt cBool numIn) Env.nil)))) Laws.nil 200 Try.f62 [cIv.av x0, cInt.av x1] [] cIv.dec =
      .bind (x0.right) fun vb0 => .br (!vb0) (.bind (Iv.none) fun viv1 => .ret (viv1)) (.bind (numIn x1) fun vb2 => .br (!vb2) (.bind (Iv.none) fun viv3 => .ret (viv3)) (.bind (Iv.of (Min.min (IntKind.i64.wrap (x1 * x0.lo)) (IntKind.i64.wrap (x1 * x0.hi))) (Max.max (IntKind.i64.wrap (x1 * x0.lo)) (IntKind.i64.wrap (x1 * x0.hi)))) fun viv4 => .ret (viv4))) := by kernel_rfl
theorem c_iv_Times (x0 : Iv) (x1 : Int) : Plain Try.prog 62 [cIv.enc x0, cInt.enc x1] (cIv.enc (Iv.times x0 x1)) :=
  plain_of_tree (n := 200) (EnvOK.add s_iv_None (EnvOK.add s_iv_Of (EnvOK.add s_iv_Right (EnvOK.add s_num_In EnvOK.nil)))) Try.func62 (args := [cIv.av x0, cInt.av x1]) (by simp only [AV.vals, Cod.av_val]) (Nat.le_of_ble_eq_true (by kernel_rfl)) LFn.nil cIv (by
    rw [t_iv_Times]
    simp only [Tr.den, Iv.times]
    cases h0 : x0.right <;> cases h1 : numIn x1 <;> simp
    have b0 := right_bd h0
    have b1 := numIn_iff.1 h1
    have m1 := mul_bd x1 x0.lo h1 (numIn_iff.2 (by omega))
    have m2 := mul_bd x1 x0.hi h1 (numIn_iff.2 (by omega))
    simp (disch := omega) only [IntWalk.i64_in])
theorem s_iv_Times : Ev.Spec Try.prog 62 (F2 cIv cInt cIv Iv.times) := spec2 (fun vs w => Try.call62 vs w) c_iv_Times

/-! iv.Has -/
theorem t_iv_Has (x0 : Iv) (x1 : Int) :
    evFn Try.prog (Env.add 91 (F1 cIv cBool Iv.right) Env.nil) Laws.nil 200 Try.f63 [cIv.av x0, cInt.av x1] [] cBool.dec =
      .bind (x0.right) fun vb0 => .br (vb0) (.br (decide (x0.lo ≤ x1)) (.ret (decide (x1 ≤ x0.hi))) (.ret (false))) (.ret (false)) := by kernel_rfl
theorem c_iv_Has (x0 : Iv) (x1 : Int) : Plain Try.prog 63 [cIv.enc x0, cInt.enc x1] (cBool.enc (Iv.has x0 x1)) :=
  plain_of_tree (n := 200) (EnvOK.add s_iv_Right EnvOK.nil) Try.func63 (args := [cIv.av x0, cInt.av x1]) (by simp only [AV.vals, Cod.av_val]) (Nat.le_of_ble_eq_true (by kernel_rfl)) LFn.nil cBool (by
    rw [t_iv_Has]
    simp only [Tr.den]
    grind [Iv.has])
theorem s_iv_Has : Ev.Spec Try.prog 63 (F2 cIv cInt cBool Iv.has) := spec2 (fun vs w => Try.call63 vs w) c_iv_Has

/-! iv.ends -/
theorem t_iv_ends_mul (x0 : Unit) (x1 : Iv) (x2 : Iv) :
    evFn Try.prog (Env.add 66 (F0 cIv Iv.none) (Env.add 70 (F2 cInt cInt cIv Iv.of) (Env.add 118 (F3 cInt cInt cBool (cTwo cInt cBool) numMul) Env.nil))) Laws.nil 200 Try.f92 [(cFn 118).av x0, cIv.av x1, cIv.av x2] [] cIv.dec =
      .bind (numMul x1.lo x2.lo false) fun vy0 => .bind (numMul x1.lo x2.lo true) fun vy1 => .br (!vy0.2) (.bind (Iv.none) fun viv2 => .ret (viv2)) (.br (!vy1.2) (.bind (Iv.none) fun viv3 => .ret (viv3)) (.bind (Iv.of vy0.1 vy1.1) fun viv4 => .bind (Iv.of (Min.min viv4.lo vy0.1) (Max.max viv4.hi vy1.1)) fun viv5 => .bind (numMul x1.lo x2.hi false) fun vy6 => .bind (numMul x1.lo x2.hi true) fun vy7 => .br (!vy6.2) (.bind (Iv.none) fun viv8 => .ret (viv8)) (.br (!vy7.2) (.bind (Iv.none) fun viv9 => .ret (viv9)) (.bind (Iv.of (Min.min viv5.lo vy6.1) (Max.max viv5.hi vy7.1)) fun viv10 => .bind (numMul x1.hi x2.lo false) fun vy11 => .bind (numMul x1.hi x2.lo true) fun vy12 => .br (!vy11.2) (.bind (Iv.none) fun viv13 => .ret (viv13)) (.br (!vy12.2) (.bind (Iv.none) fun viv14 => .ret (viv14)) (.bind (Iv.of (Min.min viv10.lo vy11.1) (Max.max viv10.hi vy12.1)) fun viv15 => .bind (numMul x1.hi x2.hi false) fun vy16 => .bind (numMul x1.hi x2.hi true) fun vy17 => .br (!vy16.2) (.bind (Iv.none) fun viv18 => .ret (viv18)) (.br (!vy17.2) (.bind (Iv.none) fun viv19 => .ret (viv19)) (.bind (Iv.of (Min.min viv15.lo vy16.1) (Max.max viv15.hi vy17.1)) fun viv20 => .ret (viv20))))))))) := by kernel_rfl
theorem c_iv_ends_mul (x0 : Unit) (x1 : Iv) (x2 : Iv) : Plain Try.prog 92 [(cFn 118).enc x0, cIv.enc x1, cIv.enc x2] (cIv.enc (((fun (_ : Unit) a b => ends numMul a b)) x0 x1 x2)) :=
  plain_of_tree (n := 200) (EnvOK.add s_iv_None (EnvOK.add s_iv_Of (EnvOK.add s_num_Mul EnvOK.nil))) Try.func92 (args := [(cFn 118).av x0, cIv.av x1, cIv.av x2]) (by simp only [AV.vals, Cod.av_val]) (Nat.le_of_ble_eq_true (by kernel_rfl)) LFn.nil cIv (by
    rw [t_iv_ends_mul]
    simp only [den_br, den_bind, den_ret, den_fail, den_inl, den_inr, decide_eq_true_eq]
    exact ends_chain numMul_le x1 x2)
theorem s_iv_ends_mul : Ev.Spec Try.prog 92 (F3 (cFn 118) cIv cIv cIv ((fun (_ : Unit) a b => ends numMul a b))) := spec3 (fun vs w => Try.call92 vs w) c_iv_ends_mul

/-! iv.ends -/
theorem t_iv_ends_div (x0 : Unit) (x1 : Iv) (x2 : Iv) :
    evFn Try.prog (Env.add 66 (F0 cIv Iv.none) (Env.add 70 (F2 cInt cInt cIv Iv.of) (Env.add 93 (F3 cInt cInt cBool (cTwo cInt cBool) numDiv) Env.nil))) Laws.nil 200 Try.f92 [(cFn 93).av x0, cIv.av x1, cIv.av x2] [] cIv.dec =
      .bind (numDiv x1.lo x2.lo false) fun vy0 => .bind (numDiv x1.lo x2.lo true) fun vy1 => .br (!vy0.2) (.bind (Iv.none) fun viv2 => .ret (viv2)) (.br (!vy1.2) (.bind (Iv.none) fun viv3 => .ret (viv3)) (.bind (Iv.of vy0.1 vy1.1) fun viv4 => .bind (Iv.of (Min.min viv4.lo vy0.1) (Max.max viv4.hi vy1.1)) fun viv5 => .bind (numDiv x1.lo x2.hi false) fun vy6 => .bind (numDiv x1.lo x2.hi true) fun vy7 => .br (!vy6.2) (.bind (Iv.none) fun viv8 => .ret (viv8)) (.br (!vy7.2) (.bind (Iv.none) fun viv9 => .ret (viv9)) (.bind (Iv.of (Min.min viv5.lo vy6.1) (Max.max viv5.hi vy7.1)) fun viv10 => .bind (numDiv x1.hi x2.lo false) fun vy11 => .bind (numDiv x1.hi x2.lo true) fun vy12 => .br (!vy11.2) (.bind (Iv.none) fun viv13 => .ret (viv13)) (.br (!vy12.2) (.bind (Iv.none) fun viv14 => .ret (viv14)) (.bind (Iv.of (Min.min viv10.lo vy11.1) (Max.max viv10.hi vy12.1)) fun viv15 => .bind (numDiv x1.hi x2.hi false) fun vy16 => .bind (numDiv x1.hi x2.hi true) fun vy17 => .br (!vy16.2) (.bind (Iv.none) fun viv18 => .ret (viv18)) (.br (!vy17.2) (.bind (Iv.none) fun viv19 => .ret (viv19)) (.bind (Iv.of (Min.min viv15.lo vy16.1) (Max.max viv15.hi vy17.1)) fun viv20 => .ret (viv20))))))))) := by kernel_rfl
theorem c_iv_ends_div (x0 : Unit) (x1 : Iv) (x2 : Iv) : Plain Try.prog 92 [(cFn 93).enc x0, cIv.enc x1, cIv.enc x2] (cIv.enc (((fun (_ : Unit) a b => ends numDiv a b)) x0 x1 x2)) :=
  plain_of_tree (n := 200) (EnvOK.add s_iv_None (EnvOK.add s_iv_Of (EnvOK.add s_num_Div EnvOK.nil))) Try.func92 (args := [(cFn 93).av x0, cIv.av x1, cIv.av x2]) (by simp only [AV.vals, Cod.av_val]) (Nat.le_of_ble_eq_true (by kernel_rfl)) LFn.nil cIv (by
    rw [t_iv_ends_div]
    simp only [den_br, den_bind, den_ret, den_fail, den_inl, den_inr, decide_eq_true_eq]
    exact ends_chain numDiv_le x1 x2)
theorem s_iv_ends_div : Ev.Spec Try.prog 92 (F3 (cFn 93) cIv cIv cIv ((fun (_ : Unit) a b => ends numDiv a b))) := spec3 (fun vs w => Try.call92 vs w) c_iv_ends_div

/-! iv.Mul -/
theorem t_iv_Mul (x0 : Iv) (x1 : Iv) :
    evFn Try.prog (Env.add 66 (F0 cIv Iv.none) (Env.add 89 (F2 cIv cIv cBool Iv.both) (Env.add 92 (F3 (cFn 118) cIv cIv cIv ((fun (_ : Unit) a b => ends numMul a b))) (Env.add 92 (F3 (cFn 93) cIv cIv cIv ((fun (_ : Unit) a b => ends numDiv a b))) (Env.add 118 (F3 cInt cInt cBool (cTwo cInt cBool) numMul) Env.nil))))) Laws.nil 200 Try.f65 [cIv.av x0, cIv.av x1] [] cIv.dec =
      .bind (x0.both x1) fun vb0 => .br (!vb0) (.bind (Iv.none) fun viv1 => .ret (viv1)) (.bind (ends numMul x0 x1) fun viv2 => .ret (viv2)) := by kernel_rfl
theorem c_iv_Mul (x0 : Iv) (x1 : Iv) : Plain Try.prog 65 [cIv.enc x0, cIv.enc x1] (cIv.enc (Iv.mul x0 x1)) :=
  plain_of_tree (n := 200) (EnvOK.add s_iv_None (EnvOK.add s_iv_both (EnvOK.add s_iv_ends_mul (EnvOK.add s_iv_ends_div (EnvOK.add s_num_Mul EnvOK.nil))))) Try.func65 (args := [cIv.av x0, cIv.av x1]) (by simp only [AV.vals, Cod.av_val]) (Nat.le_of_ble_eq_true (by kernel_rfl)) LFn.nil cIv (by
    rw [t_iv_Mul]
    simp only [Tr.den]
    grind [Iv.mul])
theorem s_iv_Mul : Ev.Spec Try.prog 65 (F2 cIv cIv cIv Iv.mul) := spec2 (fun vs w => Try.call65 vs w) c_iv_Mul

/-! iv.Div -/
theorem t_iv_Div (x0 : Iv) (x1 : Iv) :
    evFn Try.prog (Env.add 63 (F2 cIv cInt cBool Iv.has) (Env.add 66 (F0 cIv Iv.none) (Env.add 89 (F2 cIv cIv cBool Iv.both) (Env.add 92 (F3 (cFn 118) cIv cIv cIv ((fun (_ : Unit) a b => ends numMul a b))) (Env.add 92 (F3 (cFn 93) cIv cIv cIv ((fun (_ : Unit) a b => ends numDiv a b))) (Env.add 93 (F3 cInt cInt cBool (cTwo cInt cBool) numDiv) Env.nil)))))) Laws.nil 200 Try.f45 [cIv.av x0, cIv.av x1] [] cIv.dec =
      .bind (x0.both x1) fun vb0 => .br (!vb0) (.bind (Iv.none) fun viv1 => .ret (viv1)) (.bind (x1.has 0) fun vb2 => .br (vb2) (.bind (Iv.none) fun viv3 => .ret (viv3)) (.bind (ends numDiv x0 x1) fun viv4 => .ret (viv4))) := by kernel_rfl
theorem c_iv_Div (x0 : Iv) (x1 : Iv) : Plain Try.prog 45 [cIv.enc x0, cIv.enc x1] (cIv.enc (Iv.div x0 x1)) :=
  plain_of_tree (n := 200) (EnvOK.add s_iv_Has (EnvOK.add s_iv_None (EnvOK.add s_iv_both (EnvOK.add s_iv_ends_mul (EnvOK.add s_iv_ends_div (EnvOK.add s_num_Div EnvOK.nil)))))) Try.func45 (args := [cIv.av x0, cIv.av x1]) (by simp only [AV.vals, Cod.av_val]) (Nat.le_of_ble_eq_true (by kernel_rfl)) LFn.nil cIv (by
    rw [t_iv_Div]
    simp only [den_br, den_bind, den_ret, den_fail, den_inl, den_inr, decide_eq_true_eq]
    simp only [Iv.div]
    cases Iv.both x0 x1 <;> cases Iv.has x1 0 <;> simp)
theorem s_iv_Div : Ev.Spec Try.prog 45 (F2 cIv cIv cIv Iv.div) := spec2 (fun vs w => Try.call45 vs w) c_iv_Div

/-! iv.Sqr -/
theorem t_iv_Sqr (x0 : Iv) :
    evFn Try.prog (Env.add 66 (F0 cIv Iv.none) (Env.add 70 (F2 cInt cInt cIv Iv.of) (Env.add 91 (F1 cIv cBool Iv.right) (Env.add 118 (F3 cInt cInt cBool (cTwo cInt cBool) numMul) Env.nil)))) Laws.nil 200 Try.f68 [cIv.av x0] [] cIv.dec =
      .bind (x0.right) fun vb0 => .br (!vb0) (.bind (Iv.none) fun viv1 => .ret (viv1)) (.bind (numMul (Max.max (IntKind.i64.wrap (0 - x0.lo)) x0.hi) (Max.max (IntKind.i64.wrap (0 - x0.lo)) x0.hi) true) fun vy2 => .bind (numMul (Max.max (Max.max x0.lo (IntKind.i64.wrap (0 - x0.hi))) 0) (Max.max (Max.max x0.lo (IntKind.i64.wrap (0 - x0.hi))) 0) false) fun vy3 => .br (!vy2.2) (.bind (Iv.none) fun viv4 => .ret (viv4)) (.bind (Iv.of vy3.1 vy2.1) fun viv5 => .ret (viv5))) := by kernel_rfl
theorem c_iv_Sqr (x0 : Iv) : Plain Try.prog 68 [cIv.enc x0] (cIv.enc (Iv.sqr x0)) :=
  plain_of_tree (n := 200) (EnvOK.add s_iv_None (EnvOK.add s_iv_Of (EnvOK.add s_iv_Right (EnvOK.add s_num_Mul EnvOK.nil)))) Try.func68 (args := [cIv.av x0]) (by simp only [AV.vals, Cod.av_val]) (Nat.le_of_ble_eq_true (by kernel_rfl)) LFn.nil cIv (by
    rw [t_iv_Sqr]
    simp only [Iv.sqr]
    cases h0 : x0.right
    · simp [Tr.den]
    have b0 := right_bd h0
    have e1 : IntKind.i64.wrap (-x0.lo) = -x0.lo := IntWalk.i64_in _ (by omega)
    have e2 : IntKind.i64.wrap (-x0.hi) = -x0.hi := IntWalk.i64_in _ (by omega)
    simp only [den_br, den_bind, den_ret, den_fail, e1, e2]
    grind)
theorem s_iv_Sqr : Ev.Spec Try.prog 68 (F1 cIv cIv Iv.sqr) := spec1 (fun vs w => Try.call68 vs w) c_iv_Sqr

/-! iv.Hull -/
theorem t_iv_Hull (x0 : Iv) (x1 : Iv) :
    evFn Try.prog (Env.add 66 (F0 cIv Iv.none) (Env.add 70 (F2 cInt cInt cIv Iv.of) (Env.add 89 (F2 cIv cIv cBool Iv.both) Env.nil))) Laws.nil 200 Try.f37 [cIv.av x0, cIv.av x1] [] cIv.dec =
      .bind (x0.both x1) fun vb0 => .br (!vb0) (.bind (Iv.none) fun viv1 => .ret (viv1)) (.bind (Iv.of (Min.min x0.lo x1.lo) (Max.max x0.hi x1.hi)) fun viv2 => .ret (viv2)) := by kernel_rfl
theorem c_iv_Hull (x0 : Iv) (x1 : Iv) : Plain Try.prog 37 [cIv.enc x0, cIv.enc x1] (cIv.enc (Iv.hull x0 x1)) :=
  plain_of_tree (n := 200) (EnvOK.add s_iv_None (EnvOK.add s_iv_Of (EnvOK.add s_iv_both EnvOK.nil))) Try.func37 (args := [cIv.av x0, cIv.av x1]) (by simp only [AV.vals, Cod.av_val]) (Nat.le_of_ble_eq_true (by kernel_rfl)) LFn.nil cIv (by
    rw [t_iv_Hull]
    simp only [Tr.den]
    grind [Iv.hull])
theorem s_iv_Hull : Ev.Spec Try.prog 37 (F2 cIv cIv cIv Iv.hull) := spec2 (fun vs w => Try.call37 vs w) c_iv_Hull

/-! iv.Meet -/
theorem t_iv_Meet (x0 : Iv) (x1 : Iv) :
    evFn Try.prog (Env.add 66 (F0 cIv Iv.none) (Env.add 70 (F2 cInt cInt cIv Iv.of) (Env.add 89 (F2 cIv cIv cBool Iv.both) Env.nil))) Laws.nil 200 Try.f107 [cIv.av x0, cIv.av x1] [] cIv.dec =
      .bind (x0.both x1) fun vb0 => .br (!vb0) (.bind (Iv.none) fun viv1 => .ret (viv1)) (.bind (Iv.of (Max.max x0.lo x1.lo) (Min.min x0.hi x1.hi)) fun viv2 => .ret (viv2)) := by kernel_rfl
theorem c_iv_Meet (x0 : Iv) (x1 : Iv) : Plain Try.prog 107 [cIv.enc x0, cIv.enc x1] (cIv.enc (Iv.meet x0 x1)) :=
  plain_of_tree (n := 200) (EnvOK.add s_iv_None (EnvOK.add s_iv_Of (EnvOK.add s_iv_both EnvOK.nil))) Try.func107 (args := [cIv.av x0, cIv.av x1]) (by simp only [AV.vals, Cod.av_val]) (Nat.le_of_ble_eq_true (by kernel_rfl)) LFn.nil cIv (by
    rw [t_iv_Meet]
    simp only [Tr.den]
    grind [Iv.meet])
theorem s_iv_Meet : Ev.Spec Try.prog 107 (F2 cIv cIv cIv Iv.meet) := spec2 (fun vs w => Try.call107 vs w) c_iv_Meet

/-! iv.Mid -/
theorem t_iv_Mid (x0 : Iv) :
    evFn Try.prog (Env.add 91 (F1 cIv cBool Iv.right) Env.nil) Laws.nil 200 Try.f106 [cIv.av x0] [] cInt.dec =
      .bind (x0.right) fun vb0 => .br (!vb0) (.ret (0)) (.br (decide (0 ≤ 1)) (.ret ((IntKind.i64.wrap (x0.lo + x0.hi)).fdiv (2 ^ Min.min (Int.toNat 1) 64))) (.fail)) := by kernel_rfl
theorem c_iv_Mid (x0 : Iv) : Plain Try.prog 106 [cIv.enc x0] (cInt.enc (Iv.mid x0)) :=
  plain_of_tree (n := 200) (EnvOK.add s_iv_Right EnvOK.nil) Try.func106 (args := [cIv.av x0]) (by simp only [AV.vals, Cod.av_val]) (Nat.le_of_ble_eq_true (by kernel_rfl)) LFn.nil cInt (by
    rw [t_iv_Mid]
    simp only [Iv.mid]
    cases h0 : x0.right
    · simp [Tr.den]
    have b0 := right_bd h0
    have e1 : IntKind.i64.wrap (x0.lo + x0.hi) = x0.lo + x0.hi := IntWalk.i64_in _ (by omega)
    simp only [Tr.den, e1, if_true]
    exact congrArg some (Int.fdiv_eq_ediv_of_nonneg _ (by decide)))
theorem s_iv_Mid : Ev.Spec Try.prog 106 (F1 cIv cInt Iv.mid) := spec1 (fun vs w => Try.call106 vs w) c_iv_Mid

/-! iv.Inside -/
theorem t_iv_Inside (x0 : Iv) (x1 : Iv) :
    evFn Try.prog (Env.add 89 (F2 cIv cIv cBool Iv.both) Env.nil) Laws.nil 200 Try.f60 [cIv.av x0, cIv.av x1] [] cBool.dec =
      .bind (x0.both x1) fun vb0 => .br (vb0) (.br (decide (x1.lo ≤ x0.lo)) (.ret (decide (x0.hi ≤ x1.hi))) (.ret (false))) (.ret (false)) := by kernel_rfl
theorem c_iv_Inside (x0 : Iv) (x1 : Iv) : Plain Try.prog 60 [cIv.enc x0, cIv.enc x1] (cBool.enc (Iv.inside x0 x1)) :=
  plain_of_tree (n := 200) (EnvOK.add s_iv_both EnvOK.nil) Try.func60 (args := [cIv.av x0, cIv.av x1]) (by simp only [AV.vals, Cod.av_val]) (Nat.le_of_ble_eq_true (by kernel_rfl)) LFn.nil cBool (by
    rw [t_iv_Inside]
    simp only [Tr.den]
    grind [Iv.inside])
theorem s_iv_Inside : Ev.Spec Try.prog 60 (F2 cIv cIv cBool Iv.inside) := spec2 (fun vs w => Try.call60 vs w) c_iv_Inside

/-! iv.Split -/
theorem t_iv_Split (x0 : Iv) :
    evFn Try.prog (Env.add 66 (F0 cIv Iv.none) (Env.add 70 (F2 cInt cInt cIv Iv.of) (Env.add 91 (F1 cIv cBool Iv.right) (Env.add 106 (F1 cIv cInt Iv.mid) Env.nil)))) Laws.nil 200 Try.f108 [cIv.av x0] [] (cTwo cIv cIv).dec =
      .bind (x0.right) fun vb0 => .br (!vb0) (.bind (Iv.none) fun viv1 => .bind (Iv.none) fun viv2 => .ret ((viv1, viv2))) (.bind (x0.mid) fun vn3 => .bind (Iv.of x0.lo vn3) fun viv4 => .bind (x0.mid) fun vn5 => .bind (Iv.of vn5 x0.hi) fun viv6 => .ret ((viv4, viv6))) := by kernel_rfl
theorem c_iv_Split (x0 : Iv) : Plain Try.prog 108 [cIv.enc x0] ((cTwo cIv cIv).enc (Iv.split x0)) :=
  plain_of_tree (n := 200) (EnvOK.add s_iv_None (EnvOK.add s_iv_Of (EnvOK.add s_iv_Right (EnvOK.add s_iv_Mid EnvOK.nil)))) Try.func108 (args := [cIv.av x0]) (by simp only [AV.vals, Cod.av_val]) (Nat.le_of_ble_eq_true (by kernel_rfl)) LFn.nil (cTwo cIv cIv) (by
    rw [t_iv_Split]
    simp only [Tr.den]
    grind [Iv.split])
theorem s_iv_Split : Ev.Spec Try.prog 108 (F1 cIv (cTwo cIv cIv) Iv.split) := spec1 (fun vs w => Try.call108 vs w) c_iv_Split

/-! meniscushand.Pick -/
theorem t_meniscushand_Pick (x0 : Int) (x1 : Int) :
    evFn Try.prog Env.nil Laws.nil 200 Try.f22 [cInt.av x0, cInt.av x1] [] cInt.dec =
      .br (x1 != 0) (.br (decide (x0.tmod x1 < 0)) (.ret (IntKind.i64.wrap (x0.tmod x1 + x1))) (.ret (x0.tmod x1))) (.fail) := by kernel_rfl
theorem c_meniscushand_Pick (x0 : Int) (x1 : Int) (h : pickOk x0 x1 = true) : Plain Try.prog 22 [cInt.enc x0, cInt.enc x1] (cInt.enc (pick x0 x1)) :=
  plain_of_tree (n := 200) EnvOK.nil Try.func22 (args := [cInt.av x0, cInt.av x1]) (by simp only [AV.vals, Cod.av_val]) (Nat.le_of_ble_eq_true (by kernel_rfl)) LFn.nil cInt (by
    rw [t_meniscushand_Pick]
    simp [pickOk] at h
    have p := tmod_pick x0 h.1
    have hne : (x1 != 0) = true := by simp; omega
    simp only [Tr.den, hne]
    by_cases hlt : x0.tmod x1 < 0
    · simp only [hlt, decide_true]
      rw [IntWalk.i64_in _ (by omega), p.1 hlt]
    · simp only [hlt, decide_false]
      rw [p.2.1 (by omega)])
theorem s_meniscushand_Pick : Ev.Spec Try.prog 22 (F2p cInt cInt cInt pickOk pick) := spec2p (fun vs w => Try.call22 vs w) c_meniscushand_Pick

/-! meniscusref1.In -/
theorem t_meniscusref1_In (x0 : Int) :
    evFn Try.prog Env.nil Laws.nil 200 Try.f134 [cInt.av x0] [] cBool.dec =
      .br (decide (x0 ≥ -1073741824)) (.ret (decide (x0 ≤ 1073741824))) (.ret (false)) := by kernel_rfl
theorem c_meniscusref1_In (x0 : Int) : Plain Try.prog 134 [cInt.enc x0] (cBool.enc (numIn x0)) :=
  plain_of_tree (n := 200) EnvOK.nil Try.func134 (args := [cInt.av x0]) (by simp only [AV.vals, Cod.av_val]) (Nat.le_of_ble_eq_true (by kernel_rfl)) LFn.nil cBool (by
    rw [t_meniscusref1_In]
    simp only [Tr.den]
    grind [numIn])
theorem s_meniscusref1_In : Ev.Spec Try.prog 134 (F1 cInt cBool numIn) := spec1 (fun vs w => Try.call134 vs w) c_meniscusref1_In

/-! meniscusref1.told -/
theorem t_meniscusref1_told (x0 : Int) :
    evFn Try.prog (Env.add 134 (F1 cInt cBool numIn) Env.nil) Laws.nil 200 Try.f164 [cInt.av x0] [] (cTwo cInt cBool).dec =
      .bind (numIn x0) fun vb0 => .br (!vb0) (.ret ((0, false))) (.ret ((x0, true))) := by kernel_rfl
theorem c_meniscusref1_told (x0 : Int) : Plain Try.prog 164 [cInt.enc x0] ((cTwo cInt cBool).enc (toldN x0)) :=
  plain_of_tree (n := 200) (EnvOK.add s_meniscusref1_In EnvOK.nil) Try.func164 (args := [cInt.av x0]) (by simp only [AV.vals, Cod.av_val]) (Nat.le_of_ble_eq_true (by kernel_rfl)) LFn.nil (cTwo cInt cBool) (by
    rw [t_meniscusref1_told]
    simp only [den_br, den_bind, den_ret, den_fail, den_inl, den_inr, decide_eq_true_eq]
    grind [toldN])
theorem s_meniscusref1_told : Ev.Spec Try.prog 164 (F1 cInt (cTwo cInt cBool) toldN) := spec1 (fun vs w => Try.call164 vs w) c_meniscusref1_told

/-! meniscusref1.Floor -/
theorem t_meniscusref1_Floor (x0 : Int) (x1 : Int) :
    evFn Try.prog Env.nil Laws.nil 200 Try.f135 [cInt.av x0, cInt.av x1] [] cInt.dec =
      .br (x1 == 0) (.ret (0)) (.br (x1 != 0) (.br (x1 != 0) (.br (x0.tmod x1 != 0) (.br (!decide (x0.tmod x1 < 0) == decide (x1 < 0)) (.ret (IntKind.i64.wrap (IntKind.i64.wrap (x0.tdiv x1) - 1))) (.ret (IntKind.i64.wrap (x0.tdiv x1)))) (.ret (IntKind.i64.wrap (x0.tdiv x1)))) (.fail)) (.fail)) := by kernel_rfl
theorem c_meniscusref1_Floor (x0 : Int) (x1 : Int) (h : flOk x0 x1 = true) : Plain Try.prog 135 [cInt.enc x0, cInt.enc x1] (cInt.enc (fl x0 x1)) :=
  plain_of_tree (n := 200) EnvOK.nil Try.func135 (args := [cInt.av x0, cInt.av x1]) (by simp only [AV.vals, Cod.av_val]) (Nat.le_of_ble_eq_true (by kernel_rfl)) LFn.nil cInt (by
    rw [t_meniscusref1_Floor]
    simp only [den_br, den_bind, den_ret, den_fail, den_inl, den_inr, decide_eq_true_eq]
    simp [flOk] at h
    by_cases hb : x1 = 0
    · subst hb; simp [fl]
    · have e := fl_tdiv x0 x1 hb
      have hw := tdiv_bd (a := x0) (b := x1) (by omega) (by omega)
      have e1 : IntKind.i64.wrap (x0.tdiv x1) = x0.tdiv x1 := wr (by omega)
      have e2 : IntKind.i64.wrap (x0.tdiv x1 - 1) = x0.tdiv x1 - 1 := wr (by omega)
      rw [e]
      by_cases hm : x0.tmod x1 = 0
      · simp [hb, hm, e1]
      · have hs := tmod_sign hm
        simp only [e1, e2, hs]
        cases hd : decide (x0 < 0) <;> cases hd2 : decide (x1 < 0) <;> simp [hb, hm])
theorem s_meniscusref1_Floor : Ev.Spec Try.prog 135 (F2p cInt cInt cInt flOk fl) := spec2p (fun vs w => Try.call135 vs w) c_meniscusref1_Floor

/-! meniscusref1.Ceil -/
theorem t_meniscusref1_Ceil (x0 : Int) (x1 : Int) :
    evFn Try.prog (Env.add 135 (F2p cInt cInt cInt flOk fl) Env.nil) Laws.nil 200 Try.f147 [cInt.av x0, cInt.av x1] [] cInt.dec =
      .br (flOk x0 x1) (.bind (fl x0 x1) fun vn0 => .br (IntKind.i64.wrap (vn0 * x1) != x0) (.ret (IntKind.i64.wrap (vn0 + 1))) (.ret (vn0))) (.fail) := by kernel_rfl
theorem c_meniscusref1_Ceil (x0 : Int) (x1 : Int) (h : clOk x0 x1 = true) : Plain Try.prog 147 [cInt.enc x0, cInt.enc x1] (cInt.enc (cl x0 x1)) :=
  plain_of_tree (n := 200) (EnvOK.add s_meniscusref1_Floor EnvOK.nil) Try.func147 (args := [cInt.av x0, cInt.av x1]) (by simp only [AV.vals, Cod.av_val]) (Nat.le_of_ble_eq_true (by kernel_rfl)) LFn.nil cInt (by
    rw [t_meniscusref1_Ceil]
    simp only [den_br, den_bind, den_ret, den_fail, den_inl, den_inr, decide_eq_true_eq]
    have e1 := wr (fl_mul_bd h)
    have e2 : IntKind.i64.wrap (fl x0 x1 + 1) = fl x0 x1 + 1 := wr (by have := fl_bd (clOk_fl h); omega)
    simp only [clOk_fl h, e1, e2, if_true, cl]
    by_cases hh : fl x0 x1 * x1 = x0 <;> simp [hh])
theorem s_meniscusref1_Ceil : Ev.Spec Try.prog 147 (F2p cInt cInt cInt clOk cl) := spec2p (fun vs w => Try.call147 vs w) c_meniscusref1_Ceil

/-! meniscusref1.Mul -/
theorem t_meniscusref1_Mul (x0 : Int) (x1 : Int) (x2 : Bool) :
    evFn Try.prog (Env.add 134 (F1 cInt cBool numIn) (Env.add 135 (F2p cInt cInt cInt flOk fl) (Env.add 147 (F2p cInt cInt cInt clOk cl) (Env.add 164 (F1 cInt (cTwo cInt cBool) toldN) Env.nil)))) Laws.nil 200 Try.f148 [cInt.av x0, cInt.av x1, cBool.av x2] [] (cTwo cInt cBool).dec =
      .bind (numIn x0) fun vb0 => .br (!vb0) (.ret ((0, false))) (.bind (numIn x1) fun vb1 => .br (!vb1) (.ret ((0, false))) (.br (x2) (.br (clOk (IntKind.i64.wrap (x0 * x1)) 65536) (.bind (cl (IntKind.i64.wrap (x0 * x1)) 65536) fun vn2 => .bind (toldN vn2) fun vy3 => .ret (vy3)) (.fail)) (.br (flOk (IntKind.i64.wrap (x0 * x1)) 65536) (.bind (fl (IntKind.i64.wrap (x0 * x1)) 65536) fun vn4 => .bind (toldN vn4) fun vy5 => .ret (vy5)) (.fail)))) := by kernel_rfl
theorem c_meniscusref1_Mul (x0 : Int) (x1 : Int) (x2 : Bool) : Plain Try.prog 148 [cInt.enc x0, cInt.enc x1, cBool.enc x2] ((cTwo cInt cBool).enc (numMul x0 x1 x2)) :=
  plain_of_tree (n := 200) (EnvOK.add s_meniscusref1_In (EnvOK.add s_meniscusref1_Floor (EnvOK.add s_meniscusref1_Ceil (EnvOK.add s_meniscusref1_told EnvOK.nil)))) Try.func148 (args := [cInt.av x0, cInt.av x1, cBool.av x2]) (by simp only [AV.vals, Cod.av_val]) (Nat.le_of_ble_eq_true (by kernel_rfl)) LFn.nil (cTwo cInt cBool) (by
    rw [t_meniscusref1_Mul]
    simp only [den_br, den_bind, den_ret, den_fail, den_inl, den_inr, decide_eq_true_eq]
    simp only [numMul, rnd]
    cases h0 : numIn x0 <;> cases h1 : numIn x1 <;> simp
    have hm := mul_bd x0 x1 h0 h1
    have e1 : IntKind.i64.wrap (x0 * x1) = x0 * x1 := wr (by omega)
    have c1 : clOk (x0 * x1) 65536 = true := by simp [clOk]; omega
    simp only [e1, c1, clOk_fl c1, if_true, toldN, cl]
    cases x2 <;> simp)
theorem s_meniscusref1_Mul : Ev.Spec Try.prog 148 (F3 cInt cInt cBool (cTwo cInt cBool) numMul) := spec3 (fun vs w => Try.call148 vs w) c_meniscusref1_Mul

/-! meniscusref1.Div -/
theorem t_meniscusref1_Div (x0 : Int) (x1 : Int) (x2 : Bool) :
    evFn Try.prog (Env.add 134 (F1 cInt cBool numIn) (Env.add 135 (F2p cInt cInt cInt flOk fl) (Env.add 147 (F2p cInt cInt cInt clOk cl) (Env.add 164 (F1 cInt (cTwo cInt cBool) toldN) Env.nil)))) Laws.nil 200 Try.f151 [cInt.av x0, cInt.av x1, cBool.av x2] [] (cTwo cInt cBool).dec =
      .bind (numIn x0) fun vb0 => .br (!vb0) (.ret ((0, false))) (.bind (numIn x1) fun vb1 => .br (!vb1) (.ret ((0, false))) (.br (x1 == 0) (.ret ((0, false))) (.br (x2) (.br (clOk (IntKind.i64.wrap (x0 * 65536)) x1) (.bind (cl (IntKind.i64.wrap (x0 * 65536)) x1) fun vn2 => .bind (toldN vn2) fun vy3 => .ret (vy3)) (.fail)) (.br (flOk (IntKind.i64.wrap (x0 * 65536)) x1) (.bind (fl (IntKind.i64.wrap (x0 * 65536)) x1) fun vn4 => .bind (toldN vn4) fun vy5 => .ret (vy5)) (.fail))))) := by kernel_rfl
theorem c_meniscusref1_Div (x0 : Int) (x1 : Int) (x2 : Bool) : Plain Try.prog 151 [cInt.enc x0, cInt.enc x1, cBool.enc x2] ((cTwo cInt cBool).enc (numDiv x0 x1 x2)) :=
  plain_of_tree (n := 200) (EnvOK.add s_meniscusref1_In (EnvOK.add s_meniscusref1_Floor (EnvOK.add s_meniscusref1_Ceil (EnvOK.add s_meniscusref1_told EnvOK.nil)))) Try.func151 (args := [cInt.av x0, cInt.av x1, cBool.av x2]) (by simp only [AV.vals, Cod.av_val]) (Nat.le_of_ble_eq_true (by kernel_rfl)) LFn.nil (cTwo cInt cBool) (by
    rw [t_meniscusref1_Div]
    simp only [den_br, den_bind, den_ret, den_fail, den_inl, den_inr, decide_eq_true_eq]
    simp only [numDiv, rnd]
    cases h0 : numIn x0 <;> cases h1 : numIn x1 <;> simp
    have b0 := numIn_iff.1 h0
    have b1 := numIn_iff.1 h1
    have e1 : IntKind.i64.wrap (x0 * 65536) = x0 * 65536 := wr (by omega)
    have c1 : clOk (x0 * 65536) x1 = true := by simp [clOk]; omega
    simp only [e1, c1, clOk_fl c1, if_true, toldN, cl]
    by_cases hz : x1 = 0 <;> simp [hz]
    cases x2 <;> simp)
theorem s_meniscusref1_Div : Ev.Spec Try.prog 151 (F3 cInt cInt cBool (cTwo cInt cBool) numDiv) := spec3 (fun vs w => Try.call151 vs w) c_meniscusref1_Div

/-! meniscusref1.Root -/
theorem tl_meniscusref1_Root_6 (t1 : Bool) (t6 : Int) (t7 : Int) (t8 : Int) :
    ev Try.prog (Env.add 134 (F1 cInt cBool numIn) (Env.add 164 (F1 cInt (cTwo cInt cBool) toldN) Env.nil)) Laws.nil 200 none (loopAt Try.f165 6) ((sc 48 [1, 6, 7, 8] (tCod 1 cBool (tCod 6 cInt (tCod 7 cInt (tCod 8 cInt tNil)))) rNil).enc ((t1, t6, t7, t8, ()), (()))) (backK (sc 48 [1, 6, 7, 8] (tCod 1 cBool (tCod 6 cInt (tCod 7 cInt (tCod 8 cInt tNil)))) rNil) (ocExit 0 (sc 48 [1, 6, 7] (tCod 1 cBool (tCod 6 cInt (tCod 7 cInt tNil))) rNil))) =
      .br (decide (t8 ≥ 0)) (.br (decide (0 ≤ IntKind.u64.wrap t8)) (.br (decide (IntKind.i64.wrap (IntKind.i64.wrap (t7 + IntKind.i64.wrap (1 * 2 ^ Min.min (IntKind.u64.wrap t8).toNat 64)) * IntKind.i64.wrap (t7 + IntKind.i64.wrap (1 * 2 ^ Min.min (IntKind.u64.wrap t8).toNat 64))) ≤ t6)) (.ret (Sum.inl ((t1, t6, IntKind.i64.wrap (t7 + IntKind.i64.wrap (1 * 2 ^ Min.min (IntKind.u64.wrap t8).toNat 64)), IntKind.i64.wrap (t8 - 1), ()), ()))) (.ret (Sum.inl ((t1, t6, t7, IntKind.i64.wrap (t8 - 1), ()), ())))) (.fail)) (.ret (Sum.inr ((t1, t6, t7, ()), ()))) := by kernel_rfl
theorem ok_meniscusref1_Root_6 : LOK Try.prog (LoopR.of (sc 48 [1, 6, 7, 8] (tCod 1 cBool (tCod 6 cInt (tCod 7 cInt (tCod 8 cInt tNil)))) rNil) (ocExit 0 (sc 48 [1, 6, 7] (tCod 1 cBool (tCod 6 cInt (tCod 7 cInt tNil))) rNil)) rootRun2) (loopAt Try.f165 6) := by
  refine loop_ok (EnvOK.add s_meniscusref1_In (EnvOK.add s_meniscusref1_told EnvOK.nil)) (LFn.at (fn := Try.f165) LFn.nil 6) rootStep2 (n := 200) (fun x z h => ?_) rootRun2_ok
  obtain ⟨⟨t1, t6, t7, t8, ⟨⟩⟩, ⟨⟩⟩ := x
  rw [tl_meniscusref1_Root_6]
  rw [← h]
  simp only [den_br, den_bind, den_ret, den_fail, den_inl, den_inr, decide_eq_true_eq]
  simp only [rootStep2, rootPow]
  by_cases h0 : 0 ≤ t8 <;> simp only [h0, if_true, if_false]
  by_cases h1 : 0 ≤ IntKind.u64.wrap t8 <;> simp only [h1, if_true, if_false]
  split <;> rename_i hh <;> simp only [hh, if_true, if_false]
theorem t_meniscusref1_Root (x0 : Int) (x1 : Bool) :
    evFn Try.prog (Env.add 134 (F1 cInt cBool numIn) (Env.add 164 (F1 cInt (cTwo cInt cBool) toldN) Env.nil)) (Laws.add 6 (LoopR.of (sc 48 [1, 6, 7, 8] (tCod 1 cBool (tCod 6 cInt (tCod 7 cInt (tCod 8 cInt tNil)))) rNil) (ocExit 0 (sc 48 [1, 6, 7] (tCod 1 cBool (tCod 6 cInt (tCod 7 cInt tNil))) rNil)) rootRun2) Laws.nil) 200 Try.f165 [cInt.av x0, cBool.av x1] [] (cTwo cInt cBool).dec =
      .bind (numIn x0) fun vb0 => .br (!vb0) (.ret ((0, false))) (.br (decide (x0 < 0)) (.ret ((0, false))) (.get (rootRun2 ((x1, IntKind.i64.wrap (x0 * 65536), 0, 23, ()), ())) fun vy1 => .br (vy1.1.1) (.br (IntKind.i64.wrap (vy1.1.2.2.1 * vy1.1.2.2.1) != vy1.1.2.1) (.bind (toldN (IntKind.i64.wrap (vy1.1.2.2.1 + 1))) fun vy2 => .ret (vy2)) (.bind (toldN vy1.1.2.2.1) fun vy3 => .ret (vy3))) (.bind (toldN vy1.1.2.2.1) fun vy4 => .ret (vy4)))) := by kernel_rfl
theorem c_meniscusref1_Root (x0 : Int) (x1 : Bool) : Plain Try.prog 165 [cInt.enc x0, cBool.enc x1] ((cTwo cInt cBool).enc (numRoot x0 x1)) :=
  plain_of_tree (n := 200) (EnvOK.add s_meniscusref1_In (EnvOK.add s_meniscusref1_told EnvOK.nil)) Try.func165 (args := [cInt.av x0, cBool.av x1]) (by simp only [AV.vals, Cod.av_val]) (Nat.le_of_ble_eq_true (by kernel_rfl)) (LFn.add (fn := Try.f165) (i := 6) (by kernel_rfl) ok_meniscusref1_Root_6 LFn.nil) (cTwo cInt cBool) (by
    rw [t_meniscusref1_Root]
    simp only [den_br, den_bind, den_ret, den_fail, den_inl, den_inr, decide_eq_true_eq]
    simp only [numRoot]
    by_cases h0 : x0 < 0
    · simp [h0]
    cases h1 : numIn x0
    · simp
    have b := numIn_iff.1 h1
    have e1 : IntKind.i64.wrap (x0 * 65536) = x0 * 65536 := wr (by omega)
    have s := isqrt_spec (n := x0 * 65536) (by omega) (by omega)
    have l := isqrt_le (n := x0 * 65536) (m := 8388608) (by omega) (by omega) (by omega) (by omega)
    have hr : rootRun2 ((x1, IntKind.i64.wrap (x0 * 65536), 0, 23, ()), ()) = some ((x1, x0 * 65536, isqrt (x0 * 65536), ()), ()) := by
      rw [e1]; exact if_pos ⟨⟨rfl, rfl⟩, by omega, by omega⟩
    rw [hr]
    have e2 : IntKind.i64.wrap (isqrt (x0 * 65536) * isqrt (x0 * 65536)) = isqrt (x0 * 65536) * isqrt (x0 * 65536) := wr (by have := Int.mul_nonneg s.1 s.1; omega)
    have e3 : IntKind.i64.wrap (isqrt (x0 * 65536) + 1) = isqrt (x0 * 65536) + 1 := wr (by omega)
    have t1 : toldN (isqrt (x0 * 65536)) = (isqrt (x0 * 65536), true) := if_pos (numIn_iff.2 (by omega))
    have t2 : toldN (isqrt (x0 * 65536) + 1) = (isqrt (x0 * 65536) + 1, true) := if_pos (numIn_iff.2 (by omega))
    have k1 : (isqrt (x0 * 65536) * isqrt (x0 * 65536) ≠ x0 * 65536) ↔ isqrt (x0 * 65536) * isqrt (x0 * 65536) < x0 * 65536 := by omega
    simp only [den_get, den_br, den_bind, den_ret, e2, e3, h0, t1, t2]
    cases x1 <;> simp [t1, t2]
    by_cases hh : isqrt (x0 * 65536) * isqrt (x0 * 65536) = x0 * 65536 <;> simp [hh, t1, t2]
    omega)
theorem s_meniscusref1_Root : Ev.Spec Try.prog 165 (F2 cInt cBool (cTwo cInt cBool) numRoot) := spec2 (fun vs w => Try.call165 vs w) c_meniscusref1_Root

/-! meniscusref1.Right -/
theorem t_meniscusref1_Right (x0 : Iv) :
    evFn Try.prog (Env.add 134 (F1 cInt cBool numIn) Env.nil) Laws.nil 200 Try.f110 [cIv.av x0] [] cBool.dec =
      .br (!x0.no) (.bind (numIn x0.lo) fun vb0 => .br (vb0) (.bind (numIn x0.hi) fun vb1 => .br (vb1) (.ret (decide (x0.lo ≤ x0.hi))) (.ret (false))) (.ret (false))) (.ret (false)) := by kernel_rfl
theorem c_meniscusref1_Right (x0 : Iv) : Plain Try.prog 110 [cIv.enc x0] (cBool.enc (Iv.right x0)) :=
  plain_of_tree (n := 200) (EnvOK.add s_meniscusref1_In EnvOK.nil) Try.func110 (args := [cIv.av x0]) (by simp only [AV.vals, Cod.av_val]) (Nat.le_of_ble_eq_true (by kernel_rfl)) LFn.nil cBool (by
    rw [t_meniscusref1_Right]
    simp only [Tr.den]
    grind [Iv.right])
theorem s_meniscusref1_Right : Ev.Spec Try.prog 110 (F1 cIv cBool Iv.right) := spec1 (fun vs w => Try.call110 vs w) c_meniscusref1_Right

/-! meniscusref1.None -/
theorem t_meniscusref1_None  :
    evFn Try.prog Env.nil Laws.nil 200 Try.f111 [] [] cIv.dec =
      .ret (Iv.mk 0 0 true) := by kernel_rfl
theorem c_meniscusref1_None  : Plain Try.prog 111 [] (cIv.enc (Iv.none)) :=
  plain_of_tree (n := 200) EnvOK.nil Try.func111 (args := []) rfl (Nat.le_of_ble_eq_true (by kernel_rfl)) LFn.nil cIv (by
    rw [t_meniscusref1_None]
    rfl)
theorem s_meniscusref1_None : Ev.Spec Try.prog 111 (F0 cIv Iv.none) := spec0 (fun vs w => Try.call111 vs w) c_meniscusref1_None

/-! meniscusref1.Of -/
theorem t_meniscusref1_Of (x0 : Int) (x1 : Int) :
    evFn Try.prog (Env.add 110 (F1 cIv cBool Iv.right) (Env.add 111 (F0 cIv Iv.none) Env.nil)) Laws.nil 200 Try.f132 [cInt.av x0, cInt.av x1] [] cIv.dec =
      .bind ((Iv.mk x0 x1 false).right) fun vb0 => .br (!vb0) (.bind (Iv.none) fun viv1 => .ret (viv1)) (.ret (Iv.mk x0 x1 false)) := by kernel_rfl
theorem c_meniscusref1_Of (x0 : Int) (x1 : Int) : Plain Try.prog 132 [cInt.enc x0, cInt.enc x1] (cIv.enc (Iv.of x0 x1)) :=
  plain_of_tree (n := 200) (EnvOK.add s_meniscusref1_Right (EnvOK.add s_meniscusref1_None EnvOK.nil)) Try.func132 (args := [cInt.av x0, cInt.av x1]) (by simp only [AV.vals, Cod.av_val]) (Nat.le_of_ble_eq_true (by kernel_rfl)) LFn.nil cIv (by
    rw [t_meniscusref1_Of]
    simp only [Tr.den]
    grind [Iv.of])
theorem s_meniscusref1_Of : Ev.Spec Try.prog 132 (F2 cInt cInt cIv Iv.of) := spec2 (fun vs w => Try.call132 vs w) c_meniscusref1_Of

/-! meniscusref1.Point -/
theorem t_meniscusref1_Point (x0 : Int) :
    evFn Try.prog (Env.add 132 (F2 cInt cInt cIv Iv.of) Env.nil) Laws.nil 200 Try.f97 [cInt.av x0] [] cIv.dec =
      .bind (Iv.of x0 x0) fun viv0 => .ret (viv0) := by kernel_rfl
theorem c_meniscusref1_Point (x0 : Int) : Plain Try.prog 97 [cInt.enc x0] (cIv.enc (Iv.point x0)) :=
  plain_of_tree (n := 200) (EnvOK.add s_meniscusref1_Of EnvOK.nil) Try.func97 (args := [cInt.av x0]) (by simp only [AV.vals, Cod.av_val]) (Nat.le_of_ble_eq_true (by kernel_rfl)) LFn.nil cIv (by
    rw [t_meniscusref1_Point]
    simp only [Tr.den]
    grind [Iv.point])
theorem s_meniscusref1_Point : Ev.Spec Try.prog 97 (F1 cInt cIv Iv.point) := spec1 (fun vs w => Try.call97 vs w) c_meniscusref1_Point

/-! meniscusref1.Whole -/
theorem t_meniscusref1_Whole (x0 : Int) :
    evFn Try.prog (Env.add 97 (F1 cInt cIv Iv.point) (Env.add 111 (F0 cIv Iv.none) (Env.add 134 (F1 cInt cBool numIn) Env.nil))) Laws.nil 200 Try.f154 [cInt.av x0] [] cIv.dec =
      .bind (numIn x0) fun vb0 => .br (!vb0) (.bind (Iv.none) fun viv1 => .ret (viv1)) (.bind (Iv.point (IntKind.i64.wrap (x0 * 65536))) fun viv2 => .ret (viv2)) := by kernel_rfl
theorem c_meniscusref1_Whole (x0 : Int) : Plain Try.prog 154 [cInt.enc x0] (cIv.enc (Iv.whole x0)) :=
  plain_of_tree (n := 200) (EnvOK.add s_meniscusref1_Point (EnvOK.add s_meniscusref1_None (EnvOK.add s_meniscusref1_In EnvOK.nil))) Try.func154 (args := [cInt.av x0]) (by simp only [AV.vals, Cod.av_val]) (Nat.le_of_ble_eq_true (by kernel_rfl)) LFn.nil cIv (by
    rw [t_meniscusref1_Whole]
    simp only [Tr.den, Iv.whole]
    cases h0 : numIn x0 <;> simp
    have b0 := numIn_iff.1 h0
    simp (disch := omega) only [IntWalk.i64_in])
theorem s_meniscusref1_Whole : Ev.Spec Try.prog 154 (F1 cInt cIv Iv.whole) := spec1 (fun vs w => Try.call154 vs w) c_meniscusref1_Whole

/-! meniscusref1.Add -/
theorem t_meniscusref1_Add (x0 : Iv) (x1 : Iv) :
    evFn Try.prog (Env.add 110 (F1 cIv cBool Iv.right) (Env.add 111 (F0 cIv Iv.none) (Env.add 132 (F2 cInt cInt cIv Iv.of) Env.nil))) Laws.nil 200 Try.f100 [cIv.av x0, cIv.av x1] [] cIv.dec =
      .bind (x0.right) fun vb0 => .br (!vb0) (.bind (Iv.none) fun viv1 => .ret (viv1)) (.bind (x1.right) fun vb2 => .br (!vb2) (.bind (Iv.none) fun viv3 => .ret (viv3)) (.bind (Iv.of (IntKind.i64.wrap (x0.lo + x1.lo)) (IntKind.i64.wrap (x0.hi + x1.hi))) fun viv4 => .ret (viv4))) := by kernel_rfl
theorem c_meniscusref1_Add (x0 : Iv) (x1 : Iv) : Plain Try.prog 100 [cIv.enc x0, cIv.enc x1] (cIv.enc (Iv.add x0 x1)) :=
  plain_of_tree (n := 200) (EnvOK.add s_meniscusref1_Right (EnvOK.add s_meniscusref1_None (EnvOK.add s_meniscusref1_Of EnvOK.nil))) Try.func100 (args := [cIv.av x0, cIv.av x1]) (by simp only [AV.vals, Cod.av_val]) (Nat.le_of_ble_eq_true (by kernel_rfl)) LFn.nil cIv (by
    rw [t_meniscusref1_Add]
    simp only [den_br, den_bind, den_ret, den_fail, den_inl, den_inr, decide_eq_true_eq]
    by_cases h0 : x0.right = true <;> by_cases h1 : x1.right = true <;> simp [Iv.add, Iv.both, h0, h1]
    have b0 := right_bd h0
    have b1 := right_bd h1
    simp (disch := omega) only [IntWalk.i64_in])
theorem s_meniscusref1_Add : Ev.Spec Try.prog 100 (F2 cIv cIv cIv Iv.add) := spec2 (fun vs w => Try.call100 vs w) c_meniscusref1_Add

/-! meniscusref1.Neg -/
theorem t_meniscusref1_Neg (x0 : Iv) :
    evFn Try.prog (Env.add 110 (F1 cIv cBool Iv.right) (Env.add 111 (F0 cIv Iv.none) (Env.add 132 (F2 cInt cInt cIv Iv.of) Env.nil))) Laws.nil 200 Try.f101 [cIv.av x0] [] cIv.dec =
      .bind (x0.right) fun vb0 => .br (!vb0) (.bind (Iv.none) fun viv1 => .ret (viv1)) (.bind (Iv.of (IntKind.i64.wrap (0 - x0.hi)) (IntKind.i64.wrap (0 - x0.lo))) fun viv2 => .ret (viv2)) := by kernel_rfl
theorem c_meniscusref1_Neg (x0 : Iv) : Plain Try.prog 101 [cIv.enc x0] (cIv.enc (Iv.neg x0)) :=
  plain_of_tree (n := 200) (EnvOK.add s_meniscusref1_Right (EnvOK.add s_meniscusref1_None (EnvOK.add s_meniscusref1_Of EnvOK.nil))) Try.func101 (args := [cIv.av x0]) (by simp only [AV.vals, Cod.av_val]) (Nat.le_of_ble_eq_true (by kernel_rfl)) LFn.nil cIv (by
    rw [t_meniscusref1_Neg]
    simp only [Tr.den, Iv.neg]
    cases h0 : x0.right <;> simp
    have b0 := right_bd h0
    simp (disch := omega) only [IntWalk.i64_in])
theorem s_meniscusref1_Neg : Ev.Spec Try.prog 101 (F1 cIv cIv Iv.neg) := spec1 (fun vs w => Try.call101 vs w) c_meniscusref1_Neg

/-! meniscusref1.Sub -/
theorem t_meniscusref1_Sub (x0 : Iv) (x1 : Iv) :
    evFn Try.prog (Env.add 110 (F1 cIv cBool Iv.right) (Env.add 111 (F0 cIv Iv.none) (Env.add 132 (F2 cInt cInt cIv Iv.of) Env.nil))) Laws.nil 200 Try.f98 [cIv.av x0, cIv.av x1] [] cIv.dec =
      .bind (x0.right) fun vb0 => .br (!vb0) (.bind (Iv.none) fun viv1 => .ret (viv1)) (.bind (x1.right) fun vb2 => .br (!vb2) (.bind (Iv.none) fun viv3 => .ret (viv3)) (.bind (Iv.of (IntKind.i64.wrap (x0.lo - x1.hi)) (IntKind.i64.wrap (x0.hi - x1.lo))) fun viv4 => .ret (viv4))) := by kernel_rfl
theorem c_meniscusref1_Sub (x0 : Iv) (x1 : Iv) : Plain Try.prog 98 [cIv.enc x0, cIv.enc x1] (cIv.enc (Iv.sub x0 x1)) :=
  plain_of_tree (n := 200) (EnvOK.add s_meniscusref1_Right (EnvOK.add s_meniscusref1_None (EnvOK.add s_meniscusref1_Of EnvOK.nil))) Try.func98 (args := [cIv.av x0, cIv.av x1]) (by simp only [AV.vals, Cod.av_val]) (Nat.le_of_ble_eq_true (by kernel_rfl)) LFn.nil cIv (by
    rw [t_meniscusref1_Sub]
    simp only [den_br, den_bind, den_ret, den_fail, den_inl, den_inr, decide_eq_true_eq]
    by_cases h0 : x0.right = true <;> by_cases h1 : x1.right = true <;> simp [sub_eq, Iv.both, h0, h1]
    have b0 := right_bd h0
    have b1 := right_bd h1
    simp (disch := omega) only [IntWalk.i64_in])
theorem s_meniscusref1_Sub : Ev.Spec Try.prog 98 (F2 cIv cIv cIv Iv.sub) := spec2 (fun vs w => Try.call98 vs w) c_meniscusref1_Sub

/-! meniscusref1.ends -/
theorem tl_meniscusref1_ends_4 (t2 : Bool) (t7 : Int) (t8 : Int) (t9 : Int) (r0 : Iv) (r1 : Iv) (r2 : Iv) :
    ev Try.prog (Env.add 111 (F0 cIv Iv.none) (Env.add 132 (F2 cInt cInt cIv Iv.of) (Env.add 148 (F3 cInt cInt cBool (cTwo cInt cBool) numMul) (Env.add 151 (F3 cInt cInt cBool (cTwo cInt cBool) numDiv) Env.nil)))) Laws.nil 200 none (loopAt Try.f133 4) ((sc 85 [2, 7, 8, 9, 3, 4, 6] (tCod 2 cBool (tCod 7 cInt (tCod 8 cInt (tCod 9 cInt (tOwn 3 0 (tOwn 4 1 (tOwn 6 2 tNil))))))) (rBox ccIv ccIv_ok (rBox ccIv ccIv_ok (rBox ccIv ccIv_ok rNil)))).enc ((t2, t7, t8, t9, ()), (r0, r1, r2, ()))) (backK (sc 85 [2, 7, 8, 9, 3, 4, 6] (tCod 2 cBool (tCod 7 cInt (tCod 8 cInt (tCod 9 cInt (tOwn 3 0 (tOwn 4 1 (tOwn 6 2 tNil))))))) (rBox ccIv ccIv_ok (rBox ccIv ccIv_ok (rBox ccIv ccIv_ok rNil)))) (ocOr (ocExit 0 (sc 85 [7, 8, 6] (tCod 7 cInt (tCod 8 cInt (tOwn 6 0 tNil))) (rBox ccIv ccIv_ok rNil))) (ocRet (sc 85 [6] (tOwn 6 0 tNil) (rBox ccIv ccIv_ok rNil))))) =
      .br (decide (t9 < 4)) (.br (t9.tmod 2 == 1) (.br (IntKind.i64.wrap (t9.tdiv 2) == 1) (.bind (numMul r0.hi r1.hi false) fun vy0 => .bind (numMul r0.hi r1.hi true) fun vy1 => .br (t2) (.bind (numDiv r0.hi r1.hi false) fun vy2 => .bind (numDiv r0.hi r1.hi true) fun vy3 => .br (!vy2.2) (.bind (Iv.none) fun viv4 => .ret (Sum.inr (Sum.inr ((), viv4, ())))) (.br (!vy3.2) (.bind (Iv.none) fun viv5 => .ret (Sum.inr (Sum.inr ((), viv5, ())))) (.br (t9 == 0) (.br (t9 == 0) (.ret (Sum.inl ((t2, vy2.1, vy3.1, IntKind.i64.wrap (t9 + 1), ()), r0, r1, r2, ()))) (.br (decide (vy3.1 > t8)) (.ret (Sum.inl ((t2, vy2.1, vy3.1, IntKind.i64.wrap (t9 + 1), ()), r0, r1, r2, ()))) (.ret (Sum.inl ((t2, vy2.1, t8, IntKind.i64.wrap (t9 + 1), ()), r0, r1, r2, ()))))) (.br (decide (vy2.1 < t7)) (.br (t9 == 0) (.ret (Sum.inl ((t2, vy2.1, vy3.1, IntKind.i64.wrap (t9 + 1), ()), r0, r1, r2, ()))) (.br (decide (vy3.1 > t8)) (.ret (Sum.inl ((t2, vy2.1, vy3.1, IntKind.i64.wrap (t9 + 1), ()), r0, r1, r2, ()))) (.ret (Sum.inl ((t2, vy2.1, t8, IntKind.i64.wrap (t9 + 1), ()), r0, r1, r2, ()))))) (.br (t9 == 0) (.ret (Sum.inl ((t2, t7, vy3.1, IntKind.i64.wrap (t9 + 1), ()), r0, r1, r2, ()))) (.br (decide (vy3.1 > t8)) (.ret (Sum.inl ((t2, t7, vy3.1, IntKind.i64.wrap (t9 + 1), ()), r0, r1, r2, ()))) (.ret (Sum.inl ((t2, t7, t8, IntKind.i64.wrap (t9 + 1), ()), r0, r1, r2, ()))))))))) (.br (!vy0.2) (.bind (Iv.none) fun viv6 => .ret (Sum.inr (Sum.inr ((), viv6, ())))) (.br (!vy1.2) (.bind (Iv.none) fun viv7 => .ret (Sum.inr (Sum.inr ((), viv7, ())))) (.br (t9 == 0) (.br (t9 == 0) (.ret (Sum.inl ((t2, vy0.1, vy1.1, IntKind.i64.wrap (t9 + 1), ()), r0, r1, r2, ()))) (.br (decide (vy1.1 > t8)) (.ret (Sum.inl ((t2, vy0.1, vy1.1, IntKind.i64.wrap (t9 + 1), ()), r0, r1, r2, ()))) (.ret (Sum.inl ((t2, vy0.1, t8, IntKind.i64.wrap (t9 + 1), ()), r0, r1, r2, ()))))) (.br (decide (vy0.1 < t7)) (.br (t9 == 0) (.ret (Sum.inl ((t2, vy0.1, vy1.1, IntKind.i64.wrap (t9 + 1), ()), r0, r1, r2, ()))) (.br (decide (vy1.1 > t8)) (.ret (Sum.inl ((t2, vy0.1, vy1.1, IntKind.i64.wrap (t9 + 1), ()), r0, r1, r2, ()))) (.ret (Sum.inl ((t2, vy0.1, t8, IntKind.i64.wrap (t9 + 1), ()), r0, r1, r2, ()))))) (.br (t9 == 0) (.ret (Sum.inl ((t2, t7, vy1.1, IntKind.i64.wrap (t9 + 1), ()), r0, r1, r2, ()))) (.br (decide (vy1.1 > t8)) (.ret (Sum.inl ((t2, t7, vy1.1, IntKind.i64.wrap (t9 + 1), ()), r0, r1, r2, ()))) (.ret (Sum.inl ((t2, t7, t8, IntKind.i64.wrap (t9 + 1), ()), r0, r1, r2, ())))))))))) (.bind (numMul r0.hi r1.lo false) fun vy8 => .bind (numMul r0.hi r1.lo true) fun vy9 => .br (t2) (.bind (numDiv r0.hi r1.lo false) fun vy10 => .bind (numDiv r0.hi r1.lo true) fun vy11 => .br (!vy10.2) (.bind (Iv.none) fun viv12 => .ret (Sum.inr (Sum.inr ((), viv12, ())))) (.br (!vy11.2) (.bind (Iv.none) fun viv13 => .ret (Sum.inr (Sum.inr ((), viv13, ())))) (.br (t9 == 0) (.br (t9 == 0) (.ret (Sum.inl ((t2, vy10.1, vy11.1, IntKind.i64.wrap (t9 + 1), ()), r0, r1, r2, ()))) (.br (decide (vy11.1 > t8)) (.ret (Sum.inl ((t2, vy10.1, vy11.1, IntKind.i64.wrap (t9 + 1), ()), r0, r1, r2, ()))) (.ret (Sum.inl ((t2, vy10.1, t8, IntKind.i64.wrap (t9 + 1), ()), r0, r1, r2, ()))))) (.br (decide (vy10.1 < t7)) (.br (t9 == 0) (.ret (Sum.inl ((t2, vy10.1, vy11.1, IntKind.i64.wrap (t9 + 1), ()), r0, r1, r2, ()))) (.br (decide (vy11.1 > t8)) (.ret (Sum.inl ((t2, vy10.1, vy11.1, IntKind.i64.wrap (t9 + 1), ()), r0, r1, r2, ()))) (.ret (Sum.inl ((t2, vy10.1, t8, IntKind.i64.wrap (t9 + 1), ()), r0, r1, r2, ()))))) (.br (t9 == 0) (.ret (Sum.inl ((t2, t7, vy11.1, IntKind.i64.wrap (t9 + 1), ()), r0, r1, r2, ()))) (.br (decide (vy11.1 > t8)) (.ret (Sum.inl ((t2, t7, vy11.1, IntKind.i64.wrap (t9 + 1), ()), r0, r1, r2, ()))) (.ret (Sum.inl ((t2, t7, t8, IntKind.i64.wrap (t9 + 1), ()), r0, r1, r2, ()))))))))) (.br (!vy8.2) (.bind (Iv.none) fun viv14 => .ret (Sum.inr (Sum.inr ((), viv14, ())))) (.br (!vy9.2) (.bind (Iv.none) fun viv15 => .ret (Sum.inr (Sum.inr ((), viv15, ())))) (.br (t9 == 0) (.br (t9 == 0) (.ret (Sum.inl ((t2, vy8.1, vy9.1, IntKind.i64.wrap (t9 + 1), ()), r0, r1, r2, ()))) (.br (decide (vy9.1 > t8)) (.ret (Sum.inl ((t2, vy8.1, vy9.1, IntKind.i64.wrap (t9 + 1), ()), r0, r1, r2, ()))) (.ret (Sum.inl ((t2, vy8.1, t8, IntKind.i64.wrap (t9 + 1), ()), r0, r1, r2, ()))))) (.br (decide (vy8.1 < t7)) (.br (t9 == 0) (.ret (Sum.inl ((t2, vy8.1, vy9.1, IntKind.i64.wrap (t9 + 1), ()), r0, r1, r2, ()))) (.br (decide (vy9.1 > t8)) (.ret (Sum.inl ((t2, vy8.1, vy9.1, IntKind.i64.wrap (t9 + 1), ()), r0, r1, r2, ()))) (.ret (Sum.inl ((t2, vy8.1, t8, IntKind.i64.wrap (t9 + 1), ()), r0, r1, r2, ()))))) (.br (t9 == 0) (.ret (Sum.inl ((t2, t7, vy9.1, IntKind.i64.wrap (t9 + 1), ()), r0, r1, r2, ()))) (.br (decide (vy9.1 > t8)) (.ret (Sum.inl ((t2, t7, vy9.1, IntKind.i64.wrap (t9 + 1), ()), r0, r1, r2, ()))) (.ret (Sum.inl ((t2, t7, t8, IntKind.i64.wrap (t9 + 1), ()), r0, r1, r2, ()))))))))))) (.br (IntKind.i64.wrap (t9.tdiv 2) == 1) (.bind (numMul r0.lo r1.hi false) fun vy16 => .bind (numMul r0.lo r1.hi true) fun vy17 => .br (t2) (.bind (numDiv r0.lo r1.hi false) fun vy18 => .bind (numDiv r0.lo r1.hi true) fun vy19 => .br (!vy18.2) (.bind (Iv.none) fun viv20 => .ret (Sum.inr (Sum.inr ((), viv20, ())))) (.br (!vy19.2) (.bind (Iv.none) fun viv21 => .ret (Sum.inr (Sum.inr ((), viv21, ())))) (.br (t9 == 0) (.br (t9 == 0) (.ret (Sum.inl ((t2, vy18.1, vy19.1, IntKind.i64.wrap (t9 + 1), ()), r0, r1, r2, ()))) (.br (decide (vy19.1 > t8)) (.ret (Sum.inl ((t2, vy18.1, vy19.1, IntKind.i64.wrap (t9 + 1), ()), r0, r1, r2, ()))) (.ret (Sum.inl ((t2, vy18.1, t8, IntKind.i64.wrap (t9 + 1), ()), r0, r1, r2, ()))))) (.br (decide (vy18.1 < t7)) (.br (t9 == 0) (.ret (Sum.inl ((t2, vy18.1, vy19.1, IntKind.i64.wrap (t9 + 1), ()), r0, r1, r2, ()))) (.br (decide (vy19.1 > t8)) (.ret (Sum.inl ((t2, vy18.1, vy19.1, IntKind.i64.wrap (t9 + 1), ()), r0, r1, r2, ()))) (.ret (Sum.inl ((t2, vy18.1, t8, IntKind.i64.wrap (t9 + 1), ()), r0, r1, r2, ()))))) (.br (t9 == 0) (.ret (Sum.inl ((t2, t7, vy19.1, IntKind.i64.wrap (t9 + 1), ()), r0, r1, r2, ()))) (.br (decide (vy19.1 > t8)) (.ret (Sum.inl ((t2, t7, vy19.1, IntKind.i64.wrap (t9 + 1), ()), r0, r1, r2, ()))) (.ret (Sum.inl ((t2, t7, t8, IntKind.i64.wrap (t9 + 1), ()), r0, r1, r2, ()))))))))) (.br (!vy16.2) (.bind (Iv.none) fun viv22 => .ret (Sum.inr (Sum.inr ((), viv22, ())))) (.br (!vy17.2) (.bind (Iv.none) fun viv23 => .ret (Sum.inr (Sum.inr ((), viv23, ())))) (.br (t9 == 0) (.br (t9 == 0) (.ret (Sum.inl ((t2, vy16.1, vy17.1, IntKind.i64.wrap (t9 + 1), ()), r0, r1, r2, ()))) (.br (decide (vy17.1 > t8)) (.ret (Sum.inl ((t2, vy16.1, vy17.1, IntKind.i64.wrap (t9 + 1), ()), r0, r1, r2, ()))) (.ret (Sum.inl ((t2, vy16.1, t8, IntKind.i64.wrap (t9 + 1), ()), r0, r1, r2, ()))))) (.br (decide (vy16.1 < t7)) (.br (t9 == 0) (.ret (Sum.inl ((t2, vy16.1, vy17.1, IntKind.i64.wrap (t9 + 1), ()), r0, r1, r2, ()))) (.br (decide (vy17.1 > t8)) (.ret (Sum.inl ((t2, vy16.1, vy17.1, IntKind.i64.wrap (t9 + 1), ()), r0, r1, r2, ()))) (.ret (Sum.inl ((t2, vy16.1, t8, IntKind.i64.wrap (t9 + 1), ()), r0, r1, r2, ()))))) (.br (t9 == 0) (.ret (Sum.inl ((t2, t7, vy17.1, IntKind.i64.wrap (t9 + 1), ()), r0, r1, r2, ()))) (.br (decide (vy17.1 > t8)) (.ret (Sum.inl ((t2, t7, vy17.1, IntKind.i64.wrap (t9 + 1), ()), r0, r1, r2, ()))) (.ret (Sum.inl ((t2, t7, t8, IntKind.i64.wrap (t9 + 1), ()), r0, r1, r2, ())))))))))) (.bind (numMul r0.lo r1.lo false) fun vy24 => .bind (numMul r0.lo r1.lo true) fun vy25 => .br (t2) (.bind (numDiv r0.lo r1.lo false) fun vy26 => .bind (numDiv r0.lo r1.lo true) fun vy27 => .br (!vy26.2) (.bind (Iv.none) fun viv28 => .ret (Sum.inr (Sum.inr ((), viv28, ())))) (.br (!vy27.2) (.bind (Iv.none) fun viv29 => .ret (Sum.inr (Sum.inr ((), viv29, ())))) (.br (t9 == 0) (.br (t9 == 0) (.ret (Sum.inl ((t2, vy26.1, vy27.1, IntKind.i64.wrap (t9 + 1), ()), r0, r1, r2, ()))) (.br (decide (vy27.1 > t8)) (.ret (Sum.inl ((t2, vy26.1, vy27.1, IntKind.i64.wrap (t9 + 1), ()), r0, r1, r2, ()))) (.ret (Sum.inl ((t2, vy26.1, t8, IntKind.i64.wrap (t9 + 1), ()), r0, r1, r2, ()))))) (.br (decide (vy26.1 < t7)) (.br (t9 == 0) (.ret (Sum.inl ((t2, vy26.1, vy27.1, IntKind.i64.wrap (t9 + 1), ()), r0, r1, r2, ()))) (.br (decide (vy27.1 > t8)) (.ret (Sum.inl ((t2, vy26.1, vy27.1, IntKind.i64.wrap (t9 + 1), ()), r0, r1, r2, ()))) (.ret (Sum.inl ((t2, vy26.1, t8, IntKind.i64.wrap (t9 + 1), ()), r0, r1, r2, ()))))) (.br (t9 == 0) (.ret (Sum.inl ((t2, t7, vy27.1, IntKind.i64.wrap (t9 + 1), ()), r0, r1, r2, ()))) (.br (decide (vy27.1 > t8)) (.ret (Sum.inl ((t2, t7, vy27.1, IntKind.i64.wrap (t9 + 1), ()), r0, r1, r2, ()))) (.ret (Sum.inl ((t2, t7, t8, IntKind.i64.wrap (t9 + 1), ()), r0, r1, r2, ()))))))))) (.br (!vy24.2) (.bind (Iv.none) fun viv30 => .ret (Sum.inr (Sum.inr ((), viv30, ())))) (.br (!vy25.2) (.bind (Iv.none) fun viv31 => .ret (Sum.inr (Sum.inr ((), viv31, ())))) (.br (t9 == 0) (.br (t9 == 0) (.ret (Sum.inl ((t2, vy24.1, vy25.1, IntKind.i64.wrap (t9 + 1), ()), r0, r1, r2, ()))) (.br (decide (vy25.1 > t8)) (.ret (Sum.inl ((t2, vy24.1, vy25.1, IntKind.i64.wrap (t9 + 1), ()), r0, r1, r2, ()))) (.ret (Sum.inl ((t2, vy24.1, t8, IntKind.i64.wrap (t9 + 1), ()), r0, r1, r2, ()))))) (.br (decide (vy24.1 < t7)) (.br (t9 == 0) (.ret (Sum.inl ((t2, vy24.1, vy25.1, IntKind.i64.wrap (t9 + 1), ()), r0, r1, r2, ()))) (.br (decide (vy25.1 > t8)) (.ret (Sum.inl ((t2, vy24.1, vy25.1, IntKind.i64.wrap (t9 + 1), ()), r0, r1, r2, ()))) (.ret (Sum.inl ((t2, vy24.1, t8, IntKind.i64.wrap (t9 + 1), ()), r0, r1, r2, ()))))) (.br (t9 == 0) (.ret (Sum.inl ((t2, t7, vy25.1, IntKind.i64.wrap (t9 + 1), ()), r0, r1, r2, ()))) (.br (decide (vy25.1 > t8)) (.ret (Sum.inl ((t2, t7, vy25.1, IntKind.i64.wrap (t9 + 1), ()), r0, r1, r2, ()))) (.ret (Sum.inl ((t2, t7, t8, IntKind.i64.wrap (t9 + 1), ()), r0, r1, r2, ())))))))))))) (.ret (Sum.inr (Sum.inl ((t7, t8, ()), r2, ())))) := by kernel_rfl
theorem ok_meniscusref1_ends_4 : LOK Try.prog (LoopR.of (sc 85 [2, 7, 8, 9, 3, 4, 6] (tCod 2 cBool (tCod 7 cInt (tCod 8 cInt (tCod 9 cInt (tOwn 3 0 (tOwn 4 1 (tOwn 6 2 tNil))))))) (rBox ccIv ccIv_ok (rBox ccIv ccIv_ok (rBox ccIv ccIv_ok rNil)))) (ocOr (ocExit 0 (sc 85 [7, 8, 6] (tCod 7 cInt (tCod 8 cInt (tOwn 6 0 tNil))) (rBox ccIv ccIv_ok rNil))) (ocRet (sc 85 [6] (tOwn 6 0 tNil) (rBox ccIv ccIv_ok rNil)))) endsRun) (loopAt Try.f133 4) := by
  refine loop_ok (EnvOK.add s_meniscusref1_None (EnvOK.add s_meniscusref1_Of (EnvOK.add s_meniscusref1_Mul (EnvOK.add s_meniscusref1_Div EnvOK.nil)))) (LFn.at (fn := Try.f133) LFn.nil 4) endsStep (n := 200) (fun x z h => ?_) endsRun_ok
  obtain ⟨⟨t2, t7, t8, t9, ⟨⟩⟩, ⟨r0, r1, r2, ⟨⟩⟩⟩ := x
  rw [tl_meniscusref1_ends_4]
  rw [← h]
  simp only [den_br, den_bind, den_ret, den_fail, den_inl, den_inr, decide_eq_true_eq]
  simp only [endsStep, endsX, endsY, endsF, beq_iff_eq, Bool.not_eq_true']
  by_cases hk : t9 < 4 <;> simp only [hk, if_true, if_false]
  by_cases hx : t9.tmod 2 = 1 <;> simp only [hx, if_true, if_false] <;> by_cases hy : IntKind.i64.wrap (t9.tdiv 2) = 1 <;> simp only [hy, if_true, if_false] <;> cases t2 <;> simp only [Bool.false_eq_true, if_true, if_false] <;> grind
theorem t_meniscusref1_ends (x0 : Iv) (x1 : Iv) (x2 : Bool) :
    evFn Try.prog (Env.add 111 (F0 cIv Iv.none) (Env.add 132 (F2 cInt cInt cIv Iv.of) (Env.add 148 (F3 cInt cInt cBool (cTwo cInt cBool) numMul) (Env.add 151 (F3 cInt cInt cBool (cTwo cInt cBool) numDiv) Env.nil)))) (Laws.add 4 (LoopR.of (sc 85 [2, 7, 8, 9, 3, 4, 6] (tCod 2 cBool (tCod 7 cInt (tCod 8 cInt (tCod 9 cInt (tOwn 3 0 (tOwn 4 1 (tOwn 6 2 tNil))))))) (rBox ccIv ccIv_ok (rBox ccIv ccIv_ok (rBox ccIv ccIv_ok rNil)))) (ocOr (ocExit 0 (sc 85 [7, 8, 6] (tCod 7 cInt (tCod 8 cInt (tOwn 6 0 tNil))) (rBox ccIv ccIv_ok rNil))) (ocRet (sc 85 [6] (tOwn 6 0 tNil) (rBox ccIv ccIv_ok rNil)))) endsRun) Laws.nil) 200 Try.f133 [cIv.av x0, cIv.av x1, cBool.av x2] [] cIv.dec =
      .get (endsRun ((x2, 0, 0, 0, ()), x0, x1, Iv.mk 0 0 false, ())) fun vy0 => .sum (vy0) (fun vs1 => .bind (Iv.of vs1.1.1 vs1.1.2.1) fun viv2 => .ret (viv2)) (fun vs3 => .ret (vs3.2.1)) := by kernel_rfl
theorem c_meniscusref1_ends (x0 : Iv) (x1 : Iv) (x2 : Bool) : Plain Try.prog 133 [cIv.enc x0, cIv.enc x1, cBool.enc x2] (cIv.enc (endsD x0 x1 x2)) :=
  plain_of_tree (n := 200) (EnvOK.add s_meniscusref1_None (EnvOK.add s_meniscusref1_Of (EnvOK.add s_meniscusref1_Mul (EnvOK.add s_meniscusref1_Div EnvOK.nil)))) Try.func133 (args := [cIv.av x0, cIv.av x1, cBool.av x2]) (by simp only [AV.vals, Cod.av_val]) (Nat.le_of_ble_eq_true (by kernel_rfl)) (LFn.add (fn := Try.f133) (i := 4) (by kernel_rfl) ok_meniscusref1_ends_4 LFn.nil) cIv (by
    rw [t_meniscusref1_ends]
    simp only [den_br, den_bind, den_ret, den_fail, den_inl, den_inr, den_gets, decide_eq_true_eq]
    simp only [endsRun, endsD, ends, if_true]
    cases x2 <;> simp only [endsF, Bool.false_eq_true, if_false, if_true] <;> split <;> rfl)
theorem s_meniscusref1_ends : Ev.Spec Try.prog 133 (F3 cIv cIv cBool cIv endsD) := spec3 (fun vs w => Try.call133 vs w) c_meniscusref1_ends

/-! meniscusref1.MulIv -/
theorem t_meniscusref1_MulIv (x0 : Iv) (x1 : Iv) :
    evFn Try.prog (Env.add 110 (F1 cIv cBool Iv.right) (Env.add 111 (F0 cIv Iv.none) (Env.add 133 (F3 cIv cIv cBool cIv endsD) Env.nil))) Laws.nil 200 Try.f99 [cIv.av x0, cIv.av x1] [] cIv.dec =
      .bind (x0.right) fun vb0 => .br (!vb0) (.bind (Iv.none) fun viv1 => .ret (viv1)) (.bind (x1.right) fun vb2 => .br (!vb2) (.bind (Iv.none) fun viv3 => .ret (viv3)) (.bind (endsD x0 x1 false) fun viv4 => .ret (viv4))) := by kernel_rfl
theorem c_meniscusref1_MulIv (x0 : Iv) (x1 : Iv) : Plain Try.prog 99 [cIv.enc x0, cIv.enc x1] (cIv.enc (Iv.mul x0 x1)) :=
  plain_of_tree (n := 200) (EnvOK.add s_meniscusref1_Right (EnvOK.add s_meniscusref1_None (EnvOK.add s_meniscusref1_ends EnvOK.nil))) Try.func99 (args := [cIv.av x0, cIv.av x1]) (by simp only [AV.vals, Cod.av_val]) (Nat.le_of_ble_eq_true (by kernel_rfl)) LFn.nil cIv (by
    rw [t_meniscusref1_MulIv]
    simp only [den_br, den_bind, den_ret, den_fail, den_inl, den_inr, decide_eq_true_eq]
    grind [Iv.mul, Iv.both, endsD])
theorem s_meniscusref1_MulIv : Ev.Spec Try.prog 99 (F2 cIv cIv cIv Iv.mul) := spec2 (fun vs w => Try.call99 vs w) c_meniscusref1_MulIv

/-! meniscusref1.DivIv -/
theorem t_meniscusref1_DivIv (x0 : Iv) (x1 : Iv) :
    evFn Try.prog (Env.add 110 (F1 cIv cBool Iv.right) (Env.add 111 (F0 cIv Iv.none) (Env.add 133 (F3 cIv cIv cBool cIv endsD) Env.nil))) Laws.nil 200 Try.f102 [cIv.av x0, cIv.av x1] [] cIv.dec =
      .bind (x0.right) fun vb0 => .br (!vb0) (.bind (Iv.none) fun viv1 => .ret (viv1)) (.bind (x1.right) fun vb2 => .br (!vb2) (.bind (Iv.none) fun viv3 => .ret (viv3)) (.br (decide (x1.lo ≤ 0)) (.br (decide (x1.hi ≥ 0)) (.bind (Iv.none) fun viv4 => .ret (viv4)) (.bind (endsD x0 x1 true) fun viv5 => .ret (viv5))) (.bind (endsD x0 x1 true) fun viv6 => .ret (viv6)))) := by kernel_rfl
theorem c_meniscusref1_DivIv (x0 : Iv) (x1 : Iv) : Plain Try.prog 102 [cIv.enc x0, cIv.enc x1] (cIv.enc (Iv.div x0 x1)) :=
  plain_of_tree (n := 200) (EnvOK.add s_meniscusref1_Right (EnvOK.add s_meniscusref1_None (EnvOK.add s_meniscusref1_ends EnvOK.nil))) Try.func102 (args := [cIv.av x0, cIv.av x1]) (by simp only [AV.vals, Cod.av_val]) (Nat.le_of_ble_eq_true (by kernel_rfl)) LFn.nil cIv (by
    rw [t_meniscusref1_DivIv]
    simp only [den_br, den_bind, den_ret, den_fail, den_inl, den_inr, decide_eq_true_eq]
    grind [Iv.div, Iv.both, Iv.has, endsD])
theorem s_meniscusref1_DivIv : Ev.Spec Try.prog 102 (F2 cIv cIv cIv Iv.div) := spec2 (fun vs w => Try.call102 vs w) c_meniscusref1_DivIv

/-! meniscusref1.Times -/
theorem t_meniscusref1_Times (x0 : Iv) (x1 : Int) :
    evFn Try.prog (Env.add 110 (F1 cIv cBool Iv.right) (Env.add 111 (F0 cIv Iv.none) (Env.add 132 (F2 cInt cInt cIv Iv.of) (Env.add 134 (F1 cInt cBool numIn) Env.nil)))) Laws.nil 200 Try.f103 [cIv.av x0, cInt.av x1] [] cIv.dec =
      .bind (x0.right) fun vb0 => .br (!vb0) (.bind (Iv.none) fun viv1 => .ret (viv1)) (.bind (numIn x1) fun vb2 => .br (!vb2) (.bind (Iv.none) fun viv3 => .ret (viv3)) (.bind (Iv.of (Min.min (IntKind.i64.wrap (x1 * x0.lo)) (IntKind.i64.wrap (x1 * x0.hi))) (Max.max (IntKind.i64.wrap (x1 * x0.lo)) (IntKind.i64.wrap (x1 * x0.hi)))) fun viv4 => .ret (viv4))) := by kernel_rfl
theorem c_meniscusref1_Times (x0 : Iv) (x1 : Int) : Plain Try.prog 103 [cIv.enc x0, cInt.enc x1] (cIv.enc (Iv.times x0 x1)) :=
  plain_of_tree (n := 200) (EnvOK.add s_meniscusref1_Right (EnvOK.add s_meniscusref1_None (EnvOK.add s_meniscusref1_Of (EnvOK.add s_meniscusref1_In EnvOK.nil)))) Try.func103 (args := [cIv.av x0, cInt.av x1]) (by simp only [AV.vals, Cod.av_val]) (Nat.le_of_ble_eq_true (by kernel_rfl)) LFn.nil cIv (by
    rw [t_meniscusref1_Times]
    simp only [Tr.den, Iv.times]
    cases h0 : x0.right <;> cases h1 : numIn x1 <;> simp
    have b0 := right_bd h0
    have b1 := numIn_iff.1 h1
    have m1 := mul_bd x1 x0.lo h1 (numIn_iff.2 (by omega))
    have m2 := mul_bd x1 x0.hi h1 (numIn_iff.2 (by omega))
    simp (disch := omega) only [IntWalk.i64_in])
theorem s_meniscusref1_Times : Ev.Spec Try.prog 103 (F2 cIv cInt cIv Iv.times) := spec2 (fun vs w => Try.call103 vs w) c_meniscusref1_Times

/-! meniscusref1.Sqr -/
theorem t_meniscusref1_Sqr (x0 : Iv) :
    evFn Try.prog (Env.add 110 (F1 cIv cBool Iv.right) (Env.add 111 (F0 cIv Iv.none) (Env.add 132 (F2 cInt cInt cIv Iv.of) (Env.add 148 (F3 cInt cInt cBool (cTwo cInt cBool) numMul) Env.nil)))) Laws.nil 200 Try.f126 [cIv.av x0] [] cIv.dec =
      .bind (x0.right) fun vb0 => .br (!vb0) (.bind (Iv.none) fun viv1 => .ret (viv1)) (.br (decide (x0.lo ≤ 0)) (.br (decide (x0.hi ≥ 0)) (.bind (numMul 0 0 false) fun vy2 => .bind (numMul (Max.max (Max.max (Max.max x0.lo (IntKind.i64.wrap (0 - x0.lo))) x0.hi) (IntKind.i64.wrap (0 - x0.hi))) (Max.max (Max.max (Max.max x0.lo (IntKind.i64.wrap (0 - x0.lo))) x0.hi) (IntKind.i64.wrap (0 - x0.hi))) true) fun vy3 => .br (!vy3.2) (.bind (Iv.none) fun viv4 => .ret (viv4)) (.bind (Iv.of vy2.1 vy3.1) fun viv5 => .ret (viv5))) (.bind (numMul (Min.min (Max.max x0.lo (IntKind.i64.wrap (0 - x0.lo))) (Max.max x0.hi (IntKind.i64.wrap (0 - x0.hi)))) (Min.min (Max.max x0.lo (IntKind.i64.wrap (0 - x0.lo))) (Max.max x0.hi (IntKind.i64.wrap (0 - x0.hi)))) false) fun vy6 => .bind (numMul (Max.max (Max.max (Max.max x0.lo (IntKind.i64.wrap (0 - x0.lo))) x0.hi) (IntKind.i64.wrap (0 - x0.hi))) (Max.max (Max.max (Max.max x0.lo (IntKind.i64.wrap (0 - x0.lo))) x0.hi) (IntKind.i64.wrap (0 - x0.hi))) true) fun vy7 => .br (!vy7.2) (.bind (Iv.none) fun viv8 => .ret (viv8)) (.bind (Iv.of vy6.1 vy7.1) fun viv9 => .ret (viv9)))) (.bind (numMul (Min.min (Max.max x0.lo (IntKind.i64.wrap (0 - x0.lo))) (Max.max x0.hi (IntKind.i64.wrap (0 - x0.hi)))) (Min.min (Max.max x0.lo (IntKind.i64.wrap (0 - x0.lo))) (Max.max x0.hi (IntKind.i64.wrap (0 - x0.hi)))) false) fun vy10 => .bind (numMul (Max.max (Max.max (Max.max x0.lo (IntKind.i64.wrap (0 - x0.lo))) x0.hi) (IntKind.i64.wrap (0 - x0.hi))) (Max.max (Max.max (Max.max x0.lo (IntKind.i64.wrap (0 - x0.lo))) x0.hi) (IntKind.i64.wrap (0 - x0.hi))) true) fun vy11 => .br (!vy11.2) (.bind (Iv.none) fun viv12 => .ret (viv12)) (.bind (Iv.of vy10.1 vy11.1) fun viv13 => .ret (viv13)))) := by kernel_rfl
theorem c_meniscusref1_Sqr (x0 : Iv) : Plain Try.prog 126 [cIv.enc x0] (cIv.enc (Iv.sqr x0)) :=
  plain_of_tree (n := 200) (EnvOK.add s_meniscusref1_Right (EnvOK.add s_meniscusref1_None (EnvOK.add s_meniscusref1_Of (EnvOK.add s_meniscusref1_Mul EnvOK.nil)))) Try.func126 (args := [cIv.av x0]) (by simp only [AV.vals, Cod.av_val]) (Nat.le_of_ble_eq_true (by kernel_rfl)) LFn.nil cIv (by
    rw [t_meniscusref1_Sqr]
    simp only [Iv.sqr]
    cases h0 : x0.right
    · simp [Tr.den]
    have b0 := right_bd h0
    have e1 : IntKind.i64.wrap (-x0.lo) = -x0.lo := wr (by omega)
    have e2 : IntKind.i64.wrap (-x0.hi) = -x0.hi := wr (by omega)
    have f1 : max (max (max x0.lo (-x0.lo)) x0.hi) (-x0.hi) = max (-x0.lo) x0.hi := by omega
    simp only [den_br, den_bind, den_ret, den_fail, decide_eq_true_eq, e1, e2, f1]
    by_cases h1 : x0.lo ≤ 0
    · by_cases h2 : 0 ≤ x0.hi
      · have f2 : max (max x0.lo (-x0.hi)) 0 = 0 := by omega
        simp only [h1, h2, f2]
        grind
      · have f2 : min (max x0.lo (-x0.lo)) (max x0.hi (-x0.hi)) = max (max x0.lo (-x0.hi)) 0 := by omega
        simp only [h1, h2, f2]
        grind
    · have f2 : min (max x0.lo (-x0.lo)) (max x0.hi (-x0.hi)) = max (max x0.lo (-x0.hi)) 0 := by omega
      simp only [h1, f2]
      grind)
theorem s_meniscusref1_Sqr : Ev.Spec Try.prog 126 (F1 cIv cIv Iv.sqr) := spec1 (fun vs w => Try.call126 vs w) c_meniscusref1_Sqr

/-! meniscusref1.RootIv -/
theorem t_meniscusref1_RootIv (x0 : Iv) :
    evFn Try.prog (Env.add 110 (F1 cIv cBool Iv.right) (Env.add 111 (F0 cIv Iv.none) (Env.add 132 (F2 cInt cInt cIv Iv.of) (Env.add 165 (F2 cInt cBool (cTwo cInt cBool) numRoot) Env.nil)))) Laws.nil 200 Try.f149 [cIv.av x0] [] cIv.dec =
      .bind (x0.right) fun vb0 => .br (!vb0) (.bind (Iv.none) fun viv1 => .ret (viv1)) (.br (decide (x0.lo < 0)) (.bind (Iv.none) fun viv2 => .ret (viv2)) (.bind (numRoot x0.lo false) fun vy3 => .bind (numRoot x0.hi true) fun vy4 => .bind (Iv.of vy3.1 vy4.1) fun viv5 => .ret (viv5))) := by kernel_rfl
theorem c_meniscusref1_RootIv (x0 : Iv) : Plain Try.prog 149 [cIv.enc x0] (cIv.enc (Iv.root x0)) :=
  plain_of_tree (n := 200) (EnvOK.add s_meniscusref1_Right (EnvOK.add s_meniscusref1_None (EnvOK.add s_meniscusref1_Of (EnvOK.add s_meniscusref1_Root EnvOK.nil)))) Try.func149 (args := [cIv.av x0]) (by simp only [AV.vals, Cod.av_val]) (Nat.le_of_ble_eq_true (by kernel_rfl)) LFn.nil cIv (by
    rw [t_meniscusref1_RootIv]
    simp only [den_br, den_bind, den_ret, den_fail, den_inl, den_inr, decide_eq_true_eq]
    grind [Iv.root])
theorem s_meniscusref1_RootIv : Ev.Spec Try.prog 149 (F1 cIv cIv Iv.root) := spec1 (fun vs w => Try.call149 vs w) c_meniscusref1_RootIv

/-! meniscusref1.Meet -/
theorem t_meniscusref1_Meet (x0 : Iv) (x1 : Iv) :
    evFn Try.prog (Env.add 110 (F1 cIv cBool Iv.right) (Env.add 111 (F0 cIv Iv.none) (Env.add 132 (F2 cInt cInt cIv Iv.of) Env.nil))) Laws.nil 200 Try.f117 [cIv.av x0, cIv.av x1] [] cIv.dec =
      .bind (x0.right) fun vb0 => .br (!vb0) (.bind (Iv.none) fun viv1 => .ret (viv1)) (.bind (x1.right) fun vb2 => .br (!vb2) (.bind (Iv.none) fun viv3 => .ret (viv3)) (.bind (Iv.of (Max.max x0.lo x1.lo) (Min.min x0.hi x1.hi)) fun viv4 => .ret (viv4))) := by kernel_rfl
theorem c_meniscusref1_Meet (x0 : Iv) (x1 : Iv) : Plain Try.prog 117 [cIv.enc x0, cIv.enc x1] (cIv.enc (Iv.meet x0 x1)) :=
  plain_of_tree (n := 200) (EnvOK.add s_meniscusref1_Right (EnvOK.add s_meniscusref1_None (EnvOK.add s_meniscusref1_Of EnvOK.nil))) Try.func117 (args := [cIv.av x0, cIv.av x1]) (by simp only [AV.vals, Cod.av_val]) (Nat.le_of_ble_eq_true (by kernel_rfl)) LFn.nil cIv (by
    rw [t_meniscusref1_Meet]
    simp only [den_br, den_bind, den_ret, den_fail, den_inl, den_inr, decide_eq_true_eq]
    grind [Iv.meet, Iv.both])
theorem s_meniscusref1_Meet : Ev.Spec Try.prog 117 (F2 cIv cIv cIv Iv.meet) := spec2 (fun vs w => Try.call117 vs w) c_meniscusref1_Meet

/-! meniscusref1.Mid -/
theorem t_meniscusref1_Mid (x0 : Iv) :
    evFn Try.prog (Env.add 110 (F1 cIv cBool Iv.right) (Env.add 135 (F2p cInt cInt cInt flOk fl) Env.nil)) Laws.nil 200 Try.f113 [cIv.av x0] [] cInt.dec =
      .bind (x0.right) fun vb0 => .br (!vb0) (.ret (0)) (.br (flOk (IntKind.i64.wrap (x0.lo + x0.hi)) 2) (.bind (fl (IntKind.i64.wrap (x0.lo + x0.hi)) 2) fun vn1 => .ret (vn1)) (.fail)) := by kernel_rfl
theorem c_meniscusref1_Mid (x0 : Iv) : Plain Try.prog 113 [cIv.enc x0] (cInt.enc (Iv.mid x0)) :=
  plain_of_tree (n := 200) (EnvOK.add s_meniscusref1_Right (EnvOK.add s_meniscusref1_Floor EnvOK.nil)) Try.func113 (args := [cIv.av x0]) (by simp only [AV.vals, Cod.av_val]) (Nat.le_of_ble_eq_true (by kernel_rfl)) LFn.nil cInt (by
    rw [t_meniscusref1_Mid]
    simp only [den_br, den_bind, den_ret, den_fail, den_inl, den_inr, decide_eq_true_eq]
    simp only [Iv.mid]
    cases h0 : x0.right
    · simp
    have b0 := right_bd h0
    have e1 : IntKind.i64.wrap (x0.lo + x0.hi) = x0.lo + x0.hi := wr (by omega)
    have c1 : flOk (x0.lo + x0.hi) 2 = true := by simp [flOk]; omega
    simp only [e1, c1, if_true]
    simp [fl])
theorem s_meniscusref1_Mid : Ev.Spec Try.prog 113 (F1 cIv cInt Iv.mid) := spec1 (fun vs w => Try.call113 vs w) c_meniscusref1_Mid

/-! meniscusref1.Has -/
theorem t_meniscusref1_Has (x0 : Iv) (x1 : Int) :
    evFn Try.prog (Env.add 110 (F1 cIv cBool Iv.right) Env.nil) Laws.nil 200 Try.f138 [cIv.av x0, cInt.av x1] [] cBool.dec =
      .bind (x0.right) fun vb0 => .br (vb0) (.br (decide (x0.lo ≤ x1)) (.ret (decide (x1 ≤ x0.hi))) (.ret (false))) (.ret (false)) := by kernel_rfl
theorem c_meniscusref1_Has (x0 : Iv) (x1 : Int) : Plain Try.prog 138 [cIv.enc x0, cInt.enc x1] (cBool.enc (Iv.has x0 x1)) :=
  plain_of_tree (n := 200) (EnvOK.add s_meniscusref1_Right EnvOK.nil) Try.func138 (args := [cIv.av x0, cInt.av x1]) (by simp only [AV.vals, Cod.av_val]) (Nat.le_of_ble_eq_true (by kernel_rfl)) LFn.nil cBool (by
    rw [t_meniscusref1_Has]
    simp only [den_br, den_bind, den_ret, den_fail, den_inl, den_inr, decide_eq_true_eq]
    grind [Iv.has])
theorem s_meniscusref1_Has : Ev.Spec Try.prog 138 (F2 cIv cInt cBool Iv.has) := spec2 (fun vs w => Try.call138 vs w) c_meniscusref1_Has

/-! meniscusref1.Split -/
theorem t_meniscusref1_Split (x0 : Iv) :
    evFn Try.prog (Env.add 110 (F1 cIv cBool Iv.right) (Env.add 111 (F0 cIv Iv.none) (Env.add 113 (F1 cIv cInt Iv.mid) (Env.add 132 (F2 cInt cInt cIv Iv.of) Env.nil)))) Laws.nil 200 Try.f115 [cIv.av x0] [] (cTwo cIv cIv).dec =
      .bind (x0.right) fun vb0 => .br (!vb0) (.bind (Iv.none) fun viv1 => .bind (Iv.none) fun viv2 => .ret ((viv1, viv2))) (.bind (x0.mid) fun vn3 => .bind (Iv.of x0.lo vn3) fun viv4 => .bind (x0.mid) fun vn5 => .bind (Iv.of vn5 x0.hi) fun viv6 => .ret ((viv4, viv6))) := by kernel_rfl
theorem c_meniscusref1_Split (x0 : Iv) : Plain Try.prog 115 [cIv.enc x0] ((cTwo cIv cIv).enc (Iv.split x0)) :=
  plain_of_tree (n := 200) (EnvOK.add s_meniscusref1_Right (EnvOK.add s_meniscusref1_None (EnvOK.add s_meniscusref1_Mid (EnvOK.add s_meniscusref1_Of EnvOK.nil)))) Try.func115 (args := [cIv.av x0]) (by simp only [AV.vals, Cod.av_val]) (Nat.le_of_ble_eq_true (by kernel_rfl)) LFn.nil (cTwo cIv cIv) (by
    rw [t_meniscusref1_Split]
    simp only [den_br, den_bind, den_ret, den_fail, den_inl, den_inr, decide_eq_true_eq]
    grind [Iv.split])
theorem s_meniscusref1_Split : Ev.Spec Try.prog 115 (F1 cIv (cTwo cIv cIv) Iv.split) := spec1 (fun vs w => Try.call115 vs w) c_meniscusref1_Split

/-! meniscusref1.AddV -/
theorem t_meniscusref1_AddV (x0 : V) (x1 : V) :
    evFn Try.prog (Env.add 100 (F2 cIv cIv cIv Iv.add) Env.nil) Laws.nil 200 Try.f152 [cV.av x0, cV.av x1] [] cV.dec =
      .bind (x0.x.add x1.x) fun viv0 => .bind (x0.y.add x1.y) fun viv1 => .bind (x0.z.add x1.z) fun viv2 => .ret (V.mk viv0 viv1 viv2) := by kernel_rfl
theorem c_meniscusref1_AddV (x0 : V) (x1 : V) : Plain Try.prog 152 [cV.enc x0, cV.enc x1] (cV.enc (V.add x0 x1)) :=
  plain_of_tree (n := 200) (EnvOK.add s_meniscusref1_Add EnvOK.nil) Try.func152 (args := [cV.av x0, cV.av x1]) (by simp only [AV.vals, Cod.av_val]) (Nat.le_of_ble_eq_true (by kernel_rfl)) LFn.nil cV (by
    rw [t_meniscusref1_AddV]
    rfl)
theorem s_meniscusref1_AddV : Ev.Spec Try.prog 152 (F2 cV cV cV V.add) := spec2 (fun vs w => Try.call152 vs w) c_meniscusref1_AddV

/-! meniscusref1.Scale -/
theorem t_meniscusref1_Scale (x0 : V) (x1 : Iv) :
    evFn Try.prog (Env.add 99 (F2 cIv cIv cIv Iv.mul) Env.nil) Laws.nil 200 Try.f153 [cV.av x0, cIv.av x1] [] cV.dec =
      .bind (x0.x.mul x1) fun viv0 => .bind (x0.y.mul x1) fun viv1 => .bind (x0.z.mul x1) fun viv2 => .ret (V.mk viv0 viv1 viv2) := by kernel_rfl
theorem c_meniscusref1_Scale (x0 : V) (x1 : Iv) : Plain Try.prog 153 [cV.enc x0, cIv.enc x1] (cV.enc (V.scale x0 x1)) :=
  plain_of_tree (n := 200) (EnvOK.add s_meniscusref1_MulIv EnvOK.nil) Try.func153 (args := [cV.av x0, cIv.av x1]) (by simp only [AV.vals, Cod.av_val]) (Nat.le_of_ble_eq_true (by kernel_rfl)) LFn.nil cV (by
    rw [t_meniscusref1_Scale]
    rfl)
theorem s_meniscusref1_Scale : Ev.Spec Try.prog 153 (F2 cV cIv cV V.scale) := spec2 (fun vs w => Try.call153 vs w) c_meniscusref1_Scale

/-! meniscusref1.Along -/
theorem t_meniscusref1_Along (x0 : Ray) (x1 : Iv) :
    evFn Try.prog (Env.add 152 (F2 cV cV cV V.add) (Env.add 153 (F2 cV cIv cV V.scale) Env.nil)) Laws.nil 200 Try.f136 [cRay.av x0, cIv.av x1] [] cV.dec =
      .bind (x0.d.scale x1) fun vv0 => .bind (x0.o.add vv0) fun vv1 => .ret (vv1) := by kernel_rfl
theorem c_meniscusref1_Along (x0 : Ray) (x1 : Iv) : Plain Try.prog 136 [cRay.enc x0, cIv.enc x1] (cV.enc (along x0 x1)) :=
  plain_of_tree (n := 200) (EnvOK.add s_meniscusref1_AddV (EnvOK.add s_meniscusref1_Scale EnvOK.nil)) Try.func136 (args := [cRay.av x0, cIv.av x1]) (by simp only [AV.vals, Cod.av_val]) (Nat.le_of_ble_eq_true (by kernel_rfl)) LFn.nil cV (by
    rw [t_meniscusref1_Along]
    rfl)
theorem s_meniscusref1_Along : Ev.Spec Try.prog 136 (F2 cRay cIv cV along) := spec2 (fun vs w => Try.call136 vs w) c_meniscusref1_Along

/-! meniscusref1.Horner -/
theorem tl_meniscusref1_Horner_5 (t6 : Int) (r0 : List Iv) (r1 : Iv) (r2 : Iv) (r3 : Iv) :
    ev Try.prog (Env.add 97 (F1 cInt cIv Iv.point) (Env.add 99 (F2 cIv cIv cIv Iv.mul) (Env.add 100 (F2 cIv cIv cIv Iv.add) (Env.add 110 (F1 cIv cBool Iv.right) (Env.add 111 (F0 cIv Iv.none) Env.nil))))) Laws.nil 200 none (loopAt Try.f56 5) ((sc 37 [6, 0, 3, 4, 5] (tCod 6 cInt (tSl 0 0 (tOwn 3 1 (tOwn 4 2 (tOwn 5 3 tNil))))) (rL_iv (rBox ccIv ccIv_ok (rBox ccIv ccIv_ok (rBox ccIv ccIv_ok rNil))))).enc ((t6, ()), (r0, r1, r2, r3, ()))) (backK (sc 37 [6, 0, 3, 4, 5] (tCod 6 cInt (tSl 0 0 (tOwn 3 1 (tOwn 4 2 (tOwn 5 3 tNil))))) (rL_iv (rBox ccIv ccIv_ok (rBox ccIv ccIv_ok (rBox ccIv ccIv_ok rNil))))) (ocExit 0 (sc 37 [4, 5] (tOwn 4 0 (tOwn 5 1 tNil)) (rBox ccIv ccIv_ok (rBox ccIv ccIv_ok rNil))))) =
      .br (decide (t6 ≥ 0)) (.bind (r3.mul r1) fun viv0 => .br (decide (0 ≤ t6 ∧ t6 < (@Nat.cast Int _ r0.length))) (.get (r0[t6.toNat]?) fun vt1 => .bind (viv0.add vt1) fun viv2 => .ret (Sum.inl ((IntKind.i64.wrap (t6 - 1), ()), r0, r1, r2, viv2, ()))) (.fail)) (.ret (Sum.inr ((), r2, r3, ()))) := by kernel_rfl
theorem ok_meniscusref1_Horner_5 : LOK Try.prog (LoopR.of (sc 37 [6, 0, 3, 4, 5] (tCod 6 cInt (tSl 0 0 (tOwn 3 1 (tOwn 4 2 (tOwn 5 3 tNil))))) (rL_iv (rBox ccIv ccIv_ok (rBox ccIv ccIv_ok (rBox ccIv ccIv_ok rNil))))) (ocExit 0 (sc 37 [4, 5] (tOwn 4 0 (tOwn 5 1 tNil)) (rBox ccIv ccIv_ok (rBox ccIv ccIv_ok rNil)))) hornRun) (loopAt Try.f56 5) := by
  refine loop_ok (EnvOK.add s_meniscusref1_Point (EnvOK.add s_meniscusref1_MulIv (EnvOK.add s_meniscusref1_Add (EnvOK.add s_meniscusref1_Right (EnvOK.add s_meniscusref1_None EnvOK.nil))))) (LFn.at (fn := Try.f56) LFn.nil 5) hornStep (n := 200) (fun x z h => ?_) hornRun_ok
  obtain ⟨⟨t6, ⟨⟩⟩, ⟨r0, r1, r2, r3, ⟨⟩⟩⟩ := x
  rw [tl_meniscusref1_Horner_5]
  rw [← h]
  simp only [den_br, den_bind, den_ret, den_fail, den_inl, den_inr, decide_eq_true_eq]
  simp only [hornStep]
  by_cases h0 : 0 ≤ t6 <;> simp only [h0, if_true, if_false, true_and]
  by_cases h1 : t6 < (r0.length : Int) <;> simp only [h1, if_true, if_false]
  cases hg : r0[t6.toNat]? with
  | none => rfl
  | some a => simp only [den_get, den_br, den_bind, den_ret, den_fail]
theorem t_meniscusref1_Horner (t1 : Iv) (r0 : List Iv) :
    evFn Try.prog (Env.add 97 (F1 cInt cIv Iv.point) (Env.add 99 (F2 cIv cIv cIv Iv.mul) (Env.add 100 (F2 cIv cIv cIv Iv.add) (Env.add 110 (F1 cIv cBool Iv.right) (Env.add 111 (F0 cIv Iv.none) Env.nil))))) (Laws.add 5 (LoopR.of (sc 37 [6, 0, 3, 4, 5] (tCod 6 cInt (tSl 0 0 (tOwn 3 1 (tOwn 4 2 (tOwn 5 3 tNil))))) (rL_iv (rBox ccIv ccIv_ok (rBox ccIv ccIv_ok (rBox ccIv ccIv_ok rNil))))) (ocExit 0 (sc 37 [4, 5] (tOwn 4 0 (tOwn 5 1 tNil)) (rBox ccIv ccIv_ok (rBox ccIv ccIv_ok rNil)))) hornRun) Laws.nil) 200 Try.f56 (((sc 2 [0, 1] (tSl 0 0 (tCod 1 cIv tNil)) (rL_iv rNil)).enc ((t1, ()), (r0, ()))).tmps.map Prod.snd) ((sc 2 [0, 1] (tSl 0 0 (tCod 1 cIv tNil)) (rL_iv rNil)).enc ((t1, ()), (r0, ()))).mem cIv.dec =
      .br ((@Nat.cast Int _ r0.length) == 0) (.bind (Iv.point 0) fun viv0 => .ret (viv0)) (.br (decide (0 ≤ IntKind.i64.wrap ((@Nat.cast Int _ r0.length) - 1) ∧ IntKind.i64.wrap ((@Nat.cast Int _ r0.length) - 1) < (@Nat.cast Int _ r0.length))) (.get (r0[(IntKind.i64.wrap ((@Nat.cast Int _ r0.length) - 1)).toNat]?) fun vt1 => .get (hornRun ((IntKind.i64.wrap ((@Nat.cast Int _ r0.length) - 2), ()), r0, t1, Iv.mk 0 0 false, vt1, ())) fun vy2 => .bind (vy2.2.2.1.right) fun vb3 => .br (!vb3) (.bind (Iv.none) fun viv4 => .ret (viv4)) (.ret (vy2.2.2.1))) (.fail)) := by kernel_rfl
theorem c_meniscusref1_Horner : PlainS Try.prog 56 (sc 2 [0, 1] (tSl 0 0 (tCod 1 cIv tNil)) (rL_iv rNil)) cIv (fun x => lenOk x.2.1) ((fun x => horner x.2.1 x.1.1)) := by
  intro x h N w vs hM hv
  obtain ⟨⟨t1, ⟨⟩⟩, ⟨r0, ⟨⟩⟩⟩ := x
  refine calls_of_tree (n := 200) (EnvOK.add s_meniscusref1_Point (EnvOK.add s_meniscusref1_MulIv (EnvOK.add s_meniscusref1_Add (EnvOK.add s_meniscusref1_Right (EnvOK.add s_meniscusref1_None EnvOK.nil))))) Try.func56 hv (Nat.le_of_ble_eq_true (by kernel_rfl)) (LFn.add (fn := Try.f56) (i := 5) (by kernel_rfl) ok_meniscusref1_Horner_5 LFn.nil) hM cIv ?_
  rw [t_meniscusref1_Horner]
  simp only [den_br, den_bind, den_ret, den_fail, den_inl, den_inr, decide_eq_true_eq]
  simp at h
  have hl := lenOk_iff.1 h
  have e1 : IntKind.i64.wrap ((r0.length : Int) - 1) = (r0.length : Int) - 1 := wr (by omega)
  have e2 : IntKind.i64.wrap ((r0.length : Int) - 2) = (r0.length : Int) - 2 := wr (by omega)
  simp only [e1, e2, horner]
  by_cases h0 : r0.length = 0
  · simp [h0]
  have h1 : ¬ ((r0.length : Int) = 0) := by omega
  have hlt : ((r0.length : Int) - 1).toNat < r0.length := by omega
  have et : ((r0.length : Int) - 1).toNat = r0.length - 1 := by omega
  have hr : hornRun (((r0.length : Int) - 2, ()), (r0, t1, Iv.zero, atI r0 (r0.length - 1), ())) = some ((), (Iv.zero, hornerD r0 t1 (r0.length - 1) (atI r0 (r0.length - 1)), ())) := by
    simp only [hornRun]
    rw [if_pos (by omega)]
    have : ((r0.length : Int) - 2 + 1).toNat = r0.length - 1 := by omega
    rw [this]
  rw [get_atI hlt, et]
  have h2 : 0 ≤ (r0.length : Int) - 1 ∧ (r0.length : Int) - 1 < (r0.length : Int) := by omega
  have h3 : ((r0.length : Int) == 0) = false := beq_eq_false_iff_ne.2 h1
  simp only [h0, h2, h3, if_true, if_false, Bool.false_eq_true, den_get]
  rw [show (⟨0, 0, false⟩ : Iv) = Iv.zero from rfl, hr]
  simp only [den_get, den_bind, den_br, den_ret]
  cases (hornerD r0 t1 (r0.length - 1) (atI r0 (r0.length - 1))).right <;> rfl
theorem s_meniscusref1_Horner : Ev.Spec Try.prog 56 (FS (sc 2 [0, 1] (tSl 0 0 (tCod 1 cIv tNil)) (rL_iv rNil)) cIv (fun x => lenOk x.2.1) ((fun x => horner x.2.1 x.1.1))) := specS rfl (fun vs w => Try.call56 vs w) c_meniscusref1_Horner

/-! meniscusref1.Slope -/
theorem tl_meniscusref1_Slope_3 (t4 : Int) (r0 : List Iv) (r1 : List Iv) :
    ev Try.prog (Env.add 103 (F2 cIv cInt cIv Iv.times) Env.nil) Laws.nil 200 none (loopAt Try.f53 3) ((sc 21 [4, 0, 3] (tCod 4 cInt (tSl 0 0 (tSl 3 1 tNil))) (rL_iv (rG_iv 63 rNil))).enc ((t4, ()), (r0, r1, ()))) (backK (sc 21 [4, 0, 3] (tCod 4 cInt (tSl 0 0 (tSl 3 1 tNil))) (rL_iv (rG_iv 63 rNil))) (ocExit 0 (sc 21 [3] (tSl 3 0 tNil) (rG_iv 63 rNil)))) =
      .br (decide (t4 < (@Nat.cast Int _ r0.length))) (.br (decide (0 ≤ t4 ∧ t4 < (@Nat.cast Int _ r0.length))) (.get (r0[t4.toNat]?) fun vt0 => .bind (Iv.times vt0 t4) fun viv1 => .br (Ev.lenOk (r1 ++ [viv1])) (.ret (Sum.inl ((IntKind.i64.wrap (t4 + 1), ()), r0, r1 ++ [viv1], ()))) (.fail)) (.fail)) (.ret (Sum.inr ((), r1, ()))) := by kernel_rfl
theorem ok_meniscusref1_Slope_3 : LOK Try.prog (LoopR.of (sc 21 [4, 0, 3] (tCod 4 cInt (tSl 0 0 (tSl 3 1 tNil))) (rL_iv (rG_iv 63 rNil))) (ocExit 0 (sc 21 [3] (tSl 3 0 tNil) (rG_iv 63 rNil))) slopeRun) (loopAt Try.f53 3) := by
  refine loop_ok (EnvOK.add s_meniscusref1_Times EnvOK.nil) (LFn.at (fn := Try.f53) LFn.nil 3) slopeStep (n := 200) (fun x z h => ?_) slopeRun_ok
  obtain ⟨⟨t4, ⟨⟩⟩, ⟨r0, r1, ⟨⟩⟩⟩ := x
  rw [tl_meniscusref1_Slope_3]
  rw [← h]
  simp only [den_br, den_bind, den_ret, den_fail, den_inl, den_inr, decide_eq_true_eq]
  simp only [slopeStep]
  by_cases h0 : t4 < (r0.length : Int) <;> simp only [h0, if_true, if_false, and_true]
  by_cases h1 : 0 ≤ t4 <;> simp only [h1, if_true, if_false]
  cases hg : r0[t4.toNat]? with
  | none => rfl
  | some a => simp only [den_get, den_br, den_bind, den_ret, den_fail]
theorem t_meniscusref1_Slope (r0 : List Iv) :
    evFnR Try.prog (Env.add 103 (F2 cIv cInt cIv Iv.times) Env.nil) (Laws.add 3 (LoopR.of (sc 21 [4, 0, 3] (tCod 4 cInt (tSl 0 0 (tSl 3 1 tNil))) (rL_iv (rG_iv 63 rNil))) (ocExit 0 (sc 21 [3] (tSl 3 0 tNil) (rG_iv 63 rNil))) slopeRun) Laws.nil) 200 Try.f53 (((sc 1 [0] (tSl 0 0 tNil) (rL_iv rNil)).enc ((()), (r0, ()))).tmps.map Prod.snd) ((sc 1 [0] (tSl 0 0 tNil) (rL_iv rNil)).enc ((()), (r0, ()))).mem (sc 1 [0] (tSl 0 0 tNil) (rG_iv 63 rNil)).ts (sc 1 [0] (tSl 0 0 tNil) (rG_iv 63 rNil)).dec =
      .get (slopeRun ((1, ()), r0, [], ())) fun vy0 => .ret (((), vy0.2.1, ())) := by kernel_rfl
theorem c_meniscusref1_Slope : PlainR Try.prog 53 (sc 1 [0] (tSl 0 0 tNil) (rL_iv rNil)) (sc 1 [0] (tSl 0 0 tNil) (rG_iv 63 rNil)) (fun x => lenOk x.2.1) ((fun x => (((), (slope x.2.1, ()))))) := by
  intro x h N w vs hM hv
  obtain ⟨⟨⟩, ⟨r0, ⟨⟩⟩⟩ := x
  refine calls_of_treeR (n := 200) (EnvOK.add s_meniscusref1_Times EnvOK.nil) Try.func53 hv (Nat.le_of_ble_eq_true (by kernel_rfl)) (LFn.add (fn := Try.f53) (i := 3) (by kernel_rfl) ok_meniscusref1_Slope_3 LFn.nil) hM (sc 1 [0] (tSl 0 0 tNil) (rG_iv 63 rNil)) rfl ?_
  rw [t_meniscusref1_Slope]
  simp only [den_br, den_bind, den_ret, den_fail, den_inl, den_inr, decide_eq_true_eq]
  simp at h
  have hl := lenOk_iff.1 h
  have hr : slopeRun ((1, ()), (r0, [], ())) = some ((), (slope r0, ())) := by
    refine (if_pos ⟨by omega, by omega, by omega, by simp⟩).trans ?_
    rfl
  rw [hr]
  rfl
theorem s_meniscusref1_Slope : Ev.Spec Try.prog 53 (FR (sc 1 [0] (tSl 0 0 tNil) (rL_iv rNil)) (sc 1 [0] (tSl 0 0 tNil) (rG_iv 63 rNil)) (fun x => lenOk x.2.1) ((fun x => (((), (slope x.2.1, ())))))) := specR rfl (fun _ => rfl) (fun vs w => Try.call53 vs w) c_meniscusref1_Slope

/-! meniscusref14.none -/
theorem t_meniscusref14_none  :
    evFn Try.prog (Env.add 111 (F0 cIv Iv.none) Env.nil) Laws.nil 200 Try.f112 [] [] cIv.dec =
      .bind (Iv.none) fun viv0 => .ret (viv0) := by kernel_rfl
theorem c_meniscusref14_none  : Plain Try.prog 112 [] (cIv.enc (Iv.none)) :=
  plain_of_tree (n := 200) (EnvOK.add s_meniscusref1_None EnvOK.nil) Try.func112 (args := []) rfl (Nat.le_of_ble_eq_true (by kernel_rfl)) LFn.nil cIv (by
    rw [t_meniscusref14_none]
    rfl)
theorem s_meniscusref14_none : Ev.Spec Try.prog 112 (F0 cIv Iv.none) := spec0 (fun vs w => Try.call112 vs w) c_meniscusref14_none
end Go.Proofs.Ythgpgnijbajlgaa
