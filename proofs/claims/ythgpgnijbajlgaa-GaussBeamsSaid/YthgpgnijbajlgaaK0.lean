/-
  Contracts of calls, written by a small program of this session out of the evaluator's trees.
-/
import Derived.Test.YthgpgnijbajlgaaCore
import Derived.Test.YthgpgnijbajlgaaCoreLoops
import Derived.Test.YthgpgnijbajlgaaCore2
import Derived.Test.YthgpgnijbajlgaaCore3
import Derived.Test.YthgpgnijbajlgaaCore4
import Derived.Test.YthgpgnijbajlgaaEvCod
import Derived.Test.YthgpgnijbajlgaaEvRet
import Derived.Test.YthgpgnijbajlgaaProg
namespace Go.Proofs.Ythgpgnijbajlgaa
open Go Go.RowKit Ev
set_option maxRecDepth 100000
set_option linter.unusedVariables false
set_option linter.unusedSimpArgs false

/-! num.In -/
theorem t_num_In (x0 : Int) :
    evFn Try.prog Env.nil Laws.nil 200 Try.f94 [cInt.av x0] [] cBool.dec =
      .br (Decidable.decide (x0 ≥ -1073741824))
       (
        .ret (Decidable.decide (x0 ≤ 1073741824)))
       (
        .ret (Bool.false)) := by kernel_rfl
theorem c_num_In (x0 : Int) : Plain Try.prog 94 [cInt.enc x0] (cBool.enc (numIn x0)) :=
  plain_of_tree (n := 200) EnvOK.nil Try.func94 (args := [cInt.av x0]) (by simp only [AV.vals, Cod.av_val]) (Nat.le_of_ble_eq_true (by kernel_rfl)) LFn.nil cBool (by
    rw [t_num_In]
    simp only [Tr.den]
    grind [numIn])
theorem s_num_In : Ev.Spec Try.prog 94 (F1 cInt cBool numIn) := spec1 (fun vs w => Try.call94 vs w) c_num_In

/-! num.Floor -/
theorem t_num_Floor (x0 : Int) (x1 : Int) :
    evFn Try.prog Env.nil Laws.nil 200 Try.f150 [cInt.av x0, cInt.av x1] [] cInt.dec =
      .br (x1 == 0)
       (
        .ret (0))
       (
        .br (x1 != 0)
         (
          .br (x1 != 0)
           (
            .br (x0.tmod x1 != 0)
             (
              .br (!Decidable.decide (x0 < 0) == Decidable.decide (x1 < 0))
               (
                .ret (Go.IntKind.i64.wrap (Go.IntKind.i64.wrap (x0.tdiv x1) - 1)))
               (
                .ret (Go.IntKind.i64.wrap (x0.tdiv x1))))
             (
              .ret (Go.IntKind.i64.wrap (x0.tdiv x1))))
           (
            .fail))
         (
          .fail)) := by kernel_rfl
theorem c_num_Floor (x0 : Int) (x1 : Int) (h : flOk x0 x1 = true) : Plain Try.prog 150 [cInt.enc x0, cInt.enc x1] (cInt.enc (fl x0 x1)) :=
  plain_of_tree (n := 200) EnvOK.nil Try.func150 (args := [cInt.av x0, cInt.av x1]) (by simp only [AV.vals, Cod.av_val]) (Nat.le_of_ble_eq_true (by kernel_rfl)) LFn.nil cInt (by
    rw [t_num_Floor]
    simp [flOk] at h
    simp only [Tr.den]
    by_cases hb : x1 = 0
    · subst hb; simp [fl]
    · have e := fl_tdiv x0 x1 hb
      have hw := tdiv_bd (a := x0) (b := x1) (by omega) (by omega)
      simp (disch := omega) only [IntWalk.i64_in] at *
      grind)
theorem s_num_Floor : Ev.Spec Try.prog 150 (F2p cInt cInt cInt flOk fl) := spec2p (fun vs w => Try.call150 vs w) c_num_Floor

/-! num.rounded -/
theorem t_num_rounded (x0 : Int) (x1 : Int) (x2 : Bool) :
    evFn Try.prog (Env.add 94 (F1 cInt cBool numIn) (Env.add 150 (F2p cInt cInt cInt flOk fl) Env.nil)) Laws.nil 200 Try.f130 [cInt.av x0, cInt.av x1, cBool.av x2] [] (cTwo cInt cBool).dec =
      .br (Go.Proofs.Ythgpgnijbajlgaa.flOk x0 x1)
       (
        .bind (Go.Proofs.Ythgpgnijbajlgaa.fl x0 x1) fun vn0 =>
        .br (x2)
         (
          .br (x1 != 0)
           (
            .br (x0.tmod x1 != 0)
             (
              .bind (Go.Proofs.Ythgpgnijbajlgaa.numIn (Go.IntKind.i64.wrap (vn0 + 1))) fun vb1 =>
              .br (!vb1)
               (
                .ret ((0, Bool.false)))
               (
                .ret ((Go.IntKind.i64.wrap (vn0 + 1), Bool.true))))
             (
              .bind (Go.Proofs.Ythgpgnijbajlgaa.numIn vn0) fun vb2 =>
              .br (!vb2)
               (
                .ret ((0, Bool.false)))
               (
                .ret ((vn0, Bool.true)))))
           (
            .fail))
         (
          .bind (Go.Proofs.Ythgpgnijbajlgaa.numIn vn0) fun vb3 =>
          .br (!vb3)
           (
            .ret ((0, Bool.false)))
           (
            .ret ((vn0, Bool.true)))))
       (
        .fail) := by kernel_rfl
theorem c_num_rounded (x0 : Int) (x1 : Int) (x2 : Bool) (h : rnOk x0 x1 x2 = true) : Plain Try.prog 130 [cInt.enc x0, cInt.enc x1, cBool.enc x2] ((cTwo cInt cBool).enc (rnd x0 x1 x2)) :=
  plain_of_tree (n := 200) (EnvOK.add s_num_In (EnvOK.add s_num_Floor EnvOK.nil)) Try.func130 (args := [cInt.av x0, cInt.av x1, cBool.av x2]) (by simp only [AV.vals, Cod.av_val]) (Nat.le_of_ble_eq_true (by kernel_rfl)) LFn.nil (cTwo cInt cBool) (by
    rw [t_num_rounded]
    simp [rnOk] at h
    simp only [Tr.den, h.1]
    have e := fl_tdiv x0 x1 h.2
    have hw := tdiv_bd (a := x0) (b := x1) (by simp [flOk] at h; omega) (by simp [flOk] at h; omega)
    have hz := fl_mul x0 x1 h.2
    have hfl : -9223372036854775807 < fl x0 x1 ∧ fl x0 x1 < 9223372036854775806 := by rw [e]; split <;> omega
    simp (disch := omega) only [IntWalk.i64_in] at *
    grind [rnd])
theorem s_num_rounded : Ev.Spec Try.prog 130 (F3p cInt cInt cBool (cTwo cInt cBool) rnOk rnd) := spec3p (fun vs w => Try.call130 vs w) c_num_rounded

/-! num.Mul -/
theorem t_num_Mul (x0 : Int) (x1 : Int) (x2 : Bool) :
    evFn Try.prog (Env.add 94 (F1 cInt cBool numIn) (Env.add 130 (F3p cInt cInt cBool (cTwo cInt cBool) rnOk rnd) Env.nil)) Laws.nil 200 Try.f118 [cInt.av x0, cInt.av x1, cBool.av x2] [] (cTwo cInt cBool).dec =
      .bind (Go.Proofs.Ythgpgnijbajlgaa.numIn x0) fun vb0 =>
      .br (!vb0)
       (
        .ret ((0, Bool.false)))
       (
        .bind (Go.Proofs.Ythgpgnijbajlgaa.numIn x1) fun vb1 =>
        .br (!vb1)
         (
          .ret ((0, Bool.false)))
         (
          .br (Go.Proofs.Ythgpgnijbajlgaa.rnOk (Go.IntKind.i64.wrap (x0 * x1)) 65536 x2)
           (
            .bind (Go.Proofs.Ythgpgnijbajlgaa.rnd (Go.IntKind.i64.wrap (x0 * x1)) 65536 x2) fun vy2 =>
            .ret (vy2))
           (
            .fail))) := by kernel_rfl
theorem c_num_Mul (x0 : Int) (x1 : Int) (x2 : Bool) : Plain Try.prog 118 [cInt.enc x0, cInt.enc x1, cBool.enc x2] ((cTwo cInt cBool).enc (numMul x0 x1 x2)) :=
  plain_of_tree (n := 200) (EnvOK.add s_num_In (EnvOK.add s_num_rounded EnvOK.nil)) Try.func118 (args := [cInt.av x0, cInt.av x1, cBool.av x2]) (by simp only [AV.vals, Cod.av_val]) (Nat.le_of_ble_eq_true (by kernel_rfl)) LFn.nil (cTwo cInt cBool) (by
    rw [t_num_Mul]
    simp only [Tr.den]
    have hm := mul_bd x0 x1
    cases h0 : numIn x0 <;> cases h1 : numIn x1 <;> simp [numMul, h0, h1]
    have := hm h0 h1
    simp (disch := omega) only [IntWalk.i64_in]
    grind [rnOk, flOk])
theorem s_num_Mul : Ev.Spec Try.prog 118 (F3 cInt cInt cBool (cTwo cInt cBool) numMul) := spec3 (fun vs w => Try.call118 vs w) c_num_Mul

/-! num.Div -/
theorem t_num_Div (x0 : Int) (x1 : Int) (x2 : Bool) :
    evFn Try.prog (Env.add 94 (F1 cInt cBool numIn) (Env.add 130 (F3p cInt cInt cBool (cTwo cInt cBool) rnOk rnd) Env.nil)) Laws.nil 200 Try.f93 [cInt.av x0, cInt.av x1, cBool.av x2] [] (cTwo cInt cBool).dec =
      .bind (Go.Proofs.Ythgpgnijbajlgaa.numIn x0) fun vb0 =>
      .br (!vb0)
       (
        .ret ((0, Bool.false)))
       (
        .bind (Go.Proofs.Ythgpgnijbajlgaa.numIn x1) fun vb1 =>
        .br (!vb1)
         (
          .ret ((0, Bool.false)))
         (
          .br (x1 == 0)
           (
            .ret ((0, Bool.false)))
           (
            .br (Go.Proofs.Ythgpgnijbajlgaa.rnOk (Go.IntKind.i64.wrap (x0 * 65536)) x1 x2)
             (
              .bind (Go.Proofs.Ythgpgnijbajlgaa.rnd (Go.IntKind.i64.wrap (x0 * 65536)) x1 x2) fun vy2 =>
              .ret (vy2))
             (
              .fail)))) := by kernel_rfl
theorem c_num_Div (x0 : Int) (x1 : Int) (x2 : Bool) : Plain Try.prog 93 [cInt.enc x0, cInt.enc x1, cBool.enc x2] ((cTwo cInt cBool).enc (numDiv x0 x1 x2)) :=
  plain_of_tree (n := 200) (EnvOK.add s_num_In (EnvOK.add s_num_rounded EnvOK.nil)) Try.func93 (args := [cInt.av x0, cInt.av x1, cBool.av x2]) (by simp only [AV.vals, Cod.av_val]) (Nat.le_of_ble_eq_true (by kernel_rfl)) LFn.nil (cTwo cInt cBool) (by
    rw [t_num_Div]
    simp only [Tr.den]
    cases h0 : numIn x0 <;> cases h1 : numIn x1 <;> simp [numDiv, h0, h1]
    have b0 := numIn_iff.1 h0
    have b1 := numIn_iff.1 h1
    simp (disch := omega) only [IntWalk.i64_in]
    grind [rnOk, flOk])
theorem s_num_Div : Ev.Spec Try.prog 93 (F3 cInt cInt cBool (cTwo cInt cBool) numDiv) := spec3 (fun vs w => Try.call93 vs w) c_num_Div

/-! iv.Right -/
theorem t_iv_Right (x0 : Iv) :
    evFn Try.prog (Env.add 94 (F1 cInt cBool numIn) Env.nil) Laws.nil 200 Try.f91 [cIv.av x0] [] cBool.dec =
      .br (!x0.no)
       (
        .bind (Go.Proofs.Ythgpgnijbajlgaa.numIn x0.lo) fun vb0 =>
        .br (vb0)
         (
          .bind (Go.Proofs.Ythgpgnijbajlgaa.numIn x0.hi) fun vb1 =>
          .br (vb1)
           (
            .ret (Decidable.decide (x0.lo ≤ x0.hi)))
           (
            .ret (Bool.false)))
         (
          .ret (Bool.false)))
       (
        .ret (Bool.false)) := by kernel_rfl
theorem c_iv_Right (x0 : Iv) : Plain Try.prog 91 [cIv.enc x0] (cBool.enc (Iv.right x0)) :=
  plain_of_tree (n := 200) (EnvOK.add s_num_In EnvOK.nil) Try.func91 (args := [cIv.av x0]) (by simp only [AV.vals, Cod.av_val]) (Nat.le_of_ble_eq_true (by kernel_rfl)) LFn.nil cBool (by
    rw [t_iv_Right]
    simp only [Tr.den]
    grind [Iv.right])
theorem s_iv_Right : Ev.Spec Try.prog 91 (F1 cIv cBool Iv.right) := spec1 (fun vs w => Try.call91 vs w) c_iv_Right

/-! iv.None -/
theorem t_iv_None  :
    evFn Try.prog Env.nil Laws.nil 200 Try.f66 [] [] cIv.dec =
      .ret (Go.Proofs.Ythgpgnijbajlgaa.Iv.mk 0 0 Bool.true) := by kernel_rfl
theorem c_iv_None  : Plain Try.prog 66 [] (cIv.enc (Iv.none)) :=
  plain_of_tree (n := 200) EnvOK.nil Try.func66 (args := []) rfl (Nat.le_of_ble_eq_true (by kernel_rfl)) LFn.nil cIv (by
    rw [t_iv_None]
    rfl)
theorem s_iv_None : Ev.Spec Try.prog 66 (F0 cIv Iv.none) := spec0 (fun vs w => Try.call66 vs w) c_iv_None

/-! iv.Of -/
theorem t_iv_Of (x0 : Int) (x1 : Int) :
    evFn Try.prog (Env.add 66 (F0 cIv Iv.none) (Env.add 91 (F1 cIv cBool Iv.right) Env.nil)) Laws.nil 200 Try.f70 [cInt.av x0, cInt.av x1] [] cIv.dec =
      .bind ((Go.Proofs.Ythgpgnijbajlgaa.Iv.mk x0 x1 Bool.false).right) fun vb0 =>
      .br (!vb0)
       (
        .bind (Go.Proofs.Ythgpgnijbajlgaa.Iv.none) fun viv1 =>
        .ret (viv1))
       (
        .ret (Go.Proofs.Ythgpgnijbajlgaa.Iv.mk x0 x1 Bool.false)) := by kernel_rfl
theorem c_iv_Of (x0 : Int) (x1 : Int) : Plain Try.prog 70 [cInt.enc x0, cInt.enc x1] (cIv.enc (Iv.of x0 x1)) :=
  plain_of_tree (n := 200) (EnvOK.add s_iv_None (EnvOK.add s_iv_Right EnvOK.nil)) Try.func70 (args := [cInt.av x0, cInt.av x1]) (by simp only [AV.vals, Cod.av_val]) (Nat.le_of_ble_eq_true (by kernel_rfl)) LFn.nil cIv (by
    rw [t_iv_Of]
    simp only [Tr.den]
    grind [Iv.of])
theorem s_iv_Of : Ev.Spec Try.prog 70 (F2 cInt cInt cIv Iv.of) := spec2 (fun vs w => Try.call70 vs w) c_iv_Of

/-! iv.Point -/
theorem t_iv_Point (x0 : Int) :
    evFn Try.prog (Env.add 70 (F2 cInt cInt cIv Iv.of) Env.nil) Laws.nil 200 Try.f39 [cInt.av x0] [] cIv.dec =
      .bind (Go.Proofs.Ythgpgnijbajlgaa.Iv.of x0 x0) fun viv0 =>
      .ret (viv0) := by kernel_rfl
theorem c_iv_Point (x0 : Int) : Plain Try.prog 39 [cInt.enc x0] (cIv.enc (Iv.point x0)) :=
  plain_of_tree (n := 200) (EnvOK.add s_iv_Of EnvOK.nil) Try.func39 (args := [cInt.av x0]) (by simp only [AV.vals, Cod.av_val]) (Nat.le_of_ble_eq_true (by kernel_rfl)) LFn.nil cIv (by
    rw [t_iv_Point]
    simp only [Tr.den]
    grind [Iv.point])
theorem s_iv_Point : Ev.Spec Try.prog 39 (F1 cInt cIv Iv.point) := spec1 (fun vs w => Try.call39 vs w) c_iv_Point

/-! iv.Whole -/
theorem t_iv_Whole (x0 : Int) :
    evFn Try.prog (Env.add 39 (F1 cInt cIv Iv.point) (Env.add 66 (F0 cIv Iv.none) (Env.add 94 (F1 cInt cBool numIn) Env.nil))) Laws.nil 200 Try.f46 [cInt.av x0] [] cIv.dec =
      .bind (Go.Proofs.Ythgpgnijbajlgaa.numIn x0) fun vb0 =>
      .br (!vb0)
       (
        .bind (Go.Proofs.Ythgpgnijbajlgaa.Iv.none) fun viv1 =>
        .ret (viv1))
       (
        .bind (Go.Proofs.Ythgpgnijbajlgaa.Iv.point (Go.IntKind.i64.wrap (x0 * 65536))) fun viv2 =>
        .ret (viv2)) := by kernel_rfl
theorem c_iv_Whole (x0 : Int) : Plain Try.prog 46 [cInt.enc x0] (cIv.enc (Iv.whole x0)) :=
  plain_of_tree (n := 200) (EnvOK.add s_iv_Point (EnvOK.add s_iv_None (EnvOK.add s_num_In EnvOK.nil))) Try.func46 (args := [cInt.av x0]) (by simp only [AV.vals, Cod.av_val]) (Nat.le_of_ble_eq_true (by kernel_rfl)) LFn.nil cIv (by
    rw [t_iv_Whole]
    simp only [Tr.den, Iv.whole]
    cases h0 : numIn x0 <;> simp
    have b0 := numIn_iff.1 h0
    simp (disch := omega) only [IntWalk.i64_in])
theorem s_iv_Whole : Ev.Spec Try.prog 46 (F1 cInt cIv Iv.whole) := spec1 (fun vs w => Try.call46 vs w) c_iv_Whole

/-! iv.both -/
theorem t_iv_both (x0 : Iv) (x1 : Iv) :
    evFn Try.prog (Env.add 91 (F1 cIv cBool Iv.right) Env.nil) Laws.nil 200 Try.f89 [cIv.av x0, cIv.av x1] [] cBool.dec =
      .bind (x0.right) fun vb0 =>
      .br (vb0)
       (
        .bind (x1.right) fun vb1 =>
        .ret (vb1))
       (
        .ret (Bool.false)) := by kernel_rfl
theorem c_iv_both (x0 : Iv) (x1 : Iv) : Plain Try.prog 89 [cIv.enc x0, cIv.enc x1] (cBool.enc (Iv.both x0 x1)) :=
  plain_of_tree (n := 200) (EnvOK.add s_iv_Right EnvOK.nil) Try.func89 (args := [cIv.av x0, cIv.av x1]) (by simp only [AV.vals, Cod.av_val]) (Nat.le_of_ble_eq_true (by kernel_rfl)) LFn.nil cBool (by
    rw [t_iv_both]
    simp only [Tr.den]
    grind [Iv.both])
theorem s_iv_both : Ev.Spec Try.prog 89 (F2 cIv cIv cBool Iv.both) := spec2 (fun vs w => Try.call89 vs w) c_iv_both

/-! iv.Neg -/
theorem t_iv_Neg (x0 : Iv) :
    evFn Try.prog (Env.add 66 (F0 cIv Iv.none) (Env.add 70 (F2 cInt cInt cIv Iv.of) (Env.add 91 (F1 cIv cBool Iv.right) Env.nil))) Laws.nil 200 Try.f90 [cIv.av x0] [] cIv.dec =
      .bind (x0.right) fun vb0 =>
      .br (!vb0)
       (
        .bind (Go.Proofs.Ythgpgnijbajlgaa.Iv.none) fun viv1 =>
        .ret (viv1))
       (
        .bind (Go.Proofs.Ythgpgnijbajlgaa.Iv.of (Go.IntKind.i64.wrap (0 - x0.hi)) (Go.IntKind.i64.wrap (0 - x0.lo))) fun viv2 =>
        .ret (viv2)) := by kernel_rfl
theorem c_iv_Neg (x0 : Iv) : Plain Try.prog 90 [cIv.enc x0] (cIv.enc (Iv.neg x0)) :=
  plain_of_tree (n := 200) (EnvOK.add s_iv_None (EnvOK.add s_iv_Of (EnvOK.add s_iv_Right EnvOK.nil))) Try.func90 (args := [cIv.av x0]) (by simp only [AV.vals, Cod.av_val]) (Nat.le_of_ble_eq_true (by kernel_rfl)) LFn.nil cIv (by
    rw [t_iv_Neg]
    simp only [Tr.den, Iv.neg]
    cases h0 : x0.right <;> simp
    have b0 := right_bd h0
    simp (disch := omega) only [IntWalk.i64_in])
theorem s_iv_Neg : Ev.Spec Try.prog 90 (F1 cIv cIv Iv.neg) := spec1 (fun vs w => Try.call90 vs w) c_iv_Neg

/-! iv.Add -/
theorem t_iv_Add (x0 : Iv) (x1 : Iv) :
    evFn Try.prog (Env.add 66 (F0 cIv Iv.none) (Env.add 70 (F2 cInt cInt cIv Iv.of) (Env.add 89 (F2 cIv cIv cBool Iv.both) Env.nil))) Laws.nil 200 Try.f38 [cIv.av x0, cIv.av x1] [] cIv.dec =
      .bind (x0.both x1) fun vb0 =>
      .br (!vb0)
       (
        .bind (Go.Proofs.Ythgpgnijbajlgaa.Iv.none) fun viv1 =>
        .ret (viv1))
       (
        .bind (Go.Proofs.Ythgpgnijbajlgaa.Iv.of (Go.IntKind.i64.wrap (x0.lo + x1.lo)) (Go.IntKind.i64.wrap (x0.hi + x1.hi))) fun viv2 =>
        .ret (viv2)) := by kernel_rfl
theorem c_iv_Add (x0 : Iv) (x1 : Iv) : Plain Try.prog 38 [cIv.enc x0, cIv.enc x1] (cIv.enc (Iv.add x0 x1)) :=
  plain_of_tree (n := 200) (EnvOK.add s_iv_None (EnvOK.add s_iv_Of (EnvOK.add s_iv_both EnvOK.nil))) Try.func38 (args := [cIv.av x0, cIv.av x1]) (by simp only [AV.vals, Cod.av_val]) (Nat.le_of_ble_eq_true (by kernel_rfl)) LFn.nil cIv (by
    rw [t_iv_Add]
    simp only [Tr.den, Iv.add]
    cases h0 : Iv.both x0 x1 <;> simp
    simp [Iv.both] at h0
    have b0 := right_bd h0.1
    have b1 := right_bd h0.2
    simp (disch := omega) only [IntWalk.i64_in])
theorem s_iv_Add : Ev.Spec Try.prog 38 (F2 cIv cIv cIv Iv.add) := spec2 (fun vs w => Try.call38 vs w) c_iv_Add

/-! iv.Sub -/
theorem t_iv_Sub (x0 : Iv) (x1 : Iv) :
    evFn Try.prog (Env.add 38 (F2 cIv cIv cIv Iv.add) (Env.add 90 (F1 cIv cIv Iv.neg) Env.nil)) Laws.nil 200 Try.f40 [cIv.av x0, cIv.av x1] [] cIv.dec =
      .bind (x1.neg) fun viv0 =>
      .bind (x0.add viv0) fun viv1 =>
      .ret (viv1) := by kernel_rfl
theorem c_iv_Sub (x0 : Iv) (x1 : Iv) : Plain Try.prog 40 [cIv.enc x0, cIv.enc x1] (cIv.enc (Iv.sub x0 x1)) :=
  plain_of_tree (n := 200) (EnvOK.add s_iv_Add (EnvOK.add s_iv_Neg EnvOK.nil)) Try.func40 (args := [cIv.av x0, cIv.av x1]) (by simp only [AV.vals, Cod.av_val]) (Nat.le_of_ble_eq_true (by kernel_rfl)) LFn.nil cIv (by
    rw [t_iv_Sub]
    rfl)
theorem s_iv_Sub : Ev.Spec Try.prog 40 (F2 cIv cIv cIv Iv.sub) := spec2 (fun vs w => Try.call40 vs w) c_iv_Sub

/-! iv.Times -/
theorem t_iv_Times (x0 : Iv) (x1 : Int) :
    evFn Try.prog (Env.add 66 (F0 cIv Iv.none) (Env.add 70 (F2 cInt cInt cIv Iv.of) (Env.add 91 (F1 cIv cBool Iv.right) (Env.add 94 (F1 cInt cBool numIn) Env.nil)))) Laws.nil 200 Try.f62 [cIv.av x0, cInt.av x1] [] cIv.dec =
      .bind (x0.right) fun vb0 =>
      .br (!vb0)
       (
        .bind (Go.Proofs.Ythgpgnijbajlgaa.Iv.none) fun viv1 =>
        .ret (viv1))
       (
        .bind (Go.Proofs.Ythgpgnijbajlgaa.numIn x1) fun vb2 =>
        .br (!vb2)
         (
          .bind (Go.Proofs.Ythgpgnijbajlgaa.Iv.none) fun viv3 =>
          .ret (viv3))
         (
          .bind (Go.Proofs.Ythgpgnijbajlgaa.Iv.of (Min.min (Go.IntKind.i64.wrap (x1 * x0.lo)) (Go.IntKind.i64.wrap (x1 * x0.hi))) (Max.max (Go.IntKind.i64.wrap (x1 * x0.lo)) (Go.IntKind.i64.wrap (x1 * x0.hi)))) fun viv4 =>
          .ret (viv4))) := by kernel_rfl
theorem c_iv_Times (x0 : Iv) (x1 : Int) : Plain Try.prog 62 [cIv.enc x0, cInt.enc x1] (cIv.enc (Iv.times x0 x1)) :=
  plain_of_tree (n := 200) (EnvOK.add s_iv_None (EnvOK.add s_iv_Of (EnvOK.add s_iv_Right (EnvOK.add s_num_In EnvOK.nil)))) Try.func62 (args := [cIv.av x0, cInt.av x1]) (by simp only [AV.vals, Cod.av_val]) (Nat.le_of_ble_eq_true (by kernel_rfl)) LFn.nil cIv (by
    rw [t_iv_Times]
    simp only [Tr.den, Iv.times]
    cases h0 : x0.right <;> cases h1 : numIn x1 <;> simp
    have b0 := right_bd h0
    have b1 := numIn_iff.1 h1
    have m1 := mul_bd x1 x0.lo h1 (numIn_iff.2 (by omega))
    have m2 := mul_bd x1 x0.hi h1 (numIn_iff.2 (by omega))
    simp (disch := omega) only [IntWalk.i64_in])
theorem s_iv_Times : Ev.Spec Try.prog 62 (F2 cIv cInt cIv Iv.times) := spec2 (fun vs w => Try.call62 vs w) c_iv_Times

/-! iv.Has -/
theorem t_iv_Has (x0 : Iv) (x1 : Int) :
    evFn Try.prog (Env.add 91 (F1 cIv cBool Iv.right) Env.nil) Laws.nil 200 Try.f63 [cIv.av x0, cInt.av x1] [] cBool.dec =
      .bind (x0.right) fun vb0 =>
      .br (vb0)
       (
        .br (Decidable.decide (x0.lo ≤ x1))
         (
          .ret (Decidable.decide (x1 ≤ x0.hi)))
         (
          .ret (Bool.false)))
       (
        .ret (Bool.false)) := by kernel_rfl
theorem c_iv_Has (x0 : Iv) (x1 : Int) : Plain Try.prog 63 [cIv.enc x0, cInt.enc x1] (cBool.enc (Iv.has x0 x1)) :=
  plain_of_tree (n := 200) (EnvOK.add s_iv_Right EnvOK.nil) Try.func63 (args := [cIv.av x0, cInt.av x1]) (by simp only [AV.vals, Cod.av_val]) (Nat.le_of_ble_eq_true (by kernel_rfl)) LFn.nil cBool (by
    rw [t_iv_Has]
    simp only [Tr.den]
    grind [Iv.has])
theorem s_iv_Has : Ev.Spec Try.prog 63 (F2 cIv cInt cBool Iv.has) := spec2 (fun vs w => Try.call63 vs w) c_iv_Has

/-! iv.ends -/
theorem t_iv_ends_mul (x0 : Unit) (x1 : Iv) (x2 : Iv) :
    evFn Try.prog (Env.add 66 (F0 cIv Iv.none) (Env.add 70 (F2 cInt cInt cIv Iv.of) (Env.add 118 (F3 cInt cInt cBool (cTwo cInt cBool) numMul) Env.nil))) Laws.nil 200 Try.f92 [(cFn 118).av x0, cIv.av x1, cIv.av x2] [] cIv.dec =
      .bind (Go.Proofs.Ythgpgnijbajlgaa.numMul x1.lo x2.lo Bool.false) fun vy0 =>
      .bind (Go.Proofs.Ythgpgnijbajlgaa.numMul x1.lo x2.lo Bool.true) fun vy1 =>
      .br (!vy0.snd)
       (
        .bind (Go.Proofs.Ythgpgnijbajlgaa.Iv.none) fun viv2 =>
        .ret (viv2))
       (
        .br (!vy1.snd)
         (
          .bind (Go.Proofs.Ythgpgnijbajlgaa.Iv.none) fun viv3 =>
          .ret (viv3))
         (
          .bind (Go.Proofs.Ythgpgnijbajlgaa.Iv.of vy0.fst vy1.fst) fun viv4 =>
          .bind (Go.Proofs.Ythgpgnijbajlgaa.Iv.of (Min.min viv4.lo vy0.fst) (Max.max viv4.hi vy1.fst)) fun viv5 =>
          .bind (Go.Proofs.Ythgpgnijbajlgaa.numMul x1.lo x2.hi Bool.false) fun vy6 =>
          .bind (Go.Proofs.Ythgpgnijbajlgaa.numMul x1.lo x2.hi Bool.true) fun vy7 =>
          .br (!vy6.snd)
           (
            .bind (Go.Proofs.Ythgpgnijbajlgaa.Iv.none) fun viv8 =>
            .ret (viv8))
           (
            .br (!vy7.snd)
             (
              .bind (Go.Proofs.Ythgpgnijbajlgaa.Iv.none) fun viv9 =>
              .ret (viv9))
             (
              .bind (Go.Proofs.Ythgpgnijbajlgaa.Iv.of (Min.min viv5.lo vy6.fst) (Max.max viv5.hi vy7.fst)) fun viv10 =>
              .bind (Go.Proofs.Ythgpgnijbajlgaa.numMul x1.hi x2.lo Bool.false) fun vy11 =>
              .bind (Go.Proofs.Ythgpgnijbajlgaa.numMul x1.hi x2.lo Bool.true) fun vy12 =>
              .br (!vy11.snd)
               (
                .bind (Go.Proofs.Ythgpgnijbajlgaa.Iv.none) fun viv13 =>
                .ret (viv13))
               (
                .br (!vy12.snd)
                 (
                  .bind (Go.Proofs.Ythgpgnijbajlgaa.Iv.none) fun viv14 =>
                  .ret (viv14))
                 (
                  .bind (Go.Proofs.Ythgpgnijbajlgaa.Iv.of (Min.min viv10.lo vy11.fst) (Max.max viv10.hi vy12.fst)) fun viv15 =>
                  .bind (Go.Proofs.Ythgpgnijbajlgaa.numMul x1.hi x2.hi Bool.false) fun vy16 =>
                  .bind (Go.Proofs.Ythgpgnijbajlgaa.numMul x1.hi x2.hi Bool.true) fun vy17 =>
                  .br (!vy16.snd)
                   (
                    .bind (Go.Proofs.Ythgpgnijbajlgaa.Iv.none) fun viv18 =>
                    .ret (viv18))
                   (
                    .br (!vy17.snd)
                     (
                      .bind (Go.Proofs.Ythgpgnijbajlgaa.Iv.none) fun viv19 =>
                      .ret (viv19))
                     (
                      .bind (Go.Proofs.Ythgpgnijbajlgaa.Iv.of (Min.min viv15.lo vy16.fst) (Max.max viv15.hi vy17.fst)) fun viv20 =>
                      .ret (viv20))))))))) := by kernel_rfl
theorem c_iv_ends_mul (x0 : Unit) (x1 : Iv) (x2 : Iv) : Plain Try.prog 92 [(cFn 118).enc x0, cIv.enc x1, cIv.enc x2] (cIv.enc (((fun (_ : Unit) a b => ends numMul a b)) x0 x1 x2)) :=
  plain_of_tree (n := 200) (EnvOK.add s_iv_None (EnvOK.add s_iv_Of (EnvOK.add s_num_Mul EnvOK.nil))) Try.func92 (args := [(cFn 118).av x0, cIv.av x1, cIv.av x2]) (by simp only [AV.vals, Cod.av_val]) (Nat.le_of_ble_eq_true (by kernel_rfl)) LFn.nil cIv (by
    rw [t_iv_ends_mul]
    simp only [den_br, den_bind, den_ret, den_fail, den_inl, den_inr, decide_eq_true_eq]
    exact ends_chain numMul_le x1 x2)
theorem s_iv_ends_mul : Ev.Spec Try.prog 92 (F3 (cFn 118) cIv cIv cIv ((fun (_ : Unit) a b => ends numMul a b))) := spec3 (fun vs w => Try.call92 vs w) c_iv_ends_mul

/-! iv.ends -/
theorem t_iv_ends_div (x0 : Unit) (x1 : Iv) (x2 : Iv) :
    evFn Try.prog (Env.add 66 (F0 cIv Iv.none) (Env.add 70 (F2 cInt cInt cIv Iv.of) (Env.add 93 (F3 cInt cInt cBool (cTwo cInt cBool) numDiv) Env.nil))) Laws.nil 200 Try.f92 [(cFn 93).av x0, cIv.av x1, cIv.av x2] [] cIv.dec =
      .bind (Go.Proofs.Ythgpgnijbajlgaa.numDiv x1.lo x2.lo Bool.false) fun vy0 =>
      .bind (Go.Proofs.Ythgpgnijbajlgaa.numDiv x1.lo x2.lo Bool.true) fun vy1 =>
      .br (!vy0.snd)
       (
        .bind (Go.Proofs.Ythgpgnijbajlgaa.Iv.none) fun viv2 =>
        .ret (viv2))
       (
        .br (!vy1.snd)
         (
          .bind (Go.Proofs.Ythgpgnijbajlgaa.Iv.none) fun viv3 =>
          .ret (viv3))
         (
          .bind (Go.Proofs.Ythgpgnijbajlgaa.Iv.of vy0.fst vy1.fst) fun viv4 =>
          .bind (Go.Proofs.Ythgpgnijbajlgaa.Iv.of (Min.min viv4.lo vy0.fst) (Max.max viv4.hi vy1.fst)) fun viv5 =>
          .bind (Go.Proofs.Ythgpgnijbajlgaa.numDiv x1.lo x2.hi Bool.false) fun vy6 =>
          .bind (Go.Proofs.Ythgpgnijbajlgaa.numDiv x1.lo x2.hi Bool.true) fun vy7 =>
          .br (!vy6.snd)
           (
            .bind (Go.Proofs.Ythgpgnijbajlgaa.Iv.none) fun viv8 =>
            .ret (viv8))
           (
            .br (!vy7.snd)
             (
              .bind (Go.Proofs.Ythgpgnijbajlgaa.Iv.none) fun viv9 =>
              .ret (viv9))
             (
              .bind (Go.Proofs.Ythgpgnijbajlgaa.Iv.of (Min.min viv5.lo vy6.fst) (Max.max viv5.hi vy7.fst)) fun viv10 =>
              .bind (Go.Proofs.Ythgpgnijbajlgaa.numDiv x1.hi x2.lo Bool.false) fun vy11 =>
              .bind (Go.Proofs.Ythgpgnijbajlgaa.numDiv x1.hi x2.lo Bool.true) fun vy12 =>
              .br (!vy11.snd)
               (
                .bind (Go.Proofs.Ythgpgnijbajlgaa.Iv.none) fun viv13 =>
                .ret (viv13))
               (
                .br (!vy12.snd)
                 (
                  .bind (Go.Proofs.Ythgpgnijbajlgaa.Iv.none) fun viv14 =>
                  .ret (viv14))
                 (
                  .bind (Go.Proofs.Ythgpgnijbajlgaa.Iv.of (Min.min viv10.lo vy11.fst) (Max.max viv10.hi vy12.fst)) fun viv15 =>
                  .bind (Go.Proofs.Ythgpgnijbajlgaa.numDiv x1.hi x2.hi Bool.false) fun vy16 =>
                  .bind (Go.Proofs.Ythgpgnijbajlgaa.numDiv x1.hi x2.hi Bool.true) fun vy17 =>
                  .br (!vy16.snd)
                   (
                    .bind (Go.Proofs.Ythgpgnijbajlgaa.Iv.none) fun viv18 =>
                    .ret (viv18))
                   (
                    .br (!vy17.snd)
                     (
                      .bind (Go.Proofs.Ythgpgnijbajlgaa.Iv.none) fun viv19 =>
                      .ret (viv19))
                     (
                      .bind (Go.Proofs.Ythgpgnijbajlgaa.Iv.of (Min.min viv15.lo vy16.fst) (Max.max viv15.hi vy17.fst)) fun viv20 =>
                      .ret (viv20))))))))) := by kernel_rfl
theorem c_iv_ends_div (x0 : Unit) (x1 : Iv) (x2 : Iv) : Plain Try.prog 92 [(cFn 93).enc x0, cIv.enc x1, cIv.enc x2] (cIv.enc (((fun (_ : Unit) a b => ends numDiv a b)) x0 x1 x2)) :=
  plain_of_tree (n := 200) (EnvOK.add s_iv_None (EnvOK.add s_iv_Of (EnvOK.add s_num_Div EnvOK.nil))) Try.func92 (args := [(cFn 93).av x0, cIv.av x1, cIv.av x2]) (by simp only [AV.vals, Cod.av_val]) (Nat.le_of_ble_eq_true (by kernel_rfl)) LFn.nil cIv (by
    rw [t_iv_ends_div]
    simp only [den_br, den_bind, den_ret, den_fail, den_inl, den_inr, decide_eq_true_eq]
    exact ends_chain numDiv_le x1 x2)
theorem s_iv_ends_div : Ev.Spec Try.prog 92 (F3 (cFn 93) cIv cIv cIv ((fun (_ : Unit) a b => ends numDiv a b))) := spec3 (fun vs w => Try.call92 vs w) c_iv_ends_div

/-! iv.Mul -/
theorem t_iv_Mul (x0 : Iv) (x1 : Iv) :
    evFn Try.prog (Env.add 66 (F0 cIv Iv.none) (Env.add 89 (F2 cIv cIv cBool Iv.both) (Env.add 92 (F3 (cFn 118) cIv cIv cIv ((fun (_ : Unit) a b => ends numMul a b))) (Env.add 92 (F3 (cFn 93) cIv cIv cIv ((fun (_ : Unit) a b => ends numDiv a b))) (Env.add 118 (F3 cInt cInt cBool (cTwo cInt cBool) numMul) Env.nil))))) Laws.nil 200 Try.f65 [cIv.av x0, cIv.av x1] [] cIv.dec =
      .bind (x0.both x1) fun vb0 =>
      .br (!vb0)
       (
        .bind (Go.Proofs.Ythgpgnijbajlgaa.Iv.none) fun viv1 =>
        .ret (viv1))
       (
        .bind (Go.Proofs.Ythgpgnijbajlgaa.ends Go.Proofs.Ythgpgnijbajlgaa.numMul x0 x1) fun viv2 =>
        .ret (viv2)) := by kernel_rfl
theorem c_iv_Mul (x0 : Iv) (x1 : Iv) : Plain Try.prog 65 [cIv.enc x0, cIv.enc x1] (cIv.enc (Iv.mul x0 x1)) :=
  plain_of_tree (n := 200) (EnvOK.add s_iv_None (EnvOK.add s_iv_both (EnvOK.add s_iv_ends_mul (EnvOK.add s_iv_ends_div (EnvOK.add s_num_Mul EnvOK.nil))))) Try.func65 (args := [cIv.av x0, cIv.av x1]) (by simp only [AV.vals, Cod.av_val]) (Nat.le_of_ble_eq_true (by kernel_rfl)) LFn.nil cIv (by
    rw [t_iv_Mul]
    simp only [Tr.den]
    grind [Iv.mul])
theorem s_iv_Mul : Ev.Spec Try.prog 65 (F2 cIv cIv cIv Iv.mul) := spec2 (fun vs w => Try.call65 vs w) c_iv_Mul

/-! iv.Div -/
theorem t_iv_Div (x0 : Iv) (x1 : Iv) :
    evFn Try.prog (Env.add 63 (F2 cIv cInt cBool Iv.has) (Env.add 66 (F0 cIv Iv.none) (Env.add 89 (F2 cIv cIv cBool Iv.both) (Env.add 92 (F3 (cFn 118) cIv cIv cIv ((fun (_ : Unit) a b => ends numMul a b))) (Env.add 92 (F3 (cFn 93) cIv cIv cIv ((fun (_ : Unit) a b => ends numDiv a b))) (Env.add 93 (F3 cInt cInt cBool (cTwo cInt cBool) numDiv) Env.nil)))))) Laws.nil 200 Try.f45 [cIv.av x0, cIv.av x1] [] cIv.dec =
      .bind (x0.both x1) fun vb0 =>
      .br (!vb0)
       (
        .bind (Go.Proofs.Ythgpgnijbajlgaa.Iv.none) fun viv1 =>
        .ret (viv1))
       (
        .bind (x1.has 0) fun vb2 =>
        .br (vb2)
         (
          .bind (Go.Proofs.Ythgpgnijbajlgaa.Iv.none) fun viv3 =>
          .ret (viv3))
         (
          .bind (Go.Proofs.Ythgpgnijbajlgaa.ends Go.Proofs.Ythgpgnijbajlgaa.numDiv x0 x1) fun viv4 =>
          .ret (viv4))) := by kernel_rfl
theorem c_iv_Div (x0 : Iv) (x1 : Iv) : Plain Try.prog 45 [cIv.enc x0, cIv.enc x1] (cIv.enc (Iv.div x0 x1)) :=
  plain_of_tree (n := 200) (EnvOK.add s_iv_Has (EnvOK.add s_iv_None (EnvOK.add s_iv_both (EnvOK.add s_iv_ends_mul (EnvOK.add s_iv_ends_div (EnvOK.add s_num_Div EnvOK.nil)))))) Try.func45 (args := [cIv.av x0, cIv.av x1]) (by simp only [AV.vals, Cod.av_val]) (Nat.le_of_ble_eq_true (by kernel_rfl)) LFn.nil cIv (by
    rw [t_iv_Div]
    simp only [den_br, den_bind, den_ret, den_fail, den_inl, den_inr, decide_eq_true_eq]
    simp only [Iv.div]
    cases Iv.both x0 x1 <;> cases Iv.has x1 0 <;> simp)
theorem s_iv_Div : Ev.Spec Try.prog 45 (F2 cIv cIv cIv Iv.div) := spec2 (fun vs w => Try.call45 vs w) c_iv_Div

/-! iv.Sqr -/
theorem t_iv_Sqr (x0 : Iv) :
    evFn Try.prog (Env.add 66 (F0 cIv Iv.none) (Env.add 70 (F2 cInt cInt cIv Iv.of) (Env.add 91 (F1 cIv cBool Iv.right) (Env.add 118 (F3 cInt cInt cBool (cTwo cInt cBool) numMul) Env.nil)))) Laws.nil 200 Try.f68 [cIv.av x0] [] cIv.dec =
      .bind (x0.right) fun vb0 =>
      .br (!vb0)
       (
        .bind (Go.Proofs.Ythgpgnijbajlgaa.Iv.none) fun viv1 =>
        .ret (viv1))
       (
        .bind (Go.Proofs.Ythgpgnijbajlgaa.numMul (Max.max (Go.IntKind.i64.wrap (0 - x0.lo)) x0.hi) (Max.max (Go.IntKind.i64.wrap (0 - x0.lo)) x0.hi) Bool.true) fun vy2 =>
        .bind (Go.Proofs.Ythgpgnijbajlgaa.numMul (Max.max (Max.max x0.lo (Go.IntKind.i64.wrap (0 - x0.hi))) 0) (Max.max (Max.max x0.lo (Go.IntKind.i64.wrap (0 - x0.hi))) 0) Bool.false) fun vy3 =>
        .br (!vy2.snd)
         (
          .bind (Go.Proofs.Ythgpgnijbajlgaa.Iv.none) fun viv4 =>
          .ret (viv4))
         (
          .bind (Go.Proofs.Ythgpgnijbajlgaa.Iv.of vy3.fst vy2.fst) fun viv5 =>
          .ret (viv5))) := by kernel_rfl
theorem c_iv_Sqr (x0 : Iv) : Plain Try.prog 68 [cIv.enc x0] (cIv.enc (Iv.sqr x0)) :=
  plain_of_tree (n := 200) (EnvOK.add s_iv_None (EnvOK.add s_iv_Of (EnvOK.add s_iv_Right (EnvOK.add s_num_Mul EnvOK.nil)))) Try.func68 (args := [cIv.av x0]) (by simp only [AV.vals, Cod.av_val]) (Nat.le_of_ble_eq_true (by kernel_rfl)) LFn.nil cIv (by
    rw [t_iv_Sqr]
    simp only [Iv.sqr]
    cases h0 : x0.right
    · simp [Tr.den]
    have b0 := right_bd h0
    have e1 : IntKind.i64.wrap (-x0.lo) = -x0.lo := IntWalk.i64_in _ (by omega)
    have e2 : IntKind.i64.wrap (-x0.hi) = -x0.hi := IntWalk.i64_in _ (by omega)
    simp only [den_br, den_bind, den_ret, den_fail, e1, e2]
    grind)
theorem s_iv_Sqr : Ev.Spec Try.prog 68 (F1 cIv cIv Iv.sqr) := spec1 (fun vs w => Try.call68 vs w) c_iv_Sqr

/-! iv.Hull -/
theorem t_iv_Hull (x0 : Iv) (x1 : Iv) :
    evFn Try.prog (Env.add 66 (F0 cIv Iv.none) (Env.add 70 (F2 cInt cInt cIv Iv.of) (Env.add 89 (F2 cIv cIv cBool Iv.both) Env.nil))) Laws.nil 200 Try.f37 [cIv.av x0, cIv.av x1] [] cIv.dec =
      .bind (x0.both x1) fun vb0 =>
      .br (!vb0)
       (
        .bind (Go.Proofs.Ythgpgnijbajlgaa.Iv.none) fun viv1 =>
        .ret (viv1))
       (
        .bind (Go.Proofs.Ythgpgnijbajlgaa.Iv.of (Min.min x0.lo x1.lo) (Max.max x0.hi x1.hi)) fun viv2 =>
        .ret (viv2)) := by kernel_rfl
theorem c_iv_Hull (x0 : Iv) (x1 : Iv) : Plain Try.prog 37 [cIv.enc x0, cIv.enc x1] (cIv.enc (Iv.hull x0 x1)) :=
  plain_of_tree (n := 200) (EnvOK.add s_iv_None (EnvOK.add s_iv_Of (EnvOK.add s_iv_both EnvOK.nil))) Try.func37 (args := [cIv.av x0, cIv.av x1]) (by simp only [AV.vals, Cod.av_val]) (Nat.le_of_ble_eq_true (by kernel_rfl)) LFn.nil cIv (by
    rw [t_iv_Hull]
    simp only [Tr.den]
    grind [Iv.hull])
theorem s_iv_Hull : Ev.Spec Try.prog 37 (F2 cIv cIv cIv Iv.hull) := spec2 (fun vs w => Try.call37 vs w) c_iv_Hull

/-! iv.Meet -/
theorem t_iv_Meet (x0 : Iv) (x1 : Iv) :
    evFn Try.prog (Env.add 66 (F0 cIv Iv.none) (Env.add 70 (F2 cInt cInt cIv Iv.of) (Env.add 89 (F2 cIv cIv cBool Iv.both) Env.nil))) Laws.nil 200 Try.f107 [cIv.av x0, cIv.av x1] [] cIv.dec =
      .bind (x0.both x1) fun vb0 =>
      .br (!vb0)
       (
        .bind (Go.Proofs.Ythgpgnijbajlgaa.Iv.none) fun viv1 =>
        .ret (viv1))
       (
        .bind (Go.Proofs.Ythgpgnijbajlgaa.Iv.of (Max.max x0.lo x1.lo) (Min.min x0.hi x1.hi)) fun viv2 =>
        .ret (viv2)) := by kernel_rfl
theorem c_iv_Meet (x0 : Iv) (x1 : Iv) : Plain Try.prog 107 [cIv.enc x0, cIv.enc x1] (cIv.enc (Iv.meet x0 x1)) :=
  plain_of_tree (n := 200) (EnvOK.add s_iv_None (EnvOK.add s_iv_Of (EnvOK.add s_iv_both EnvOK.nil))) Try.func107 (args := [cIv.av x0, cIv.av x1]) (by simp only [AV.vals, Cod.av_val]) (Nat.le_of_ble_eq_true (by kernel_rfl)) LFn.nil cIv (by
    rw [t_iv_Meet]
    simp only [Tr.den]
    grind [Iv.meet])
theorem s_iv_Meet : Ev.Spec Try.prog 107 (F2 cIv cIv cIv Iv.meet) := spec2 (fun vs w => Try.call107 vs w) c_iv_Meet

/-! iv.Mid -/
theorem t_iv_Mid (x0 : Iv) :
    evFn Try.prog (Env.add 91 (F1 cIv cBool Iv.right) Env.nil) Laws.nil 200 Try.f106 [cIv.av x0] [] cInt.dec =
      .bind (x0.right) fun vb0 =>
      .br (!vb0)
       (
        .ret (0))
       (
        .br (Decidable.decide (0 ≤ 1))
         (
          .ret ((Go.IntKind.i64.wrap (x0.lo + x0.hi)).fdiv (2 ^ Min.min (Int.toNat 1) 64)))
         (
          .fail)) := by kernel_rfl
theorem c_iv_Mid (x0 : Iv) : Plain Try.prog 106 [cIv.enc x0] (cInt.enc (Iv.mid x0)) :=
  plain_of_tree (n := 200) (EnvOK.add s_iv_Right EnvOK.nil) Try.func106 (args := [cIv.av x0]) (by simp only [AV.vals, Cod.av_val]) (Nat.le_of_ble_eq_true (by kernel_rfl)) LFn.nil cInt (by
    rw [t_iv_Mid]
    simp only [Iv.mid]
    cases h0 : x0.right
    · simp [Tr.den]
    have b0 := right_bd h0
    have e1 : IntKind.i64.wrap (x0.lo + x0.hi) = x0.lo + x0.hi := IntWalk.i64_in _ (by omega)
    simp only [Tr.den, e1, if_true]
    exact congrArg some (Int.fdiv_eq_ediv_of_nonneg _ (by decide)))
theorem s_iv_Mid : Ev.Spec Try.prog 106 (F1 cIv cInt Iv.mid) := spec1 (fun vs w => Try.call106 vs w) c_iv_Mid

/-! iv.Inside -/
theorem t_iv_Inside (x0 : Iv) (x1 : Iv) :
    evFn Try.prog (Env.add 89 (F2 cIv cIv cBool Iv.both) Env.nil) Laws.nil 200 Try.f60 [cIv.av x0, cIv.av x1] [] cBool.dec =
      .bind (x0.both x1) fun vb0 =>
      .br (vb0)
       (
        .br (Decidable.decide (x1.lo ≤ x0.lo))
         (
          .ret (Decidable.decide (x0.hi ≤ x1.hi)))
         (
          .ret (Bool.false)))
       (
        .ret (Bool.false)) := by kernel_rfl
theorem c_iv_Inside (x0 : Iv) (x1 : Iv) : Plain Try.prog 60 [cIv.enc x0, cIv.enc x1] (cBool.enc (Iv.inside x0 x1)) :=
  plain_of_tree (n := 200) (EnvOK.add s_iv_both EnvOK.nil) Try.func60 (args := [cIv.av x0, cIv.av x1]) (by simp only [AV.vals, Cod.av_val]) (Nat.le_of_ble_eq_true (by kernel_rfl)) LFn.nil cBool (by
    rw [t_iv_Inside]
    simp only [Tr.den]
    grind [Iv.inside])
theorem s_iv_Inside : Ev.Spec Try.prog 60 (F2 cIv cIv cBool Iv.inside) := spec2 (fun vs w => Try.call60 vs w) c_iv_Inside

/-! iv.Split -/
theorem t_iv_Split (x0 : Iv) :
    evFn Try.prog (Env.add 66 (F0 cIv Iv.none) (Env.add 70 (F2 cInt cInt cIv Iv.of) (Env.add 91 (F1 cIv cBool Iv.right) (Env.add 106 (F1 cIv cInt Iv.mid) Env.nil)))) Laws.nil 200 Try.f108 [cIv.av x0] [] (cTwo cIv cIv).dec =
      .bind (x0.right) fun vb0 =>
      .br (!vb0)
       (
        .bind (Go.Proofs.Ythgpgnijbajlgaa.Iv.none) fun viv1 =>
        .bind (Go.Proofs.Ythgpgnijbajlgaa.Iv.none) fun viv2 =>
        .ret ((viv1, viv2)))
       (
        .bind (x0.mid) fun vn3 =>
        .bind (Go.Proofs.Ythgpgnijbajlgaa.Iv.of x0.lo vn3) fun viv4 =>
        .bind (x0.mid) fun vn5 =>
        .bind (Go.Proofs.Ythgpgnijbajlgaa.Iv.of vn5 x0.hi) fun viv6 =>
        .ret ((viv4, viv6))) := by kernel_rfl
theorem c_iv_Split (x0 : Iv) : Plain Try.prog 108 [cIv.enc x0] ((cTwo cIv cIv).enc (Iv.split x0)) :=
  plain_of_tree (n := 200) (EnvOK.add s_iv_None (EnvOK.add s_iv_Of (EnvOK.add s_iv_Right (EnvOK.add s_iv_Mid EnvOK.nil)))) Try.func108 (args := [cIv.av x0]) (by simp only [AV.vals, Cod.av_val]) (Nat.le_of_ble_eq_true (by kernel_rfl)) LFn.nil (cTwo cIv cIv) (by
    rw [t_iv_Split]
    simp only [Tr.den]
    grind [Iv.split])
theorem s_iv_Split : Ev.Spec Try.prog 108 (F1 cIv (cTwo cIv cIv) Iv.split) := spec1 (fun vs w => Try.call108 vs w) c_iv_Split

/-! meniscushand.Pick -/
theorem t_meniscushand_Pick (x0 : Int) (x1 : Int) :
    evFn Try.prog Env.nil Laws.nil 200 Try.f22 [cInt.av x0, cInt.av x1] [] cInt.dec =
      .br (x1 != 0)
       (
        .br (Decidable.decide (x0.tmod x1 < 0))
         (
          .ret (Go.IntKind.i64.wrap (x0.tmod x1 + x1)))
         (
          .ret (x0.tmod x1)))
       (
        .fail) := by kernel_rfl
theorem c_meniscushand_Pick (x0 : Int) (x1 : Int) (h : pickOk x0 x1 = true) : Plain Try.prog 22 [cInt.enc x0, cInt.enc x1] (cInt.enc (pick x0 x1)) :=
  plain_of_tree (n := 200) EnvOK.nil Try.func22 (args := [cInt.av x0, cInt.av x1]) (by simp only [AV.vals, Cod.av_val]) (Nat.le_of_ble_eq_true (by kernel_rfl)) LFn.nil cInt (by
    rw [t_meniscushand_Pick]
    simp [pickOk] at h
    have p := tmod_pick x0 h.1
    have hne : (x1 != 0) = true := by simp; omega
    simp only [Tr.den, hne]
    by_cases hlt : x0.tmod x1 < 0
    · simp only [hlt, decide_true]
      rw [IntWalk.i64_in _ (by omega), p.1 hlt]
    · simp only [hlt, decide_false]
      rw [p.2.1 (by omega)])
theorem s_meniscushand_Pick : Ev.Spec Try.prog 22 (F2p cInt cInt cInt pickOk pick) := spec2p (fun vs w => Try.call22 vs w) c_meniscushand_Pick

/-! meniscusref1.In -/
theorem t_meniscusref1_In (x0 : Int) :
    evFn Try.prog Env.nil Laws.nil 200 Try.f134 [cInt.av x0] [] cBool.dec =
      .br (Decidable.decide (x0 ≥ -1073741824))
       (
        .ret (Decidable.decide (x0 ≤ 1073741824)))
       (
        .ret (Bool.false)) := by kernel_rfl
theorem c_meniscusref1_In (x0 : Int) : Plain Try.prog 134 [cInt.enc x0] (cBool.enc (numIn x0)) :=
  plain_of_tree (n := 200) EnvOK.nil Try.func134 (args := [cInt.av x0]) (by simp only [AV.vals, Cod.av_val]) (Nat.le_of_ble_eq_true (by kernel_rfl)) LFn.nil cBool (by
    rw [t_meniscusref1_In]
    simp only [Tr.den]
    grind [numIn])
theorem s_meniscusref1_In : Ev.Spec Try.prog 134 (F1 cInt cBool numIn) := spec1 (fun vs w => Try.call134 vs w) c_meniscusref1_In

/-! meniscusref1.told -/
theorem t_meniscusref1_told (x0 : Int) :
    evFn Try.prog (Env.add 134 (F1 cInt cBool numIn) Env.nil) Laws.nil 200 Try.f164 [cInt.av x0] [] (cTwo cInt cBool).dec =
      .bind (Go.Proofs.Ythgpgnijbajlgaa.numIn x0) fun vb0 =>
      .br (!vb0)
       (
        .ret ((0, Bool.false)))
       (
        .ret ((x0, Bool.true))) := by kernel_rfl
theorem c_meniscusref1_told (x0 : Int) : Plain Try.prog 164 [cInt.enc x0] ((cTwo cInt cBool).enc (toldN x0)) :=
  plain_of_tree (n := 200) (EnvOK.add s_meniscusref1_In EnvOK.nil) Try.func164 (args := [cInt.av x0]) (by simp only [AV.vals, Cod.av_val]) (Nat.le_of_ble_eq_true (by kernel_rfl)) LFn.nil (cTwo cInt cBool) (by
    rw [t_meniscusref1_told]
    simp only [den_br, den_bind, den_ret, den_fail, den_inl, den_inr, decide_eq_true_eq]
    grind [toldN])
theorem s_meniscusref1_told : Ev.Spec Try.prog 164 (F1 cInt (cTwo cInt cBool) toldN) := spec1 (fun vs w => Try.call164 vs w) c_meniscusref1_told

/-! meniscusref1.Floor -/
theorem t_meniscusref1_Floor (x0 : Int) (x1 : Int) :
    evFn Try.prog Env.nil Laws.nil 200 Try.f135 [cInt.av x0, cInt.av x1] [] cInt.dec =
      .br (x1 == 0)
       (
        .ret (0))
       (
        .br (x1 != 0)
         (
          .br (x1 != 0)
           (
            .br (x0.tmod x1 != 0)
             (
              .br (!Decidable.decide (x0.tmod x1 < 0) == Decidable.decide (x1 < 0))
               (
                .ret (Go.IntKind.i64.wrap (Go.IntKind.i64.wrap (x0.tdiv x1) - 1)))
               (
                .ret (Go.IntKind.i64.wrap (x0.tdiv x1))))
             (
              .ret (Go.IntKind.i64.wrap (x0.tdiv x1))))
           (
            .fail))
         (
          .fail)) := by kernel_rfl
theorem c_meniscusref1_Floor (x0 : Int) (x1 : Int) (h : flOk x0 x1 = true) : Plain Try.prog 135 [cInt.enc x0, cInt.enc x1] (cInt.enc (fl x0 x1)) :=
  plain_of_tree (n := 200) EnvOK.nil Try.func135 (args := [cInt.av x0, cInt.av x1]) (by simp only [AV.vals, Cod.av_val]) (Nat.le_of_ble_eq_true (by kernel_rfl)) LFn.nil cInt (by
    rw [t_meniscusref1_Floor]
    simp only [den_br, den_bind, den_ret, den_fail, den_inl, den_inr, decide_eq_true_eq]
    simp [flOk] at h
    by_cases hb : x1 = 0
    · subst hb; simp [fl]
    · have e := fl_tdiv x0 x1 hb
      have hw := tdiv_bd (a := x0) (b := x1) (by omega) (by omega)
      have e1 : IntKind.i64.wrap (x0.tdiv x1) = x0.tdiv x1 := wr (by omega)
      have e2 : IntKind.i64.wrap (x0.tdiv x1 - 1) = x0.tdiv x1 - 1 := wr (by omega)
      rw [e]
      by_cases hm : x0.tmod x1 = 0
      · simp [hb, hm, e1]
      · have hs := tmod_sign hm
        simp only [e1, e2, hs]
        cases hd : decide (x0 < 0) <;> cases hd2 : decide (x1 < 0) <;> simp [hb, hm])
theorem s_meniscusref1_Floor : Ev.Spec Try.prog 135 (F2p cInt cInt cInt flOk fl) := spec2p (fun vs w => Try.call135 vs w) c_meniscusref1_Floor

/-! meniscusref1.Ceil -/
theorem t_meniscusref1_Ceil (x0 : Int) (x1 : Int) :
    evFn Try.prog (Env.add 135 (F2p cInt cInt cInt flOk fl) Env.nil) Laws.nil 200 Try.f147 [cInt.av x0, cInt.av x1] [] cInt.dec =
      .br (Go.Proofs.Ythgpgnijbajlgaa.flOk x0 x1)
       (
        .bind (Go.Proofs.Ythgpgnijbajlgaa.fl x0 x1) fun vn0 =>
        .br (Go.IntKind.i64.wrap (vn0 * x1) != x0)
         (
          .ret (Go.IntKind.i64.wrap (vn0 + 1)))
         (
          .ret (vn0)))
       (
        .fail) := by kernel_rfl
theorem c_meniscusref1_Ceil (x0 : Int) (x1 : Int) (h : clOk x0 x1 = true) : Plain Try.prog 147 [cInt.enc x0, cInt.enc x1] (cInt.enc (cl x0 x1)) :=
  plain_of_tree (n := 200) (EnvOK.add s_meniscusref1_Floor EnvOK.nil) Try.func147 (args := [cInt.av x0, cInt.av x1]) (by simp only [AV.vals, Cod.av_val]) (Nat.le_of_ble_eq_true (by kernel_rfl)) LFn.nil cInt (by
    rw [t_meniscusref1_Ceil]
    simp only [den_br, den_bind, den_ret, den_fail, den_inl, den_inr, decide_eq_true_eq]
    have e1 := wr (fl_mul_bd h)
    have e2 : IntKind.i64.wrap (fl x0 x1 + 1) = fl x0 x1 + 1 := wr (by have := fl_bd (clOk_fl h); omega)
    simp only [clOk_fl h, e1, e2, if_true, cl]
    by_cases hh : fl x0 x1 * x1 = x0 <;> simp [hh])
theorem s_meniscusref1_Ceil : Ev.Spec Try.prog 147 (F2p cInt cInt cInt clOk cl) := spec2p (fun vs w => Try.call147 vs w) c_meniscusref1_Ceil

/-! meniscusref1.Mul -/
theorem t_meniscusref1_Mul (x0 : Int) (x1 : Int) (x2 : Bool) :
    evFn Try.prog (Env.add 134 (F1 cInt cBool numIn) (Env.add 135 (F2p cInt cInt cInt flOk fl) (Env.add 147 (F2p cInt cInt cInt clOk cl) (Env.add 164 (F1 cInt (cTwo cInt cBool) toldN) Env.nil)))) Laws.nil 200 Try.f148 [cInt.av x0, cInt.av x1, cBool.av x2] [] (cTwo cInt cBool).dec =
      .bind (Go.Proofs.Ythgpgnijbajlgaa.numIn x0) fun vb0 =>
      .br (!vb0)
       (
        .ret ((0, Bool.false)))
       (
        .bind (Go.Proofs.Ythgpgnijbajlgaa.numIn x1) fun vb1 =>
        .br (!vb1)
         (
          .ret ((0, Bool.false)))
         (
          .br (x2)
           (
            .br (Go.Proofs.Ythgpgnijbajlgaa.clOk (Go.IntKind.i64.wrap (x0 * x1)) 65536)
             (
              .bind (Go.Proofs.Ythgpgnijbajlgaa.cl (Go.IntKind.i64.wrap (x0 * x1)) 65536) fun vn2 =>
              .bind (Go.Proofs.Ythgpgnijbajlgaa.toldN vn2) fun vy3 =>
              .ret (vy3))
             (
              .fail))
           (
            .br (Go.Proofs.Ythgpgnijbajlgaa.flOk (Go.IntKind.i64.wrap (x0 * x1)) 65536)
             (
              .bind (Go.Proofs.Ythgpgnijbajlgaa.fl (Go.IntKind.i64.wrap (x0 * x1)) 65536) fun vn4 =>
              .bind (Go.Proofs.Ythgpgnijbajlgaa.toldN vn4) fun vy5 =>
              .ret (vy5))
             (
              .fail)))) := by kernel_rfl
theorem c_meniscusref1_Mul (x0 : Int) (x1 : Int) (x2 : Bool) : Plain Try.prog 148 [cInt.enc x0, cInt.enc x1, cBool.enc x2] ((cTwo cInt cBool).enc (numMul x0 x1 x2)) :=
  plain_of_tree (n := 200) (EnvOK.add s_meniscusref1_In (EnvOK.add s_meniscusref1_Floor (EnvOK.add s_meniscusref1_Ceil (EnvOK.add s_meniscusref1_told EnvOK.nil)))) Try.func148 (args := [cInt.av x0, cInt.av x1, cBool.av x2]) (by simp only [AV.vals, Cod.av_val]) (Nat.le_of_ble_eq_true (by kernel_rfl)) LFn.nil (cTwo cInt cBool) (by
    rw [t_meniscusref1_Mul]
    simp only [den_br, den_bind, den_ret, den_fail, den_inl, den_inr, decide_eq_true_eq]
    simp only [numMul, rnd]
    cases h0 : numIn x0 <;> cases h1 : numIn x1 <;> simp
    have hm := mul_bd x0 x1 h0 h1
    have e1 : IntKind.i64.wrap (x0 * x1) = x0 * x1 := wr (by omega)
    have c1 : clOk (x0 * x1) 65536 = true := by simp [clOk]; omega
    simp only [e1, c1, clOk_fl c1, if_true, toldN, cl]
    cases x2 <;> simp)
theorem s_meniscusref1_Mul : Ev.Spec Try.prog 148 (F3 cInt cInt cBool (cTwo cInt cBool) numMul) := spec3 (fun vs w => Try.call148 vs w) c_meniscusref1_Mul

/-! meniscusref1.Div -/
theorem t_meniscusref1_Div (x0 : Int) (x1 : Int) (x2 : Bool) :
    evFn Try.prog (Env.add 134 (F1 cInt cBool numIn) (Env.add 135 (F2p cInt cInt cInt flOk fl) (Env.add 147 (F2p cInt cInt cInt clOk cl) (Env.add 164 (F1 cInt (cTwo cInt cBool) toldN) Env.nil)))) Laws.nil 200 Try.f151 [cInt.av x0, cInt.av x1, cBool.av x2] [] (cTwo cInt cBool).dec =
      .bind (Go.Proofs.Ythgpgnijbajlgaa.numIn x0) fun vb0 =>
      .br (!vb0)
       (
        .ret ((0, Bool.false)))
       (
        .bind (Go.Proofs.Ythgpgnijbajlgaa.numIn x1) fun vb1 =>
        .br (!vb1)
         (
          .ret ((0, Bool.false)))
         (
          .br (x1 == 0)
           (
            .ret ((0, Bool.false)))
           (
            .br (x2)
             (
              .br (Go.Proofs.Ythgpgnijbajlgaa.clOk (Go.IntKind.i64.wrap (x0 * 65536)) x1)
               (
                .bind (Go.Proofs.Ythgpgnijbajlgaa.cl (Go.IntKind.i64.wrap (x0 * 65536)) x1) fun vn2 =>
                .bind (Go.Proofs.Ythgpgnijbajlgaa.toldN vn2) fun vy3 =>
                .ret (vy3))
               (
                .fail))
             (
              .br (Go.Proofs.Ythgpgnijbajlgaa.flOk (Go.IntKind.i64.wrap (x0 * 65536)) x1)
               (
                .bind (Go.Proofs.Ythgpgnijbajlgaa.fl (Go.IntKind.i64.wrap (x0 * 65536)) x1) fun vn4 =>
                .bind (Go.Proofs.Ythgpgnijbajlgaa.toldN vn4) fun vy5 =>
                .ret (vy5))
               (
                .fail))))) := by kernel_rfl
theorem c_meniscusref1_Div (x0 : Int) (x1 : Int) (x2 : Bool) : Plain Try.prog 151 [cInt.enc x0, cInt.enc x1, cBool.enc x2] ((cTwo cInt cBool).enc (numDiv x0 x1 x2)) :=
  plain_of_tree (n := 200) (EnvOK.add s_meniscusref1_In (EnvOK.add s_meniscusref1_Floor (EnvOK.add s_meniscusref1_Ceil (EnvOK.add s_meniscusref1_told EnvOK.nil)))) Try.func151 (args := [cInt.av x0, cInt.av x1, cBool.av x2]) (by simp only [AV.vals, Cod.av_val]) (Nat.le_of_ble_eq_true (by kernel_rfl)) LFn.nil (cTwo cInt cBool) (by
    rw [t_meniscusref1_Div]
    simp only [den_br, den_bind, den_ret, den_fail, den_inl, den_inr, decide_eq_true_eq]
    simp only [numDiv, rnd]
    cases h0 : numIn x0 <;> cases h1 : numIn x1 <;> simp
    have b0 := numIn_iff.1 h0
    have b1 := numIn_iff.1 h1
    have e1 : IntKind.i64.wrap (x0 * 65536) = x0 * 65536 := wr (by omega)
    have c1 : clOk (x0 * 65536) x1 = true := by simp [clOk]; omega
    simp only [e1, c1, clOk_fl c1, if_true, toldN, cl]
    by_cases hz : x1 = 0 <;> simp [hz]
    cases x2 <;> simp)
theorem s_meniscusref1_Div : Ev.Spec Try.prog 151 (F3 cInt cInt cBool (cTwo cInt cBool) numDiv) := spec3 (fun vs w => Try.call151 vs w) c_meniscusref1_Div

/-! meniscusref1.Root -/
theorem tl_meniscusref1_Root_6 (t1 : Bool) (t6 : Int) (t7 : Int) (t8 : Int) :
    ev Try.prog (Env.add 134 (F1 cInt cBool numIn) (Env.add 164 (F1 cInt (cTwo cInt cBool) toldN) Env.nil)) Laws.nil 200 none (loopAt Try.f165 6) ((sc 48 [1, 6, 7, 8] (tCod 1 cBool (tCod 6 cInt (tCod 7 cInt (tCod 8 cInt tNil)))) rNil).enc ((t1, t6, t7, t8, ()), (()))) (backK (sc 48 [1, 6, 7, 8] (tCod 1 cBool (tCod 6 cInt (tCod 7 cInt (tCod 8 cInt tNil)))) rNil) (ocExit 0 (sc 48 [1, 6, 7] (tCod 1 cBool (tCod 6 cInt (tCod 7 cInt tNil))) rNil))) =
      .br (Decidable.decide (t8 ≥ 0))
       (
        .br (Decidable.decide (0 ≤ Go.IntKind.u64.wrap t8))
         (
          .br (Decidable.decide (Go.IntKind.i64.wrap (Go.IntKind.i64.wrap (t7 + Go.IntKind.i64.wrap (1 * 2 ^ Min.min (Go.IntKind.u64.wrap t8).toNat 64)) * Go.IntKind.i64.wrap (t7 + Go.IntKind.i64.wrap (1 * 2 ^ Min.min (Go.IntKind.u64.wrap t8).toNat 64))) ≤ t6))
           (
            .ret (Sum.inl ((t1, t6, Go.IntKind.i64.wrap (t7 + Go.IntKind.i64.wrap (1 * 2 ^ Min.min (Go.IntKind.u64.wrap t8).toNat 64)), Go.IntKind.i64.wrap (t8 - 1), ()), ())))
           (
            .ret (Sum.inl ((t1, t6, t7, Go.IntKind.i64.wrap (t8 - 1), ()), ()))))
         (
          .fail))
       (
        .ret (Sum.inr ((t1, t6, t7, ()), ()))) := by kernel_rfl
theorem ok_meniscusref1_Root_6 : LOK Try.prog (LoopR.of (sc 48 [1, 6, 7, 8] (tCod 1 cBool (tCod 6 cInt (tCod 7 cInt (tCod 8 cInt tNil)))) rNil) (ocExit 0 (sc 48 [1, 6, 7] (tCod 1 cBool (tCod 6 cInt (tCod 7 cInt tNil))) rNil)) rootRun2) (loopAt Try.f165 6) := by
  refine loop_ok (EnvOK.add s_meniscusref1_In (EnvOK.add s_meniscusref1_told EnvOK.nil)) (LFn.at (fn := Try.f165) LFn.nil 6) rootStep2 (n := 200) (fun x z h => ?_) rootRun2_ok
  obtain ⟨⟨t1, t6, t7, t8, ⟨⟩⟩, ⟨⟩⟩ := x
  rw [tl_meniscusref1_Root_6]
  rw [← h]
  simp only [den_br, den_bind, den_ret, den_fail, den_inl, den_inr, decide_eq_true_eq]
  simp only [rootStep2, rootPow]
  by_cases h0 : 0 ≤ t8 <;> simp only [h0, if_true, if_false]
  by_cases h1 : 0 ≤ IntKind.u64.wrap t8 <;> simp only [h1, if_true, if_false]
  split <;> rename_i hh <;> simp only [hh, if_true, if_false]
theorem t_meniscusref1_Root (x0 : Int) (x1 : Bool) :
    evFn Try.prog (Env.add 134 (F1 cInt cBool numIn) (Env.add 164 (F1 cInt (cTwo cInt cBool) toldN) Env.nil)) (Laws.add 6 (LoopR.of (sc 48 [1, 6, 7, 8] (tCod 1 cBool (tCod 6 cInt (tCod 7 cInt (tCod 8 cInt tNil)))) rNil) (ocExit 0 (sc 48 [1, 6, 7] (tCod 1 cBool (tCod 6 cInt (tCod 7 cInt tNil))) rNil)) rootRun2) Laws.nil) 200 Try.f165 [cInt.av x0, cBool.av x1] [] (cTwo cInt cBool).dec =
      .bind (Go.Proofs.Ythgpgnijbajlgaa.numIn x0) fun vb0 =>
      .br (!vb0)
       (
        .ret ((0, Bool.false)))
       (
        .br (Decidable.decide (x0 < 0))
         (
          .ret ((0, Bool.false)))
         (
          .get (Go.Proofs.Ythgpgnijbajlgaa.rootRun2 ((x1, Go.IntKind.i64.wrap (x0 * 65536), 0, 23, ()), ())) fun vy1 =>
          .br (vy1.fst.fst)
           (
            .br (Go.IntKind.i64.wrap (vy1.fst.snd.snd.fst * vy1.fst.snd.snd.fst) != vy1.fst.snd.fst)
             (
              .bind (Go.Proofs.Ythgpgnijbajlgaa.toldN (Go.IntKind.i64.wrap (vy1.fst.snd.snd.fst + 1))) fun vy2 =>
              .ret (vy2))
             (
              .bind (Go.Proofs.Ythgpgnijbajlgaa.toldN vy1.fst.snd.snd.fst) fun vy3 =>
              .ret (vy3)))
           (
            .bind (Go.Proofs.Ythgpgnijbajlgaa.toldN vy1.fst.snd.snd.fst) fun vy4 =>
            .ret (vy4)))) := by kernel_rfl
theorem c_meniscusref1_Root (x0 : Int) (x1 : Bool) : Plain Try.prog 165 [cInt.enc x0, cBool.enc x1] ((cTwo cInt cBool).enc (numRoot x0 x1)) :=
  plain_of_tree (n := 200) (EnvOK.add s_meniscusref1_In (EnvOK.add s_meniscusref1_told EnvOK.nil)) Try.func165 (args := [cInt.av x0, cBool.av x1]) (by simp only [AV.vals, Cod.av_val]) (Nat.le_of_ble_eq_true (by kernel_rfl)) (LFn.add (fn := Try.f165) (i := 6) (by kernel_rfl) ok_meniscusref1_Root_6 LFn.nil) (cTwo cInt cBool) (by
    rw [t_meniscusref1_Root]
    simp only [den_br, den_bind, den_ret, den_fail, den_inl, den_inr, decide_eq_true_eq]
    simp only [numRoot]
    by_cases h0 : x0 < 0
    · simp [h0]
    cases h1 : numIn x0
    · simp
    have b := numIn_iff.1 h1
    have e1 : IntKind.i64.wrap (x0 * 65536) = x0 * 65536 := wr (by omega)
    have s := isqrt_spec (n := x0 * 65536) (by omega) (by omega)
    have l := isqrt_le (n := x0 * 65536) (m := 8388608) (by omega) (by omega) (by omega) (by omega)
    have hr : rootRun2 ((x1, IntKind.i64.wrap (x0 * 65536), 0, 23, ()), ()) = some ((x1, x0 * 65536, isqrt (x0 * 65536), ()), ()) := by
      rw [e1]; exact if_pos ⟨⟨rfl, rfl⟩, by omega, by omega⟩
    rw [hr]
    have e2 : IntKind.i64.wrap (isqrt (x0 * 65536) * isqrt (x0 * 65536)) = isqrt (x0 * 65536) * isqrt (x0 * 65536) := wr (by have := Int.mul_nonneg s.1 s.1; omega)
    have e3 : IntKind.i64.wrap (isqrt (x0 * 65536) + 1) = isqrt (x0 * 65536) + 1 := wr (by omega)
    have t1 : toldN (isqrt (x0 * 65536)) = (isqrt (x0 * 65536), true) := if_pos (numIn_iff.2 (by omega))
    have t2 : toldN (isqrt (x0 * 65536) + 1) = (isqrt (x0 * 65536) + 1, true) := if_pos (numIn_iff.2 (by omega))
    have k1 : (isqrt (x0 * 65536) * isqrt (x0 * 65536) ≠ x0 * 65536) ↔ isqrt (x0 * 65536) * isqrt (x0 * 65536) < x0 * 65536 := by omega
    simp only [den_get, den_br, den_bind, den_ret, e2, e3, h0, t1, t2]
    cases x1 <;> simp [t1, t2]
    by_cases hh : isqrt (x0 * 65536) * isqrt (x0 * 65536) = x0 * 65536 <;> simp [hh, t1, t2]
    omega)
theorem s_meniscusref1_Root : Ev.Spec Try.prog 165 (F2 cInt cBool (cTwo cInt cBool) numRoot) := spec2 (fun vs w => Try.call165 vs w) c_meniscusref1_Root

/-! meniscusref1.Right -/
theorem t_meniscusref1_Right (x0 : Iv) :
    evFn Try.prog (Env.add 134 (F1 cInt cBool numIn) Env.nil) Laws.nil 200 Try.f110 [cIv.av x0] [] cBool.dec =
      .br (!x0.no)
       (
        .bind (Go.Proofs.Ythgpgnijbajlgaa.numIn x0.lo) fun vb0 =>
        .br (vb0)
         (
          .bind (Go.Proofs.Ythgpgnijbajlgaa.numIn x0.hi) fun vb1 =>
          .br (vb1)
           (
            .ret (Decidable.decide (x0.lo ≤ x0.hi)))
           (
            .ret (Bool.false)))
         (
          .ret (Bool.false)))
       (
        .ret (Bool.false)) := by kernel_rfl
theorem c_meniscusref1_Right (x0 : Iv) : Plain Try.prog 110 [cIv.enc x0] (cBool.enc (Iv.right x0)) :=
  plain_of_tree (n := 200) (EnvOK.add s_meniscusref1_In EnvOK.nil) Try.func110 (args := [cIv.av x0]) (by simp only [AV.vals, Cod.av_val]) (Nat.le_of_ble_eq_true (by kernel_rfl)) LFn.nil cBool (by
    rw [t_meniscusref1_Right]
    simp only [Tr.den]
    grind [Iv.right])
theorem s_meniscusref1_Right : Ev.Spec Try.prog 110 (F1 cIv cBool Iv.right) := spec1 (fun vs w => Try.call110 vs w) c_meniscusref1_Right

/-! meniscusref1.None -/
theorem t_meniscusref1_None  :
    evFn Try.prog Env.nil Laws.nil 200 Try.f111 [] [] cIv.dec =
      .ret (Go.Proofs.Ythgpgnijbajlgaa.Iv.mk 0 0 Bool.true) := by kernel_rfl
theorem c_meniscusref1_None  : Plain Try.prog 111 [] (cIv.enc (Iv.none)) :=
  plain_of_tree (n := 200) EnvOK.nil Try.func111 (args := []) rfl (Nat.le_of_ble_eq_true (by kernel_rfl)) LFn.nil cIv (by
    rw [t_meniscusref1_None]
    rfl)
theorem s_meniscusref1_None : Ev.Spec Try.prog 111 (F0 cIv Iv.none) := spec0 (fun vs w => Try.call111 vs w) c_meniscusref1_None

/-! meniscusref1.Of -/
theorem t_meniscusref1_Of (x0 : Int) (x1 : Int) :
    evFn Try.prog (Env.add 110 (F1 cIv cBool Iv.right) (Env.add 111 (F0 cIv Iv.none) Env.nil)) Laws.nil 200 Try.f132 [cInt.av x0, cInt.av x1] [] cIv.dec =
      .bind ((Go.Proofs.Ythgpgnijbajlgaa.Iv.mk x0 x1 Bool.false).right) fun vb0 =>
      .br (!vb0)
       (
        .bind (Go.Proofs.Ythgpgnijbajlgaa.Iv.none) fun viv1 =>
        .ret (viv1))
       (
        .ret (Go.Proofs.Ythgpgnijbajlgaa.Iv.mk x0 x1 Bool.false)) := by kernel_rfl
theorem c_meniscusref1_Of (x0 : Int) (x1 : Int) : Plain Try.prog 132 [cInt.enc x0, cInt.enc x1] (cIv.enc (Iv.of x0 x1)) :=
  plain_of_tree (n := 200) (EnvOK.add s_meniscusref1_Right (EnvOK.add s_meniscusref1_None EnvOK.nil)) Try.func132 (args := [cInt.av x0, cInt.av x1]) (by simp only [AV.vals, Cod.av_val]) (Nat.le_of_ble_eq_true (by kernel_rfl)) LFn.nil cIv (by
    rw [t_meniscusref1_Of]
    simp only [Tr.den]
    grind [Iv.of])
theorem s_meniscusref1_Of : Ev.Spec Try.prog 132 (F2 cInt cInt cIv Iv.of) := spec2 (fun vs w => Try.call132 vs w) c_meniscusref1_Of

/-! meniscusref1.Point -/
theorem t_meniscusref1_Point (x0 : Int) :
    evFn Try.prog (Env.add 132 (F2 cInt cInt cIv Iv.of) Env.nil) Laws.nil 200 Try.f97 [cInt.av x0] [] cIv.dec =
      .bind (Go.Proofs.Ythgpgnijbajlgaa.Iv.of x0 x0) fun viv0 =>
      .ret (viv0) := by kernel_rfl
theorem c_meniscusref1_Point (x0 : Int) : Plain Try.prog 97 [cInt.enc x0] (cIv.enc (Iv.point x0)) :=
  plain_of_tree (n := 200) (EnvOK.add s_meniscusref1_Of EnvOK.nil) Try.func97 (args := [cInt.av x0]) (by simp only [AV.vals, Cod.av_val]) (Nat.le_of_ble_eq_true (by kernel_rfl)) LFn.nil cIv (by
    rw [t_meniscusref1_Point]
    simp only [Tr.den]
    grind [Iv.point])
theorem s_meniscusref1_Point : Ev.Spec Try.prog 97 (F1 cInt cIv Iv.point) := spec1 (fun vs w => Try.call97 vs w) c_meniscusref1_Point

/-! meniscusref1.Whole -/
theorem t_meniscusref1_Whole (x0 : Int) :
    evFn Try.prog (Env.add 97 (F1 cInt cIv Iv.point) (Env.add 111 (F0 cIv Iv.none) (Env.add 134 (F1 cInt cBool numIn) Env.nil))) Laws.nil 200 Try.f154 [cInt.av x0] [] cIv.dec =
      .bind (Go.Proofs.Ythgpgnijbajlgaa.numIn x0) fun vb0 =>
      .br (!vb0)
       (
        .bind (Go.Proofs.Ythgpgnijbajlgaa.Iv.none) fun viv1 =>
        .ret (viv1))
       (
        .bind (Go.Proofs.Ythgpgnijbajlgaa.Iv.point (Go.IntKind.i64.wrap (x0 * 65536))) fun viv2 =>
        .ret (viv2)) := by kernel_rfl
theorem c_meniscusref1_Whole (x0 : Int) : Plain Try.prog 154 [cInt.enc x0] (cIv.enc (Iv.whole x0)) :=
  plain_of_tree (n := 200) (EnvOK.add s_meniscusref1_Point (EnvOK.add s_meniscusref1_None (EnvOK.add s_meniscusref1_In EnvOK.nil))) Try.func154 (args := [cInt.av x0]) (by simp only [AV.vals, Cod.av_val]) (Nat.le_of_ble_eq_true (by kernel_rfl)) LFn.nil cIv (by
    rw [t_meniscusref1_Whole]
    simp only [Tr.den, Iv.whole]
    cases h0 : numIn x0 <;> simp
    have b0 := numIn_iff.1 h0
    simp (disch := omega) only [IntWalk.i64_in])
theorem s_meniscusref1_Whole : Ev.Spec Try.prog 154 (F1 cInt cIv Iv.whole) := spec1 (fun vs w => Try.call154 vs w) c_meniscusref1_Whole

/-! meniscusref1.Add -/
theorem t_meniscusref1_Add (x0 : Iv) (x1 : Iv) :
    evFn Try.prog (Env.add 110 (F1 cIv cBool Iv.right) (Env.add 111 (F0 cIv Iv.none) (Env.add 132 (F2 cInt cInt cIv Iv.of) Env.nil))) Laws.nil 200 Try.f100 [cIv.av x0, cIv.av x1] [] cIv.dec =
      .bind (x0.right) fun vb0 =>
      .br (!vb0)
       (
        .bind (Go.Proofs.Ythgpgnijbajlgaa.Iv.none) fun viv1 =>
        .ret (viv1))
       (
        .bind (x1.right) fun vb2 =>
        .br (!vb2)
         (
          .bind (Go.Proofs.Ythgpgnijbajlgaa.Iv.none) fun viv3 =>
          .ret (viv3))
         (
          .bind (Go.Proofs.Ythgpgnijbajlgaa.Iv.of (Go.IntKind.i64.wrap (x0.lo + x1.lo)) (Go.IntKind.i64.wrap (x0.hi + x1.hi))) fun viv4 =>
          .ret (viv4))) := by kernel_rfl
theorem c_meniscusref1_Add (x0 : Iv) (x1 : Iv) : Plain Try.prog 100 [cIv.enc x0, cIv.enc x1] (cIv.enc (Iv.add x0 x1)) :=
  plain_of_tree (n := 200) (EnvOK.add s_meniscusref1_Right (EnvOK.add s_meniscusref1_None (EnvOK.add s_meniscusref1_Of EnvOK.nil))) Try.func100 (args := [cIv.av x0, cIv.av x1]) (by simp only [AV.vals, Cod.av_val]) (Nat.le_of_ble_eq_true (by kernel_rfl)) LFn.nil cIv (by
    rw [t_meniscusref1_Add]
    simp only [den_br, den_bind, den_ret, den_fail, den_inl, den_inr, decide_eq_true_eq]
    by_cases h0 : x0.right = true <;> by_cases h1 : x1.right = true <;> simp [Iv.add, Iv.both, h0, h1]
    have b0 := right_bd h0
    have b1 := right_bd h1
    simp (disch := omega) only [IntWalk.i64_in])
theorem s_meniscusref1_Add : Ev.Spec Try.prog 100 (F2 cIv cIv cIv Iv.add) := spec2 (fun vs w => Try.call100 vs w) c_meniscusref1_Add
end Go.Proofs.Ythgpgnijbajlgaa
