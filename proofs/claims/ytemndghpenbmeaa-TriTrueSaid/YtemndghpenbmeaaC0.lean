/-
  Contracts of calls, written by a small program of this session out of the evaluator's trees.
-/
import Derived.Test.YtemndghpenbmeaaEvCod
import Derived.Test.YtemndghpenbmeaaProg
namespace Go.Proofs.Ytemndghpenbmeaa
open Go Go.RowKit Ev
set_option maxRecDepth 100000
set_option linter.unusedVariables false
set_option linter.unusedSimpArgs false

/-! num.In -/
theorem t_num_In (x0 : Int) :
    evFn Try.prog Env.nil 200 Try.f31 [cInt.av x0] [] cBool.dec =
      .br (Decidable.decide (x0 ≥ -1073741824))
       (
        .ret (Decidable.decide (x0 ≤ 1073741824)))
       (
        .ret (Bool.false)) := by kernel_rfl
theorem c_num_In (x0 : Int) : Plain Try.prog 31 [cInt.enc x0] (cBool.enc (numIn x0)) :=
  plain_of_tree (n := 200) EnvOK.nil Try.func31 (args := [cInt.av x0]) (by simp only [AV.vals, Cod.av_val]) (Nat.le_of_ble_eq_true (by kernel_rfl)) cBool (by
    rw [t_num_In]
    simp only [Tr.den]
    grind [numIn])
theorem s_num_In : Ev.Spec Try.prog 31 (F1 cInt cBool numIn) := spec1 (fun vs w => Try.call31 vs w) c_num_In

/-! iv.Right -/
theorem t_iv_Right (x0 : Iv) :
    evFn Try.prog (Env.add 31 (F1 cInt cBool numIn) Env.nil) 200 Try.f27 [cIv.av x0] [] cBool.dec =
      .br (!x0.no)
       (
        .bind (Go.Proofs.Ytemndghpenbmeaa.numIn x0.lo) fun b0 =>
        .br (b0)
         (
          .bind (Go.Proofs.Ytemndghpenbmeaa.numIn x0.hi) fun b1 =>
          .br (b1)
           (
            .ret (Decidable.decide (x0.lo ≤ x0.hi)))
           (
            .ret (Bool.false)))
         (
          .ret (Bool.false)))
       (
        .ret (Bool.false)) := by kernel_rfl
theorem c_iv_Right (x0 : Iv) : Plain Try.prog 27 [cIv.enc x0] (cBool.enc (Iv.right x0)) :=
  plain_of_tree (n := 200) (EnvOK.add s_num_In EnvOK.nil) Try.func27 (args := [cIv.av x0]) (by simp only [AV.vals, Cod.av_val]) (Nat.le_of_ble_eq_true (by kernel_rfl)) cBool (by
    rw [t_iv_Right]
    simp only [Tr.den]
    grind [Iv.right])
theorem s_iv_Right : Ev.Spec Try.prog 27 (F1 cIv cBool Iv.right) := spec1 (fun vs w => Try.call27 vs w) c_iv_Right

/-! iv.None -/
theorem t_iv_None  :
    evFn Try.prog Env.nil 200 Try.f18 [] [] cIv.dec =
      .ret (Go.Proofs.Ytemndghpenbmeaa.Iv.mk 0 0 Bool.true) := by kernel_rfl
theorem c_iv_None  : Plain Try.prog 18 [] (cIv.enc (Iv.none)) :=
  plain_of_tree (n := 200) EnvOK.nil Try.func18 (args := []) rfl (Nat.le_of_ble_eq_true (by kernel_rfl)) cIv (by
    rw [t_iv_None]
    simp only [Tr.den]
    rfl)
theorem s_iv_None : Ev.Spec Try.prog 18 (F0 cIv Iv.none) := spec0 (fun vs w => Try.call18 vs w) c_iv_None

/-! iv.Of -/
theorem t_iv_Of (x0 : Int) (x1 : Int) :
    evFn Try.prog (Env.add 18 (F0 cIv Iv.none) (Env.add 27 (F1 cIv cBool Iv.right) Env.nil)) 200 Try.f17 [cInt.av x0, cInt.av x1] [] cIv.dec =
      .bind ((Go.Proofs.Ytemndghpenbmeaa.Iv.mk x0 x1 Bool.false).right) fun b0 =>
      .br (!b0)
       (
        .bind (Go.Proofs.Ytemndghpenbmeaa.Iv.none) fun iv1 =>
        .ret (iv1))
       (
        .ret (Go.Proofs.Ytemndghpenbmeaa.Iv.mk x0 x1 Bool.false)) := by kernel_rfl
theorem c_iv_Of (x0 : Int) (x1 : Int) : Plain Try.prog 17 [cInt.enc x0, cInt.enc x1] (cIv.enc (Iv.of x0 x1)) :=
  plain_of_tree (n := 200) (EnvOK.add s_iv_None (EnvOK.add s_iv_Right EnvOK.nil)) Try.func17 (args := [cInt.av x0, cInt.av x1]) (by simp only [AV.vals, Cod.av_val]) (Nat.le_of_ble_eq_true (by kernel_rfl)) cIv (by
    rw [t_iv_Of]
    simp only [Tr.den]
    grind [Iv.of])
theorem s_iv_Of : Ev.Spec Try.prog 17 (F2 cInt cInt cIv Iv.of) := spec2 (fun vs w => Try.call17 vs w) c_iv_Of

/-! tri.told -/
theorem t_tri_told (x0 : Bool) (x1 : Bool) :
    evFn Try.prog Env.nil 200 Try.f28 [cBool.av x0, cBool.av x1] [] cInt.dec =
      .br (x0)
       (
        .ret (1))
       (
        .br (x1)
         (
          .ret (2))
         (
          .ret (0))) := by kernel_rfl
theorem c_tri_told (x0 : Bool) (x1 : Bool) : Plain Try.prog 28 [cBool.enc x0, cBool.enc x1] (cInt.enc (told x0 x1)) :=
  plain_of_tree (n := 200) EnvOK.nil Try.func28 (args := [cBool.av x0, cBool.av x1]) (by simp only [AV.vals, Cod.av_val]) (Nat.le_of_ble_eq_true (by kernel_rfl)) cInt (by
    rw [t_tri_told]
    simp only [Tr.den]
    grind [told])
theorem s_tri_told : Ev.Spec Try.prog 28 (F2 cBool cBool cInt told) := spec2 (fun vs w => Try.call28 vs w) c_tri_told

/-! tri.Less -/
theorem t_tri_Less (x0 : Iv) (x1 : Iv) :
    evFn Try.prog (Env.add 27 (F1 cIv cBool Iv.right) (Env.add 28 (F2 cBool cBool cInt told) Env.nil)) 200 Try.f11 [cIv.av x0, cIv.av x1] [] cInt.dec =
      .bind (x0.right) fun b0 =>
      .br (!b0)
       (
        .ret (0))
       (
        .bind (x1.right) fun b1 =>
        .br (!b1)
         (
          .ret (0))
         (
          .bind (Go.Proofs.Ytemndghpenbmeaa.told (Decidable.decide (x0.hi < x1.lo)) (Decidable.decide (x0.lo ≥ x1.hi))) fun n2 =>
          .ret (n2))) := by kernel_rfl
theorem c_tri_Less (x0 : Iv) (x1 : Iv) : Plain Try.prog 11 [cIv.enc x0, cIv.enc x1] (cInt.enc (less x0 x1)) :=
  plain_of_tree (n := 200) (EnvOK.add s_iv_Right (EnvOK.add s_tri_told EnvOK.nil)) Try.func11 (args := [cIv.av x0, cIv.av x1]) (by simp only [AV.vals, Cod.av_val]) (Nat.le_of_ble_eq_true (by kernel_rfl)) cInt (by
    rw [t_tri_Less]
    simp only [Tr.den]
    grind [less])
theorem s_tri_Less : Ev.Spec Try.prog 11 (F2 cIv cIv cInt less) := spec2 (fun vs w => Try.call11 vs w) c_tri_Less

/-! tri.NotAbove -/
theorem t_tri_NotAbove (x0 : Iv) (x1 : Iv) :
    evFn Try.prog (Env.add 27 (F1 cIv cBool Iv.right) (Env.add 28 (F2 cBool cBool cInt told) Env.nil)) 200 Try.f12 [cIv.av x0, cIv.av x1] [] cInt.dec =
      .bind (x0.right) fun b0 =>
      .br (!b0)
       (
        .ret (0))
       (
        .bind (x1.right) fun b1 =>
        .br (!b1)
         (
          .ret (0))
         (
          .bind (Go.Proofs.Ytemndghpenbmeaa.told (Decidable.decide (x0.hi ≤ x1.lo)) (Decidable.decide (x0.lo > x1.hi))) fun n2 =>
          .ret (n2))) := by kernel_rfl
theorem c_tri_NotAbove (x0 : Iv) (x1 : Iv) : Plain Try.prog 12 [cIv.enc x0, cIv.enc x1] (cInt.enc (notAbove x0 x1)) :=
  plain_of_tree (n := 200) (EnvOK.add s_iv_Right (EnvOK.add s_tri_told EnvOK.nil)) Try.func12 (args := [cIv.av x0, cIv.av x1]) (by simp only [AV.vals, Cod.av_val]) (Nat.le_of_ble_eq_true (by kernel_rfl)) cInt (by
    rw [t_tri_NotAbove]
    simp only [Tr.den]
    grind [notAbove])
theorem s_tri_NotAbove : Ev.Spec Try.prog 12 (F2 cIv cIv cInt notAbove) := spec2 (fun vs w => Try.call12 vs w) c_tri_NotAbove

/-! tri.Not -/
theorem t_tri_Not (x0 : Int) :
    evFn Try.prog (Env.add 28 (F2 cBool cBool cInt told) Env.nil) 200 Try.f14 [cInt.av x0] [] cInt.dec =
      .bind (Go.Proofs.Ytemndghpenbmeaa.told (x0 == 2) (x0 == 1)) fun n0 =>
      .ret (n0) := by kernel_rfl
theorem c_tri_Not (x0 : Int) : Plain Try.prog 14 [cInt.enc x0] (cInt.enc (tNot x0)) :=
  plain_of_tree (n := 200) (EnvOK.add s_tri_told EnvOK.nil) Try.func14 (args := [cInt.av x0]) (by simp only [AV.vals, Cod.av_val]) (Nat.le_of_ble_eq_true (by kernel_rfl)) cInt (by
    rw [t_tri_Not]
    simp only [Tr.den]
    grind [tNot])
theorem s_tri_Not : Ev.Spec Try.prog 14 (F1 cInt cInt tNot) := spec1 (fun vs w => Try.call14 vs w) c_tri_Not

/-! tri.And -/
theorem t_tri_And (x0 : Int) (x1 : Int) :
    evFn Try.prog (Env.add 28 (F2 cBool cBool cInt told) Env.nil) 200 Try.f15 [cInt.av x0, cInt.av x1] [] cInt.dec =
      .br (x0 == 1)
       (
        .br (x0 == 2)
         (
          .bind (Go.Proofs.Ytemndghpenbmeaa.told (x1 == 1) Bool.true) fun n0 =>
          .ret (n0))
         (
          .bind (Go.Proofs.Ytemndghpenbmeaa.told (x1 == 1) (x1 == 2)) fun n1 =>
          .ret (n1)))
       (
        .br (x0 == 2)
         (
          .bind (Go.Proofs.Ytemndghpenbmeaa.told Bool.false Bool.true) fun n2 =>
          .ret (n2))
         (
          .bind (Go.Proofs.Ytemndghpenbmeaa.told Bool.false (x1 == 2)) fun n3 =>
          .ret (n3))) := by kernel_rfl
theorem c_tri_And (x0 : Int) (x1 : Int) : Plain Try.prog 15 [cInt.enc x0, cInt.enc x1] (cInt.enc (tAnd x0 x1)) :=
  plain_of_tree (n := 200) (EnvOK.add s_tri_told EnvOK.nil) Try.func15 (args := [cInt.av x0, cInt.av x1]) (by simp only [AV.vals, Cod.av_val]) (Nat.le_of_ble_eq_true (by kernel_rfl)) cInt (by
    rw [t_tri_And]
    simp only [Tr.den]
    grind [tAnd])
theorem s_tri_And : Ev.Spec Try.prog 15 (F2 cInt cInt cInt tAnd) := spec2 (fun vs w => Try.call15 vs w) c_tri_And

/-! tri.Or -/
theorem t_tri_Or (x0 : Int) (x1 : Int) :
    evFn Try.prog (Env.add 28 (F2 cBool cBool cInt told) Env.nil) 200 Try.f16 [cInt.av x0, cInt.av x1] [] cInt.dec =
      .br (x0 == 1)
       (
        .br (x0 == 2)
         (
          .bind (Go.Proofs.Ytemndghpenbmeaa.told Bool.true (x1 == 2)) fun n0 =>
          .ret (n0))
         (
          .bind (Go.Proofs.Ytemndghpenbmeaa.told Bool.true Bool.false) fun n1 =>
          .ret (n1)))
       (
        .br (x0 == 2)
         (
          .bind (Go.Proofs.Ytemndghpenbmeaa.told (x1 == 1) (x1 == 2)) fun n2 =>
          .ret (n2))
         (
          .bind (Go.Proofs.Ytemndghpenbmeaa.told (x1 == 1) Bool.false) fun n3 =>
          .ret (n3))) := by kernel_rfl
theorem c_tri_Or (x0 : Int) (x1 : Int) : Plain Try.prog 16 [cInt.enc x0, cInt.enc x1] (cInt.enc (tOr x0 x1)) :=
  plain_of_tree (n := 200) (EnvOK.add s_tri_told EnvOK.nil) Try.func16 (args := [cInt.av x0, cInt.av x1]) (by simp only [AV.vals, Cod.av_val]) (Nat.le_of_ble_eq_true (by kernel_rfl)) cInt (by
    rw [t_tri_Or]
    simp only [Tr.den]
    grind [tOr])
theorem s_tri_Or : Ev.Spec Try.prog 16 (F2 cInt cInt cInt tOr) := spec2 (fun vs w => Try.call16 vs w) c_tri_Or

/-! meniscusref8.Within -/
theorem t_meniscusref8_Within (x0 : Int) (x1 : Int) (x2 : Int) :
    evFn Try.prog Env.nil 200 Try.f25 [cInt.av x0, cInt.av x1, cInt.av x2] [] cInt.dec =
      .ret (Max.max x1 (Min.min x2 x0)) := by kernel_rfl
theorem c_meniscusref8_Within (x0 : Int) (x1 : Int) (x2 : Int) : Plain Try.prog 25 [cInt.enc x0, cInt.enc x1, cInt.enc x2] (cInt.enc (within x0 x1 x2)) :=
  plain_of_tree (n := 200) EnvOK.nil Try.func25 (args := [cInt.av x0, cInt.av x1, cInt.av x2]) (by simp only [AV.vals, Cod.av_val]) (Nat.le_of_ble_eq_true (by kernel_rfl)) cInt (by
    rw [t_meniscusref8_Within]
    simp only [Tr.den]
    rfl)
theorem s_meniscusref8_Within : Ev.Spec Try.prog 25 (F3 cInt cInt cInt cInt within) := spec3 (fun vs w => Try.call25 vs w) c_meniscusref8_Within

/-! meniscushand.Pick -/
theorem t_meniscushand_Pick (x0 : Int) (x1 : Int) :
    evFn Try.prog Env.nil 200 Try.f9 [cInt.av x0, cInt.av x1] [] cInt.dec =
      .br (x1 != 0)
       (
        .br (Decidable.decide (x0.tmod x1 < 0))
         (
          .ret (Go.IntKind.i64.wrap (x0.tmod x1 + x1)))
         (
          .ret (x0.tmod x1)))
       (
        .fail) := by kernel_rfl
theorem c_meniscushand_Pick (x0 : Int) (x1 : Int) (h : pickOk x0 x1 = true) : Plain Try.prog 9 [cInt.enc x0, cInt.enc x1] (cInt.enc (pick x0 x1)) :=
  plain_of_tree (n := 200) EnvOK.nil Try.func9 (args := [cInt.av x0, cInt.av x1]) (by simp only [AV.vals, Cod.av_val]) (Nat.le_of_ble_eq_true (by kernel_rfl)) cInt (by
    rw [t_meniscushand_Pick]
    simp [pickOk] at h
    have p := tmod_pick x0 h.1
    have hne : (x1 != 0) = true := by simp; omega
    simp only [Tr.den, hne]
    by_cases hlt : x0.tmod x1 < 0
    · simp only [hlt, decide_true]
      rw [IntWalk.i64_in _ (by omega), p.1 hlt]
    · simp only [hlt, decide_false]
      rw [p.2.1 (by omega)])
theorem s_meniscushand_Pick : Ev.Spec Try.prog 9 (F2p cInt cInt cInt pickOk pick) := spec2p (fun vs w => Try.call9 vs w) c_meniscushand_Pick

/-! meniscushand.Wide -/
theorem t_meniscushand_Wide (x0 : Int) (x1 : Int) :
    evFn Try.prog (Env.add 25 (F3 cInt cInt cInt cInt within) Env.nil) 200 Try.f8 [cInt.av x0, cInt.av x1] [] cIv.dec =
      .bind (Go.Proofs.Ytemndghpenbmeaa.within x0 (-1073741824) 1073741824) fun n0 =>
      .ret (Go.Proofs.Ytemndghpenbmeaa.Iv.mk n0 (Min.min 1073741824 (Go.IntKind.i64.wrap (n0 + x1))) Bool.false) := by kernel_rfl
theorem c_meniscushand_Wide (x0 : Int) (x1 : Int) : Plain Try.prog 8 [cInt.enc x0, cInt.enc x1] (cIv.enc (wide x0 x1)) :=
  plain_of_tree (n := 200) (EnvOK.add s_meniscusref8_Within EnvOK.nil) Try.func8 (args := [cInt.av x0, cInt.av x1]) (by simp only [AV.vals, Cod.av_val]) (Nat.le_of_ble_eq_true (by kernel_rfl)) cIv (by
    rw [t_meniscushand_Wide]
    simp only [Tr.den]
    rfl)
theorem s_meniscushand_Wide : Ev.Spec Try.prog 8 (F2 cInt cInt cIv wide) := spec2 (fun vs w => Try.call8 vs w) c_meniscushand_Wide

/-! meniscushand.Tame -/
theorem t_meniscushand_Tame (x0 : Int) (x1 : Int) :
    evFn Try.prog (Env.add 8 (F2 cInt cInt cIv wide) (Env.add 9 (F2p cInt cInt cInt pickOk pick) Env.nil)) 200 Try.f7 [cInt.av x0, cInt.av x1] [] cIv.dec =
      .br (Go.Proofs.Ytemndghpenbmeaa.pickOk x0 2621440)
       (
        .bind (Go.Proofs.Ytemndghpenbmeaa.pick x0 2621440) fun n0 =>
        .br (Go.Proofs.Ytemndghpenbmeaa.pickOk x1 3000)
         (
          .bind (Go.Proofs.Ytemndghpenbmeaa.pick x1 3000) fun n1 =>
          .bind (Go.Proofs.Ytemndghpenbmeaa.wide (Go.IntKind.i64.wrap (n0 - 1310720)) n1) fun iv2 =>
          .ret (iv2))
         (
          .fail))
       (
        .fail) := by kernel_rfl
theorem c_meniscushand_Tame (x0 : Int) (x1 : Int) : Plain Try.prog 7 [cInt.enc x0, cInt.enc x1] (cIv.enc (tame x0 x1)) :=
  plain_of_tree (n := 200) (EnvOK.add s_meniscushand_Wide (EnvOK.add s_meniscushand_Pick EnvOK.nil)) Try.func7 (args := [cInt.av x0, cInt.av x1]) (by simp only [AV.vals, Cod.av_val]) (Nat.le_of_ble_eq_true (by kernel_rfl)) cIv (by
    rw [t_meniscushand_Tame]
    have b := pick_bd x0 (m := 2621440) (by decide)
    simp [Tr.den, pickOk, tame]
    simp (disch := omega) only [IntWalk.i64_in])
theorem s_meniscushand_Tame : Ev.Spec Try.prog 7 (F2 cInt cInt cIv tame) := spec2 (fun vs w => Try.call7 vs w) c_meniscushand_Tame

/-! meniscusref1.In -/
theorem t_meniscusref1_In (x0 : Int) :
    evFn Try.prog Env.nil 200 Try.f30 [cInt.av x0] [] cBool.dec =
      .br (Decidable.decide (x0 ≥ -1073741824))
       (
        .ret (Decidable.decide (x0 ≤ 1073741824)))
       (
        .ret (Bool.false)) := by kernel_rfl
theorem c_meniscusref1_In (x0 : Int) : Plain Try.prog 30 [cInt.enc x0] (cBool.enc (numIn x0)) :=
  plain_of_tree (n := 200) EnvOK.nil Try.func30 (args := [cInt.av x0]) (by simp only [AV.vals, Cod.av_val]) (Nat.le_of_ble_eq_true (by kernel_rfl)) cBool (by
    rw [t_meniscusref1_In]
    simp only [Tr.den]
    grind [numIn])
theorem s_meniscusref1_In : Ev.Spec Try.prog 30 (F1 cInt cBool numIn) := spec1 (fun vs w => Try.call30 vs w) c_meniscusref1_In

/-! meniscusref1.Right -/
theorem t_meniscusref1_Right (x0 : Iv) :
    evFn Try.prog (Env.add 30 (F1 cInt cBool numIn) Env.nil) 200 Try.f26 [cIv.av x0] [] cBool.dec =
      .br (!x0.no)
       (
        .bind (Go.Proofs.Ytemndghpenbmeaa.numIn x0.lo) fun b0 =>
        .br (b0)
         (
          .bind (Go.Proofs.Ytemndghpenbmeaa.numIn x0.hi) fun b1 =>
          .br (b1)
           (
            .ret (Decidable.decide (x0.lo ≤ x0.hi)))
           (
            .ret (Bool.false)))
         (
          .ret (Bool.false)))
       (
        .ret (Bool.false)) := by kernel_rfl
theorem c_meniscusref1_Right (x0 : Iv) : Plain Try.prog 26 [cIv.enc x0] (cBool.enc (Iv.right x0)) :=
  plain_of_tree (n := 200) (EnvOK.add s_meniscusref1_In EnvOK.nil) Try.func26 (args := [cIv.av x0]) (by simp only [AV.vals, Cod.av_val]) (Nat.le_of_ble_eq_true (by kernel_rfl)) cBool (by
    rw [t_meniscusref1_Right]
    simp only [Tr.den]
    grind [Iv.right])
theorem s_meniscusref1_Right : Ev.Spec Try.prog 26 (F1 cIv cBool Iv.right) := spec1 (fun vs w => Try.call26 vs w) c_meniscusref1_Right

/-! meniscushand.In -/
theorem t_meniscushand_In (x0 : Iv) (x1 : Int) (x2 : Int) :
    evFn Try.prog (Env.add 9 (F2p cInt cInt cInt pickOk pick) (Env.add 26 (F1 cIv cBool Iv.right) Env.nil)) 200 Try.f10 [cIv.av x0, cInt.av x1, cInt.av x2] [] cIv.dec =
      .bind (x0.right) fun b0 =>
      .br (!b0)
       (
        .ret (x0))
       (
        .br (Go.Proofs.Ytemndghpenbmeaa.pickOk x1 (Go.IntKind.i64.wrap (Go.IntKind.i64.wrap (x0.hi - x0.lo) + 1)))
         (
          .bind (Go.Proofs.Ytemndghpenbmeaa.pick x1 (Go.IntKind.i64.wrap (Go.IntKind.i64.wrap (x0.hi - x0.lo) + 1))) fun n1 =>
          .br (Go.Proofs.Ytemndghpenbmeaa.pickOk x2 (Go.IntKind.i64.wrap (Go.IntKind.i64.wrap (x0.hi - Go.IntKind.i64.wrap (x0.lo + n1)) + 1)))
           (
            .bind (Go.Proofs.Ytemndghpenbmeaa.pick x2 (Go.IntKind.i64.wrap (Go.IntKind.i64.wrap (x0.hi - Go.IntKind.i64.wrap (x0.lo + n1)) + 1))) fun n2 =>
            .ret (Go.Proofs.Ytemndghpenbmeaa.Iv.mk (Go.IntKind.i64.wrap (x0.lo + n1)) (Go.IntKind.i64.wrap (Go.IntKind.i64.wrap (x0.lo + n1) + n2)) Bool.false))
           (
            .fail))
         (
          .fail)) := by kernel_rfl
theorem c_meniscushand_In (x0 : Iv) (x1 : Int) (x2 : Int) : Plain Try.prog 10 [cIv.enc x0, cInt.enc x1, cInt.enc x2] (cIv.enc (inIv x0 x1 x2)) :=
  plain_of_tree (n := 200) (EnvOK.add s_meniscushand_Pick (EnvOK.add s_meniscusref1_Right EnvOK.nil)) Try.func10 (args := [cIv.av x0, cInt.av x1, cInt.av x2]) (by simp only [AV.vals, Cod.av_val]) (Nat.le_of_ble_eq_true (by kernel_rfl)) cIv (by
    rw [t_meniscushand_In]
    simp only [Tr.den, inIv]
    cases hr : x0.right
    · simp
    · have b := right_bd hr
      have p1 := pick_bd x1 (m := x0.hi - x0.lo + 1) (by omega)
      have p2 := pick_bd x2 (m := x0.hi - (x0.lo + pick x1 (x0.hi - x0.lo + 1)) + 1) (by omega)
      simp (disch := omega) only [IntWalk.i64_in]
      have q1 : pickOk x1 (x0.hi - x0.lo + 1) = true := by simp [pickOk]; omega
      have q2 : pickOk x2 (x0.hi - (x0.lo + pick x1 (x0.hi - x0.lo + 1)) + 1) = true := by simp [pickOk]; omega
      simp (disch := omega) only [IntWalk.i64_in, q1, q2, Bool.not_true, if_true])
theorem s_meniscushand_In : Ev.Spec Try.prog 10 (F3 cIv cInt cInt cIv inIv) := spec3 (fun vs w => Try.call10 vs w) c_meniscushand_In

/-! meniscushand.Num -/
theorem t_meniscushand_Num (x0 : Int) :
    evFn Try.prog (Env.add 9 (F2p cInt cInt cInt pickOk pick) Env.nil) 200 Try.f29 [cInt.av x0] [] cInt.dec =
      .br (Go.Proofs.Ytemndghpenbmeaa.pickOk x0 9)
       (
        .bind (Go.Proofs.Ytemndghpenbmeaa.pick x0 9) fun n0 =>
        .br (n0 == 0)
         (
          .ret (x0))
         (
          .br (n0 == 1)
           (
            .br (Go.Proofs.Ytemndghpenbmeaa.pickOk (Go.IntKind.i64.wrap (x0.tdiv 9)) 201)
             (
              .bind (Go.Proofs.Ytemndghpenbmeaa.pick (Go.IntKind.i64.wrap (x0.tdiv 9)) 201) fun n1 =>
              .ret (Go.IntKind.i64.wrap (Go.IntKind.i64.wrap (n1 - 100) * 65536)))
             (
              .fail))
           (
            .br (n0 == 2)
             (
              .br (Go.Proofs.Ytemndghpenbmeaa.pickOk (Go.IntKind.i64.wrap (x0.tdiv 9)) 9)
               (
                .bind (Go.Proofs.Ytemndghpenbmeaa.pick (Go.IntKind.i64.wrap (x0.tdiv 9)) 9) fun n2 =>
                .ret (Go.IntKind.i64.wrap (n2 - 4)))
               (
                .fail))
             (
              .br (n0 == 3)
               (
                .br (Go.Proofs.Ytemndghpenbmeaa.pickOk (Go.IntKind.i64.wrap (x0.tdiv 9)) 2147483657)
                 (
                  .bind (Go.Proofs.Ytemndghpenbmeaa.pick (Go.IntKind.i64.wrap (x0.tdiv 9)) 2147483657) fun n3 =>
                  .ret (Go.IntKind.i64.wrap (Go.IntKind.i64.wrap (n3 - 1073741824) - 4)))
                 (
                  .fail))
               (
                .br (Go.Proofs.Ytemndghpenbmeaa.pickOk (Go.IntKind.i64.wrap (x0.tdiv 9)) 2621440)
                 (
                  .bind (Go.Proofs.Ytemndghpenbmeaa.pick (Go.IntKind.i64.wrap (x0.tdiv 9)) 2621440) fun n4 =>
                  .ret (Go.IntKind.i64.wrap (n4 - 1310720)))
                 (
                  .fail))))))
       (
        .fail) := by kernel_rfl
theorem c_meniscushand_Num (x0 : Int) : Plain Try.prog 29 [cInt.enc x0] (cInt.enc (num x0)) :=
  plain_of_tree (n := 200) (EnvOK.add s_meniscushand_Pick EnvOK.nil) Try.func29 (args := [cInt.av x0]) (by simp only [AV.vals, Cod.av_val]) (Nat.le_of_ble_eq_true (by kernel_rfl)) cInt (by
    rw [t_meniscushand_Num]
    have b1 := pick_bd (dv x0 9) (m := 201) (by decide)
    have b2 := pick_bd (dv x0 9) (m := 9) (by decide)
    have b3 := pick_bd (dv x0 9) (m := 2147483657) (by decide)
    have b4 := pick_bd (dv x0 9) (m := 2621440) (by decide)
    simp only [Tr.den, dv_eq, num]
    simp (disch := omega) only [IntWalk.i64_in]
    grind [pickOk])
theorem s_meniscushand_Num : Ev.Spec Try.prog 29 (F1 cInt cInt num) := spec1 (fun vs w => Try.call29 vs w) c_meniscushand_Num

/-! meniscushand.Iv -/
theorem t_meniscushand_Iv (x0 : Int) (x1 : Int) :
    evFn Try.prog (Env.add 8 (F2 cInt cInt cIv wide) (Env.add 9 (F2p cInt cInt cInt pickOk pick) (Env.add 29 (F1 cInt cInt num) Env.nil))) 200 Try.f19 [cInt.av x0, cInt.av x1] [] cIv.dec =
      .bind (Go.Proofs.Ytemndghpenbmeaa.num x0) fun n0 =>
      .br (Go.Proofs.Ytemndghpenbmeaa.pickOk x1 12)
       (
        .bind (Go.Proofs.Ytemndghpenbmeaa.pick x1 12) fun n1 =>
        .br (n1 == 0)
         (
          .bind (Go.Proofs.Ytemndghpenbmeaa.num (Go.IntKind.i64.wrap (x1.tdiv 12))) fun n2 =>
          .ret (Go.Proofs.Ytemndghpenbmeaa.Iv.mk n0 n2 Bool.false))
         (
          .br (n1 == 1)
           (
            .br (Go.Proofs.Ytemndghpenbmeaa.pickOk (Go.IntKind.i64.wrap (x1.tdiv 12)) 5)
             (
              .bind (Go.Proofs.Ytemndghpenbmeaa.pick (Go.IntKind.i64.wrap (x1.tdiv 12)) 5) fun n3 =>
              .ret (Go.Proofs.Ytemndghpenbmeaa.Iv.mk n0 n0 (n3 == 4)))
             (
              .fail))
           (
            .br (n1 == 2)
             (
              .ret (Go.Proofs.Ytemndghpenbmeaa.Iv.mk n0 n0 Bool.false))
             (
              .br (n1 == 3)
               (
                .ret (Go.Proofs.Ytemndghpenbmeaa.Iv.mk n0 n0 Bool.false))
               (
                .br (Go.Proofs.Ytemndghpenbmeaa.pickOk (Go.IntKind.i64.wrap (x1.tdiv 12)) 9000)
                 (
                  .bind (Go.Proofs.Ytemndghpenbmeaa.pick (Go.IntKind.i64.wrap (x1.tdiv 12)) 9000) fun n4 =>
                  .bind (Go.Proofs.Ytemndghpenbmeaa.wide n0 n4) fun iv5 =>
                  .ret (iv5))
                 (
                  .fail))))))
       (
        .fail) := by kernel_rfl
theorem c_meniscushand_Iv (x0 : Int) (x1 : Int) : Plain Try.prog 19 [cInt.enc x0, cInt.enc x1] (cIv.enc (rawIv x0 x1)) :=
  plain_of_tree (n := 200) (EnvOK.add s_meniscushand_Wide (EnvOK.add s_meniscushand_Pick (EnvOK.add s_meniscushand_Num EnvOK.nil))) Try.func19 (args := [cInt.av x0, cInt.av x1]) (by simp only [AV.vals, Cod.av_val]) (Nat.le_of_ble_eq_true (by kernel_rfl)) cIv (by
    rw [t_meniscushand_Iv]
    simp only [Tr.den, dv_eq, rawIv]
    grind [pickOk])
theorem s_meniscushand_Iv : Ev.Spec Try.prog 19 (F2 cInt cInt cIv rawIv) := spec2 (fun vs w => Try.call19 vs w) c_meniscushand_Iv

/-! meniscusref1.Less -/
theorem t_meniscusref1_Less (x0 : Iv) (x1 : Iv) :
    evFn Try.prog (Env.add 26 (F1 cIv cBool Iv.right) Env.nil) 200 Try.f20 [cIv.av x0, cIv.av x1] [] cInt.dec =
      .bind (x0.right) fun b0 =>
      .br (!b0)
       (
        .ret (0))
       (
        .bind (x1.right) fun b1 =>
        .br (!b1)
         (
          .ret (0))
         (
          .br (Decidable.decide (x0.hi < x1.lo))
           (
            .ret (1))
           (
            .br (Decidable.decide (x0.lo ≥ x1.hi))
             (
              .ret (2))
             (
              .ret (0))))) := by kernel_rfl
theorem c_meniscusref1_Less (x0 : Iv) (x1 : Iv) : Plain Try.prog 20 [cIv.enc x0, cIv.enc x1] (cInt.enc (less x0 x1)) :=
  plain_of_tree (n := 200) (EnvOK.add s_meniscusref1_Right EnvOK.nil) Try.func20 (args := [cIv.av x0, cIv.av x1]) (by simp only [AV.vals, Cod.av_val]) (Nat.le_of_ble_eq_true (by kernel_rfl)) cInt (by
    rw [t_meniscusref1_Less]
    simp only [Tr.den]
    grind [less, told])
theorem s_meniscusref1_Less : Ev.Spec Try.prog 20 (F2 cIv cIv cInt less) := spec2 (fun vs w => Try.call20 vs w) c_meniscusref1_Less

/-! meniscusref1.NotAbove -/
theorem t_meniscusref1_NotAbove (x0 : Iv) (x1 : Iv) :
    evFn Try.prog (Env.add 26 (F1 cIv cBool Iv.right) Env.nil) 200 Try.f21 [cIv.av x0, cIv.av x1] [] cInt.dec =
      .bind (x0.right) fun b0 =>
      .br (!b0)
       (
        .ret (0))
       (
        .bind (x1.right) fun b1 =>
        .br (!b1)
         (
          .ret (0))
         (
          .br (Decidable.decide (x0.hi ≤ x1.lo))
           (
            .ret (1))
           (
            .br (Decidable.decide (x0.lo > x1.hi))
             (
              .ret (2))
             (
              .ret (0))))) := by kernel_rfl
theorem c_meniscusref1_NotAbove (x0 : Iv) (x1 : Iv) : Plain Try.prog 21 [cIv.enc x0, cIv.enc x1] (cInt.enc (notAbove x0 x1)) :=
  plain_of_tree (n := 200) (EnvOK.add s_meniscusref1_Right EnvOK.nil) Try.func21 (args := [cIv.av x0, cIv.av x1]) (by simp only [AV.vals, Cod.av_val]) (Nat.le_of_ble_eq_true (by kernel_rfl)) cInt (by
    rw [t_meniscusref1_NotAbove]
    simp only [Tr.den]
    grind [notAbove, told])
theorem s_meniscusref1_NotAbove : Ev.Spec Try.prog 21 (F2 cIv cIv cInt notAbove) := spec2 (fun vs w => Try.call21 vs w) c_meniscusref1_NotAbove

/-! meniscusref1.Not -/
theorem t_meniscusref1_Not (x0 : Int) :
    evFn Try.prog Env.nil 200 Try.f22 [cInt.av x0] [] cInt.dec =
      .br (x0 == 1)
       (
        .ret (2))
       (
        .br (x0 == 2)
         (
          .ret (1))
         (
          .ret (0))) := by kernel_rfl
theorem c_meniscusref1_Not (x0 : Int) : Plain Try.prog 22 [cInt.enc x0] (cInt.enc (tNot x0)) :=
  plain_of_tree (n := 200) EnvOK.nil Try.func22 (args := [cInt.av x0]) (by simp only [AV.vals, Cod.av_val]) (Nat.le_of_ble_eq_true (by kernel_rfl)) cInt (by
    rw [t_meniscusref1_Not]
    simp only [Tr.den]
    grind [tNot, told])
theorem s_meniscusref1_Not : Ev.Spec Try.prog 22 (F1 cInt cInt tNot) := spec1 (fun vs w => Try.call22 vs w) c_meniscusref1_Not

/-! meniscusref1.And -/
theorem t_meniscusref1_And (x0 : Int) (x1 : Int) :
    evFn Try.prog Env.nil 200 Try.f23 [cInt.av x0, cInt.av x1] [] cInt.dec =
      .br (x0 == 2)
       (
        .ret (2))
       (
        .br (x1 == 2)
         (
          .ret (2))
         (
          .br (x0 == 1)
           (
            .br (x1 == 1)
             (
              .ret (1))
             (
              .ret (0)))
           (
            .ret (0)))) := by kernel_rfl
theorem c_meniscusref1_And (x0 : Int) (x1 : Int) : Plain Try.prog 23 [cInt.enc x0, cInt.enc x1] (cInt.enc (tAnd x0 x1)) :=
  plain_of_tree (n := 200) EnvOK.nil Try.func23 (args := [cInt.av x0, cInt.av x1]) (by simp only [AV.vals, Cod.av_val]) (Nat.le_of_ble_eq_true (by kernel_rfl)) cInt (by
    rw [t_meniscusref1_And]
    simp only [Tr.den]
    grind [tAnd, told])
theorem s_meniscusref1_And : Ev.Spec Try.prog 23 (F2 cInt cInt cInt tAnd) := spec2 (fun vs w => Try.call23 vs w) c_meniscusref1_And

/-! meniscusref1.Or -/
theorem t_meniscusref1_Or (x0 : Int) (x1 : Int) :
    evFn Try.prog Env.nil 200 Try.f24 [cInt.av x0, cInt.av x1] [] cInt.dec =
      .br (x0 == 1)
       (
        .ret (1))
       (
        .br (x1 == 1)
         (
          .ret (1))
         (
          .br (x0 == 2)
           (
            .br (x1 == 2)
             (
              .ret (2))
             (
              .ret (0)))
           (
            .ret (0)))) := by kernel_rfl
theorem c_meniscusref1_Or (x0 : Int) (x1 : Int) : Plain Try.prog 24 [cInt.enc x0, cInt.enc x1] (cInt.enc (tOr x0 x1)) :=
  plain_of_tree (n := 200) EnvOK.nil Try.func24 (args := [cInt.av x0, cInt.av x1]) (by simp only [AV.vals, Cod.av_val]) (Nat.le_of_ble_eq_true (by kernel_rfl)) cInt (by
    rw [t_meniscusref1_Or]
    simp only [Tr.den]
    grind [tOr, told])
theorem s_meniscusref1_Or : Ev.Spec Try.prog 24 (F2 cInt cInt cInt tOr) := spec2 (fun vs w => Try.call24 vs w) c_meniscusref1_Or

/-! meniscuslaw3.known -/
theorem t_meniscuslaw3_known  :
    evFn Try.prog (Env.add 11 (F2 cIv cIv cInt less) (Env.add 14 (F1 cInt cInt tNot) (Env.add 17 (F2 cInt cInt cIv Iv.of) Env.nil))) 200 Try.f13 [] [] cBool.dec =
      .bind (Go.Proofs.Ytemndghpenbmeaa.Iv.of 1 3) fun iv0 =>
      .bind (Go.Proofs.Ytemndghpenbmeaa.Iv.of 3 5) fun iv1 =>
      .bind (Go.Proofs.Ytemndghpenbmeaa.less iv0 iv1) fun n2 =>
      .br (n2 == 0)
       (
        .bind (Go.Proofs.Ytemndghpenbmeaa.Iv.of 1 2) fun iv3 =>
        .bind (Go.Proofs.Ytemndghpenbmeaa.Iv.of 3 5) fun iv4 =>
        .bind (Go.Proofs.Ytemndghpenbmeaa.less iv3 iv4) fun n5 =>
        .br (n5 == 1)
         (
          .bind (Go.Proofs.Ytemndghpenbmeaa.tNot 2) fun n6 =>
          .ret (n6 == 1))
         (
          .ret (Bool.false)))
       (
        .ret (Bool.false)) := by kernel_rfl
theorem c_meniscuslaw3_known  : Plain Try.prog 13 [] (cBool.enc (true)) :=
  plain_of_tree (n := 200) (EnvOK.add s_tri_Less (EnvOK.add s_tri_Not (EnvOK.add s_iv_Of EnvOK.nil))) Try.func13 (args := []) rfl (Nat.le_of_ble_eq_true (by kernel_rfl)) cBool (by
    rw [t_meniscuslaw3_known]
    simp only [Tr.den]
    rfl)
theorem s_meniscuslaw3_known : Ev.Spec Try.prog 13 (F0 cBool true) := spec0 (fun vs w => Try.call13 vs w) c_meniscuslaw3_known
end Go.Proofs.Ytemndghpenbmeaa
