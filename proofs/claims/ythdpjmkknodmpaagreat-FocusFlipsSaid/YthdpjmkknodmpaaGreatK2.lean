/-
  Contracts of calls, written by a small program of this session out of the evaluator's trees.
-/
import Derived.Test.YthdpjmkknodmpaaGreatCore
import Derived.Test.YthdpjmkknodmpaaGreatCoreLoops
import Derived.Test.YthdpjmkknodmpaaGreatCore2
import Derived.Test.YthdpjmkknodmpaaGreatCore3
import Derived.Test.YthdpjmkknodmpaaGreatCore4
import Derived.Test.YthdpjmkknodmpaaGreatEvCod
import Derived.Test.YthdpjmkknodmpaaGreatEvRet
import Derived.Test.YthdpjmkknodmpaaGreatProg
import Derived.Test.YthdpjmkknodmpaaGreatK1
namespace Go.Proofs.YthdpjmkknodmpaaGreat
open Go Go.RowKit Ev
set_option maxRecDepth 100000
set_option linter.unusedVariables false
set_option linter.unusedSimpArgs false

/-! meniscusref1.Times -/
theorem t_meniscusref1_Times (x0 : Iv) (x1 : Int) :
    evFn Tryz.prog (Env.add 37 (F1 cInt cBool numIn) (Env.add 40 (F2 cInt cInt cIv Iv.of) (Env.add 56 (F0 cIv Iv.none) (Env.add 66 (F1 cIv cBool Iv.right) Env.nil)))) Laws.nil 200 Tryz.f124 [cIv.av x0, cInt.av x1] [] cIv.dec =
      .bind (x0.right) fun vb0 =>
      .br (!vb0)
       (
        .bind (Go.Proofs.YthdpjmkknodmpaaGreat.Iv.none) fun viv1 =>
        .ret (viv1))
       (
        .bind (Go.Proofs.YthdpjmkknodmpaaGreat.numIn x1) fun vb2 =>
        .br (!vb2)
         (
          .bind (Go.Proofs.YthdpjmkknodmpaaGreat.Iv.none) fun viv3 =>
          .ret (viv3))
         (
          .bind (Go.Proofs.YthdpjmkknodmpaaGreat.Iv.of (Min.min (Go.IntKind.i64.wrap (x1 * x0.lo)) (Go.IntKind.i64.wrap (x1 * x0.hi))) (Max.max (Go.IntKind.i64.wrap (x1 * x0.lo)) (Go.IntKind.i64.wrap (x1 * x0.hi)))) fun viv4 =>
          .ret (viv4))) := by kernel_rfl
theorem c_meniscusref1_Times (x0 : Iv) (x1 : Int) : Plain Tryz.prog 124 [cIv.enc x0, cInt.enc x1] (cIv.enc (Iv.times x0 x1)) :=
  plain_of_tree (n := 200) (EnvOK.add s_meniscusref1_In (EnvOK.add s_meniscusref1_Of (EnvOK.add s_meniscusref1_None (EnvOK.add s_meniscusref1_Right EnvOK.nil)))) Tryz.func124 (args := [cIv.av x0, cInt.av x1]) (by simp only [AV.vals, Cod.av_val]) (Nat.le_of_ble_eq_true (by kernel_rfl)) LFn.nil cIv (by
    rw [t_meniscusref1_Times]
    simp only [Tr.den, Iv.times]
    cases h0 : x0.right <;> cases h1 : numIn x1 <;> simp
    have b0 := right_bd h0
    have b1 := numIn_iff.1 h1
    have m1 := mul_bd x1 x0.lo h1 (numIn_iff.2 (by omega))
    have m2 := mul_bd x1 x0.hi h1 (numIn_iff.2 (by omega))
    simp (disch := omega) only [IntWalk.i64_in])
theorem s_meniscusref1_Times : Ev.Spec Tryz.prog 124 (F2 cIv cInt cIv Iv.times) := spec2 (fun vs w => Tryz.call124 vs w) c_meniscusref1_Times

/-! meniscusref1.Sqr -/
theorem t_meniscusref1_Sqr (x0 : Iv) :
    evFn Tryz.prog (Env.add 40 (F2 cInt cInt cIv Iv.of) (Env.add 56 (F0 cIv Iv.none) (Env.add 66 (F1 cIv cBool Iv.right) (Env.add 75 (F3 cInt cInt cBool (cTwo cInt cBool) numMul) Env.nil)))) Laws.nil 200 Tryz.f51 [cIv.av x0] [] cIv.dec =
      .bind (x0.right) fun vb0 =>
      .br (!vb0)
       (
        .bind (Go.Proofs.YthdpjmkknodmpaaGreat.Iv.none) fun viv1 =>
        .ret (viv1))
       (
        .br (Decidable.decide (x0.lo ≤ 0))
         (
          .br (Decidable.decide (x0.hi ≥ 0))
           (
            .bind (Go.Proofs.YthdpjmkknodmpaaGreat.numMul 0 0 Bool.false) fun vy2 =>
            .bind (Go.Proofs.YthdpjmkknodmpaaGreat.numMul (Max.max (Max.max (Max.max x0.lo (Go.IntKind.i64.wrap (0 - x0.lo))) x0.hi) (Go.IntKind.i64.wrap (0 - x0.hi))) (Max.max (Max.max (Max.max x0.lo (Go.IntKind.i64.wrap (0 - x0.lo))) x0.hi) (Go.IntKind.i64.wrap (0 - x0.hi))) Bool.true) fun vy3 =>
            .br (!vy3.snd)
             (
              .bind (Go.Proofs.YthdpjmkknodmpaaGreat.Iv.none) fun viv4 =>
              .ret (viv4))
             (
              .bind (Go.Proofs.YthdpjmkknodmpaaGreat.Iv.of vy2.fst vy3.fst) fun viv5 =>
              .ret (viv5)))
           (
            .bind (Go.Proofs.YthdpjmkknodmpaaGreat.numMul (Min.min (Max.max x0.lo (Go.IntKind.i64.wrap (0 - x0.lo))) (Max.max x0.hi (Go.IntKind.i64.wrap (0 - x0.hi)))) (Min.min (Max.max x0.lo (Go.IntKind.i64.wrap (0 - x0.lo))) (Max.max x0.hi (Go.IntKind.i64.wrap (0 - x0.hi)))) Bool.false) fun vy6 =>
            .bind (Go.Proofs.YthdpjmkknodmpaaGreat.numMul (Max.max (Max.max (Max.max x0.lo (Go.IntKind.i64.wrap (0 - x0.lo))) x0.hi) (Go.IntKind.i64.wrap (0 - x0.hi))) (Max.max (Max.max (Max.max x0.lo (Go.IntKind.i64.wrap (0 - x0.lo))) x0.hi) (Go.IntKind.i64.wrap (0 - x0.hi))) Bool.true) fun vy7 =>
            .br (!vy7.snd)
             (
              .bind (Go.Proofs.YthdpjmkknodmpaaGreat.Iv.none) fun viv8 =>
              .ret (viv8))
             (
              .bind (Go.Proofs.YthdpjmkknodmpaaGreat.Iv.of vy6.fst vy7.fst) fun viv9 =>
              .ret (viv9))))
         (
          .bind (Go.Proofs.YthdpjmkknodmpaaGreat.numMul (Min.min (Max.max x0.lo (Go.IntKind.i64.wrap (0 - x0.lo))) (Max.max x0.hi (Go.IntKind.i64.wrap (0 - x0.hi)))) (Min.min (Max.max x0.lo (Go.IntKind.i64.wrap (0 - x0.lo))) (Max.max x0.hi (Go.IntKind.i64.wrap (0 - x0.hi)))) Bool.false) fun vy10 =>
          .bind (Go.Proofs.YthdpjmkknodmpaaGreat.numMul (Max.max (Max.max (Max.max x0.lo (Go.IntKind.i64.wrap (0 - x0.lo))) x0.hi) (Go.IntKind.i64.wrap (0 - x0.hi))) (Max.max (Max.max (Max.max x0.lo (Go.IntKind.i64.wrap (0 - x0.lo))) x0.hi) (Go.IntKind.i64.wrap (0 - x0.hi))) Bool.true) fun vy11 =>
          .br (!vy11.snd)
           (
            .bind (Go.Proofs.YthdpjmkknodmpaaGreat.Iv.none) fun viv12 =>
            .ret (viv12))
           (
            .bind (Go.Proofs.YthdpjmkknodmpaaGreat.Iv.of vy10.fst vy11.fst) fun viv13 =>
            .ret (viv13)))) := by kernel_rfl
theorem c_meniscusref1_Sqr (x0 : Iv) : Plain Tryz.prog 51 [cIv.enc x0] (cIv.enc (Iv.sqr x0)) :=
  plain_of_tree (n := 200) (EnvOK.add s_meniscusref1_Of (EnvOK.add s_meniscusref1_None (EnvOK.add s_meniscusref1_Right (EnvOK.add s_meniscusref1_Mul EnvOK.nil)))) Tryz.func51 (args := [cIv.av x0]) (by simp only [AV.vals, Cod.av_val]) (Nat.le_of_ble_eq_true (by kernel_rfl)) LFn.nil cIv (by
    rw [t_meniscusref1_Sqr]
    simp only [Iv.sqr]
    cases h0 : x0.right
    · simp [Tr.den]
    have b0 := right_bd h0
    have e1 : IntKind.i64.wrap (-x0.lo) = -x0.lo := wr (by omega)
    have e2 : IntKind.i64.wrap (-x0.hi) = -x0.hi := wr (by omega)
    have f1 : max (max (max x0.lo (-x0.lo)) x0.hi) (-x0.hi) = max (-x0.lo) x0.hi := by omega
    simp only [den_br, den_bind, den_ret, den_fail, decide_eq_true_eq, e1, e2, f1]
    by_cases h1 : x0.lo ≤ 0
    · by_cases h2 : 0 ≤ x0.hi
      · have f2 : max (max x0.lo (-x0.hi)) 0 = 0 := by omega
        simp only [h1, h2, f2]
        grind
      · have f2 : min (max x0.lo (-x0.lo)) (max x0.hi (-x0.hi)) = max (max x0.lo (-x0.hi)) 0 := by omega
        simp only [h1, h2, f2]
        grind
    · have f2 : min (max x0.lo (-x0.lo)) (max x0.hi (-x0.hi)) = max (max x0.lo (-x0.hi)) 0 := by omega
      simp only [h1, f2]
      grind)
theorem s_meniscusref1_Sqr : Ev.Spec Tryz.prog 51 (F1 cIv cIv Iv.sqr) := spec1 (fun vs w => Tryz.call51 vs w) c_meniscusref1_Sqr

/-! meniscusref1.RootIv -/
theorem t_meniscusref1_RootIv (x0 : Iv) :
    evFn Tryz.prog (Env.add 40 (F2 cInt cInt cIv Iv.of) (Env.add 56 (F0 cIv Iv.none) (Env.add 66 (F1 cIv cBool Iv.right) (Env.add 95 (F2 cInt cBool (cTwo cInt cBool) numRoot) Env.nil)))) Laws.nil 200 Tryz.f78 [cIv.av x0] [] cIv.dec =
      .bind (x0.right) fun vb0 =>
      .br (!vb0)
       (
        .bind (Go.Proofs.YthdpjmkknodmpaaGreat.Iv.none) fun viv1 =>
        .ret (viv1))
       (
        .br (Decidable.decide (x0.lo < 0))
         (
          .bind (Go.Proofs.YthdpjmkknodmpaaGreat.Iv.none) fun viv2 =>
          .ret (viv2))
         (
          .bind (Go.Proofs.YthdpjmkknodmpaaGreat.numRoot x0.lo Bool.false) fun vy3 =>
          .bind (Go.Proofs.YthdpjmkknodmpaaGreat.numRoot x0.hi Bool.true) fun vy4 =>
          .bind (Go.Proofs.YthdpjmkknodmpaaGreat.Iv.of vy3.fst vy4.fst) fun viv5 =>
          .ret (viv5))) := by kernel_rfl
theorem c_meniscusref1_RootIv (x0 : Iv) : Plain Tryz.prog 78 [cIv.enc x0] (cIv.enc (Iv.root x0)) :=
  plain_of_tree (n := 200) (EnvOK.add s_meniscusref1_Of (EnvOK.add s_meniscusref1_None (EnvOK.add s_meniscusref1_Right (EnvOK.add s_meniscusref1_Root EnvOK.nil)))) Tryz.func78 (args := [cIv.av x0]) (by simp only [AV.vals, Cod.av_val]) (Nat.le_of_ble_eq_true (by kernel_rfl)) LFn.nil cIv (by
    rw [t_meniscusref1_RootIv]
    simp only [den_br, den_bind, den_ret, den_fail, den_inl, den_inr, decide_eq_true_eq]
    grind [Iv.root])
theorem s_meniscusref1_RootIv : Ev.Spec Tryz.prog 78 (F1 cIv cIv Iv.root) := spec1 (fun vs w => Tryz.call78 vs w) c_meniscusref1_RootIv

/-! meniscusref1.Meet -/
theorem t_meniscusref1_Meet (x0 : Iv) (x1 : Iv) :
    evFn Tryz.prog (Env.add 40 (F2 cInt cInt cIv Iv.of) (Env.add 56 (F0 cIv Iv.none) (Env.add 66 (F1 cIv cBool Iv.right) Env.nil))) Laws.nil 200 Tryz.f144 [cIv.av x0, cIv.av x1] [] cIv.dec =
      .bind (x0.right) fun vb0 =>
      .br (!vb0)
       (
        .bind (Go.Proofs.YthdpjmkknodmpaaGreat.Iv.none) fun viv1 =>
        .ret (viv1))
       (
        .bind (x1.right) fun vb2 =>
        .br (!vb2)
         (
          .bind (Go.Proofs.YthdpjmkknodmpaaGreat.Iv.none) fun viv3 =>
          .ret (viv3))
         (
          .bind (Go.Proofs.YthdpjmkknodmpaaGreat.Iv.of (Max.max x0.lo x1.lo) (Min.min x0.hi x1.hi)) fun viv4 =>
          .ret (viv4))) := by kernel_rfl
theorem c_meniscusref1_Meet (x0 : Iv) (x1 : Iv) : Plain Tryz.prog 144 [cIv.enc x0, cIv.enc x1] (cIv.enc (Iv.meet x0 x1)) :=
  plain_of_tree (n := 200) (EnvOK.add s_meniscusref1_Of (EnvOK.add s_meniscusref1_None (EnvOK.add s_meniscusref1_Right EnvOK.nil))) Tryz.func144 (args := [cIv.av x0, cIv.av x1]) (by simp only [AV.vals, Cod.av_val]) (Nat.le_of_ble_eq_true (by kernel_rfl)) LFn.nil cIv (by
    rw [t_meniscusref1_Meet]
    simp only [den_br, den_bind, den_ret, den_fail, den_inl, den_inr, decide_eq_true_eq]
    grind [Iv.meet, Iv.both])
theorem s_meniscusref1_Meet : Ev.Spec Tryz.prog 144 (F2 cIv cIv cIv Iv.meet) := spec2 (fun vs w => Tryz.call144 vs w) c_meniscusref1_Meet

/-! meniscusref1.Mid -/
theorem t_meniscusref1_Mid (x0 : Iv) :
    evFn Tryz.prog (Env.add 39 (F2p cInt cInt cInt flOk fl) (Env.add 66 (F1 cIv cBool Iv.right) Env.nil)) Laws.nil 200 Tryz.f140 [cIv.av x0] [] cInt.dec =
      .bind (x0.right) fun vb0 =>
      .br (!vb0)
       (
        .ret (0))
       (
        .br (Go.Proofs.YthdpjmkknodmpaaGreat.flOk (Go.IntKind.i64.wrap (x0.lo + x0.hi)) 2)
         (
          .bind (Go.Proofs.YthdpjmkknodmpaaGreat.fl (Go.IntKind.i64.wrap (x0.lo + x0.hi)) 2) fun vn1 =>
          .ret (vn1))
         (
          .fail)) := by kernel_rfl
theorem c_meniscusref1_Mid (x0 : Iv) : Plain Tryz.prog 140 [cIv.enc x0] (cInt.enc (Iv.mid x0)) :=
  plain_of_tree (n := 200) (EnvOK.add s_meniscusref1_Floor (EnvOK.add s_meniscusref1_Right EnvOK.nil)) Tryz.func140 (args := [cIv.av x0]) (by simp only [AV.vals, Cod.av_val]) (Nat.le_of_ble_eq_true (by kernel_rfl)) LFn.nil cInt (by
    rw [t_meniscusref1_Mid]
    simp only [den_br, den_bind, den_ret, den_fail, den_inl, den_inr, decide_eq_true_eq]
    simp only [Iv.mid]
    cases h0 : x0.right
    · simp
    have b0 := right_bd h0
    have e1 : IntKind.i64.wrap (x0.lo + x0.hi) = x0.lo + x0.hi := wr (by omega)
    have c1 : flOk (x0.lo + x0.hi) 2 = true := by simp [flOk]; omega
    simp only [e1, c1, if_true]
    simp [fl])
theorem s_meniscusref1_Mid : Ev.Spec Tryz.prog 140 (F1 cIv cInt Iv.mid) := spec1 (fun vs w => Tryz.call140 vs w) c_meniscusref1_Mid

/-! meniscusref1.Has -/
theorem t_meniscusref1_Has (x0 : Iv) (x1 : Int) :
    evFn Tryz.prog (Env.add 66 (F1 cIv cBool Iv.right) Env.nil) Laws.nil 200 Tryz.f154 [cIv.av x0, cInt.av x1] [] cBool.dec =
      .bind (x0.right) fun vb0 =>
      .br (vb0)
       (
        .br (Decidable.decide (x0.lo ≤ x1))
         (
          .ret (Decidable.decide (x1 ≤ x0.hi)))
         (
          .ret (Bool.false)))
       (
        .ret (Bool.false)) := by kernel_rfl
theorem c_meniscusref1_Has (x0 : Iv) (x1 : Int) : Plain Tryz.prog 154 [cIv.enc x0, cInt.enc x1] (cBool.enc (Iv.has x0 x1)) :=
  plain_of_tree (n := 200) (EnvOK.add s_meniscusref1_Right EnvOK.nil) Tryz.func154 (args := [cIv.av x0, cInt.av x1]) (by simp only [AV.vals, Cod.av_val]) (Nat.le_of_ble_eq_true (by kernel_rfl)) LFn.nil cBool (by
    rw [t_meniscusref1_Has]
    simp only [den_br, den_bind, den_ret, den_fail, den_inl, den_inr, decide_eq_true_eq]
    grind [Iv.has])
theorem s_meniscusref1_Has : Ev.Spec Tryz.prog 154 (F2 cIv cInt cBool Iv.has) := spec2 (fun vs w => Tryz.call154 vs w) c_meniscusref1_Has

/-! meniscusref1.Split -/
theorem t_meniscusref1_Split (x0 : Iv) :
    evFn Tryz.prog (Env.add 40 (F2 cInt cInt cIv Iv.of) (Env.add 56 (F0 cIv Iv.none) (Env.add 66 (F1 cIv cBool Iv.right) (Env.add 140 (F1 cIv cInt Iv.mid) Env.nil)))) Laws.nil 200 Tryz.f142 [cIv.av x0] [] (cTwo cIv cIv).dec =
      .bind (x0.right) fun vb0 =>
      .br (!vb0)
       (
        .bind (Go.Proofs.YthdpjmkknodmpaaGreat.Iv.none) fun viv1 =>
        .bind (Go.Proofs.YthdpjmkknodmpaaGreat.Iv.none) fun viv2 =>
        .ret ((viv1, viv2)))
       (
        .bind (x0.mid) fun vn3 =>
        .bind (Go.Proofs.YthdpjmkknodmpaaGreat.Iv.of x0.lo vn3) fun viv4 =>
        .bind (x0.mid) fun vn5 =>
        .bind (Go.Proofs.YthdpjmkknodmpaaGreat.Iv.of vn5 x0.hi) fun viv6 =>
        .ret ((viv4, viv6))) := by kernel_rfl
theorem c_meniscusref1_Split (x0 : Iv) : Plain Tryz.prog 142 [cIv.enc x0] ((cTwo cIv cIv).enc (Iv.split x0)) :=
  plain_of_tree (n := 200) (EnvOK.add s_meniscusref1_Of (EnvOK.add s_meniscusref1_None (EnvOK.add s_meniscusref1_Right (EnvOK.add s_meniscusref1_Mid EnvOK.nil)))) Tryz.func142 (args := [cIv.av x0]) (by simp only [AV.vals, Cod.av_val]) (Nat.le_of_ble_eq_true (by kernel_rfl)) LFn.nil (cTwo cIv cIv) (by
    rw [t_meniscusref1_Split]
    simp only [den_br, den_bind, den_ret, den_fail, den_inl, den_inr, decide_eq_true_eq]
    grind [Iv.split])
theorem s_meniscusref1_Split : Ev.Spec Tryz.prog 142 (F1 cIv (cTwo cIv cIv) Iv.split) := spec1 (fun vs w => Tryz.call142 vs w) c_meniscusref1_Split

/-! meniscusref1.NotAbove -/
theorem t_meniscusref1_NotAbove (x0 : Iv) (x1 : Iv) :
    evFn Tryz.prog (Env.add 66 (F1 cIv cBool Iv.right) Env.nil) Laws.nil 200 Tryz.f106 [cIv.av x0, cIv.av x1] [] cInt.dec =
      .bind (x0.right) fun vb0 =>
      .br (!vb0)
       (
        .ret (0))
       (
        .bind (x1.right) fun vb1 =>
        .br (!vb1)
         (
          .ret (0))
         (
          .br (Decidable.decide (x0.hi ≤ x1.lo))
           (
            .ret (1))
           (
            .br (Decidable.decide (x0.lo > x1.hi))
             (
              .ret (2))
             (
              .ret (0))))) := by kernel_rfl
theorem c_meniscusref1_NotAbove (x0 : Iv) (x1 : Iv) : Plain Tryz.prog 106 [cIv.enc x0, cIv.enc x1] (cInt.enc (notAbove x0 x1)) :=
  plain_of_tree (n := 200) (EnvOK.add s_meniscusref1_Right EnvOK.nil) Tryz.func106 (args := [cIv.av x0, cIv.av x1]) (by simp only [AV.vals, Cod.av_val]) (Nat.le_of_ble_eq_true (by kernel_rfl)) LFn.nil cInt (by
    rw [t_meniscusref1_NotAbove]
    simp only [den_br, den_bind, den_ret, den_fail, den_inl, den_inr, decide_eq_true_eq]
    grind [notAbove, told])
theorem s_meniscusref1_NotAbove : Ev.Spec Tryz.prog 106 (F2 cIv cIv cInt notAbove) := spec2 (fun vs w => Tryz.call106 vs w) c_meniscusref1_NotAbove

/-! meniscusref1.RightV -/
theorem t_meniscusref1_RightV (x0 : V) :
    evFn Tryz.prog (Env.add 66 (F1 cIv cBool Iv.right) Env.nil) Laws.nil 200 Tryz.f127 [cV.av x0] [] cBool.dec =
      .bind (x0.x.right) fun vb0 =>
      .br (vb0)
       (
        .bind (x0.y.right) fun vb1 =>
        .br (vb1)
         (
          .bind (x0.z.right) fun vb2 =>
          .ret (vb2))
         (
          .ret (Bool.false)))
       (
        .ret (Bool.false)) := by kernel_rfl
theorem c_meniscusref1_RightV (x0 : V) : Plain Tryz.prog 127 [cV.enc x0] (cBool.enc (V.right x0)) :=
  plain_of_tree (n := 200) (EnvOK.add s_meniscusref1_Right EnvOK.nil) Tryz.func127 (args := [cV.av x0]) (by simp only [AV.vals, Cod.av_val]) (Nat.le_of_ble_eq_true (by kernel_rfl)) LFn.nil cBool (by
    rw [t_meniscusref1_RightV]
    simp only [den_br, den_bind, den_ret, den_fail, den_inl, den_inr, decide_eq_true_eq]
    grind [V.right])
theorem s_meniscusref1_RightV : Ev.Spec Tryz.prog 127 (F1 cV cBool V.right) := spec1 (fun vs w => Tryz.call127 vs w) c_meniscusref1_RightV

/-! meniscusref1.AddV -/
theorem t_meniscusref1_AddV (x0 : V) (x1 : V) :
    evFn Tryz.prog (Env.add 32 (F2 cIv cIv cIv Iv.add) Env.nil) Laws.nil 200 Tryz.f86 [cV.av x0, cV.av x1] [] cV.dec =
      .bind (x0.x.add x1.x) fun viv0 =>
      .bind (x0.y.add x1.y) fun viv1 =>
      .bind (x0.z.add x1.z) fun viv2 =>
      .ret (Go.Proofs.YthdpjmkknodmpaaGreat.V.mk viv0 viv1 viv2) := by kernel_rfl
theorem c_meniscusref1_AddV (x0 : V) (x1 : V) : Plain Tryz.prog 86 [cV.enc x0, cV.enc x1] (cV.enc (V.add x0 x1)) :=
  plain_of_tree (n := 200) (EnvOK.add s_meniscusref1_Add EnvOK.nil) Tryz.func86 (args := [cV.av x0, cV.av x1]) (by simp only [AV.vals, Cod.av_val]) (Nat.le_of_ble_eq_true (by kernel_rfl)) LFn.nil cV (by
    rw [t_meniscusref1_AddV]
    rfl)
theorem s_meniscusref1_AddV : Ev.Spec Tryz.prog 86 (F2 cV cV cV V.add) := spec2 (fun vs w => Tryz.call86 vs w) c_meniscusref1_AddV

/-! meniscusref1.Scale -/
theorem t_meniscusref1_Scale (x0 : V) (x1 : Iv) :
    evFn Tryz.prog (Env.add 77 (F2 cIv cIv cIv Iv.mul) Env.nil) Laws.nil 200 Tryz.f87 [cV.av x0, cIv.av x1] [] cV.dec =
      .bind (x0.x.mul x1) fun viv0 =>
      .bind (x0.y.mul x1) fun viv1 =>
      .bind (x0.z.mul x1) fun viv2 =>
      .ret (Go.Proofs.YthdpjmkknodmpaaGreat.V.mk viv0 viv1 viv2) := by kernel_rfl
theorem c_meniscusref1_Scale (x0 : V) (x1 : Iv) : Plain Tryz.prog 87 [cV.enc x0, cIv.enc x1] (cV.enc (V.scale x0 x1)) :=
  plain_of_tree (n := 200) (EnvOK.add s_meniscusref1_MulIv EnvOK.nil) Tryz.func87 (args := [cV.av x0, cIv.av x1]) (by simp only [AV.vals, Cod.av_val]) (Nat.le_of_ble_eq_true (by kernel_rfl)) LFn.nil cV (by
    rw [t_meniscusref1_Scale]
    rfl)
theorem s_meniscusref1_Scale : Ev.Spec Tryz.prog 87 (F2 cV cIv cV V.scale) := spec2 (fun vs w => Tryz.call87 vs w) c_meniscusref1_Scale

/-! meniscusref1.Dot -/
theorem t_meniscusref1_Dot (x0 : V) (x1 : V) :
    evFn Tryz.prog (Env.add 32 (F2 cIv cIv cIv Iv.add) (Env.add 77 (F2 cIv cIv cIv Iv.mul) Env.nil)) Laws.nil 200 Tryz.f128 [cV.av x0, cV.av x1] [] cIv.dec =
      .bind (x0.x.mul x1.x) fun viv0 =>
      .bind (x0.y.mul x1.y) fun viv1 =>
      .bind (viv0.add viv1) fun viv2 =>
      .bind (x0.z.mul x1.z) fun viv3 =>
      .bind (viv2.add viv3) fun viv4 =>
      .ret (viv4) := by kernel_rfl
theorem c_meniscusref1_Dot (x0 : V) (x1 : V) : Plain Tryz.prog 128 [cV.enc x0, cV.enc x1] (cIv.enc (V.dot x0 x1)) :=
  plain_of_tree (n := 200) (EnvOK.add s_meniscusref1_Add (EnvOK.add s_meniscusref1_MulIv EnvOK.nil)) Tryz.func128 (args := [cV.av x0, cV.av x1]) (by simp only [AV.vals, Cod.av_val]) (Nat.le_of_ble_eq_true (by kernel_rfl)) LFn.nil cIv (by
    rw [t_meniscusref1_Dot]
    rfl)
theorem s_meniscusref1_Dot : Ev.Spec Tryz.prog 128 (F2 cV cV cIv V.dot) := spec2 (fun vs w => Tryz.call128 vs w) c_meniscusref1_Dot

/-! meniscusref1.Len2 -/
theorem t_meniscusref1_Len2 (x0 : V) :
    evFn Tryz.prog (Env.add 32 (F2 cIv cIv cIv Iv.add) (Env.add 51 (F1 cIv cIv Iv.sqr) Env.nil)) Laws.nil 200 Tryz.f145 [cV.av x0] [] cIv.dec =
      .bind (x0.x.sqr) fun viv0 =>
      .bind (x0.y.sqr) fun viv1 =>
      .bind (viv0.add viv1) fun viv2 =>
      .bind (x0.z.sqr) fun viv3 =>
      .bind (viv2.add viv3) fun viv4 =>
      .ret (viv4) := by kernel_rfl
theorem c_meniscusref1_Len2 (x0 : V) : Plain Tryz.prog 145 [cV.enc x0] (cIv.enc (V.len2 x0)) :=
  plain_of_tree (n := 200) (EnvOK.add s_meniscusref1_Add (EnvOK.add s_meniscusref1_Sqr EnvOK.nil)) Tryz.func145 (args := [cV.av x0]) (by simp only [AV.vals, Cod.av_val]) (Nat.le_of_ble_eq_true (by kernel_rfl)) LFn.nil cIv (by
    rw [t_meniscusref1_Len2]
    rfl)
theorem s_meniscusref1_Len2 : Ev.Spec Tryz.prog 145 (F1 cV cIv V.len2) := spec1 (fun vs w => Tryz.call145 vs w) c_meniscusref1_Len2

/-! meniscusref1.Unit -/
theorem t_meniscusref1_Unit (x0 : V) :
    evFn Tryz.prog (Env.add 52 (F2 cIv cIv cIv Iv.div) (Env.add 78 (F1 cIv cIv Iv.root) (Env.add 145 (F1 cV cIv V.len2) Env.nil))) Laws.nil 200 Tryz.f129 [cV.av x0] [] cV.dec =
      .bind (x0.len2) fun viv0 =>
      .bind (viv0.root) fun viv1 =>
      .bind (x0.x.div viv1) fun viv2 =>
      .bind (x0.y.div viv1) fun viv3 =>
      .bind (x0.z.div viv1) fun viv4 =>
      .ret (Go.Proofs.YthdpjmkknodmpaaGreat.V.mk viv2 viv3 viv4) := by kernel_rfl
theorem c_meniscusref1_Unit (x0 : V) : Plain Tryz.prog 129 [cV.enc x0] (cV.enc (V.unit x0)) :=
  plain_of_tree (n := 200) (EnvOK.add s_meniscusref1_DivIv (EnvOK.add s_meniscusref1_RootIv (EnvOK.add s_meniscusref1_Len2 EnvOK.nil))) Tryz.func129 (args := [cV.av x0]) (by simp only [AV.vals, Cod.av_val]) (Nat.le_of_ble_eq_true (by kernel_rfl)) LFn.nil cV (by
    rw [t_meniscusref1_Unit]
    rfl)
theorem s_meniscusref1_Unit : Ev.Spec Tryz.prog 129 (F1 cV cV V.unit) := spec1 (fun vs w => Tryz.call129 vs w) c_meniscusref1_Unit

/-! meniscusref1.Along -/
theorem t_meniscusref1_Along (x0 : Ray) (x1 : Iv) :
    evFn Tryz.prog (Env.add 86 (F2 cV cV cV V.add) (Env.add 87 (F2 cV cIv cV V.scale) Env.nil)) Laws.nil 200 Tryz.f64 [cRay.av x0, cIv.av x1] [] cV.dec =
      .bind (x0.d.scale x1) fun vv0 =>
      .bind (x0.o.add vv0) fun vv1 =>
      .ret (vv1) := by kernel_rfl
theorem c_meniscusref1_Along (x0 : Ray) (x1 : Iv) : Plain Tryz.prog 64 [cRay.enc x0, cIv.enc x1] (cV.enc (along x0 x1)) :=
  plain_of_tree (n := 200) (EnvOK.add s_meniscusref1_AddV (EnvOK.add s_meniscusref1_Scale EnvOK.nil)) Tryz.func64 (args := [cRay.av x0, cIv.av x1]) (by simp only [AV.vals, Cod.av_val]) (Nat.le_of_ble_eq_true (by kernel_rfl)) LFn.nil cV (by
    rw [t_meniscusref1_Along]
    rfl)
theorem s_meniscusref1_Along : Ev.Spec Tryz.prog 64 (F2 cRay cIv cV along) := spec2 (fun vs w => Tryz.call64 vs w) c_meniscusref1_Along

/-! meniscusref1.Near -/
theorem t_meniscusref1_Near (x0 : Iv) (x1 : Iv) (x2 : Iv) :
    evFn Tryz.prog (Env.add 51 (F1 cIv cIv Iv.sqr) (Env.add 52 (F2 cIv cIv cIv Iv.div) (Env.add 56 (F0 cIv Iv.none) (Env.add 65 (F2 cIv cIv cIv Iv.sub) (Env.add 66 (F1 cIv cBool Iv.right) (Env.add 77 (F2 cIv cIv cIv Iv.mul) (Env.add 78 (F1 cIv cIv Iv.root) Env.nil))))))) Laws.nil 200 Tryz.f125 [cIv.av x0, cIv.av x1, cIv.av x2] [] (cTwo cIv cInt).dec =
      .bind (x1.sqr) fun viv0 =>
      .bind (x0.mul x2) fun viv1 =>
      .bind (viv0.sub viv1) fun viv2 =>
      .bind (viv2.right) fun vb3 =>
      .br (!vb3)
       (
        .bind (Go.Proofs.YthdpjmkknodmpaaGreat.Iv.none) fun viv4 =>
        .ret ((viv4, 0)))
       (
        .br (Decidable.decide (viv2.hi < 0))
         (
          .bind (Go.Proofs.YthdpjmkknodmpaaGreat.Iv.none) fun viv5 =>
          .ret ((viv5, 2)))
         (
          .br (Decidable.decide (viv2.lo < 0))
           (
            .bind (Go.Proofs.YthdpjmkknodmpaaGreat.Iv.none) fun viv6 =>
            .ret ((viv6, 0)))
           (
            .bind (viv2.root) fun viv7 =>
            .bind (viv7.sub x1) fun viv8 =>
            .bind (x2.div viv8) fun viv9 =>
            .bind (viv9.right) fun vb10 =>
            .br (!vb10)
             (
              .bind (Go.Proofs.YthdpjmkknodmpaaGreat.Iv.none) fun viv11 =>
              .ret ((viv11, 0)))
             (
              .ret ((viv9, 1)))))) := by kernel_rfl
theorem c_meniscusref1_Near (x0 : Iv) (x1 : Iv) (x2 : Iv) : Plain Tryz.prog 125 [cIv.enc x0, cIv.enc x1, cIv.enc x2] ((cTwo cIv cInt).enc (near x0 x1 x2)) :=
  plain_of_tree (n := 200) (EnvOK.add s_meniscusref1_Sqr (EnvOK.add s_meniscusref1_DivIv (EnvOK.add s_meniscusref1_None (EnvOK.add s_meniscusref1_Sub (EnvOK.add s_meniscusref1_Right (EnvOK.add s_meniscusref1_MulIv (EnvOK.add s_meniscusref1_RootIv EnvOK.nil))))))) Tryz.func125 (args := [cIv.av x0, cIv.av x1, cIv.av x2]) (by simp only [AV.vals, Cod.av_val]) (Nat.le_of_ble_eq_true (by kernel_rfl)) LFn.nil (cTwo cIv cInt) (by
    rw [t_meniscusref1_Near]
    simp only [den_br, den_bind, den_ret, den_fail, den_inl, den_inr, decide_eq_true_eq]
    simp only [near, no_sub, no_div]
    grind)
theorem s_meniscusref1_Near : Ev.Spec Tryz.prog 125 (F3 cIv cIv cIv (cTwo cIv cInt) near) := spec3 (fun vs w => Tryz.call125 vs w) c_meniscusref1_Near

/-! meniscusref1.Horner -/
theorem tl_meniscusref1_Horner_5 (t6 : Int) (r0 : List Iv) (r1 : Iv) (r2 : Iv) (r3 : Iv) :
    ev Tryz.prog (Env.add 30 (F1 cInt cIv Iv.point) (Env.add 32 (F2 cIv cIv cIv Iv.add) (Env.add 56 (F0 cIv Iv.none) (Env.add 66 (F1 cIv cBool Iv.right) (Env.add 77 (F2 cIv cIv cIv Iv.mul) Env.nil))))) Laws.nil 200 none (loopAt Tryz.f147 5) ((sc 37 [6, 0, 3, 4, 5] (tCod 6 cInt (tSl 0 0 (tOwn 3 1 (tOwn 4 2 (tOwn 5 3 tNil))))) (rL_iv (rBox ccIv ccIv_ok (rBox ccIv ccIv_ok (rBox ccIv ccIv_ok rNil))))).enc ((t6, ()), (r0, r1, r2, r3, ()))) (backK (sc 37 [6, 0, 3, 4, 5] (tCod 6 cInt (tSl 0 0 (tOwn 3 1 (tOwn 4 2 (tOwn 5 3 tNil))))) (rL_iv (rBox ccIv ccIv_ok (rBox ccIv ccIv_ok (rBox ccIv ccIv_ok rNil))))) (ocExit 0 (sc 37 [4, 5] (tOwn 4 0 (tOwn 5 1 tNil)) (rBox ccIv ccIv_ok (rBox ccIv ccIv_ok rNil))))) =
      .br (Decidable.decide (t6 ≥ 0))
       (
        .bind (r3.mul r1) fun viv0 =>
        .br (Decidable.decide (0 ≤ t6 ∧ t6 < (@Nat.cast Int _ r0.length)))
         (
          .get (r0[t6.toNat]?) fun vt1 =>
          .bind (viv0.add vt1) fun viv2 =>
          .ret (Sum.inl ((Go.IntKind.i64.wrap (t6 - 1), ()), r0, r1, r2, viv2, ())))
         (
          .fail))
       (
        .ret (Sum.inr ((), r2, r3, ()))) := by kernel_rfl
theorem ok_meniscusref1_Horner_5 : LOK Tryz.prog (LoopR.of (sc 37 [6, 0, 3, 4, 5] (tCod 6 cInt (tSl 0 0 (tOwn 3 1 (tOwn 4 2 (tOwn 5 3 tNil))))) (rL_iv (rBox ccIv ccIv_ok (rBox ccIv ccIv_ok (rBox ccIv ccIv_ok rNil))))) (ocExit 0 (sc 37 [4, 5] (tOwn 4 0 (tOwn 5 1 tNil)) (rBox ccIv ccIv_ok (rBox ccIv ccIv_ok rNil)))) hornRun) (loopAt Tryz.f147 5) := by
  refine loop_ok (EnvOK.add s_meniscusref1_Point (EnvOK.add s_meniscusref1_Add (EnvOK.add s_meniscusref1_None (EnvOK.add s_meniscusref1_Right (EnvOK.add s_meniscusref1_MulIv EnvOK.nil))))) (LFn.at (fn := Tryz.f147) LFn.nil 5) hornStep (n := 200) (fun x z h => ?_) hornRun_ok
  obtain ⟨⟨t6, ⟨⟩⟩, ⟨r0, r1, r2, r3, ⟨⟩⟩⟩ := x
  rw [tl_meniscusref1_Horner_5]
  rw [← h]
  simp only [den_br, den_bind, den_ret, den_fail, den_inl, den_inr, decide_eq_true_eq]
  simp only [hornStep]
  by_cases h0 : 0 ≤ t6 <;> simp only [h0, if_true, if_false, true_and]
  by_cases h1 : t6 < (r0.length : Int) <;> simp only [h1, if_true, if_false]
  cases hg : r0[t6.toNat]? with
  | none => rfl
  | some a => simp only [den_get, den_br, den_bind, den_ret, den_fail]
theorem t_meniscusref1_Horner (t1 : Iv) (r0 : List Iv) :
    evFn Tryz.prog (Env.add 30 (F1 cInt cIv Iv.point) (Env.add 32 (F2 cIv cIv cIv Iv.add) (Env.add 56 (F0 cIv Iv.none) (Env.add 66 (F1 cIv cBool Iv.right) (Env.add 77 (F2 cIv cIv cIv Iv.mul) Env.nil))))) (Laws.add 5 (LoopR.of (sc 37 [6, 0, 3, 4, 5] (tCod 6 cInt (tSl 0 0 (tOwn 3 1 (tOwn 4 2 (tOwn 5 3 tNil))))) (rL_iv (rBox ccIv ccIv_ok (rBox ccIv ccIv_ok (rBox ccIv ccIv_ok rNil))))) (ocExit 0 (sc 37 [4, 5] (tOwn 4 0 (tOwn 5 1 tNil)) (rBox ccIv ccIv_ok (rBox ccIv ccIv_ok rNil)))) hornRun) Laws.nil) 200 Tryz.f147 (((sc 2 [0, 1] (tSl 0 0 (tCod 1 cIv tNil)) (rL_iv rNil)).enc ((t1, ()), (r0, ()))).tmps.map Prod.snd) ((sc 2 [0, 1] (tSl 0 0 (tCod 1 cIv tNil)) (rL_iv rNil)).enc ((t1, ()), (r0, ()))).mem cIv.dec =
      .br ((@Nat.cast Int _ r0.length) == 0)
       (
        .bind (Go.Proofs.YthdpjmkknodmpaaGreat.Iv.point 0) fun viv0 =>
        .ret (viv0))
       (
        .br (Decidable.decide (0 ≤ Go.IntKind.i64.wrap ((@Nat.cast Int _ r0.length) - 1) ∧ Go.IntKind.i64.wrap ((@Nat.cast Int _ r0.length) - 1) < (@Nat.cast Int _ r0.length)))
         (
          .get (r0[(Go.IntKind.i64.wrap ((@Nat.cast Int _ r0.length) - 1)).toNat]?) fun vt1 =>
          .get (Go.Proofs.YthdpjmkknodmpaaGreat.hornRun ((Go.IntKind.i64.wrap ((@Nat.cast Int _ r0.length) - 2), ()), r0, t1, Go.Proofs.YthdpjmkknodmpaaGreat.Iv.mk 0 0 Bool.false, vt1, ())) fun vy2 =>
          .bind (vy2.snd.snd.fst.right) fun vb3 =>
          .br (!vb3)
           (
            .bind (Go.Proofs.YthdpjmkknodmpaaGreat.Iv.none) fun viv4 =>
            .ret (viv4))
           (
            .ret (vy2.snd.snd.fst)))
         (
          .fail)) := by kernel_rfl
theorem c_meniscusref1_Horner : PlainS Tryz.prog 147 (sc 2 [0, 1] (tSl 0 0 (tCod 1 cIv tNil)) (rL_iv rNil)) cIv (fun x => lenOk x.2.1) ((fun x => horner x.2.1 x.1.1)) := by
  intro x h N w vs hM hv
  obtain ⟨⟨t1, ⟨⟩⟩, ⟨r0, ⟨⟩⟩⟩ := x
  refine calls_of_tree (n := 200) (EnvOK.add s_meniscusref1_Point (EnvOK.add s_meniscusref1_Add (EnvOK.add s_meniscusref1_None (EnvOK.add s_meniscusref1_Right (EnvOK.add s_meniscusref1_MulIv EnvOK.nil))))) Tryz.func147 hv (Nat.le_of_ble_eq_true (by kernel_rfl)) (LFn.add (fn := Tryz.f147) (i := 5) (by kernel_rfl) ok_meniscusref1_Horner_5 LFn.nil) hM cIv ?_
  rw [t_meniscusref1_Horner]
  simp only [den_br, den_bind, den_ret, den_fail, den_inl, den_inr, decide_eq_true_eq]
  simp at h
  have hl := lenOk_iff.1 h
  have e1 : IntKind.i64.wrap ((r0.length : Int) - 1) = (r0.length : Int) - 1 := wr (by omega)
  have e2 : IntKind.i64.wrap ((r0.length : Int) - 2) = (r0.length : Int) - 2 := wr (by omega)
  simp only [e1, e2, horner]
  by_cases h0 : r0.length = 0
  · simp [h0]
  have h1 : ¬ ((r0.length : Int) = 0) := by omega
  have hlt : ((r0.length : Int) - 1).toNat < r0.length := by omega
  have et : ((r0.length : Int) - 1).toNat = r0.length - 1 := by omega
  have hr : hornRun (((r0.length : Int) - 2, ()), (r0, t1, Iv.zero, atI r0 (r0.length - 1), ())) = some ((), (Iv.zero, hornerD r0 t1 (r0.length - 1) (atI r0 (r0.length - 1)), ())) := by
    simp only [hornRun]
    rw [if_pos (by omega)]
    have : ((r0.length : Int) - 2 + 1).toNat = r0.length - 1 := by omega
    rw [this]
  rw [get_atI hlt, et]
  have h2 : 0 ≤ (r0.length : Int) - 1 ∧ (r0.length : Int) - 1 < (r0.length : Int) := by omega
  have h3 : ((r0.length : Int) == 0) = false := beq_eq_false_iff_ne.2 h1
  simp only [h0, h2, h3, if_true, if_false, Bool.false_eq_true, den_get]
  rw [show (⟨0, 0, false⟩ : Iv) = Iv.zero from rfl, hr]
  simp only [den_get, den_bind, den_br, den_ret]
  cases (hornerD r0 t1 (r0.length - 1) (atI r0 (r0.length - 1))).right <;> rfl
theorem s_meniscusref1_Horner : Ev.Spec Tryz.prog 147 (FS (sc 2 [0, 1] (tSl 0 0 (tCod 1 cIv tNil)) (rL_iv rNil)) cIv (fun x => lenOk x.2.1) ((fun x => horner x.2.1 x.1.1))) := specS rfl (fun vs w => Tryz.call147 vs w) c_meniscusref1_Horner

/-! meniscusref1.Slope -/
theorem tl_meniscusref1_Slope_3 (t4 : Int) (r0 : List Iv) (r1 : List Iv) :
    ev Tryz.prog (Env.add 124 (F2 cIv cInt cIv Iv.times) Env.nil) Laws.nil 200 none (loopAt Tryz.f148 3) ((sc 21 [4, 0, 3] (tCod 4 cInt (tSl 0 0 (tSl 3 1 tNil))) (rL_iv (rG_iv 25 rNil))).enc ((t4, ()), (r0, r1, ()))) (backK (sc 21 [4, 0, 3] (tCod 4 cInt (tSl 0 0 (tSl 3 1 tNil))) (rL_iv (rG_iv 25 rNil))) (ocExit 0 (sc 21 [3] (tSl 3 0 tNil) (rG_iv 25 rNil)))) =
      .br (Decidable.decide (t4 < (@Nat.cast Int _ r0.length)))
       (
        .br (Decidable.decide (0 ≤ t4 ∧ t4 < (@Nat.cast Int _ r0.length)))
         (
          .get (r0[t4.toNat]?) fun vt0 =>
          .bind (Go.Proofs.YthdpjmkknodmpaaGreat.Iv.times vt0 t4) fun viv1 =>
          .br (Go.Proofs.YthdpjmkknodmpaaGreat.Ev.lenOk (r1 ++ [viv1]))
           (
            .ret (Sum.inl ((Go.IntKind.i64.wrap (t4 + 1), ()), r0, r1 ++ [viv1], ())))
           (
            .fail))
         (
          .fail))
       (
        .ret (Sum.inr ((), r1, ()))) := by kernel_rfl
theorem ok_meniscusref1_Slope_3 : LOK Tryz.prog (LoopR.of (sc 21 [4, 0, 3] (tCod 4 cInt (tSl 0 0 (tSl 3 1 tNil))) (rL_iv (rG_iv 25 rNil))) (ocExit 0 (sc 21 [3] (tSl 3 0 tNil) (rG_iv 25 rNil))) slopeRun) (loopAt Tryz.f148 3) := by
  refine loop_ok (EnvOK.add s_meniscusref1_Times EnvOK.nil) (LFn.at (fn := Tryz.f148) LFn.nil 3) slopeStep (n := 200) (fun x z h => ?_) slopeRun_ok
  obtain ⟨⟨t4, ⟨⟩⟩, ⟨r0, r1, ⟨⟩⟩⟩ := x
  rw [tl_meniscusref1_Slope_3]
  rw [← h]
  simp only [den_br, den_bind, den_ret, den_fail, den_inl, den_inr, decide_eq_true_eq]
  simp only [slopeStep]
  by_cases h0 : t4 < (r0.length : Int) <;> simp only [h0, if_true, if_false, and_true]
  by_cases h1 : 0 ≤ t4 <;> simp only [h1, if_true, if_false]
  cases hg : r0[t4.toNat]? with
  | none => rfl
  | some a => simp only [den_get, den_br, den_bind, den_ret, den_fail]
theorem t_meniscusref1_Slope (r0 : List Iv) :
    evFnR Tryz.prog (Env.add 124 (F2 cIv cInt cIv Iv.times) Env.nil) (Laws.add 3 (LoopR.of (sc 21 [4, 0, 3] (tCod 4 cInt (tSl 0 0 (tSl 3 1 tNil))) (rL_iv (rG_iv 25 rNil))) (ocExit 0 (sc 21 [3] (tSl 3 0 tNil) (rG_iv 25 rNil))) slopeRun) Laws.nil) 200 Tryz.f148 (((sc 1 [0] (tSl 0 0 tNil) (rL_iv rNil)).enc ((()), (r0, ()))).tmps.map Prod.snd) ((sc 1 [0] (tSl 0 0 tNil) (rL_iv rNil)).enc ((()), (r0, ()))).mem (sc 1 [0] (tSl 0 0 tNil) (rG_iv 25 rNil)).ts (sc 1 [0] (tSl 0 0 tNil) (rG_iv 25 rNil)).dec =
      .get (Go.Proofs.YthdpjmkknodmpaaGreat.slopeRun ((1, ()), r0, [], ())) fun vy0 =>
      .ret (((), vy0.snd.fst, ())) := by kernel_rfl
theorem c_meniscusref1_Slope : PlainR Tryz.prog 148 (sc 1 [0] (tSl 0 0 tNil) (rL_iv rNil)) (sc 1 [0] (tSl 0 0 tNil) (rG_iv 25 rNil)) (fun x => lenOk x.2.1) ((fun x => (((), (slope x.2.1, ()))))) := by
  intro x h N w vs hM hv
  obtain ⟨⟨⟩, ⟨r0, ⟨⟩⟩⟩ := x
  refine calls_of_treeR (n := 200) (EnvOK.add s_meniscusref1_Times EnvOK.nil) Tryz.func148 hv (Nat.le_of_ble_eq_true (by kernel_rfl)) (LFn.add (fn := Tryz.f148) (i := 3) (by kernel_rfl) ok_meniscusref1_Slope_3 LFn.nil) hM (sc 1 [0] (tSl 0 0 tNil) (rG_iv 25 rNil)) rfl ?_
  rw [t_meniscusref1_Slope]
  simp only [den_br, den_bind, den_ret, den_fail, den_inl, den_inr, decide_eq_true_eq]
  simp at h
  have hl := lenOk_iff.1 h
  have hr : slopeRun ((1, ()), (r0, [], ())) = some ((), (slope r0, ())) := by
    refine (if_pos ⟨by omega, by omega, by omega, by simp⟩).trans ?_
    rfl
  rw [hr]
  rfl
theorem s_meniscusref1_Slope : Ev.Spec Tryz.prog 148 (FR (sc 1 [0] (tSl 0 0 tNil) (rL_iv rNil)) (sc 1 [0] (tSl 0 0 tNil) (rG_iv 25 rNil)) (fun x => lenOk x.2.1) ((fun x => (((), (slope x.2.1, ())))))) := specR rfl (fun _ => rfl) (fun vs w => Tryz.call148 vs w) c_meniscusref1_Slope

/-! poly.Slope -/
theorem tl_poly_Slope_3 (t8 : Int) (t7 : Int) (r0 : List Iv) (r1 : List Iv) :
    ev Tryz.prog (Env.add 122 (F2 cIv cInt cIv Iv.times) Env.nil) Laws.nil 200 none (loopAt Tryz.f139 3) ((sc 23 [8, 7, 6, 3] (tCod 8 cInt (tCod 7 cInt (tSl 6 0 (tSl 3 1 tNil)))) (rL_iv (rG_iv 25 rNil))).enc ((t8, t7, ()), (r0, r1, ()))) (backK (sc 23 [8, 7, 6, 3] (tCod 8 cInt (tCod 7 cInt (tSl 6 0 (tSl 3 1 tNil)))) (rL_iv (rG_iv 25 rNil))) (ocExit 0 (sc 23 [3] (tSl 3 0 tNil) (rG_iv 25 rNil)))) =
      .br (Decidable.decide (t8 < t7))
       (
        .br (Decidable.decide (0 ≤ t8 ∧ t8 < (@Nat.cast Int _ r0.length)))
         (
          .get (r0[t8.toNat]?) fun vt0 =>
          .br (Decidable.decide (t8 > 0))
           (
            .bind (Go.Proofs.YthdpjmkknodmpaaGreat.Iv.times vt0 t8) fun viv1 =>
            .br (Go.Proofs.YthdpjmkknodmpaaGreat.Ev.lenOk (r1 ++ [viv1]))
             (
              .ret (Sum.inl ((Go.IntKind.i64.wrap (t8 + 1), t7, ()), r0, r1 ++ [viv1], ())))
             (
              .fail))
           (
            .ret (Sum.inl ((Go.IntKind.i64.wrap (t8 + 1), t7, ()), r0, r1, ()))))
         (
          .fail))
       (
        .ret (Sum.inr ((), r1, ()))) := by kernel_rfl
theorem ok_poly_Slope_3 : LOK Tryz.prog (LoopR.of (sc 23 [8, 7, 6, 3] (tCod 8 cInt (tCod 7 cInt (tSl 6 0 (tSl 3 1 tNil)))) (rL_iv (rG_iv 25 rNil))) (ocExit 0 (sc 23 [3] (tSl 3 0 tNil) (rG_iv 25 rNil))) slope2Run) (loopAt Tryz.f139 3) := by
  refine loop_ok (EnvOK.add s_iv_Times EnvOK.nil) (LFn.at (fn := Tryz.f139) LFn.nil 3) slope2Step (n := 200) (fun x z h => ?_) slope2Run_ok
  obtain ⟨⟨t8, t7, ⟨⟩⟩, ⟨r0, r1, ⟨⟩⟩⟩ := x
  rw [tl_poly_Slope_3]
  rw [← h]
  simp only [den_br, den_bind, den_ret, den_fail, den_inl, den_inr, decide_eq_true_eq]
  simp only [slope2Step]
  by_cases h0 : t8 < t7 <;> simp only [h0, if_true, if_false]
  by_cases h1 : 0 ≤ t8 ∧ t8 < (r0.length : Int) <;> simp only [h1, if_true, if_false, and_self]
  cases hg : r0[t8.toNat]? with
  | none => rfl
  | some a =>
    by_cases h2 : 0 < t8 <;> simp only [den_get, den_br, den_bind, den_ret, den_fail, gt_iff_lt, h2, decide_true, decide_false, if_true, if_false, Bool.false_eq_true]
theorem t_poly_Slope (r0 : List Iv) :
    evFnR Tryz.prog (Env.add 122 (F2 cIv cInt cIv Iv.times) Env.nil) (Laws.add 3 (LoopR.of (sc 23 [8, 7, 6, 3] (tCod 8 cInt (tCod 7 cInt (tSl 6 0 (tSl 3 1 tNil)))) (rL_iv (rG_iv 25 rNil))) (ocExit 0 (sc 23 [3] (tSl 3 0 tNil) (rG_iv 25 rNil))) slope2Run) Laws.nil) 200 Tryz.f139 (((sc 1 [0] (tSl 0 0 tNil) (rL_iv rNil)).enc ((()), (r0, ()))).tmps.map Prod.snd) ((sc 1 [0] (tSl 0 0 tNil) (rL_iv rNil)).enc ((()), (r0, ()))).mem (sc 1 [0] (tSl 0 0 tNil) (rG_iv 25 rNil)).ts (sc 1 [0] (tSl 0 0 tNil) (rG_iv 25 rNil)).dec =
      .get (Go.Proofs.YthdpjmkknodmpaaGreat.slope2Run ((0, (@Nat.cast Int _ r0.length), ()), r0, [], ())) fun vy0 =>
      .ret (((), vy0.snd.fst, ())) := by kernel_rfl
theorem c_poly_Slope : PlainR Tryz.prog 139 (sc 1 [0] (tSl 0 0 tNil) (rL_iv rNil)) (sc 1 [0] (tSl 0 0 tNil) (rG_iv 25 rNil)) (fun x => lenOk x.2.1) ((fun x => (((), (slope x.2.1, ()))))) := by
  intro x h N w vs hM hv
  obtain ⟨⟨⟩, ⟨r0, ⟨⟩⟩⟩ := x
  refine calls_of_treeR (n := 200) (EnvOK.add s_iv_Times EnvOK.nil) Tryz.func139 hv (Nat.le_of_ble_eq_true (by kernel_rfl)) (LFn.add (fn := Tryz.f139) (i := 3) (by kernel_rfl) ok_poly_Slope_3 LFn.nil) hM (sc 1 [0] (tSl 0 0 tNil) (rG_iv 25 rNil)) rfl ?_
  rw [t_poly_Slope]
  simp only [den_br, den_bind, den_ret, den_fail, den_inl, den_inr, decide_eq_true_eq]
  simp at h
  have hl := lenOk_iff.1 h
  have hr : slope2Run ((0, (r0.length : Int), ()), (r0, [], ())) = some ((), (slope r0, ())) := by
    refine (if_pos ⟨by omega, hl, by simp⟩).trans ?_
    rw [← slope_go]; rfl
  rw [hr]
  rfl
theorem s_poly_Slope : Ev.Spec Tryz.prog 139 (FR (sc 1 [0] (tSl 0 0 tNil) (rL_iv rNil)) (sc 1 [0] (tSl 0 0 tNil) (rG_iv 25 rNil)) (fun x => lenOk x.2.1) ((fun x => (((), (slope x.2.1, ())))))) := specR rfl (fun _ => rfl) (fun vs w => Tryz.call139 vs w) c_poly_Slope

/-! meniscusref14.none -/
theorem t_meniscusref14_none  :
    evFn Tryz.prog (Env.add 56 (F0 cIv Iv.none) Env.nil) Laws.nil 200 Tryz.f63 [] [] cIv.dec =
      .bind (Go.Proofs.YthdpjmkknodmpaaGreat.Iv.none) fun viv0 =>
      .ret (viv0) := by kernel_rfl
theorem c_meniscusref14_none  : Plain Tryz.prog 63 [] (cIv.enc (Iv.none)) :=
  plain_of_tree (n := 200) (EnvOK.add s_meniscusref1_None EnvOK.nil) Tryz.func63 (args := []) rfl (Nat.le_of_ble_eq_true (by kernel_rfl)) LFn.nil cIv (by
    rw [t_meniscusref14_none]
    rfl)
theorem s_meniscusref14_none : Ev.Spec Tryz.prog 63 (F0 cIv Iv.none) := spec0 (fun vs w => Tryz.call63 vs w) c_meniscusref14_none

/-! meniscusref14.NoV -/
theorem t_meniscusref14_NoV  :
    evFn Tryz.prog (Env.add 63 (F0 cIv Iv.none) Env.nil) Laws.nil 200 Tryz.f109 [] [] cV.dec =
      .bind (Go.Proofs.YthdpjmkknodmpaaGreat.Iv.none) fun viv0 =>
      .bind (Go.Proofs.YthdpjmkknodmpaaGreat.Iv.none) fun viv1 =>
      .bind (Go.Proofs.YthdpjmkknodmpaaGreat.Iv.none) fun viv2 =>
      .ret (Go.Proofs.YthdpjmkknodmpaaGreat.V.mk viv0 viv1 viv2) := by kernel_rfl
theorem c_meniscusref14_NoV  : Plain Tryz.prog 109 [] (cV.enc (V.none)) :=
  plain_of_tree (n := 200) (EnvOK.add s_meniscusref14_none EnvOK.nil) Tryz.func109 (args := []) rfl (Nat.le_of_ble_eq_true (by kernel_rfl)) LFn.nil cV (by
    rw [t_meniscusref14_NoV]
    rfl)
theorem s_meniscusref14_NoV : Ev.Spec Tryz.prog 109 (F0 cV V.none) := spec0 (fun vs w => Tryz.call109 vs w) c_meniscusref14_NoV

/-! meniscusref14.NoRay -/
theorem t_meniscusref14_NoRay  :
    evFn Tryz.prog (Env.add 109 (F0 cV V.none) Env.nil) Laws.nil 200 Tryz.f85 [] [] cRay.dec =
      .bind (Go.Proofs.YthdpjmkknodmpaaGreat.V.none) fun vv0 =>
      .bind (Go.Proofs.YthdpjmkknodmpaaGreat.V.none) fun vv1 =>
      .ret (Go.Proofs.YthdpjmkknodmpaaGreat.Ray.mk vv0 vv1) := by kernel_rfl
theorem c_meniscusref14_NoRay  : Plain Tryz.prog 85 [] (cRay.enc (Ray.none)) :=
  plain_of_tree (n := 200) (EnvOK.add s_meniscusref14_NoV EnvOK.nil) Tryz.func85 (args := []) rfl (Nat.le_of_ble_eq_true (by kernel_rfl)) LFn.nil cRay (by
    rw [t_meniscusref14_NoRay]
    rfl)
theorem s_meniscusref14_NoRay : Ev.Spec Tryz.prog 85 (F0 cRay Ray.none) := spec0 (fun vs w => Tryz.call85 vs w) c_meniscusref14_NoRay
end Go.Proofs.YthdpjmkknodmpaaGreat
