/-
  Contracts of calls, written by a small program of this session out of the evaluator's trees.
-/
import Derived.Test.YtmpjfdaldejjlaaGreatCore
import Derived.Test.YtmpjfdaldejjlaaGreatCoreLoops
import Derived.Test.YtmpjfdaldejjlaaGreatCore2
import Derived.Test.YtmpjfdaldejjlaaGreatCore3
import Derived.Test.YtmpjfdaldejjlaaGreatCore4
import Derived.Test.YtmpjfdaldejjlaaGreatEvCod
import Derived.Test.YtmpjfdaldejjlaaGreatEvRet
import Derived.Test.YtmpjfdaldejjlaaGreatProg
namespace Go.Proofs.YtmpjfdaldejjlaaGreat
open Go Go.RowKit Ev
set_option maxRecDepth 100000
set_option linter.unusedVariables false
set_option linter.unusedSimpArgs false

/-! num.In -/
theorem t_num_In (x0 : Int) :
    evFn Tryz.prog Env.nil Laws.nil 200 Tryz.f76 [cInt.av x0] [] cBool.dec =
      .br (Decidable.decide (x0 ≥ -1073741824))
       (
        .ret (Decidable.decide (x0 ≤ 1073741824)))
       (
        .ret (Bool.false)) := by kernel_rfl
theorem c_num_In (x0 : Int) : Plain Tryz.prog 76 [cInt.enc x0] (cBool.enc (numIn x0)) :=
  plain_of_tree (n := 200) EnvOK.nil Tryz.func76 (args := [cInt.av x0]) (by simp only [AV.vals, Cod.av_val]) (Nat.le_of_ble_eq_true (by kernel_rfl)) LFn.nil cBool (by
    rw [t_num_In]
    simp only [Tr.den]
    grind [numIn])
theorem s_num_In : Ev.Spec Tryz.prog 76 (F1 cInt cBool numIn) := spec1 (fun vs w => Tryz.call76 vs w) c_num_In

/-! num.Floor -/
theorem t_num_Floor (x0 : Int) (x1 : Int) :
    evFn Tryz.prog Env.nil Laws.nil 200 Tryz.f164 [cInt.av x0, cInt.av x1] [] cInt.dec =
      .br (x1 == 0)
       (
        .ret (0))
       (
        .br (x1 != 0)
         (
          .br (x1 != 0)
           (
            .br (x0.tmod x1 != 0)
             (
              .br (!Decidable.decide (x0 < 0) == Decidable.decide (x1 < 0))
               (
                .ret (Go.IntKind.i64.wrap (Go.IntKind.i64.wrap (x0.tdiv x1) - 1)))
               (
                .ret (Go.IntKind.i64.wrap (x0.tdiv x1))))
             (
              .ret (Go.IntKind.i64.wrap (x0.tdiv x1))))
           (
            .fail))
         (
          .fail)) := by kernel_rfl
theorem c_num_Floor (x0 : Int) (x1 : Int) (h : flOk x0 x1 = true) : Plain Tryz.prog 164 [cInt.enc x0, cInt.enc x1] (cInt.enc (fl x0 x1)) :=
  plain_of_tree (n := 200) EnvOK.nil Tryz.func164 (args := [cInt.av x0, cInt.av x1]) (by simp only [AV.vals, Cod.av_val]) (Nat.le_of_ble_eq_true (by kernel_rfl)) LFn.nil cInt (by
    rw [t_num_Floor]
    simp [flOk] at h
    simp only [Tr.den]
    by_cases hb : x1 = 0
    · subst hb; simp [fl]
    · have e := fl_tdiv x0 x1 hb
      have hw := tdiv_bd (a := x0) (b := x1) (by omega) (by omega)
      simp (disch := omega) only [IntWalk.i64_in] at *
      grind)
theorem s_num_Floor : Ev.Spec Tryz.prog 164 (F2p cInt cInt cInt flOk fl) := spec2p (fun vs w => Tryz.call164 vs w) c_num_Floor

/-! num.rounded -/
theorem t_num_rounded (x0 : Int) (x1 : Int) (x2 : Bool) :
    evFn Tryz.prog (Env.add 76 (F1 cInt cBool numIn) (Env.add 164 (F2p cInt cInt cInt flOk fl) Env.nil)) Laws.nil 200 Tryz.f138 [cInt.av x0, cInt.av x1, cBool.av x2] [] (cTwo cInt cBool).dec =
      .br (Go.Proofs.YtmpjfdaldejjlaaGreat.flOk x0 x1)
       (
        .bind (Go.Proofs.YtmpjfdaldejjlaaGreat.fl x0 x1) fun vn0 =>
        .br (x2)
         (
          .br (x1 != 0)
           (
            .br (x0.tmod x1 != 0)
             (
              .bind (Go.Proofs.YtmpjfdaldejjlaaGreat.numIn (Go.IntKind.i64.wrap (vn0 + 1))) fun vb1 =>
              .br (!vb1)
               (
                .ret ((0, Bool.false)))
               (
                .ret ((Go.IntKind.i64.wrap (vn0 + 1), Bool.true))))
             (
              .bind (Go.Proofs.YtmpjfdaldejjlaaGreat.numIn vn0) fun vb2 =>
              .br (!vb2)
               (
                .ret ((0, Bool.false)))
               (
                .ret ((vn0, Bool.true)))))
           (
            .fail))
         (
          .bind (Go.Proofs.YtmpjfdaldejjlaaGreat.numIn vn0) fun vb3 =>
          .br (!vb3)
           (
            .ret ((0, Bool.false)))
           (
            .ret ((vn0, Bool.true)))))
       (
        .fail) := by kernel_rfl
theorem c_num_rounded (x0 : Int) (x1 : Int) (x2 : Bool) (h : rnOk x0 x1 x2 = true) : Plain Tryz.prog 138 [cInt.enc x0, cInt.enc x1, cBool.enc x2] ((cTwo cInt cBool).enc (rnd x0 x1 x2)) :=
  plain_of_tree (n := 200) (EnvOK.add s_num_In (EnvOK.add s_num_Floor EnvOK.nil)) Tryz.func138 (args := [cInt.av x0, cInt.av x1, cBool.av x2]) (by simp only [AV.vals, Cod.av_val]) (Nat.le_of_ble_eq_true (by kernel_rfl)) LFn.nil (cTwo cInt cBool) (by
    rw [t_num_rounded]
    simp [rnOk] at h
    simp only [Tr.den, h.1]
    have e := fl_tdiv x0 x1 h.2
    have hw := tdiv_bd (a := x0) (b := x1) (by simp [flOk] at h; omega) (by simp [flOk] at h; omega)
    have hz := fl_mul x0 x1 h.2
    have hfl : -9223372036854775807 < fl x0 x1 ∧ fl x0 x1 < 9223372036854775806 := by rw [e]; split <;> omega
    simp (disch := omega) only [IntWalk.i64_in] at *
    grind [rnd])
theorem s_num_rounded : Ev.Spec Tryz.prog 138 (F3p cInt cInt cBool (cTwo cInt cBool) rnOk rnd) := spec3p (fun vs w => Tryz.call138 vs w) c_num_rounded

/-! num.Mul -/
theorem t_num_Mul (x0 : Int) (x1 : Int) (x2 : Bool) :
    evFn Tryz.prog (Env.add 76 (F1 cInt cBool numIn) (Env.add 138 (F3p cInt cInt cBool (cTwo cInt cBool) rnOk rnd) Env.nil)) Laws.nil 200 Tryz.f91 [cInt.av x0, cInt.av x1, cBool.av x2] [] (cTwo cInt cBool).dec =
      .bind (Go.Proofs.YtmpjfdaldejjlaaGreat.numIn x0) fun vb0 =>
      .br (!vb0)
       (
        .ret ((0, Bool.false)))
       (
        .bind (Go.Proofs.YtmpjfdaldejjlaaGreat.numIn x1) fun vb1 =>
        .br (!vb1)
         (
          .ret ((0, Bool.false)))
         (
          .br (Go.Proofs.YtmpjfdaldejjlaaGreat.rnOk (Go.IntKind.i64.wrap (x0 * x1)) 65536 x2)
           (
            .bind (Go.Proofs.YtmpjfdaldejjlaaGreat.rnd (Go.IntKind.i64.wrap (x0 * x1)) 65536 x2) fun vy2 =>
            .ret (vy2))
           (
            .fail))) := by kernel_rfl
theorem c_num_Mul (x0 : Int) (x1 : Int) (x2 : Bool) : Plain Tryz.prog 91 [cInt.enc x0, cInt.enc x1, cBool.enc x2] ((cTwo cInt cBool).enc (numMul x0 x1 x2)) :=
  plain_of_tree (n := 200) (EnvOK.add s_num_In (EnvOK.add s_num_rounded EnvOK.nil)) Tryz.func91 (args := [cInt.av x0, cInt.av x1, cBool.av x2]) (by simp only [AV.vals, Cod.av_val]) (Nat.le_of_ble_eq_true (by kernel_rfl)) LFn.nil (cTwo cInt cBool) (by
    rw [t_num_Mul]
    simp only [Tr.den]
    have hm := mul_bd x0 x1
    cases h0 : numIn x0 <;> cases h1 : numIn x1 <;> simp [numMul, h0, h1]
    have := hm h0 h1
    simp (disch := omega) only [IntWalk.i64_in]
    grind [rnOk, flOk])
theorem s_num_Mul : Ev.Spec Tryz.prog 91 (F3 cInt cInt cBool (cTwo cInt cBool) numMul) := spec3 (fun vs w => Tryz.call91 vs w) c_num_Mul

/-! num.Div -/
theorem t_num_Div (x0 : Int) (x1 : Int) (x2 : Bool) :
    evFn Tryz.prog (Env.add 76 (F1 cInt cBool numIn) (Env.add 138 (F3p cInt cInt cBool (cTwo cInt cBool) rnOk rnd) Env.nil)) Laws.nil 200 Tryz.f141 [cInt.av x0, cInt.av x1, cBool.av x2] [] (cTwo cInt cBool).dec =
      .bind (Go.Proofs.YtmpjfdaldejjlaaGreat.numIn x0) fun vb0 =>
      .br (!vb0)
       (
        .ret ((0, Bool.false)))
       (
        .bind (Go.Proofs.YtmpjfdaldejjlaaGreat.numIn x1) fun vb1 =>
        .br (!vb1)
         (
          .ret ((0, Bool.false)))
         (
          .br (x1 == 0)
           (
            .ret ((0, Bool.false)))
           (
            .br (Go.Proofs.YtmpjfdaldejjlaaGreat.rnOk (Go.IntKind.i64.wrap (x0 * 65536)) x1 x2)
             (
              .bind (Go.Proofs.YtmpjfdaldejjlaaGreat.rnd (Go.IntKind.i64.wrap (x0 * 65536)) x1 x2) fun vy2 =>
              .ret (vy2))
             (
              .fail)))) := by kernel_rfl
theorem c_num_Div (x0 : Int) (x1 : Int) (x2 : Bool) : Plain Tryz.prog 141 [cInt.enc x0, cInt.enc x1, cBool.enc x2] ((cTwo cInt cBool).enc (numDiv x0 x1 x2)) :=
  plain_of_tree (n := 200) (EnvOK.add s_num_In (EnvOK.add s_num_rounded EnvOK.nil)) Tryz.func141 (args := [cInt.av x0, cInt.av x1, cBool.av x2]) (by simp only [AV.vals, Cod.av_val]) (Nat.le_of_ble_eq_true (by kernel_rfl)) LFn.nil (cTwo cInt cBool) (by
    rw [t_num_Div]
    simp only [Tr.den]
    cases h0 : numIn x0 <;> cases h1 : numIn x1 <;> simp [numDiv, h0, h1]
    have b0 := numIn_iff.1 h0
    have b1 := numIn_iff.1 h1
    simp (disch := omega) only [IntWalk.i64_in]
    grind [rnOk, flOk])
theorem s_num_Div : Ev.Spec Tryz.prog 141 (F3 cInt cInt cBool (cTwo cInt cBool) numDiv) := spec3 (fun vs w => Tryz.call141 vs w) c_num_Div

/-! num.Root -/
theorem tl_num_Root_5 (t1 : Bool) (t6 : Int) (t7 : Int) (t8 : Int) :
    ev Tryz.prog (Env.add 76 (F1 cInt cBool numIn) Env.nil) Laws.nil 200 none (loopAt Tryz.f162 5) ((sc 44 [1, 6, 7, 8] (tCod 1 cBool (tCod 6 cInt (tCod 7 cInt (tCod 8 cInt tNil)))) rNil).enc ((t1, t6, t7, t8, ()), (()))) (backK (sc 44 [1, 6, 7, 8] (tCod 1 cBool (tCod 6 cInt (tCod 7 cInt (tCod 8 cInt tNil)))) rNil) (ocExit 0 (sc 44 [1, 6, 7] (tCod 1 cBool (tCod 6 cInt (tCod 7 cInt tNil))) rNil))) =
      .br (Decidable.decide (t8 ≥ 0))
       (
        .br (Decidable.decide (0 ≤ t8))
         (
          .br (Decidable.decide (Go.IntKind.i64.wrap (Go.IntKind.i64.wrap (@Nat.cast Int _ (BitVec.ofInt 64 t7 ||| BitVec.ofInt 64 (Go.IntKind.i64.wrap (1 * 2 ^ Min.min t8.toNat 64))).toNat) * Go.IntKind.i64.wrap (@Nat.cast Int _ (BitVec.ofInt 64 t7 ||| BitVec.ofInt 64 (Go.IntKind.i64.wrap (1 * 2 ^ Min.min t8.toNat 64))).toNat)) ≤ t6))
           (
            .ret (Sum.inl ((t1, t6, Go.IntKind.i64.wrap (@Nat.cast Int _ (BitVec.ofInt 64 t7 ||| BitVec.ofInt 64 (Go.IntKind.i64.wrap (1 * 2 ^ Min.min t8.toNat 64))).toNat), Go.IntKind.i64.wrap (t8 - 1), ()), ())))
           (
            .ret (Sum.inl ((t1, t6, t7, Go.IntKind.i64.wrap (t8 - 1), ()), ()))))
         (
          .fail))
       (
        .ret (Sum.inr ((t1, t6, t7, ()), ()))) := by kernel_rfl
theorem ok_num_Root_5 : LOK Tryz.prog (LoopR.of (sc 44 [1, 6, 7, 8] (tCod 1 cBool (tCod 6 cInt (tCod 7 cInt (tCod 8 cInt tNil)))) rNil) (ocExit 0 (sc 44 [1, 6, 7] (tCod 1 cBool (tCod 6 cInt (tCod 7 cInt tNil))) rNil)) rootRun) (loopAt Tryz.f162 5) := by
  refine loop_ok (EnvOK.add s_num_In EnvOK.nil) (LFn.at (fn := Tryz.f162) LFn.nil 5) rootStep (n := 200) (fun x z h => ?_) rootRun_ok
  obtain ⟨⟨t1, t6, t7, t8, ⟨⟩⟩, ⟨⟩⟩ := x
  rw [tl_num_Root_5]
  rw [← h]
  simp only [den_br, den_bind, den_ret, den_fail, den_inl, den_inr, decide_eq_true_eq]
  simp only [rootStep, rootBit]
  by_cases h0 : 0 ≤ t8 <;> simp only [h0, if_true, if_false]
  split <;> rename_i hh <;> simp only [hh, if_true, if_false]
theorem t_num_Root (x0 : Int) (x1 : Bool) :
    evFn Tryz.prog (Env.add 76 (F1 cInt cBool numIn) Env.nil) (Laws.add 5 (LoopR.of (sc 44 [1, 6, 7, 8] (tCod 1 cBool (tCod 6 cInt (tCod 7 cInt (tCod 8 cInt tNil)))) rNil) (ocExit 0 (sc 44 [1, 6, 7] (tCod 1 cBool (tCod 6 cInt (tCod 7 cInt tNil))) rNil)) rootRun) Laws.nil) 200 Tryz.f162 [cInt.av x0, cBool.av x1] [] (cTwo cInt cBool).dec =
      .br (Decidable.decide (x0 < 0))
       (
        .ret ((0, Bool.false)))
       (
        .bind (Go.Proofs.YtmpjfdaldejjlaaGreat.numIn x0) fun vb0 =>
        .br (!vb0)
         (
          .ret ((0, Bool.false)))
         (
          .get (Go.Proofs.YtmpjfdaldejjlaaGreat.rootRun ((x1, Go.IntKind.i64.wrap (x0 * 65536), 0, 24, ()), ())) fun vy1 =>
          .br (vy1.fst.fst)
           (
            .br (Decidable.decide (Go.IntKind.i64.wrap (vy1.fst.snd.snd.fst * vy1.fst.snd.snd.fst) < vy1.fst.snd.fst))
             (
              .ret ((Go.IntKind.i64.wrap (vy1.fst.snd.snd.fst + 1), Bool.true)))
             (
              .ret ((vy1.fst.snd.snd.fst, Bool.true))))
           (
            .ret ((vy1.fst.snd.snd.fst, Bool.true))))) := by kernel_rfl
theorem c_num_Root (x0 : Int) (x1 : Bool) : Plain Tryz.prog 162 [cInt.enc x0, cBool.enc x1] ((cTwo cInt cBool).enc (numRoot x0 x1)) :=
  plain_of_tree (n := 200) (EnvOK.add s_num_In EnvOK.nil) Tryz.func162 (args := [cInt.av x0, cBool.av x1]) (by simp only [AV.vals, Cod.av_val]) (Nat.le_of_ble_eq_true (by kernel_rfl)) (LFn.add (fn := Tryz.f162) (i := 5) (by kernel_rfl) ok_num_Root_5 LFn.nil) (cTwo cInt cBool) (by
    rw [t_num_Root]
    simp only [den_br, den_bind, den_ret, den_fail, den_inl, den_inr, decide_eq_true_eq]
    simp only [numRoot]
    by_cases h0 : x0 < 0
    · simp [h0]
    cases h1 : numIn x0
    · simp
    have b := numIn_iff.1 h1
    have e1 : IntKind.i64.wrap (x0 * 65536) = x0 * 65536 := IntWalk.i64_in _ (by omega)
    have s := isqrt_spec (n := x0 * 65536) (by omega) (by omega)
    have l := isqrt_le (n := x0 * 65536) (m := 8388608) (by omega) (by omega) (by omega) (by omega)
    have e2 : IntKind.i64.wrap (isqrt (x0 * 65536) * isqrt (x0 * 65536)) = isqrt (x0 * 65536) * isqrt (x0 * 65536) := IntWalk.i64_in _ (by have := Int.mul_nonneg s.1 s.1; omega)
    have e3 : IntKind.i64.wrap (isqrt (x0 * 65536) + 1) = isqrt (x0 * 65536) + 1 := IntWalk.i64_in _ (by omega)
    have hr : rootRun ((x1, IntKind.i64.wrap (x0 * 65536), 0, 24, ()), ()) = some ((x1, x0 * 65536, isqrt (x0 * 65536), ()), ()) := by
      rw [e1]; exact if_pos ⟨⟨rfl, rfl⟩, by omega, by omega⟩
    rw [hr]
    simp only [den_gets, Option.bind_some, den_br, den_ret, e2, e3, h0]
    cases x1 <;> simp
    split <;> rename_i hh <;> simp [hh])
theorem s_num_Root : Ev.Spec Tryz.prog 162 (F2 cInt cBool (cTwo cInt cBool) numRoot) := spec2 (fun vs w => Tryz.call162 vs w) c_num_Root

/-! iv.Right -/
theorem t_iv_Right (x0 : Iv) :
    evFn Tryz.prog (Env.add 76 (F1 cInt cBool numIn) Env.nil) Laws.nil 200 Tryz.f23 [cIv.av x0] [] cBool.dec =
      .br (!x0.no)
       (
        .bind (Go.Proofs.YtmpjfdaldejjlaaGreat.numIn x0.lo) fun vb0 =>
        .br (vb0)
         (
          .bind (Go.Proofs.YtmpjfdaldejjlaaGreat.numIn x0.hi) fun vb1 =>
          .br (vb1)
           (
            .ret (Decidable.decide (x0.lo ≤ x0.hi)))
           (
            .ret (Bool.false)))
         (
          .ret (Bool.false)))
       (
        .ret (Bool.false)) := by kernel_rfl
theorem c_iv_Right (x0 : Iv) : Plain Tryz.prog 23 [cIv.enc x0] (cBool.enc (Iv.right x0)) :=
  plain_of_tree (n := 200) (EnvOK.add s_num_In EnvOK.nil) Tryz.func23 (args := [cIv.av x0]) (by simp only [AV.vals, Cod.av_val]) (Nat.le_of_ble_eq_true (by kernel_rfl)) LFn.nil cBool (by
    rw [t_iv_Right]
    simp only [Tr.den]
    grind [Iv.right])
theorem s_iv_Right : Ev.Spec Tryz.prog 23 (F1 cIv cBool Iv.right) := spec1 (fun vs w => Tryz.call23 vs w) c_iv_Right

/-! iv.None -/
theorem t_iv_None  :
    evFn Tryz.prog Env.nil Laws.nil 200 Tryz.f44 [] [] cIv.dec =
      .ret (Go.Proofs.YtmpjfdaldejjlaaGreat.Iv.mk 0 0 Bool.true) := by kernel_rfl
theorem c_iv_None  : Plain Tryz.prog 44 [] (cIv.enc (Iv.none)) :=
  plain_of_tree (n := 200) EnvOK.nil Tryz.func44 (args := []) rfl (Nat.le_of_ble_eq_true (by kernel_rfl)) LFn.nil cIv (by
    rw [t_iv_None]
    rfl)
theorem s_iv_None : Ev.Spec Tryz.prog 44 (F0 cIv Iv.none) := spec0 (fun vs w => Tryz.call44 vs w) c_iv_None

/-! iv.Of -/
theorem t_iv_Of (x0 : Int) (x1 : Int) :
    evFn Tryz.prog (Env.add 23 (F1 cIv cBool Iv.right) (Env.add 44 (F0 cIv Iv.none) Env.nil)) Laws.nil 200 Tryz.f78 [cInt.av x0, cInt.av x1] [] cIv.dec =
      .bind ((Go.Proofs.YtmpjfdaldejjlaaGreat.Iv.mk x0 x1 Bool.false).right) fun vb0 =>
      .br (!vb0)
       (
        .bind (Go.Proofs.YtmpjfdaldejjlaaGreat.Iv.none) fun viv1 =>
        .ret (viv1))
       (
        .ret (Go.Proofs.YtmpjfdaldejjlaaGreat.Iv.mk x0 x1 Bool.false)) := by kernel_rfl
theorem c_iv_Of (x0 : Int) (x1 : Int) : Plain Tryz.prog 78 [cInt.enc x0, cInt.enc x1] (cIv.enc (Iv.of x0 x1)) :=
  plain_of_tree (n := 200) (EnvOK.add s_iv_Right (EnvOK.add s_iv_None EnvOK.nil)) Tryz.func78 (args := [cInt.av x0, cInt.av x1]) (by simp only [AV.vals, Cod.av_val]) (Nat.le_of_ble_eq_true (by kernel_rfl)) LFn.nil cIv (by
    rw [t_iv_Of]
    simp only [Tr.den]
    grind [Iv.of])
theorem s_iv_Of : Ev.Spec Tryz.prog 78 (F2 cInt cInt cIv Iv.of) := spec2 (fun vs w => Tryz.call78 vs w) c_iv_Of

/-! iv.Point -/
theorem t_iv_Point (x0 : Int) :
    evFn Tryz.prog (Env.add 78 (F2 cInt cInt cIv Iv.of) Env.nil) Laws.nil 200 Tryz.f31 [cInt.av x0] [] cIv.dec =
      .bind (Go.Proofs.YtmpjfdaldejjlaaGreat.Iv.of x0 x0) fun viv0 =>
      .ret (viv0) := by kernel_rfl
theorem c_iv_Point (x0 : Int) : Plain Tryz.prog 31 [cInt.enc x0] (cIv.enc (Iv.point x0)) :=
  plain_of_tree (n := 200) (EnvOK.add s_iv_Of EnvOK.nil) Tryz.func31 (args := [cInt.av x0]) (by simp only [AV.vals, Cod.av_val]) (Nat.le_of_ble_eq_true (by kernel_rfl)) LFn.nil cIv (by
    rw [t_iv_Point]
    simp only [Tr.den]
    grind [Iv.point])
theorem s_iv_Point : Ev.Spec Tryz.prog 31 (F1 cInt cIv Iv.point) := spec1 (fun vs w => Tryz.call31 vs w) c_iv_Point

/-! iv.Whole -/
theorem t_iv_Whole (x0 : Int) :
    evFn Tryz.prog (Env.add 31 (F1 cInt cIv Iv.point) (Env.add 44 (F0 cIv Iv.none) (Env.add 76 (F1 cInt cBool numIn) Env.nil))) Laws.nil 200 Tryz.f42 [cInt.av x0] [] cIv.dec =
      .bind (Go.Proofs.YtmpjfdaldejjlaaGreat.numIn x0) fun vb0 =>
      .br (!vb0)
       (
        .bind (Go.Proofs.YtmpjfdaldejjlaaGreat.Iv.none) fun viv1 =>
        .ret (viv1))
       (
        .bind (Go.Proofs.YtmpjfdaldejjlaaGreat.Iv.point (Go.IntKind.i64.wrap (x0 * 65536))) fun viv2 =>
        .ret (viv2)) := by kernel_rfl
theorem c_iv_Whole (x0 : Int) : Plain Tryz.prog 42 [cInt.enc x0] (cIv.enc (Iv.whole x0)) :=
  plain_of_tree (n := 200) (EnvOK.add s_iv_Point (EnvOK.add s_iv_None (EnvOK.add s_num_In EnvOK.nil))) Tryz.func42 (args := [cInt.av x0]) (by simp only [AV.vals, Cod.av_val]) (Nat.le_of_ble_eq_true (by kernel_rfl)) LFn.nil cIv (by
    rw [t_iv_Whole]
    simp only [Tr.den, Iv.whole]
    cases h0 : numIn x0 <;> simp
    have b0 := numIn_iff.1 h0
    simp (disch := omega) only [IntWalk.i64_in])
theorem s_iv_Whole : Ev.Spec Tryz.prog 42 (F1 cInt cIv Iv.whole) := spec1 (fun vs w => Tryz.call42 vs w) c_iv_Whole

/-! iv.both -/
theorem t_iv_both (x0 : Iv) (x1 : Iv) :
    evFn Tryz.prog (Env.add 23 (F1 cIv cBool Iv.right) Env.nil) Laws.nil 200 Tryz.f77 [cIv.av x0, cIv.av x1] [] cBool.dec =
      .bind (x0.right) fun vb0 =>
      .br (vb0)
       (
        .bind (x1.right) fun vb1 =>
        .ret (vb1))
       (
        .ret (Bool.false)) := by kernel_rfl
theorem c_iv_both (x0 : Iv) (x1 : Iv) : Plain Tryz.prog 77 [cIv.enc x0, cIv.enc x1] (cBool.enc (Iv.both x0 x1)) :=
  plain_of_tree (n := 200) (EnvOK.add s_iv_Right EnvOK.nil) Tryz.func77 (args := [cIv.av x0, cIv.av x1]) (by simp only [AV.vals, Cod.av_val]) (Nat.le_of_ble_eq_true (by kernel_rfl)) LFn.nil cBool (by
    rw [t_iv_both]
    simp only [Tr.den]
    grind [Iv.both])
theorem s_iv_both : Ev.Spec Tryz.prog 77 (F2 cIv cIv cBool Iv.both) := spec2 (fun vs w => Tryz.call77 vs w) c_iv_both

/-! iv.Neg -/
theorem t_iv_Neg (x0 : Iv) :
    evFn Tryz.prog (Env.add 23 (F1 cIv cBool Iv.right) (Env.add 44 (F0 cIv Iv.none) (Env.add 78 (F2 cInt cInt cIv Iv.of) Env.nil))) Laws.nil 200 Tryz.f93 [cIv.av x0] [] cIv.dec =
      .bind (x0.right) fun vb0 =>
      .br (!vb0)
       (
        .bind (Go.Proofs.YtmpjfdaldejjlaaGreat.Iv.none) fun viv1 =>
        .ret (viv1))
       (
        .bind (Go.Proofs.YtmpjfdaldejjlaaGreat.Iv.of (Go.IntKind.i64.wrap (0 - x0.hi)) (Go.IntKind.i64.wrap (0 - x0.lo))) fun viv2 =>
        .ret (viv2)) := by kernel_rfl
theorem c_iv_Neg (x0 : Iv) : Plain Tryz.prog 93 [cIv.enc x0] (cIv.enc (Iv.neg x0)) :=
  plain_of_tree (n := 200) (EnvOK.add s_iv_Right (EnvOK.add s_iv_None (EnvOK.add s_iv_Of EnvOK.nil))) Tryz.func93 (args := [cIv.av x0]) (by simp only [AV.vals, Cod.av_val]) (Nat.le_of_ble_eq_true (by kernel_rfl)) LFn.nil cIv (by
    rw [t_iv_Neg]
    simp only [Tr.den, Iv.neg]
    cases h0 : x0.right <;> simp
    have b0 := right_bd h0
    simp (disch := omega) only [IntWalk.i64_in])
theorem s_iv_Neg : Ev.Spec Tryz.prog 93 (F1 cIv cIv Iv.neg) := spec1 (fun vs w => Tryz.call93 vs w) c_iv_Neg

/-! iv.Add -/
theorem t_iv_Add (x0 : Iv) (x1 : Iv) :
    evFn Tryz.prog (Env.add 44 (F0 cIv Iv.none) (Env.add 77 (F2 cIv cIv cBool Iv.both) (Env.add 78 (F2 cInt cInt cIv Iv.of) Env.nil))) Laws.nil 200 Tryz.f30 [cIv.av x0, cIv.av x1] [] cIv.dec =
      .bind (x0.both x1) fun vb0 =>
      .br (!vb0)
       (
        .bind (Go.Proofs.YtmpjfdaldejjlaaGreat.Iv.none) fun viv1 =>
        .ret (viv1))
       (
        .bind (Go.Proofs.YtmpjfdaldejjlaaGreat.Iv.of (Go.IntKind.i64.wrap (x0.lo + x1.lo)) (Go.IntKind.i64.wrap (x0.hi + x1.hi))) fun viv2 =>
        .ret (viv2)) := by kernel_rfl
theorem c_iv_Add (x0 : Iv) (x1 : Iv) : Plain Tryz.prog 30 [cIv.enc x0, cIv.enc x1] (cIv.enc (Iv.add x0 x1)) :=
  plain_of_tree (n := 200) (EnvOK.add s_iv_None (EnvOK.add s_iv_both (EnvOK.add s_iv_Of EnvOK.nil))) Tryz.func30 (args := [cIv.av x0, cIv.av x1]) (by simp only [AV.vals, Cod.av_val]) (Nat.le_of_ble_eq_true (by kernel_rfl)) LFn.nil cIv (by
    rw [t_iv_Add]
    simp only [Tr.den, Iv.add]
    cases h0 : Iv.both x0 x1 <;> simp
    simp [Iv.both] at h0
    have b0 := right_bd h0.1
    have b1 := right_bd h0.2
    simp (disch := omega) only [IntWalk.i64_in])
theorem s_iv_Add : Ev.Spec Tryz.prog 30 (F2 cIv cIv cIv Iv.add) := spec2 (fun vs w => Tryz.call30 vs w) c_iv_Add

/-! iv.Sub -/
theorem t_iv_Sub (x0 : Iv) (x1 : Iv) :
    evFn Tryz.prog (Env.add 30 (F2 cIv cIv cIv Iv.add) (Env.add 93 (F1 cIv cIv Iv.neg) Env.nil)) Laws.nil 200 Tryz.f56 [cIv.av x0, cIv.av x1] [] cIv.dec =
      .bind (x1.neg) fun viv0 =>
      .bind (x0.add viv0) fun viv1 =>
      .ret (viv1) := by kernel_rfl
theorem c_iv_Sub (x0 : Iv) (x1 : Iv) : Plain Tryz.prog 56 [cIv.enc x0, cIv.enc x1] (cIv.enc (Iv.sub x0 x1)) :=
  plain_of_tree (n := 200) (EnvOK.add s_iv_Add (EnvOK.add s_iv_Neg EnvOK.nil)) Tryz.func56 (args := [cIv.av x0, cIv.av x1]) (by simp only [AV.vals, Cod.av_val]) (Nat.le_of_ble_eq_true (by kernel_rfl)) LFn.nil cIv (by
    rw [t_iv_Sub]
    rfl)
theorem s_iv_Sub : Ev.Spec Tryz.prog 56 (F2 cIv cIv cIv Iv.sub) := spec2 (fun vs w => Tryz.call56 vs w) c_iv_Sub

/-! iv.Times -/
theorem t_iv_Times (x0 : Iv) (x1 : Int) :
    evFn Tryz.prog (Env.add 23 (F1 cIv cBool Iv.right) (Env.add 44 (F0 cIv Iv.none) (Env.add 76 (F1 cInt cBool numIn) (Env.add 78 (F2 cInt cInt cIv Iv.of) Env.nil)))) Laws.nil 200 Tryz.f112 [cIv.av x0, cInt.av x1] [] cIv.dec =
      .bind (x0.right) fun vb0 =>
      .br (!vb0)
       (
        .bind (Go.Proofs.YtmpjfdaldejjlaaGreat.Iv.none) fun viv1 =>
        .ret (viv1))
       (
        .bind (Go.Proofs.YtmpjfdaldejjlaaGreat.numIn x1) fun vb2 =>
        .br (!vb2)
         (
          .bind (Go.Proofs.YtmpjfdaldejjlaaGreat.Iv.none) fun viv3 =>
          .ret (viv3))
         (
          .bind (Go.Proofs.YtmpjfdaldejjlaaGreat.Iv.of (Min.min (Go.IntKind.i64.wrap (x1 * x0.lo)) (Go.IntKind.i64.wrap (x1 * x0.hi))) (Max.max (Go.IntKind.i64.wrap (x1 * x0.lo)) (Go.IntKind.i64.wrap (x1 * x0.hi)))) fun viv4 =>
          .ret (viv4))) := by kernel_rfl
theorem c_iv_Times (x0 : Iv) (x1 : Int) : Plain Tryz.prog 112 [cIv.enc x0, cInt.enc x1] (cIv.enc (Iv.times x0 x1)) :=
  plain_of_tree (n := 200) (EnvOK.add s_iv_Right (EnvOK.add s_iv_None (EnvOK.add s_num_In (EnvOK.add s_iv_Of EnvOK.nil)))) Tryz.func112 (args := [cIv.av x0, cInt.av x1]) (by simp only [AV.vals, Cod.av_val]) (Nat.le_of_ble_eq_true (by kernel_rfl)) LFn.nil cIv (by
    rw [t_iv_Times]
    simp only [Tr.den, Iv.times]
    cases h0 : x0.right <;> cases h1 : numIn x1 <;> simp
    have b0 := right_bd h0
    have b1 := numIn_iff.1 h1
    have m1 := mul_bd x1 x0.lo h1 (numIn_iff.2 (by omega))
    have m2 := mul_bd x1 x0.hi h1 (numIn_iff.2 (by omega))
    simp (disch := omega) only [IntWalk.i64_in])
theorem s_iv_Times : Ev.Spec Tryz.prog 112 (F2 cIv cInt cIv Iv.times) := spec2 (fun vs w => Tryz.call112 vs w) c_iv_Times

/-! iv.Has -/
theorem t_iv_Has (x0 : Iv) (x1 : Int) :
    evFn Tryz.prog (Env.add 23 (F1 cIv cBool Iv.right) Env.nil) Laws.nil 200 Tryz.f45 [cIv.av x0, cInt.av x1] [] cBool.dec =
      .bind (x0.right) fun vb0 =>
      .br (vb0)
       (
        .br (Decidable.decide (x0.lo ≤ x1))
         (
          .ret (Decidable.decide (x1 ≤ x0.hi)))
         (
          .ret (Bool.false)))
       (
        .ret (Bool.false)) := by kernel_rfl
theorem c_iv_Has (x0 : Iv) (x1 : Int) : Plain Tryz.prog 45 [cIv.enc x0, cInt.enc x1] (cBool.enc (Iv.has x0 x1)) :=
  plain_of_tree (n := 200) (EnvOK.add s_iv_Right EnvOK.nil) Tryz.func45 (args := [cIv.av x0, cInt.av x1]) (by simp only [AV.vals, Cod.av_val]) (Nat.le_of_ble_eq_true (by kernel_rfl)) LFn.nil cBool (by
    rw [t_iv_Has]
    simp only [Tr.den]
    grind [Iv.has])
theorem s_iv_Has : Ev.Spec Tryz.prog 45 (F2 cIv cInt cBool Iv.has) := spec2 (fun vs w => Tryz.call45 vs w) c_iv_Has

/-! iv.ends -/
theorem t_iv_ends_mul (x0 : Unit) (x1 : Iv) (x2 : Iv) :
    evFn Tryz.prog (Env.add 44 (F0 cIv Iv.none) (Env.add 78 (F2 cInt cInt cIv Iv.of) (Env.add 91 (F3 cInt cInt cBool (cTwo cInt cBool) numMul) Env.nil))) Laws.nil 200 Tryz.f140 [(cFn 91).av x0, cIv.av x1, cIv.av x2] [] cIv.dec =
      .bind (Go.Proofs.YtmpjfdaldejjlaaGreat.numMul x1.lo x2.lo Bool.false) fun vy0 =>
      .bind (Go.Proofs.YtmpjfdaldejjlaaGreat.numMul x1.lo x2.lo Bool.true) fun vy1 =>
      .br (!vy0.snd)
       (
        .bind (Go.Proofs.YtmpjfdaldejjlaaGreat.Iv.none) fun viv2 =>
        .ret (viv2))
       (
        .br (!vy1.snd)
         (
          .bind (Go.Proofs.YtmpjfdaldejjlaaGreat.Iv.none) fun viv3 =>
          .ret (viv3))
         (
          .bind (Go.Proofs.YtmpjfdaldejjlaaGreat.Iv.of vy0.fst vy1.fst) fun viv4 =>
          .bind (Go.Proofs.YtmpjfdaldejjlaaGreat.Iv.of (Min.min viv4.lo vy0.fst) (Max.max viv4.hi vy1.fst)) fun viv5 =>
          .bind (Go.Proofs.YtmpjfdaldejjlaaGreat.numMul x1.lo x2.hi Bool.false) fun vy6 =>
          .bind (Go.Proofs.YtmpjfdaldejjlaaGreat.numMul x1.lo x2.hi Bool.true) fun vy7 =>
          .br (!vy6.snd)
           (
            .bind (Go.Proofs.YtmpjfdaldejjlaaGreat.Iv.none) fun viv8 =>
            .ret (viv8))
           (
            .br (!vy7.snd)
             (
              .bind (Go.Proofs.YtmpjfdaldejjlaaGreat.Iv.none) fun viv9 =>
              .ret (viv9))
             (
              .bind (Go.Proofs.YtmpjfdaldejjlaaGreat.Iv.of (Min.min viv5.lo vy6.fst) (Max.max viv5.hi vy7.fst)) fun viv10 =>
              .bind (Go.Proofs.YtmpjfdaldejjlaaGreat.numMul x1.hi x2.lo Bool.false) fun vy11 =>
              .bind (Go.Proofs.YtmpjfdaldejjlaaGreat.numMul x1.hi x2.lo Bool.true) fun vy12 =>
              .br (!vy11.snd)
               (
                .bind (Go.Proofs.YtmpjfdaldejjlaaGreat.Iv.none) fun viv13 =>
                .ret (viv13))
               (
                .br (!vy12.snd)
                 (
                  .bind (Go.Proofs.YtmpjfdaldejjlaaGreat.Iv.none) fun viv14 =>
                  .ret (viv14))
                 (
                  .bind (Go.Proofs.YtmpjfdaldejjlaaGreat.Iv.of (Min.min viv10.lo vy11.fst) (Max.max viv10.hi vy12.fst)) fun viv15 =>
                  .bind (Go.Proofs.YtmpjfdaldejjlaaGreat.numMul x1.hi x2.hi Bool.false) fun vy16 =>
                  .bind (Go.Proofs.YtmpjfdaldejjlaaGreat.numMul x1.hi x2.hi Bool.true) fun vy17 =>
                  .br (!vy16.snd)
                   (
                    .bind (Go.Proofs.YtmpjfdaldejjlaaGreat.Iv.none) fun viv18 =>
                    .ret (viv18))
                   (
                    .br (!vy17.snd)
                     (
                      .bind (Go.Proofs.YtmpjfdaldejjlaaGreat.Iv.none) fun viv19 =>
                      .ret (viv19))
                     (
                      .bind (Go.Proofs.YtmpjfdaldejjlaaGreat.Iv.of (Min.min viv15.lo vy16.fst) (Max.max viv15.hi vy17.fst)) fun viv20 =>
                      .ret (viv20))))))))) := by kernel_rfl
theorem c_iv_ends_mul (x0 : Unit) (x1 : Iv) (x2 : Iv) : Plain Tryz.prog 140 [(cFn 91).enc x0, cIv.enc x1, cIv.enc x2] (cIv.enc (((fun (_ : Unit) a b => ends numMul a b)) x0 x1 x2)) :=
  plain_of_tree (n := 200) (EnvOK.add s_iv_None (EnvOK.add s_iv_Of (EnvOK.add s_num_Mul EnvOK.nil))) Tryz.func140 (args := [(cFn 91).av x0, cIv.av x1, cIv.av x2]) (by simp only [AV.vals, Cod.av_val]) (Nat.le_of_ble_eq_true (by kernel_rfl)) LFn.nil cIv (by
    rw [t_iv_ends_mul]
    simp only [den_br, den_bind, den_ret, den_fail, den_inl, den_inr, decide_eq_true_eq]
    exact ends_chain numMul_le x1 x2)
theorem s_iv_ends_mul : Ev.Spec Tryz.prog 140 (F3 (cFn 91) cIv cIv cIv ((fun (_ : Unit) a b => ends numMul a b))) := spec3 (fun vs w => Tryz.call140 vs w) c_iv_ends_mul

/-! iv.ends -/
theorem t_iv_ends_div (x0 : Unit) (x1 : Iv) (x2 : Iv) :
    evFn Tryz.prog (Env.add 44 (F0 cIv Iv.none) (Env.add 78 (F2 cInt cInt cIv Iv.of) (Env.add 141 (F3 cInt cInt cBool (cTwo cInt cBool) numDiv) Env.nil))) Laws.nil 200 Tryz.f140 [(cFn 141).av x0, cIv.av x1, cIv.av x2] [] cIv.dec =
      .bind (Go.Proofs.YtmpjfdaldejjlaaGreat.numDiv x1.lo x2.lo Bool.false) fun vy0 =>
      .bind (Go.Proofs.YtmpjfdaldejjlaaGreat.numDiv x1.lo x2.lo Bool.true) fun vy1 =>
      .br (!vy0.snd)
       (
        .bind (Go.Proofs.YtmpjfdaldejjlaaGreat.Iv.none) fun viv2 =>
        .ret (viv2))
       (
        .br (!vy1.snd)
         (
          .bind (Go.Proofs.YtmpjfdaldejjlaaGreat.Iv.none) fun viv3 =>
          .ret (viv3))
         (
          .bind (Go.Proofs.YtmpjfdaldejjlaaGreat.Iv.of vy0.fst vy1.fst) fun viv4 =>
          .bind (Go.Proofs.YtmpjfdaldejjlaaGreat.Iv.of (Min.min viv4.lo vy0.fst) (Max.max viv4.hi vy1.fst)) fun viv5 =>
          .bind (Go.Proofs.YtmpjfdaldejjlaaGreat.numDiv x1.lo x2.hi Bool.false) fun vy6 =>
          .bind (Go.Proofs.YtmpjfdaldejjlaaGreat.numDiv x1.lo x2.hi Bool.true) fun vy7 =>
          .br (!vy6.snd)
           (
            .bind (Go.Proofs.YtmpjfdaldejjlaaGreat.Iv.none) fun viv8 =>
            .ret (viv8))
           (
            .br (!vy7.snd)
             (
              .bind (Go.Proofs.YtmpjfdaldejjlaaGreat.Iv.none) fun viv9 =>
              .ret (viv9))
             (
              .bind (Go.Proofs.YtmpjfdaldejjlaaGreat.Iv.of (Min.min viv5.lo vy6.fst) (Max.max viv5.hi vy7.fst)) fun viv10 =>
              .bind (Go.Proofs.YtmpjfdaldejjlaaGreat.numDiv x1.hi x2.lo Bool.false) fun vy11 =>
              .bind (Go.Proofs.YtmpjfdaldejjlaaGreat.numDiv x1.hi x2.lo Bool.true) fun vy12 =>
              .br (!vy11.snd)
               (
                .bind (Go.Proofs.YtmpjfdaldejjlaaGreat.Iv.none) fun viv13 =>
                .ret (viv13))
               (
                .br (!vy12.snd)
                 (
                  .bind (Go.Proofs.YtmpjfdaldejjlaaGreat.Iv.none) fun viv14 =>
                  .ret (viv14))
                 (
                  .bind (Go.Proofs.YtmpjfdaldejjlaaGreat.Iv.of (Min.min viv10.lo vy11.fst) (Max.max viv10.hi vy12.fst)) fun viv15 =>
                  .bind (Go.Proofs.YtmpjfdaldejjlaaGreat.numDiv x1.hi x2.hi Bool.false) fun vy16 =>
                  .bind (Go.Proofs.YtmpjfdaldejjlaaGreat.numDiv x1.hi x2.hi Bool.true) fun vy17 =>
                  .br (!vy16.snd)
                   (
                    .bind (Go.Proofs.YtmpjfdaldejjlaaGreat.Iv.none) fun viv18 =>
                    .ret (viv18))
                   (
                    .br (!vy17.snd)
                     (
                      .bind (Go.Proofs.YtmpjfdaldejjlaaGreat.Iv.none) fun viv19 =>
                      .ret (viv19))
                     (
                      .bind (Go.Proofs.YtmpjfdaldejjlaaGreat.Iv.of (Min.min viv15.lo vy16.fst) (Max.max viv15.hi vy17.fst)) fun viv20 =>
                      .ret (viv20))))))))) := by kernel_rfl
theorem c_iv_ends_div (x0 : Unit) (x1 : Iv) (x2 : Iv) : Plain Tryz.prog 140 [(cFn 141).enc x0, cIv.enc x1, cIv.enc x2] (cIv.enc (((fun (_ : Unit) a b => ends numDiv a b)) x0 x1 x2)) :=
  plain_of_tree (n := 200) (EnvOK.add s_iv_None (EnvOK.add s_iv_Of (EnvOK.add s_num_Div EnvOK.nil))) Tryz.func140 (args := [(cFn 141).av x0, cIv.av x1, cIv.av x2]) (by simp only [AV.vals, Cod.av_val]) (Nat.le_of_ble_eq_true (by kernel_rfl)) LFn.nil cIv (by
    rw [t_iv_ends_div]
    simp only [den_br, den_bind, den_ret, den_fail, den_inl, den_inr, decide_eq_true_eq]
    exact ends_chain numDiv_le x1 x2)
theorem s_iv_ends_div : Ev.Spec Tryz.prog 140 (F3 (cFn 141) cIv cIv cIv ((fun (_ : Unit) a b => ends numDiv a b))) := spec3 (fun vs w => Tryz.call140 vs w) c_iv_ends_div

/-! iv.Mul -/
theorem t_iv_Mul (x0 : Iv) (x1 : Iv) :
    evFn Tryz.prog (Env.add 44 (F0 cIv Iv.none) (Env.add 77 (F2 cIv cIv cBool Iv.both) (Env.add 91 (F3 cInt cInt cBool (cTwo cInt cBool) numMul) (Env.add 140 (F3 (cFn 91) cIv cIv cIv ((fun (_ : Unit) a b => ends numMul a b))) (Env.add 140 (F3 (cFn 141) cIv cIv cIv ((fun (_ : Unit) a b => ends numDiv a b))) Env.nil))))) Laws.nil 200 Tryz.f111 [cIv.av x0, cIv.av x1] [] cIv.dec =
      .bind (x0.both x1) fun vb0 =>
      .br (!vb0)
       (
        .bind (Go.Proofs.YtmpjfdaldejjlaaGreat.Iv.none) fun viv1 =>
        .ret (viv1))
       (
        .bind (Go.Proofs.YtmpjfdaldejjlaaGreat.ends Go.Proofs.YtmpjfdaldejjlaaGreat.numMul x0 x1) fun viv2 =>
        .ret (viv2)) := by kernel_rfl
theorem c_iv_Mul (x0 : Iv) (x1 : Iv) : Plain Tryz.prog 111 [cIv.enc x0, cIv.enc x1] (cIv.enc (Iv.mul x0 x1)) :=
  plain_of_tree (n := 200) (EnvOK.add s_iv_None (EnvOK.add s_iv_both (EnvOK.add s_num_Mul (EnvOK.add s_iv_ends_mul (EnvOK.add s_iv_ends_div EnvOK.nil))))) Tryz.func111 (args := [cIv.av x0, cIv.av x1]) (by simp only [AV.vals, Cod.av_val]) (Nat.le_of_ble_eq_true (by kernel_rfl)) LFn.nil cIv (by
    rw [t_iv_Mul]
    simp only [Tr.den]
    grind [Iv.mul])
theorem s_iv_Mul : Ev.Spec Tryz.prog 111 (F2 cIv cIv cIv Iv.mul) := spec2 (fun vs w => Tryz.call111 vs w) c_iv_Mul

/-! iv.Div -/
theorem t_iv_Div (x0 : Iv) (x1 : Iv) :
    evFn Tryz.prog (Env.add 44 (F0 cIv Iv.none) (Env.add 45 (F2 cIv cInt cBool Iv.has) (Env.add 77 (F2 cIv cIv cBool Iv.both) (Env.add 140 (F3 (cFn 91) cIv cIv cIv ((fun (_ : Unit) a b => ends numMul a b))) (Env.add 140 (F3 (cFn 141) cIv cIv cIv ((fun (_ : Unit) a b => ends numDiv a b))) (Env.add 141 (F3 cInt cInt cBool (cTwo cInt cBool) numDiv) Env.nil)))))) Laws.nil 200 Tryz.f94 [cIv.av x0, cIv.av x1] [] cIv.dec =
      .bind (x0.both x1) fun vb0 =>
      .br (!vb0)
       (
        .bind (Go.Proofs.YtmpjfdaldejjlaaGreat.Iv.none) fun viv1 =>
        .ret (viv1))
       (
        .bind (x1.has 0) fun vb2 =>
        .br (vb2)
         (
          .bind (Go.Proofs.YtmpjfdaldejjlaaGreat.Iv.none) fun viv3 =>
          .ret (viv3))
         (
          .bind (Go.Proofs.YtmpjfdaldejjlaaGreat.ends Go.Proofs.YtmpjfdaldejjlaaGreat.numDiv x0 x1) fun viv4 =>
          .ret (viv4))) := by kernel_rfl
theorem c_iv_Div (x0 : Iv) (x1 : Iv) : Plain Tryz.prog 94 [cIv.enc x0, cIv.enc x1] (cIv.enc (Iv.div x0 x1)) :=
  plain_of_tree (n := 200) (EnvOK.add s_iv_None (EnvOK.add s_iv_Has (EnvOK.add s_iv_both (EnvOK.add s_iv_ends_mul (EnvOK.add s_iv_ends_div (EnvOK.add s_num_Div EnvOK.nil)))))) Tryz.func94 (args := [cIv.av x0, cIv.av x1]) (by simp only [AV.vals, Cod.av_val]) (Nat.le_of_ble_eq_true (by kernel_rfl)) LFn.nil cIv (by
    rw [t_iv_Div]
    simp only [den_br, den_bind, den_ret, den_fail, den_inl, den_inr, decide_eq_true_eq]
    simp only [Iv.div]
    cases Iv.both x0 x1 <;> cases Iv.has x1 0 <;> simp)
theorem s_iv_Div : Ev.Spec Tryz.prog 94 (F2 cIv cIv cIv Iv.div) := spec2 (fun vs w => Tryz.call94 vs w) c_iv_Div

/-! iv.Sqr -/
theorem t_iv_Sqr (x0 : Iv) :
    evFn Tryz.prog (Env.add 23 (F1 cIv cBool Iv.right) (Env.add 44 (F0 cIv Iv.none) (Env.add 78 (F2 cInt cInt cIv Iv.of) (Env.add 91 (F3 cInt cInt cBool (cTwo cInt cBool) numMul) Env.nil)))) Laws.nil 200 Tryz.f34 [cIv.av x0] [] cIv.dec =
      .bind (x0.right) fun vb0 =>
      .br (!vb0)
       (
        .bind (Go.Proofs.YtmpjfdaldejjlaaGreat.Iv.none) fun viv1 =>
        .ret (viv1))
       (
        .bind (Go.Proofs.YtmpjfdaldejjlaaGreat.numMul (Max.max (Go.IntKind.i64.wrap (0 - x0.lo)) x0.hi) (Max.max (Go.IntKind.i64.wrap (0 - x0.lo)) x0.hi) Bool.true) fun vy2 =>
        .bind (Go.Proofs.YtmpjfdaldejjlaaGreat.numMul (Max.max (Max.max x0.lo (Go.IntKind.i64.wrap (0 - x0.hi))) 0) (Max.max (Max.max x0.lo (Go.IntKind.i64.wrap (0 - x0.hi))) 0) Bool.false) fun vy3 =>
        .br (!vy2.snd)
         (
          .bind (Go.Proofs.YtmpjfdaldejjlaaGreat.Iv.none) fun viv4 =>
          .ret (viv4))
         (
          .bind (Go.Proofs.YtmpjfdaldejjlaaGreat.Iv.of vy3.fst vy2.fst) fun viv5 =>
          .ret (viv5))) := by kernel_rfl
theorem c_iv_Sqr (x0 : Iv) : Plain Tryz.prog 34 [cIv.enc x0] (cIv.enc (Iv.sqr x0)) :=
  plain_of_tree (n := 200) (EnvOK.add s_iv_Right (EnvOK.add s_iv_None (EnvOK.add s_iv_Of (EnvOK.add s_num_Mul EnvOK.nil)))) Tryz.func34 (args := [cIv.av x0]) (by simp only [AV.vals, Cod.av_val]) (Nat.le_of_ble_eq_true (by kernel_rfl)) LFn.nil cIv (by
    rw [t_iv_Sqr]
    simp only [Iv.sqr]
    cases h0 : x0.right
    · simp [Tr.den]
    have b0 := right_bd h0
    have e1 : IntKind.i64.wrap (-x0.lo) = -x0.lo := IntWalk.i64_in _ (by omega)
    have e2 : IntKind.i64.wrap (-x0.hi) = -x0.hi := IntWalk.i64_in _ (by omega)
    simp only [den_br, den_bind, den_ret, den_fail, e1, e2]
    grind)
theorem s_iv_Sqr : Ev.Spec Tryz.prog 34 (F1 cIv cIv Iv.sqr) := spec1 (fun vs w => Tryz.call34 vs w) c_iv_Sqr

/-! iv.Root -/
theorem t_iv_Root (x0 : Iv) :
    evFn Tryz.prog (Env.add 23 (F1 cIv cBool Iv.right) (Env.add 44 (F0 cIv Iv.none) (Env.add 78 (F2 cInt cInt cIv Iv.of) (Env.add 162 (F2 cInt cBool (cTwo cInt cBool) numRoot) Env.nil)))) Laws.nil 200 Tryz.f133 [cIv.av x0] [] cIv.dec =
      .bind (x0.right) fun vb0 =>
      .br (!vb0)
       (
        .bind (Go.Proofs.YtmpjfdaldejjlaaGreat.Iv.none) fun viv1 =>
        .ret (viv1))
       (
        .br (Decidable.decide (x0.lo < 0))
         (
          .bind (Go.Proofs.YtmpjfdaldejjlaaGreat.Iv.none) fun viv2 =>
          .ret (viv2))
         (
          .bind (Go.Proofs.YtmpjfdaldejjlaaGreat.numRoot x0.lo Bool.false) fun vy3 =>
          .bind (Go.Proofs.YtmpjfdaldejjlaaGreat.numRoot x0.hi Bool.true) fun vy4 =>
          .bind (Go.Proofs.YtmpjfdaldejjlaaGreat.Iv.of vy3.fst vy4.fst) fun viv5 =>
          .ret (viv5))) := by kernel_rfl
theorem c_iv_Root (x0 : Iv) : Plain Tryz.prog 133 [cIv.enc x0] (cIv.enc (Iv.root x0)) :=
  plain_of_tree (n := 200) (EnvOK.add s_iv_Right (EnvOK.add s_iv_None (EnvOK.add s_iv_Of (EnvOK.add s_num_Root EnvOK.nil)))) Tryz.func133 (args := [cIv.av x0]) (by simp only [AV.vals, Cod.av_val]) (Nat.le_of_ble_eq_true (by kernel_rfl)) LFn.nil cIv (by
    rw [t_iv_Root]
    simp only [Iv.root, den_br, den_bind, den_ret, den_fail, decide_eq_true_eq]
    grind)
theorem s_iv_Root : Ev.Spec Tryz.prog 133 (F1 cIv cIv Iv.root) := spec1 (fun vs w => Tryz.call133 vs w) c_iv_Root

/-! iv.Meet -/
theorem t_iv_Meet (x0 : Iv) (x1 : Iv) :
    evFn Tryz.prog (Env.add 44 (F0 cIv Iv.none) (Env.add 77 (F2 cIv cIv cBool Iv.both) (Env.add 78 (F2 cInt cInt cIv Iv.of) Env.nil))) Laws.nil 200 Tryz.f24 [cIv.av x0, cIv.av x1] [] cIv.dec =
      .bind (x0.both x1) fun vb0 =>
      .br (!vb0)
       (
        .bind (Go.Proofs.YtmpjfdaldejjlaaGreat.Iv.none) fun viv1 =>
        .ret (viv1))
       (
        .bind (Go.Proofs.YtmpjfdaldejjlaaGreat.Iv.of (Max.max x0.lo x1.lo) (Min.min x0.hi x1.hi)) fun viv2 =>
        .ret (viv2)) := by kernel_rfl
theorem c_iv_Meet (x0 : Iv) (x1 : Iv) : Plain Tryz.prog 24 [cIv.enc x0, cIv.enc x1] (cIv.enc (Iv.meet x0 x1)) :=
  plain_of_tree (n := 200) (EnvOK.add s_iv_None (EnvOK.add s_iv_both (EnvOK.add s_iv_Of EnvOK.nil))) Tryz.func24 (args := [cIv.av x0, cIv.av x1]) (by simp only [AV.vals, Cod.av_val]) (Nat.le_of_ble_eq_true (by kernel_rfl)) LFn.nil cIv (by
    rw [t_iv_Meet]
    simp only [Tr.den]
    grind [Iv.meet])
theorem s_iv_Meet : Ev.Spec Tryz.prog 24 (F2 cIv cIv cIv Iv.meet) := spec2 (fun vs w => Tryz.call24 vs w) c_iv_Meet

/-! iv.Mid -/
theorem t_iv_Mid (x0 : Iv) :
    evFn Tryz.prog (Env.add 23 (F1 cIv cBool Iv.right) Env.nil) Laws.nil 200 Tryz.f154 [cIv.av x0] [] cInt.dec =
      .bind (x0.right) fun vb0 =>
      .br (!vb0)
       (
        .ret (0))
       (
        .br (Decidable.decide (0 ≤ 1))
         (
          .ret ((Go.IntKind.i64.wrap (x0.lo + x0.hi)).fdiv (2 ^ Min.min (Int.toNat 1) 64)))
         (
          .fail)) := by kernel_rfl
theorem c_iv_Mid (x0 : Iv) : Plain Tryz.prog 154 [cIv.enc x0] (cInt.enc (Iv.mid x0)) :=
  plain_of_tree (n := 200) (EnvOK.add s_iv_Right EnvOK.nil) Tryz.func154 (args := [cIv.av x0]) (by simp only [AV.vals, Cod.av_val]) (Nat.le_of_ble_eq_true (by kernel_rfl)) LFn.nil cInt (by
    rw [t_iv_Mid]
    simp only [Iv.mid]
    cases h0 : x0.right
    · simp [Tr.den]
    have b0 := right_bd h0
    have e1 : IntKind.i64.wrap (x0.lo + x0.hi) = x0.lo + x0.hi := IntWalk.i64_in _ (by omega)
    simp only [Tr.den, e1, if_true]
    exact congrArg some (Int.fdiv_eq_ediv_of_nonneg _ (by decide)))
theorem s_iv_Mid : Ev.Spec Tryz.prog 154 (F1 cIv cInt Iv.mid) := spec1 (fun vs w => Tryz.call154 vs w) c_iv_Mid

/-! iv.Inside -/
theorem t_iv_Inside (x0 : Iv) (x1 : Iv) :
    evFn Tryz.prog (Env.add 77 (F2 cIv cIv cBool Iv.both) Env.nil) Laws.nil 200 Tryz.f25 [cIv.av x0, cIv.av x1] [] cBool.dec =
      .bind (x0.both x1) fun vb0 =>
      .br (vb0)
       (
        .br (Decidable.decide (x1.lo ≤ x0.lo))
         (
          .ret (Decidable.decide (x0.hi ≤ x1.hi)))
         (
          .ret (Bool.false)))
       (
        .ret (Bool.false)) := by kernel_rfl
theorem c_iv_Inside (x0 : Iv) (x1 : Iv) : Plain Tryz.prog 25 [cIv.enc x0, cIv.enc x1] (cBool.enc (Iv.inside x0 x1)) :=
  plain_of_tree (n := 200) (EnvOK.add s_iv_both EnvOK.nil) Tryz.func25 (args := [cIv.av x0, cIv.av x1]) (by simp only [AV.vals, Cod.av_val]) (Nat.le_of_ble_eq_true (by kernel_rfl)) LFn.nil cBool (by
    rw [t_iv_Inside]
    simp only [Tr.den]
    grind [Iv.inside])
theorem s_iv_Inside : Ev.Spec Tryz.prog 25 (F2 cIv cIv cBool Iv.inside) := spec2 (fun vs w => Tryz.call25 vs w) c_iv_Inside

/-! iv.Split -/
theorem t_iv_Split (x0 : Iv) :
    evFn Tryz.prog (Env.add 23 (F1 cIv cBool Iv.right) (Env.add 44 (F0 cIv Iv.none) (Env.add 78 (F2 cInt cInt cIv Iv.of) (Env.add 154 (F1 cIv cInt Iv.mid) Env.nil)))) Laws.nil 200 Tryz.f155 [cIv.av x0] [] (cTwo cIv cIv).dec =
      .bind (x0.right) fun vb0 =>
      .br (!vb0)
       (
        .bind (Go.Proofs.YtmpjfdaldejjlaaGreat.Iv.none) fun viv1 =>
        .bind (Go.Proofs.YtmpjfdaldejjlaaGreat.Iv.none) fun viv2 =>
        .ret ((viv1, viv2)))
       (
        .bind (x0.mid) fun vn3 =>
        .bind (Go.Proofs.YtmpjfdaldejjlaaGreat.Iv.of x0.lo vn3) fun viv4 =>
        .bind (x0.mid) fun vn5 =>
        .bind (Go.Proofs.YtmpjfdaldejjlaaGreat.Iv.of vn5 x0.hi) fun viv6 =>
        .ret ((viv4, viv6))) := by kernel_rfl
theorem c_iv_Split (x0 : Iv) : Plain Tryz.prog 155 [cIv.enc x0] ((cTwo cIv cIv).enc (Iv.split x0)) :=
  plain_of_tree (n := 200) (EnvOK.add s_iv_Right (EnvOK.add s_iv_None (EnvOK.add s_iv_Of (EnvOK.add s_iv_Mid EnvOK.nil)))) Tryz.func155 (args := [cIv.av x0]) (by simp only [AV.vals, Cod.av_val]) (Nat.le_of_ble_eq_true (by kernel_rfl)) LFn.nil (cTwo cIv cIv) (by
    rw [t_iv_Split]
    simp only [Tr.den]
    grind [Iv.split])
theorem s_iv_Split : Ev.Spec Tryz.prog 155 (F1 cIv (cTwo cIv cIv) Iv.split) := spec1 (fun vs w => Tryz.call155 vs w) c_iv_Split

/-! vec.Of -/
theorem t_vec_Of (x0 : Iv) (x1 : Iv) (x2 : Iv) :
    evFn Tryz.prog Env.nil Laws.nil 200 Tryz.f33 [cIv.av x0, cIv.av x1, cIv.av x2] [] cV.dec =
      .ret (Go.Proofs.YtmpjfdaldejjlaaGreat.V.mk x0 x1 x2) := by kernel_rfl
theorem c_vec_Of (x0 : Iv) (x1 : Iv) (x2 : Iv) : Plain Tryz.prog 33 [cIv.enc x0, cIv.enc x1, cIv.enc x2] (cV.enc (V.mk x0 x1 x2)) :=
  plain_of_tree (n := 200) EnvOK.nil Tryz.func33 (args := [cIv.av x0, cIv.av x1, cIv.av x2]) (by simp only [AV.vals, Cod.av_val]) (Nat.le_of_ble_eq_true (by kernel_rfl)) LFn.nil cV (by
    rw [t_vec_Of]
    rfl)
theorem s_vec_Of : Ev.Spec Tryz.prog 33 (F3 cIv cIv cIv cV V.mk) := spec3 (fun vs w => Tryz.call33 vs w) c_vec_Of

/-! vec.Right -/
theorem t_vec_Right (x0 : V) :
    evFn Tryz.prog (Env.add 23 (F1 cIv cBool Iv.right) Env.nil) Laws.nil 200 Tryz.f35 [cV.av x0] [] cBool.dec =
      .bind (x0.x.right) fun vb0 =>
      .br (vb0)
       (
        .bind (x0.y.right) fun vb1 =>
        .br (vb1)
         (
          .bind (x0.z.right) fun vb2 =>
          .ret (vb2))
         (
          .ret (Bool.false)))
       (
        .ret (Bool.false)) := by kernel_rfl
theorem c_vec_Right (x0 : V) : Plain Tryz.prog 35 [cV.enc x0] (cBool.enc (V.right x0)) :=
  plain_of_tree (n := 200) (EnvOK.add s_iv_Right EnvOK.nil) Tryz.func35 (args := [cV.av x0]) (by simp only [AV.vals, Cod.av_val]) (Nat.le_of_ble_eq_true (by kernel_rfl)) LFn.nil cBool (by
    rw [t_vec_Right]
    simp only [Tr.den]
    grind [V.right])
theorem s_vec_Right : Ev.Spec Tryz.prog 35 (F1 cV cBool V.right) := spec1 (fun vs w => Tryz.call35 vs w) c_vec_Right

/-! vec.Add -/
theorem t_vec_Add (x0 : V) (x1 : V) :
    evFn Tryz.prog (Env.add 30 (F2 cIv cIv cIv Iv.add) (Env.add 33 (F3 cIv cIv cIv cV V.mk) Env.nil)) Laws.nil 200 Tryz.f117 [cV.av x0, cV.av x1] [] cV.dec =
      .bind (x0.x.add x1.x) fun viv0 =>
      .bind (x0.y.add x1.y) fun viv1 =>
      .bind (x0.z.add x1.z) fun viv2 =>
      .bind (Go.Proofs.YtmpjfdaldejjlaaGreat.V.mk viv0 viv1 viv2) fun vv3 =>
      .ret (vv3) := by kernel_rfl
theorem c_vec_Add (x0 : V) (x1 : V) : Plain Tryz.prog 117 [cV.enc x0, cV.enc x1] (cV.enc (V.add x0 x1)) :=
  plain_of_tree (n := 200) (EnvOK.add s_iv_Add (EnvOK.add s_vec_Of EnvOK.nil)) Tryz.func117 (args := [cV.av x0, cV.av x1]) (by simp only [AV.vals, Cod.av_val]) (Nat.le_of_ble_eq_true (by kernel_rfl)) LFn.nil cV (by
    rw [t_vec_Add]
    rfl)
theorem s_vec_Add : Ev.Spec Tryz.prog 117 (F2 cV cV cV V.add) := spec2 (fun vs w => Tryz.call117 vs w) c_vec_Add

/-! vec.Scale -/
theorem t_vec_Scale (x0 : V) (x1 : Iv) :
    evFn Tryz.prog (Env.add 33 (F3 cIv cIv cIv cV V.mk) (Env.add 111 (F2 cIv cIv cIv Iv.mul) Env.nil)) Laws.nil 200 Tryz.f118 [cV.av x0, cIv.av x1] [] cV.dec =
      .bind (x0.x.mul x1) fun viv0 =>
      .bind (x0.y.mul x1) fun viv1 =>
      .bind (x0.z.mul x1) fun viv2 =>
      .bind (Go.Proofs.YtmpjfdaldejjlaaGreat.V.mk viv0 viv1 viv2) fun vv3 =>
      .ret (vv3) := by kernel_rfl
theorem c_vec_Scale (x0 : V) (x1 : Iv) : Plain Tryz.prog 118 [cV.enc x0, cIv.enc x1] (cV.enc (V.scale x0 x1)) :=
  plain_of_tree (n := 200) (EnvOK.add s_vec_Of (EnvOK.add s_iv_Mul EnvOK.nil)) Tryz.func118 (args := [cV.av x0, cIv.av x1]) (by simp only [AV.vals, Cod.av_val]) (Nat.le_of_ble_eq_true (by kernel_rfl)) LFn.nil cV (by
    rw [t_vec_Scale]
    rfl)
theorem s_vec_Scale : Ev.Spec Tryz.prog 118 (F2 cV cIv cV V.scale) := spec2 (fun vs w => Tryz.call118 vs w) c_vec_Scale

/-! vec.Dot -/
theorem t_vec_Dot (x0 : V) (x1 : V) :
    evFn Tryz.prog (Env.add 30 (F2 cIv cIv cIv Iv.add) (Env.add 111 (F2 cIv cIv cIv Iv.mul) Env.nil)) Laws.nil 200 Tryz.f131 [cV.av x0, cV.av x1] [] cIv.dec =
      .bind (x0.x.mul x1.x) fun viv0 =>
      .bind (x0.y.mul x1.y) fun viv1 =>
      .bind (viv0.add viv1) fun viv2 =>
      .bind (x0.z.mul x1.z) fun viv3 =>
      .bind (viv2.add viv3) fun viv4 =>
      .ret (viv4) := by kernel_rfl
theorem c_vec_Dot (x0 : V) (x1 : V) : Plain Tryz.prog 131 [cV.enc x0, cV.enc x1] (cIv.enc (V.dot x0 x1)) :=
  plain_of_tree (n := 200) (EnvOK.add s_iv_Add (EnvOK.add s_iv_Mul EnvOK.nil)) Tryz.func131 (args := [cV.av x0, cV.av x1]) (by simp only [AV.vals, Cod.av_val]) (Nat.le_of_ble_eq_true (by kernel_rfl)) LFn.nil cIv (by
    rw [t_vec_Dot]
    rfl)
theorem s_vec_Dot : Ev.Spec Tryz.prog 131 (F2 cV cV cIv V.dot) := spec2 (fun vs w => Tryz.call131 vs w) c_vec_Dot

/-! vec.Len2 -/
theorem t_vec_Len2 (x0 : V) :
    evFn Tryz.prog (Env.add 30 (F2 cIv cIv cIv Iv.add) (Env.add 34 (F1 cIv cIv Iv.sqr) Env.nil)) Laws.nil 200 Tryz.f163 [cV.av x0] [] cIv.dec =
      .bind (x0.x.sqr) fun viv0 =>
      .bind (x0.y.sqr) fun viv1 =>
      .bind (viv0.add viv1) fun viv2 =>
      .bind (x0.z.sqr) fun viv3 =>
      .bind (viv2.add viv3) fun viv4 =>
      .ret (viv4) := by kernel_rfl
theorem c_vec_Len2 (x0 : V) : Plain Tryz.prog 163 [cV.enc x0] (cIv.enc (V.len2 x0)) :=
  plain_of_tree (n := 200) (EnvOK.add s_iv_Add (EnvOK.add s_iv_Sqr EnvOK.nil)) Tryz.func163 (args := [cV.av x0]) (by simp only [AV.vals, Cod.av_val]) (Nat.le_of_ble_eq_true (by kernel_rfl)) LFn.nil cIv (by
    rw [t_vec_Len2]
    rfl)
theorem s_vec_Len2 : Ev.Spec Tryz.prog 163 (F1 cV cIv V.len2) := spec1 (fun vs w => Tryz.call163 vs w) c_vec_Len2

/-! vec.Unit -/
theorem t_vec_Unit (x0 : V) :
    evFn Tryz.prog (Env.add 33 (F3 cIv cIv cIv cV V.mk) (Env.add 94 (F2 cIv cIv cIv Iv.div) (Env.add 133 (F1 cIv cIv Iv.root) (Env.add 163 (F1 cV cIv V.len2) Env.nil)))) Laws.nil 200 Tryz.f134 [cV.av x0] [] cV.dec =
      .bind (x0.len2) fun viv0 =>
      .bind (viv0.root) fun viv1 =>
      .bind (x0.x.div viv1) fun viv2 =>
      .bind (x0.y.div viv1) fun viv3 =>
      .bind (x0.z.div viv1) fun viv4 =>
      .bind (Go.Proofs.YtmpjfdaldejjlaaGreat.V.mk viv2 viv3 viv4) fun vv5 =>
      .ret (vv5) := by kernel_rfl
theorem c_vec_Unit (x0 : V) : Plain Tryz.prog 134 [cV.enc x0] (cV.enc (V.unit x0)) :=
  plain_of_tree (n := 200) (EnvOK.add s_vec_Of (EnvOK.add s_iv_Div (EnvOK.add s_iv_Root (EnvOK.add s_vec_Len2 EnvOK.nil)))) Tryz.func134 (args := [cV.av x0]) (by simp only [AV.vals, Cod.av_val]) (Nat.le_of_ble_eq_true (by kernel_rfl)) LFn.nil cV (by
    rw [t_vec_Unit]
    rfl)
theorem s_vec_Unit : Ev.Spec Tryz.prog 134 (F1 cV cV V.unit) := spec1 (fun vs w => Tryz.call134 vs w) c_vec_Unit

/-! vec.Along -/
theorem t_vec_Along (x0 : Ray) (x1 : Iv) :
    evFn Tryz.prog (Env.add 117 (F2 cV cV cV V.add) (Env.add 118 (F2 cV cIv cV V.scale) Env.nil)) Laws.nil 200 Tryz.f60 [cRay.av x0, cIv.av x1] [] cV.dec =
      .bind (x0.d.scale x1) fun vv0 =>
      .bind (x0.o.add vv0) fun vv1 =>
      .ret (vv1) := by kernel_rfl
theorem c_vec_Along (x0 : Ray) (x1 : Iv) : Plain Tryz.prog 60 [cRay.enc x0, cIv.enc x1] (cV.enc (along x0 x1)) :=
  plain_of_tree (n := 200) (EnvOK.add s_vec_Add (EnvOK.add s_vec_Scale EnvOK.nil)) Tryz.func60 (args := [cRay.av x0, cIv.av x1]) (by simp only [AV.vals, Cod.av_val]) (Nat.le_of_ble_eq_true (by kernel_rfl)) LFn.nil cV (by
    rw [t_vec_Along]
    rfl)
theorem s_vec_Along : Ev.Spec Tryz.prog 60 (F2 cRay cIv cV along) := spec2 (fun vs w => Tryz.call60 vs w) c_vec_Along

/-! vec.Inside -/
theorem t_vec_Inside (x0 : V) (x1 : V) :
    evFn Tryz.prog (Env.add 25 (F2 cIv cIv cBool Iv.inside) Env.nil) Laws.nil 200 Tryz.f26 [cV.av x0, cV.av x1] [] cBool.dec =
      .bind (x0.x.inside x1.x) fun vb0 =>
      .br (vb0)
       (
        .bind (x0.y.inside x1.y) fun vb1 =>
        .br (vb1)
         (
          .bind (x0.z.inside x1.z) fun vb2 =>
          .ret (vb2))
         (
          .ret (Bool.false)))
       (
        .ret (Bool.false)) := by kernel_rfl
theorem c_vec_Inside (x0 : V) (x1 : V) : Plain Tryz.prog 26 [cV.enc x0, cV.enc x1] (cBool.enc (V.inside x0 x1)) :=
  plain_of_tree (n := 200) (EnvOK.add s_iv_Inside EnvOK.nil) Tryz.func26 (args := [cV.av x0, cV.av x1]) (by simp only [AV.vals, Cod.av_val]) (Nat.le_of_ble_eq_true (by kernel_rfl)) LFn.nil cBool (by
    rw [t_vec_Inside]
    simp only [Tr.den]
    grind [V.inside])
theorem s_vec_Inside : Ev.Spec Tryz.prog 26 (F2 cV cV cBool V.inside) := spec2 (fun vs w => Tryz.call26 vs w) c_vec_Inside

/-! vec.Mirror -/
theorem t_vec_Mirror (x0 : V) :
    evFn Tryz.prog (Env.add 93 (F1 cIv cIv Iv.neg) Env.nil) Laws.nil 200 Tryz.f40 [cV.av x0] [] cV.dec =
      .bind (x0.y.neg) fun viv0 =>
      .ret (Go.Proofs.YtmpjfdaldejjlaaGreat.V.mk x0.x viv0 x0.z) := by kernel_rfl
theorem c_vec_Mirror (x0 : V) : Plain Tryz.prog 40 [cV.enc x0] (cV.enc (V.mirror x0)) :=
  plain_of_tree (n := 200) (EnvOK.add s_iv_Neg EnvOK.nil) Tryz.func40 (args := [cV.av x0]) (by simp only [AV.vals, Cod.av_val]) (Nat.le_of_ble_eq_true (by kernel_rfl)) LFn.nil cV (by
    rw [t_vec_Mirror]
    rfl)
theorem s_vec_Mirror : Ev.Spec Tryz.prog 40 (F1 cV cV V.mirror) := spec1 (fun vs w => Tryz.call40 vs w) c_vec_Mirror

/-! tri.told -/
theorem t_tri_told (x0 : Bool) (x1 : Bool) :
    evFn Tryz.prog Env.nil Laws.nil 200 Tryz.f130 [cBool.av x0, cBool.av x1] [] cInt.dec =
      .br (x0)
       (
        .ret (1))
       (
        .br (x1)
         (
          .ret (2))
         (
          .ret (0))) := by kernel_rfl
theorem c_tri_told (x0 : Bool) (x1 : Bool) : Plain Tryz.prog 130 [cBool.enc x0, cBool.enc x1] (cInt.enc (told x0 x1)) :=
  plain_of_tree (n := 200) EnvOK.nil Tryz.func130 (args := [cBool.av x0, cBool.av x1]) (by simp only [AV.vals, Cod.av_val]) (Nat.le_of_ble_eq_true (by kernel_rfl)) LFn.nil cInt (by
    rw [t_tri_told]
    simp only [Tr.den]
    grind [told])
theorem s_tri_told : Ev.Spec Tryz.prog 130 (F2 cBool cBool cInt told) := spec2 (fun vs w => Tryz.call130 vs w) c_tri_told

/-! tri.NotAbove -/
theorem t_tri_NotAbove (x0 : Iv) (x1 : Iv) :
    evFn Tryz.prog (Env.add 23 (F1 cIv cBool Iv.right) (Env.add 130 (F2 cBool cBool cInt told) Env.nil)) Laws.nil 200 Tryz.f79 [cIv.av x0, cIv.av x1] [] cInt.dec =
      .bind (x0.right) fun vb0 =>
      .br (!vb0)
       (
        .ret (0))
       (
        .bind (x1.right) fun vb1 =>
        .br (!vb1)
         (
          .ret (0))
         (
          .bind (Go.Proofs.YtmpjfdaldejjlaaGreat.told (Decidable.decide (x0.hi ≤ x1.lo)) (Decidable.decide (x0.lo > x1.hi))) fun vn2 =>
          .ret (vn2))) := by kernel_rfl
theorem c_tri_NotAbove (x0 : Iv) (x1 : Iv) : Plain Tryz.prog 79 [cIv.enc x0, cIv.enc x1] (cInt.enc (notAbove x0 x1)) :=
  plain_of_tree (n := 200) (EnvOK.add s_iv_Right (EnvOK.add s_tri_told EnvOK.nil)) Tryz.func79 (args := [cIv.av x0, cIv.av x1]) (by simp only [AV.vals, Cod.av_val]) (Nat.le_of_ble_eq_true (by kernel_rfl)) LFn.nil cInt (by
    rw [t_tri_NotAbove]
    simp only [Tr.den]
    grind [notAbove])
theorem s_tri_NotAbove : Ev.Spec Tryz.prog 79 (F2 cIv cIv cInt notAbove) := spec2 (fun vs w => Tryz.call79 vs w) c_tri_NotAbove

/-! quad.Near -/
theorem t_quad_Near (x0 : Iv) (x1 : Iv) (x2 : Iv) :
    evFn Tryz.prog (Env.add 34 (F1 cIv cIv Iv.sqr) (Env.add 44 (F0 cIv Iv.none) (Env.add 56 (F2 cIv cIv cIv Iv.sub) (Env.add 94 (F2 cIv cIv cIv Iv.div) (Env.add 111 (F2 cIv cIv cIv Iv.mul) (Env.add 133 (F1 cIv cIv Iv.root) Env.nil)))))) Laws.nil 200 Tryz.f113 [cIv.av x0, cIv.av x1, cIv.av x2] [] (cTwo cIv cInt).dec =
      .bind (x1.sqr) fun viv0 =>
      .bind (x0.mul x2) fun viv1 =>
      .bind (viv0.sub viv1) fun viv2 =>
      .br (viv2.no)
       (
        .bind (Go.Proofs.YtmpjfdaldejjlaaGreat.Iv.none) fun viv3 =>
        .ret ((viv3, 0)))
       (
        .br (Decidable.decide (viv2.hi < 0))
         (
          .bind (Go.Proofs.YtmpjfdaldejjlaaGreat.Iv.none) fun viv4 =>
          .ret ((viv4, 2)))
         (
          .br (Decidable.decide (viv2.lo < 0))
           (
            .bind (Go.Proofs.YtmpjfdaldejjlaaGreat.Iv.none) fun viv5 =>
            .ret ((viv5, 0)))
           (
            .bind (viv2.root) fun viv6 =>
            .bind (viv6.sub x1) fun viv7 =>
            .bind (x2.div viv7) fun viv8 =>
            .br (viv8.no)
             (
              .bind (Go.Proofs.YtmpjfdaldejjlaaGreat.Iv.none) fun viv9 =>
              .ret ((viv9, 0)))
             (
              .ret ((viv8, 1)))))) := by kernel_rfl
theorem c_quad_Near (x0 : Iv) (x1 : Iv) (x2 : Iv) : Plain Tryz.prog 113 [cIv.enc x0, cIv.enc x1, cIv.enc x2] ((cTwo cIv cInt).enc (near x0 x1 x2)) :=
  plain_of_tree (n := 200) (EnvOK.add s_iv_Sqr (EnvOK.add s_iv_None (EnvOK.add s_iv_Sub (EnvOK.add s_iv_Div (EnvOK.add s_iv_Mul (EnvOK.add s_iv_Root EnvOK.nil)))))) Tryz.func113 (args := [cIv.av x0, cIv.av x1, cIv.av x2]) (by simp only [AV.vals, Cod.av_val]) (Nat.le_of_ble_eq_true (by kernel_rfl)) LFn.nil (cTwo cIv cInt) (by
    rw [t_quad_Near]
    simp only [Tr.den]
    grind [near])
theorem s_quad_Near : Ev.Spec Tryz.prog 113 (F3 cIv cIv cIv (cTwo cIv cInt) near) := spec3 (fun vs w => Tryz.call113 vs w) c_quad_Near

/-! hit.round -/
theorem t_hit_round (x0 : Surf) (x1 : V) (x2 : V) :
    evFn Tryz.prog (Env.add 30 (F2 cIv cIv cIv Iv.add) (Env.add 34 (F1 cIv cIv Iv.sqr) (Env.add 56 (F2 cIv cIv cIv Iv.sub) (Env.add 111 (F2 cIv cIv cIv Iv.mul) (Env.add 112 (F2 cIv cInt cIv Iv.times) (Env.add 113 (F3 cIv cIv cIv (cTwo cIv cInt) near) Env.nil)))))) Laws.nil 200 Tryz.f57 [cSurf.av x0, cV.av x1, cV.av x2] [] (cTwo cIv cInt).dec =
      .bind (x2.x.sqr) fun viv0 =>
      .bind (x2.y.sqr) fun viv1 =>
      .bind (viv0.add viv1) fun viv2 =>
      .bind (x2.z.sqr) fun viv3 =>
      .bind (x0.conic.mul viv3) fun viv4 =>
      .bind (viv2.add viv4) fun viv5 =>
      .bind (x0.curve.mul viv5) fun viv6 =>
      .bind (x1.x.mul x2.x) fun viv7 =>
      .bind (x1.y.mul x2.y) fun viv8 =>
      .bind (viv7.add viv8) fun viv9 =>
      .bind (x1.z.mul x2.z) fun viv10 =>
      .bind (x0.conic.mul viv10) fun viv11 =>
      .bind (viv9.add viv11) fun viv12 =>
      .bind (x0.curve.mul viv12) fun viv13 =>
      .bind (viv13.sub x2.z) fun viv14 =>
      .bind (x1.x.sqr) fun viv15 =>
      .bind (x1.y.sqr) fun viv16 =>
      .bind (viv15.add viv16) fun viv17 =>
      .bind (x1.z.sqr) fun viv18 =>
      .bind (x0.conic.mul viv18) fun viv19 =>
      .bind (viv17.add viv19) fun viv20 =>
      .bind (x0.curve.mul viv20) fun viv21 =>
      .bind (x1.z.times 2) fun viv22 =>
      .bind (viv21.sub viv22) fun viv23 =>
      .bind (Go.Proofs.YtmpjfdaldejjlaaGreat.near viv6 viv14 viv23) fun vy24 =>
      .ret (vy24) := by kernel_rfl
theorem c_hit_round (x0 : Surf) (x1 : V) (x2 : V) : Plain Tryz.prog 57 [cSurf.enc x0, cV.enc x1, cV.enc x2] ((cTwo cIv cInt).enc (hitRound x0 x1 x2)) :=
  plain_of_tree (n := 200) (EnvOK.add s_iv_Add (EnvOK.add s_iv_Sqr (EnvOK.add s_iv_Sub (EnvOK.add s_iv_Mul (EnvOK.add s_iv_Times (EnvOK.add s_quad_Near EnvOK.nil)))))) Tryz.func57 (args := [cSurf.av x0, cV.av x1, cV.av x2]) (by simp only [AV.vals, Cod.av_val]) (Nat.le_of_ble_eq_true (by kernel_rfl)) LFn.nil (cTwo cIv cInt) (by
    rw [t_hit_round]
    rfl)
theorem s_hit_round : Ev.Spec Tryz.prog 57 (F3 cSurf cV cV (cTwo cIv cInt) hitRound) := spec3 (fun vs w => Tryz.call57 vs w) c_hit_round

/-! hit.none -/
theorem t_hit_none (x0 : Int) :
    evFn Tryz.prog (Env.add 33 (F3 cIv cIv cIv cV V.mk) (Env.add 44 (F0 cIv Iv.none) Env.nil)) Laws.nil 200 Tryz.f59 [cInt.av x0] [] (cThree cIv cV cInt).dec =
      .bind (Go.Proofs.YtmpjfdaldejjlaaGreat.Iv.none) fun viv0 =>
      .bind (Go.Proofs.YtmpjfdaldejjlaaGreat.V.mk viv0 viv0 viv0) fun vv1 =>
      .ret ((viv0, vv1, x0)) := by kernel_rfl
theorem c_hit_none (x0 : Int) : Plain Tryz.prog 59 [cInt.enc x0] ((cThree cIv cV cInt).enc (((fun is => (Iv.none, V.none, is))) x0)) :=
  plain_of_tree (n := 200) (EnvOK.add s_vec_Of (EnvOK.add s_iv_None EnvOK.nil)) Tryz.func59 (args := [cInt.av x0]) (by simp only [AV.vals, Cod.av_val]) (Nat.le_of_ble_eq_true (by kernel_rfl)) LFn.nil (cThree cIv cV cInt) (by
    rw [t_hit_none]
    rfl)
theorem s_hit_none : Ev.Spec Tryz.prog 59 (F1 cInt (cThree cIv cV cInt) ((fun is => (Iv.none, V.none, is)))) := spec1 (fun vs w => Tryz.call59 vs w) c_hit_none

/-! snell.nones -/
theorem t_snell_nones  :
    evFn Tryz.prog (Env.add 33 (F3 cIv cIv cIv cV V.mk) (Env.add 44 (F0 cIv Iv.none) Env.nil)) Laws.nil 200 Tryz.f132 [] [] cV.dec =
      .bind (Go.Proofs.YtmpjfdaldejjlaaGreat.Iv.none) fun viv0 =>
      .bind (Go.Proofs.YtmpjfdaldejjlaaGreat.Iv.none) fun viv1 =>
      .bind (Go.Proofs.YtmpjfdaldejjlaaGreat.Iv.none) fun viv2 =>
      .bind (Go.Proofs.YtmpjfdaldejjlaaGreat.V.mk viv0 viv1 viv2) fun vv3 =>
      .ret (vv3) := by kernel_rfl
theorem c_snell_nones  : Plain Tryz.prog 132 [] (cV.enc (V.none)) :=
  plain_of_tree (n := 200) (EnvOK.add s_vec_Of (EnvOK.add s_iv_None EnvOK.nil)) Tryz.func132 (args := []) rfl (Nat.le_of_ble_eq_true (by kernel_rfl)) LFn.nil cV (by
    rw [t_snell_nones]
    rfl)
theorem s_snell_nones : Ev.Spec Tryz.prog 132 (F0 cV V.none) := spec0 (fun vs w => Tryz.call132 vs w) c_snell_nones

/-! step.nones -/
theorem t_step_nones  :
    evFn Tryz.prog (Env.add 33 (F3 cIv cIv cIv cV V.mk) (Env.add 44 (F0 cIv Iv.none) Env.nil)) Laws.nil 200 Tryz.f82 [] [] cRay.dec =
      .bind (Go.Proofs.YtmpjfdaldejjlaaGreat.Iv.none) fun viv0 =>
      .bind (Go.Proofs.YtmpjfdaldejjlaaGreat.Iv.none) fun viv1 =>
      .bind (Go.Proofs.YtmpjfdaldejjlaaGreat.Iv.none) fun viv2 =>
      .bind (Go.Proofs.YtmpjfdaldejjlaaGreat.V.mk viv0 viv1 viv2) fun vv3 =>
      .ret (Go.Proofs.YtmpjfdaldejjlaaGreat.Ray.mk vv3 vv3) := by kernel_rfl
theorem c_step_nones  : Plain Tryz.prog 82 [] (cRay.enc (Ray.none)) :=
  plain_of_tree (n := 200) (EnvOK.add s_vec_Of (EnvOK.add s_iv_None EnvOK.nil)) Tryz.func82 (args := []) rfl (Nat.le_of_ble_eq_true (by kernel_rfl)) LFn.nil cRay (by
    rw [t_step_nones]
    rfl)
theorem s_step_nones : Ev.Spec Tryz.prog 82 (F0 cRay Ray.none) := spec0 (fun vs w => Tryz.call82 vs w) c_step_nones
end Go.Proofs.YtmpjfdaldejjlaaGreat
