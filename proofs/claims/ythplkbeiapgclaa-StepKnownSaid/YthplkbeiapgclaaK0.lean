/-
  Contracts of calls, written by a small program of this session out of the evaluator's trees.
-/
import Derived.Test.YthplkbeiapgclaaCore
import Derived.Test.YthplkbeiapgclaaCoreLoops
import Derived.Test.YthplkbeiapgclaaEvCod
import Derived.Test.YthplkbeiapgclaaProg
namespace Go.Proofs.Ythplkbeiapgclaa
open Go Go.RowKit Ev
set_option maxRecDepth 100000
set_option linter.unusedVariables false
set_option linter.unusedSimpArgs false

/-! num.In -/
theorem t_num_In (x0 : Int) :
    evFn Try.prog Env.nil Laws.nil 200 Try.f65 [cInt.av x0] [] cBool.dec =
      .br (Decidable.decide (x0 ≥ -1073741824))
       (
        .ret (Decidable.decide (x0 ≤ 1073741824)))
       (
        .ret (Bool.false)) := by kernel_rfl
theorem c_num_In (x0 : Int) : Plain Try.prog 65 [cInt.enc x0] (cBool.enc (numIn x0)) :=
  plain_of_tree (n := 200) EnvOK.nil Try.func65 (args := [cInt.av x0]) (by simp only [AV.vals, Cod.av_val]) (Nat.le_of_ble_eq_true (by kernel_rfl)) LFn.nil cBool (by
    rw [t_num_In]
    simp only [Tr.den]
    grind [numIn])
theorem s_num_In : Ev.Spec Try.prog 65 (F1 cInt cBool numIn) := spec1 (fun vs w => Try.call65 vs w) c_num_In

/-! num.Floor -/
theorem t_num_Floor (x0 : Int) (x1 : Int) :
    evFn Try.prog Env.nil Laws.nil 200 Try.f147 [cInt.av x0, cInt.av x1] [] cInt.dec =
      .br (x1 == 0)
       (
        .ret (0))
       (
        .br (x1 != 0)
         (
          .br (x1 != 0)
           (
            .br (x0.tmod x1 != 0)
             (
              .br (!Decidable.decide (x0 < 0) == Decidable.decide (x1 < 0))
               (
                .ret (Go.IntKind.i64.wrap (Go.IntKind.i64.wrap (x0.tdiv x1) - 1)))
               (
                .ret (Go.IntKind.i64.wrap (x0.tdiv x1))))
             (
              .ret (Go.IntKind.i64.wrap (x0.tdiv x1))))
           (
            .fail))
         (
          .fail)) := by kernel_rfl
theorem c_num_Floor (x0 : Int) (x1 : Int) (h : flOk x0 x1 = true) : Plain Try.prog 147 [cInt.enc x0, cInt.enc x1] (cInt.enc (fl x0 x1)) :=
  plain_of_tree (n := 200) EnvOK.nil Try.func147 (args := [cInt.av x0, cInt.av x1]) (by simp only [AV.vals, Cod.av_val]) (Nat.le_of_ble_eq_true (by kernel_rfl)) LFn.nil cInt (by
    rw [t_num_Floor]
    simp [flOk] at h
    simp only [Tr.den]
    by_cases hb : x1 = 0
    · subst hb; simp [fl]
    · have e := fl_tdiv x0 x1 hb
      have hw := tdiv_bd (a := x0) (b := x1) (by omega) (by omega)
      simp (disch := omega) only [IntWalk.i64_in] at *
      grind)
theorem s_num_Floor : Ev.Spec Try.prog 147 (F2p cInt cInt cInt flOk fl) := spec2p (fun vs w => Try.call147 vs w) c_num_Floor

/-! num.rounded -/
theorem t_num_rounded (x0 : Int) (x1 : Int) (x2 : Bool) :
    evFn Try.prog (Env.add 65 (F1 cInt cBool numIn) (Env.add 147 (F2p cInt cInt cInt flOk fl) Env.nil)) Laws.nil 200 Try.f112 [cInt.av x0, cInt.av x1, cBool.av x2] [] (cTwo cInt cBool).dec =
      .br (Go.Proofs.Ythplkbeiapgclaa.flOk x0 x1)
       (
        .bind (Go.Proofs.Ythplkbeiapgclaa.fl x0 x1) fun n0 =>
        .br (x2)
         (
          .br (x1 != 0)
           (
            .br (x0.tmod x1 != 0)
             (
              .bind (Go.Proofs.Ythplkbeiapgclaa.numIn (Go.IntKind.i64.wrap (n0 + 1))) fun b1 =>
              .br (!b1)
               (
                .ret ((0, Bool.false)))
               (
                .ret ((Go.IntKind.i64.wrap (n0 + 1), Bool.true))))
             (
              .bind (Go.Proofs.Ythplkbeiapgclaa.numIn n0) fun b2 =>
              .br (!b2)
               (
                .ret ((0, Bool.false)))
               (
                .ret ((n0, Bool.true)))))
           (
            .fail))
         (
          .bind (Go.Proofs.Ythplkbeiapgclaa.numIn n0) fun b3 =>
          .br (!b3)
           (
            .ret ((0, Bool.false)))
           (
            .ret ((n0, Bool.true)))))
       (
        .fail) := by kernel_rfl
theorem c_num_rounded (x0 : Int) (x1 : Int) (x2 : Bool) (h : rnOk x0 x1 x2 = true) : Plain Try.prog 112 [cInt.enc x0, cInt.enc x1, cBool.enc x2] ((cTwo cInt cBool).enc (rnd x0 x1 x2)) :=
  plain_of_tree (n := 200) (EnvOK.add s_num_In (EnvOK.add s_num_Floor EnvOK.nil)) Try.func112 (args := [cInt.av x0, cInt.av x1, cBool.av x2]) (by simp only [AV.vals, Cod.av_val]) (Nat.le_of_ble_eq_true (by kernel_rfl)) LFn.nil (cTwo cInt cBool) (by
    rw [t_num_rounded]
    simp [rnOk] at h
    simp only [Tr.den, h.1]
    have e := fl_tdiv x0 x1 h.2
    have hw := tdiv_bd (a := x0) (b := x1) (by simp [flOk] at h; omega) (by simp [flOk] at h; omega)
    have hz := fl_mul x0 x1 h.2
    have hfl : -9223372036854775807 < fl x0 x1 ∧ fl x0 x1 < 9223372036854775806 := by rw [e]; split <;> omega
    simp (disch := omega) only [IntWalk.i64_in] at *
    grind [rnd])
theorem s_num_rounded : Ev.Spec Try.prog 112 (F3p cInt cInt cBool (cTwo cInt cBool) rnOk rnd) := spec3p (fun vs w => Try.call112 vs w) c_num_rounded

/-! num.Mul -/
theorem t_num_Mul (x0 : Int) (x1 : Int) (x2 : Bool) :
    evFn Try.prog (Env.add 65 (F1 cInt cBool numIn) (Env.add 112 (F3p cInt cInt cBool (cTwo cInt cBool) rnOk rnd) Env.nil)) Laws.nil 200 Try.f81 [cInt.av x0, cInt.av x1, cBool.av x2] [] (cTwo cInt cBool).dec =
      .bind (Go.Proofs.Ythplkbeiapgclaa.numIn x0) fun b0 =>
      .br (!b0)
       (
        .ret ((0, Bool.false)))
       (
        .bind (Go.Proofs.Ythplkbeiapgclaa.numIn x1) fun b1 =>
        .br (!b1)
         (
          .ret ((0, Bool.false)))
         (
          .br (Go.Proofs.Ythplkbeiapgclaa.rnOk (Go.IntKind.i64.wrap (x0 * x1)) 65536 x2)
           (
            .bind (Go.Proofs.Ythplkbeiapgclaa.rnd (Go.IntKind.i64.wrap (x0 * x1)) 65536 x2) fun y2 =>
            .ret (y2))
           (
            .fail))) := by kernel_rfl
theorem c_num_Mul (x0 : Int) (x1 : Int) (x2 : Bool) : Plain Try.prog 81 [cInt.enc x0, cInt.enc x1, cBool.enc x2] ((cTwo cInt cBool).enc (numMul x0 x1 x2)) :=
  plain_of_tree (n := 200) (EnvOK.add s_num_In (EnvOK.add s_num_rounded EnvOK.nil)) Try.func81 (args := [cInt.av x0, cInt.av x1, cBool.av x2]) (by simp only [AV.vals, Cod.av_val]) (Nat.le_of_ble_eq_true (by kernel_rfl)) LFn.nil (cTwo cInt cBool) (by
    rw [t_num_Mul]
    simp only [Tr.den]
    have hm := mul_bd x0 x1
    cases h0 : numIn x0 <;> cases h1 : numIn x1 <;> simp [numMul, h0, h1]
    have := hm h0 h1
    simp (disch := omega) only [IntWalk.i64_in]
    grind [rnOk, flOk])
theorem s_num_Mul : Ev.Spec Try.prog 81 (F3 cInt cInt cBool (cTwo cInt cBool) numMul) := spec3 (fun vs w => Try.call81 vs w) c_num_Mul

/-! num.Div -/
theorem t_num_Div (x0 : Int) (x1 : Int) (x2 : Bool) :
    evFn Try.prog (Env.add 65 (F1 cInt cBool numIn) (Env.add 112 (F3p cInt cInt cBool (cTwo cInt cBool) rnOk rnd) Env.nil)) Laws.nil 200 Try.f68 [cInt.av x0, cInt.av x1, cBool.av x2] [] (cTwo cInt cBool).dec =
      .bind (Go.Proofs.Ythplkbeiapgclaa.numIn x0) fun b0 =>
      .br (!b0)
       (
        .ret ((0, Bool.false)))
       (
        .bind (Go.Proofs.Ythplkbeiapgclaa.numIn x1) fun b1 =>
        .br (!b1)
         (
          .ret ((0, Bool.false)))
         (
          .br (x1 == 0)
           (
            .ret ((0, Bool.false)))
           (
            .br (Go.Proofs.Ythplkbeiapgclaa.rnOk (Go.IntKind.i64.wrap (x0 * 65536)) x1 x2)
             (
              .bind (Go.Proofs.Ythplkbeiapgclaa.rnd (Go.IntKind.i64.wrap (x0 * 65536)) x1 x2) fun y2 =>
              .ret (y2))
             (
              .fail)))) := by kernel_rfl
theorem c_num_Div (x0 : Int) (x1 : Int) (x2 : Bool) : Plain Try.prog 68 [cInt.enc x0, cInt.enc x1, cBool.enc x2] ((cTwo cInt cBool).enc (numDiv x0 x1 x2)) :=
  plain_of_tree (n := 200) (EnvOK.add s_num_In (EnvOK.add s_num_rounded EnvOK.nil)) Try.func68 (args := [cInt.av x0, cInt.av x1, cBool.av x2]) (by simp only [AV.vals, Cod.av_val]) (Nat.le_of_ble_eq_true (by kernel_rfl)) LFn.nil (cTwo cInt cBool) (by
    rw [t_num_Div]
    simp only [Tr.den]
    cases h0 : numIn x0 <;> cases h1 : numIn x1 <;> simp [numDiv, h0, h1]
    have b0 := numIn_iff.1 h0
    have b1 := numIn_iff.1 h1
    simp (disch := omega) only [IntWalk.i64_in]
    grind [rnOk, flOk])
theorem s_num_Div : Ev.Spec Try.prog 68 (F3 cInt cInt cBool (cTwo cInt cBool) numDiv) := spec3 (fun vs w => Try.call68 vs w) c_num_Div

/-! num.Root -/
theorem tl_num_Root_5 (t1 : Bool) (t6 : Int) (t7 : Int) (t8 : Int) :
    ev Try.prog (Env.add 65 (F1 cInt cBool numIn) Env.nil) Laws.nil 200 none (loopAt Try.f140 5) ((sc 44 [1, 6, 7, 8] (tCod 1 cBool (tCod 6 cInt (tCod 7 cInt (tCod 8 cInt tNil)))) rNil).enc ((t1, t6, t7, t8, ()), (()))) (backK (sc 44 [1, 6, 7, 8] (tCod 1 cBool (tCod 6 cInt (tCod 7 cInt (tCod 8 cInt tNil)))) rNil) (ocExit 0 (sc 44 [1, 6, 7] (tCod 1 cBool (tCod 6 cInt (tCod 7 cInt tNil))) rNil))) =
      .br (Decidable.decide (t8 ≥ 0))
       (
        .br (Decidable.decide (0 ≤ t8))
         (
          .br (Decidable.decide (Go.IntKind.i64.wrap (Go.IntKind.i64.wrap ↑(BitVec.ofInt 64 t7 ||| BitVec.ofInt 64 (Go.IntKind.i64.wrap (1 * 2 ^ Min.min t8.toNat 64))).toNat * Go.IntKind.i64.wrap ↑(BitVec.ofInt 64 t7 ||| BitVec.ofInt 64 (Go.IntKind.i64.wrap (1 * 2 ^ Min.min t8.toNat 64))).toNat) ≤ t6))
           (
            .ret (Sum.inl ((t1, t6, Go.IntKind.i64.wrap ↑(BitVec.ofInt 64 t7 ||| BitVec.ofInt 64 (Go.IntKind.i64.wrap (1 * 2 ^ Min.min t8.toNat 64))).toNat, Go.IntKind.i64.wrap (t8 - 1), ()), ())))
           (
            .ret (Sum.inl ((t1, t6, t7, Go.IntKind.i64.wrap (t8 - 1), ()), ()))))
         (
          .fail))
       (
        .ret (Sum.inr ((t1, t6, t7, ()), ()))) := by kernel_rfl
theorem ok_num_Root_5 : LOK Try.prog (LoopR.of (sc 44 [1, 6, 7, 8] (tCod 1 cBool (tCod 6 cInt (tCod 7 cInt (tCod 8 cInt tNil)))) rNil) (ocExit 0 (sc 44 [1, 6, 7] (tCod 1 cBool (tCod 6 cInt (tCod 7 cInt tNil))) rNil)) rootRun) (loopAt Try.f140 5) := by
  refine loop_ok (EnvOK.add s_num_In EnvOK.nil) (LFn.at (fn := Try.f140) LFn.nil 5) rootStep (n := 200) (fun x z h => ?_) rootRun_ok
  obtain ⟨⟨t1, t6, t7, t8, ⟨⟩⟩, ⟨⟩⟩ := x
  rw [tl_num_Root_5]
  rw [← h]
  simp only [den_br, den_bind, den_ret, den_fail, decide_eq_true_eq]
  simp only [rootStep, rootBit]
  by_cases h0 : 0 ≤ t8 <;> simp only [h0, if_true, if_false]
  split <;> rename_i hh <;> simp only [hh, if_true, if_false]
theorem t_num_Root (x0 : Int) (x1 : Bool) :
    evFn Try.prog (Env.add 65 (F1 cInt cBool numIn) Env.nil) (Laws.add 5 (LoopR.of (sc 44 [1, 6, 7, 8] (tCod 1 cBool (tCod 6 cInt (tCod 7 cInt (tCod 8 cInt tNil)))) rNil) (ocExit 0 (sc 44 [1, 6, 7] (tCod 1 cBool (tCod 6 cInt (tCod 7 cInt tNil))) rNil)) rootRun) Laws.nil) 200 Try.f140 [cInt.av x0, cBool.av x1] [] (cTwo cInt cBool).dec =
      .br (Decidable.decide (x0 < 0))
       (
        .ret ((0, Bool.false)))
       (
        .bind (Go.Proofs.Ythplkbeiapgclaa.numIn x0) fun b0 =>
        .br (!b0)
         (
          .ret ((0, Bool.false)))
         (
          .get (Go.Proofs.Ythplkbeiapgclaa.rootRun ((x1, Go.IntKind.i64.wrap (x0 * 65536), 0, 24, ()), ())) fun y1 =>
          .br (y1.fst.fst)
           (
            .br (Decidable.decide (Go.IntKind.i64.wrap (y1.fst.snd.snd.fst * y1.fst.snd.snd.fst) < y1.fst.snd.fst))
             (
              .ret ((Go.IntKind.i64.wrap (y1.fst.snd.snd.fst + 1), Bool.true)))
             (
              .ret ((y1.fst.snd.snd.fst, Bool.true))))
           (
            .ret ((y1.fst.snd.snd.fst, Bool.true))))) := by kernel_rfl
theorem c_num_Root (x0 : Int) (x1 : Bool) : Plain Try.prog 140 [cInt.enc x0, cBool.enc x1] ((cTwo cInt cBool).enc (numRoot x0 x1)) :=
  plain_of_tree (n := 200) (EnvOK.add s_num_In EnvOK.nil) Try.func140 (args := [cInt.av x0, cBool.av x1]) (by simp only [AV.vals, Cod.av_val]) (Nat.le_of_ble_eq_true (by kernel_rfl)) (LFn.add (fn := Try.f140) (i := 5) (by kernel_rfl) ok_num_Root_5 LFn.nil) (cTwo cInt cBool) (by
    rw [t_num_Root]
    simp only [den_br, den_bind, den_ret, den_fail, decide_eq_true_eq]
    simp only [numRoot]
    by_cases h0 : x0 < 0
    · simp [h0]
    cases h1 : numIn x0
    · simp
    have b := numIn_iff.1 h1
    have e1 : IntKind.i64.wrap (x0 * 65536) = x0 * 65536 := IntWalk.i64_in _ (by omega)
    have s := isqrt_spec (n := x0 * 65536) (by omega) (by omega)
    have l := isqrt_le (n := x0 * 65536) (m := 8388608) (by omega) (by omega) (by omega) (by omega)
    have e2 : IntKind.i64.wrap (isqrt (x0 * 65536) * isqrt (x0 * 65536)) = isqrt (x0 * 65536) * isqrt (x0 * 65536) := IntWalk.i64_in _ (by have := Int.mul_nonneg s.1 s.1; omega)
    have e3 : IntKind.i64.wrap (isqrt (x0 * 65536) + 1) = isqrt (x0 * 65536) + 1 := IntWalk.i64_in _ (by omega)
    have hr : rootRun ((x1, IntKind.i64.wrap (x0 * 65536), 0, 24, ()), ()) = some ((x1, x0 * 65536, isqrt (x0 * 65536), ()), ()) := by
      rw [e1]; exact if_pos ⟨⟨rfl, rfl⟩, by omega, by omega⟩
    rw [hr]
    simp only [den_get, den_br, den_ret, e2, e3, h0]
    cases x1 <;> simp
    split <;> rename_i hh <;> simp [hh])
theorem s_num_Root : Ev.Spec Try.prog 140 (F2 cInt cBool (cTwo cInt cBool) numRoot) := spec2 (fun vs w => Try.call140 vs w) c_num_Root

/-! iv.Right -/
theorem t_iv_Right (x0 : Iv) :
    evFn Try.prog (Env.add 65 (F1 cInt cBool numIn) Env.nil) Laws.nil 200 Try.f34 [cIv.av x0] [] cBool.dec =
      .br (!x0.no)
       (
        .bind (Go.Proofs.Ythplkbeiapgclaa.numIn x0.lo) fun b0 =>
        .br (b0)
         (
          .bind (Go.Proofs.Ythplkbeiapgclaa.numIn x0.hi) fun b1 =>
          .br (b1)
           (
            .ret (Decidable.decide (x0.lo ≤ x0.hi)))
           (
            .ret (Bool.false)))
         (
          .ret (Bool.false)))
       (
        .ret (Bool.false)) := by kernel_rfl
theorem c_iv_Right (x0 : Iv) : Plain Try.prog 34 [cIv.enc x0] (cBool.enc (Iv.right x0)) :=
  plain_of_tree (n := 200) (EnvOK.add s_num_In EnvOK.nil) Try.func34 (args := [cIv.av x0]) (by simp only [AV.vals, Cod.av_val]) (Nat.le_of_ble_eq_true (by kernel_rfl)) LFn.nil cBool (by
    rw [t_iv_Right]
    simp only [Tr.den]
    grind [Iv.right])
theorem s_iv_Right : Ev.Spec Try.prog 34 (F1 cIv cBool Iv.right) := spec1 (fun vs w => Try.call34 vs w) c_iv_Right

/-! iv.None -/
theorem t_iv_None  :
    evFn Try.prog Env.nil Laws.nil 200 Try.f21 [] [] cIv.dec =
      .ret (Go.Proofs.Ythplkbeiapgclaa.Iv.mk 0 0 Bool.true) := by kernel_rfl
theorem c_iv_None  : Plain Try.prog 21 [] (cIv.enc (Iv.none)) :=
  plain_of_tree (n := 200) EnvOK.nil Try.func21 (args := []) rfl (Nat.le_of_ble_eq_true (by kernel_rfl)) LFn.nil cIv (by
    rw [t_iv_None]
    rfl)
theorem s_iv_None : Ev.Spec Try.prog 21 (F0 cIv Iv.none) := spec0 (fun vs w => Try.call21 vs w) c_iv_None

/-! iv.Of -/
theorem t_iv_Of (x0 : Int) (x1 : Int) :
    evFn Try.prog (Env.add 21 (F0 cIv Iv.none) (Env.add 34 (F1 cIv cBool Iv.right) Env.nil)) Laws.nil 200 Try.f20 [cInt.av x0, cInt.av x1] [] cIv.dec =
      .bind ((Go.Proofs.Ythplkbeiapgclaa.Iv.mk x0 x1 Bool.false).right) fun b0 =>
      .br (!b0)
       (
        .bind (Go.Proofs.Ythplkbeiapgclaa.Iv.none) fun iv1 =>
        .ret (iv1))
       (
        .ret (Go.Proofs.Ythplkbeiapgclaa.Iv.mk x0 x1 Bool.false)) := by kernel_rfl
theorem c_iv_Of (x0 : Int) (x1 : Int) : Plain Try.prog 20 [cInt.enc x0, cInt.enc x1] (cIv.enc (Iv.of x0 x1)) :=
  plain_of_tree (n := 200) (EnvOK.add s_iv_None (EnvOK.add s_iv_Right EnvOK.nil)) Try.func20 (args := [cInt.av x0, cInt.av x1]) (by simp only [AV.vals, Cod.av_val]) (Nat.le_of_ble_eq_true (by kernel_rfl)) LFn.nil cIv (by
    rw [t_iv_Of]
    simp only [Tr.den]
    grind [Iv.of])
theorem s_iv_Of : Ev.Spec Try.prog 20 (F2 cInt cInt cIv Iv.of) := spec2 (fun vs w => Try.call20 vs w) c_iv_Of

/-! iv.Point -/
theorem t_iv_Point (x0 : Int) :
    evFn Try.prog (Env.add 20 (F2 cInt cInt cIv Iv.of) Env.nil) Laws.nil 200 Try.f22 [cInt.av x0] [] cIv.dec =
      .bind (Go.Proofs.Ythplkbeiapgclaa.Iv.of x0 x0) fun iv0 =>
      .ret (iv0) := by kernel_rfl
theorem c_iv_Point (x0 : Int) : Plain Try.prog 22 [cInt.enc x0] (cIv.enc (Iv.point x0)) :=
  plain_of_tree (n := 200) (EnvOK.add s_iv_Of EnvOK.nil) Try.func22 (args := [cInt.av x0]) (by simp only [AV.vals, Cod.av_val]) (Nat.le_of_ble_eq_true (by kernel_rfl)) LFn.nil cIv (by
    rw [t_iv_Point]
    simp only [Tr.den]
    grind [Iv.point])
theorem s_iv_Point : Ev.Spec Try.prog 22 (F1 cInt cIv Iv.point) := spec1 (fun vs w => Try.call22 vs w) c_iv_Point

/-! iv.Whole -/
theorem t_iv_Whole (x0 : Int) :
    evFn Try.prog (Env.add 21 (F0 cIv Iv.none) (Env.add 22 (F1 cInt cIv Iv.point) (Env.add 65 (F1 cInt cBool numIn) Env.nil))) Laws.nil 200 Try.f16 [cInt.av x0] [] cIv.dec =
      .bind (Go.Proofs.Ythplkbeiapgclaa.numIn x0) fun b0 =>
      .br (!b0)
       (
        .bind (Go.Proofs.Ythplkbeiapgclaa.Iv.none) fun iv1 =>
        .ret (iv1))
       (
        .bind (Go.Proofs.Ythplkbeiapgclaa.Iv.point (Go.IntKind.i64.wrap (x0 * 65536))) fun iv2 =>
        .ret (iv2)) := by kernel_rfl
theorem c_iv_Whole (x0 : Int) : Plain Try.prog 16 [cInt.enc x0] (cIv.enc (Iv.whole x0)) :=
  plain_of_tree (n := 200) (EnvOK.add s_iv_None (EnvOK.add s_iv_Point (EnvOK.add s_num_In EnvOK.nil))) Try.func16 (args := [cInt.av x0]) (by simp only [AV.vals, Cod.av_val]) (Nat.le_of_ble_eq_true (by kernel_rfl)) LFn.nil cIv (by
    rw [t_iv_Whole]
    simp only [Tr.den, Iv.whole]
    cases h0 : numIn x0 <;> simp
    have b0 := numIn_iff.1 h0
    simp (disch := omega) only [IntWalk.i64_in])
theorem s_iv_Whole : Ev.Spec Try.prog 16 (F1 cInt cIv Iv.whole) := spec1 (fun vs w => Try.call16 vs w) c_iv_Whole

/-! iv.both -/
theorem t_iv_both (x0 : Iv) (x1 : Iv) :
    evFn Try.prog (Env.add 34 (F1 cIv cBool Iv.right) Env.nil) Laws.nil 200 Try.f66 [cIv.av x0, cIv.av x1] [] cBool.dec =
      .bind (x0.right) fun b0 =>
      .br (b0)
       (
        .bind (x1.right) fun b1 =>
        .ret (b1))
       (
        .ret (Bool.false)) := by kernel_rfl
theorem c_iv_both (x0 : Iv) (x1 : Iv) : Plain Try.prog 66 [cIv.enc x0, cIv.enc x1] (cBool.enc (Iv.both x0 x1)) :=
  plain_of_tree (n := 200) (EnvOK.add s_iv_Right EnvOK.nil) Try.func66 (args := [cIv.av x0, cIv.av x1]) (by simp only [AV.vals, Cod.av_val]) (Nat.le_of_ble_eq_true (by kernel_rfl)) LFn.nil cBool (by
    rw [t_iv_both]
    simp only [Tr.den]
    grind [Iv.both])
theorem s_iv_both : Ev.Spec Try.prog 66 (F2 cIv cIv cBool Iv.both) := spec2 (fun vs w => Try.call66 vs w) c_iv_both

/-! iv.Neg -/
theorem t_iv_Neg (x0 : Iv) :
    evFn Try.prog (Env.add 20 (F2 cInt cInt cIv Iv.of) (Env.add 21 (F0 cIv Iv.none) (Env.add 34 (F1 cIv cBool Iv.right) Env.nil))) Laws.nil 200 Try.f80 [cIv.av x0] [] cIv.dec =
      .bind (x0.right) fun b0 =>
      .br (!b0)
       (
        .bind (Go.Proofs.Ythplkbeiapgclaa.Iv.none) fun iv1 =>
        .ret (iv1))
       (
        .bind (Go.Proofs.Ythplkbeiapgclaa.Iv.of (Go.IntKind.i64.wrap (0 - x0.hi)) (Go.IntKind.i64.wrap (0 - x0.lo))) fun iv2 =>
        .ret (iv2)) := by kernel_rfl
theorem c_iv_Neg (x0 : Iv) : Plain Try.prog 80 [cIv.enc x0] (cIv.enc (Iv.neg x0)) :=
  plain_of_tree (n := 200) (EnvOK.add s_iv_Of (EnvOK.add s_iv_None (EnvOK.add s_iv_Right EnvOK.nil))) Try.func80 (args := [cIv.av x0]) (by simp only [AV.vals, Cod.av_val]) (Nat.le_of_ble_eq_true (by kernel_rfl)) LFn.nil cIv (by
    rw [t_iv_Neg]
    simp only [Tr.den, Iv.neg]
    cases h0 : x0.right <;> simp
    have b0 := right_bd h0
    simp (disch := omega) only [IntWalk.i64_in])
theorem s_iv_Neg : Ev.Spec Try.prog 80 (F1 cIv cIv Iv.neg) := spec1 (fun vs w => Try.call80 vs w) c_iv_Neg

/-! iv.Add -/
theorem t_iv_Add (x0 : Iv) (x1 : Iv) :
    evFn Try.prog (Env.add 20 (F2 cInt cInt cIv Iv.of) (Env.add 21 (F0 cIv Iv.none) (Env.add 66 (F2 cIv cIv cBool Iv.both) Env.nil))) Laws.nil 200 Try.f32 [cIv.av x0, cIv.av x1] [] cIv.dec =
      .bind (x0.both x1) fun b0 =>
      .br (!b0)
       (
        .bind (Go.Proofs.Ythplkbeiapgclaa.Iv.none) fun iv1 =>
        .ret (iv1))
       (
        .bind (Go.Proofs.Ythplkbeiapgclaa.Iv.of (Go.IntKind.i64.wrap (x0.lo + x1.lo)) (Go.IntKind.i64.wrap (x0.hi + x1.hi))) fun iv2 =>
        .ret (iv2)) := by kernel_rfl
theorem c_iv_Add (x0 : Iv) (x1 : Iv) : Plain Try.prog 32 [cIv.enc x0, cIv.enc x1] (cIv.enc (Iv.add x0 x1)) :=
  plain_of_tree (n := 200) (EnvOK.add s_iv_Of (EnvOK.add s_iv_None (EnvOK.add s_iv_both EnvOK.nil))) Try.func32 (args := [cIv.av x0, cIv.av x1]) (by simp only [AV.vals, Cod.av_val]) (Nat.le_of_ble_eq_true (by kernel_rfl)) LFn.nil cIv (by
    rw [t_iv_Add]
    simp only [Tr.den, Iv.add]
    cases h0 : Iv.both x0 x1 <;> simp
    simp [Iv.both] at h0
    have b0 := right_bd h0.1
    have b1 := right_bd h0.2
    simp (disch := omega) only [IntWalk.i64_in])
theorem s_iv_Add : Ev.Spec Try.prog 32 (F2 cIv cIv cIv Iv.add) := spec2 (fun vs w => Try.call32 vs w) c_iv_Add

/-! iv.Sub -/
theorem t_iv_Sub (x0 : Iv) (x1 : Iv) :
    evFn Try.prog (Env.add 32 (F2 cIv cIv cIv Iv.add) (Env.add 80 (F1 cIv cIv Iv.neg) Env.nil)) Laws.nil 200 Try.f29 [cIv.av x0, cIv.av x1] [] cIv.dec =
      .bind (x1.neg) fun iv0 =>
      .bind (x0.add iv0) fun iv1 =>
      .ret (iv1) := by kernel_rfl
theorem c_iv_Sub (x0 : Iv) (x1 : Iv) : Plain Try.prog 29 [cIv.enc x0, cIv.enc x1] (cIv.enc (Iv.sub x0 x1)) :=
  plain_of_tree (n := 200) (EnvOK.add s_iv_Add (EnvOK.add s_iv_Neg EnvOK.nil)) Try.func29 (args := [cIv.av x0, cIv.av x1]) (by simp only [AV.vals, Cod.av_val]) (Nat.le_of_ble_eq_true (by kernel_rfl)) LFn.nil cIv (by
    rw [t_iv_Sub]
    rfl)
theorem s_iv_Sub : Ev.Spec Try.prog 29 (F2 cIv cIv cIv Iv.sub) := spec2 (fun vs w => Try.call29 vs w) c_iv_Sub

/-! iv.Times -/
theorem t_iv_Times (x0 : Iv) (x1 : Int) :
    evFn Try.prog (Env.add 20 (F2 cInt cInt cIv Iv.of) (Env.add 21 (F0 cIv Iv.none) (Env.add 34 (F1 cIv cBool Iv.right) (Env.add 65 (F1 cInt cBool numIn) Env.nil)))) Laws.nil 200 Try.f100 [cIv.av x0, cInt.av x1] [] cIv.dec =
      .bind (x0.right) fun b0 =>
      .br (!b0)
       (
        .bind (Go.Proofs.Ythplkbeiapgclaa.Iv.none) fun iv1 =>
        .ret (iv1))
       (
        .bind (Go.Proofs.Ythplkbeiapgclaa.numIn x1) fun b2 =>
        .br (!b2)
         (
          .bind (Go.Proofs.Ythplkbeiapgclaa.Iv.none) fun iv3 =>
          .ret (iv3))
         (
          .bind (Go.Proofs.Ythplkbeiapgclaa.Iv.of (Min.min (Go.IntKind.i64.wrap (x1 * x0.lo)) (Go.IntKind.i64.wrap (x1 * x0.hi))) (Max.max (Go.IntKind.i64.wrap (x1 * x0.lo)) (Go.IntKind.i64.wrap (x1 * x0.hi)))) fun iv4 =>
          .ret (iv4))) := by kernel_rfl
theorem c_iv_Times (x0 : Iv) (x1 : Int) : Plain Try.prog 100 [cIv.enc x0, cInt.enc x1] (cIv.enc (Iv.times x0 x1)) :=
  plain_of_tree (n := 200) (EnvOK.add s_iv_Of (EnvOK.add s_iv_None (EnvOK.add s_iv_Right (EnvOK.add s_num_In EnvOK.nil)))) Try.func100 (args := [cIv.av x0, cInt.av x1]) (by simp only [AV.vals, Cod.av_val]) (Nat.le_of_ble_eq_true (by kernel_rfl)) LFn.nil cIv (by
    rw [t_iv_Times]
    simp only [Tr.den, Iv.times]
    cases h0 : x0.right <;> cases h1 : numIn x1 <;> simp
    have b0 := right_bd h0
    have b1 := numIn_iff.1 h1
    have m1 := mul_bd x1 x0.lo h1 (numIn_iff.2 (by omega))
    have m2 := mul_bd x1 x0.hi h1 (numIn_iff.2 (by omega))
    simp (disch := omega) only [IntWalk.i64_in])
theorem s_iv_Times : Ev.Spec Try.prog 100 (F2 cIv cInt cIv Iv.times) := spec2 (fun vs w => Try.call100 vs w) c_iv_Times

/-! iv.Has -/
theorem t_iv_Has (x0 : Iv) (x1 : Int) :
    evFn Try.prog (Env.add 34 (F1 cIv cBool Iv.right) Env.nil) Laws.nil 200 Try.f24 [cIv.av x0, cInt.av x1] [] cBool.dec =
      .bind (x0.right) fun b0 =>
      .br (b0)
       (
        .br (Decidable.decide (x0.lo ≤ x1))
         (
          .ret (Decidable.decide (x1 ≤ x0.hi)))
         (
          .ret (Bool.false)))
       (
        .ret (Bool.false)) := by kernel_rfl
theorem c_iv_Has (x0 : Iv) (x1 : Int) : Plain Try.prog 24 [cIv.enc x0, cInt.enc x1] (cBool.enc (Iv.has x0 x1)) :=
  plain_of_tree (n := 200) (EnvOK.add s_iv_Right EnvOK.nil) Try.func24 (args := [cIv.av x0, cInt.av x1]) (by simp only [AV.vals, Cod.av_val]) (Nat.le_of_ble_eq_true (by kernel_rfl)) LFn.nil cBool (by
    rw [t_iv_Has]
    simp only [Tr.den]
    grind [Iv.has])
theorem s_iv_Has : Ev.Spec Try.prog 24 (F2 cIv cInt cBool Iv.has) := spec2 (fun vs w => Try.call24 vs w) c_iv_Has

/-! iv.ends -/
theorem t_iv_ends_mul (x0 : Unit) (x1 : Iv) (x2 : Iv) :
    evFn Try.prog (Env.add 20 (F2 cInt cInt cIv Iv.of) (Env.add 21 (F0 cIv Iv.none) (Env.add 81 (F3 cInt cInt cBool (cTwo cInt cBool) numMul) Env.nil))) Laws.nil 200 Try.f67 [(cFn 81).av x0, cIv.av x1, cIv.av x2] [] cIv.dec =
      .bind (Go.Proofs.Ythplkbeiapgclaa.numMul x1.lo x2.lo Bool.false) fun y0 =>
      .bind (Go.Proofs.Ythplkbeiapgclaa.numMul x1.lo x2.lo Bool.true) fun y1 =>
      .br (!y0.snd)
       (
        .bind (Go.Proofs.Ythplkbeiapgclaa.Iv.none) fun iv2 =>
        .ret (iv2))
       (
        .br (!y1.snd)
         (
          .bind (Go.Proofs.Ythplkbeiapgclaa.Iv.none) fun iv3 =>
          .ret (iv3))
         (
          .bind (Go.Proofs.Ythplkbeiapgclaa.Iv.of y0.fst y1.fst) fun iv4 =>
          .bind (Go.Proofs.Ythplkbeiapgclaa.Iv.of (Min.min iv4.lo y0.fst) (Max.max iv4.hi y1.fst)) fun iv5 =>
          .bind (Go.Proofs.Ythplkbeiapgclaa.numMul x1.lo x2.hi Bool.false) fun y6 =>
          .bind (Go.Proofs.Ythplkbeiapgclaa.numMul x1.lo x2.hi Bool.true) fun y7 =>
          .br (!y6.snd)
           (
            .bind (Go.Proofs.Ythplkbeiapgclaa.Iv.none) fun iv8 =>
            .ret (iv8))
           (
            .br (!y7.snd)
             (
              .bind (Go.Proofs.Ythplkbeiapgclaa.Iv.none) fun iv9 =>
              .ret (iv9))
             (
              .bind (Go.Proofs.Ythplkbeiapgclaa.Iv.of (Min.min iv5.lo y6.fst) (Max.max iv5.hi y7.fst)) fun iv10 =>
              .bind (Go.Proofs.Ythplkbeiapgclaa.numMul x1.hi x2.lo Bool.false) fun y11 =>
              .bind (Go.Proofs.Ythplkbeiapgclaa.numMul x1.hi x2.lo Bool.true) fun y12 =>
              .br (!y11.snd)
               (
                .bind (Go.Proofs.Ythplkbeiapgclaa.Iv.none) fun iv13 =>
                .ret (iv13))
               (
                .br (!y12.snd)
                 (
                  .bind (Go.Proofs.Ythplkbeiapgclaa.Iv.none) fun iv14 =>
                  .ret (iv14))
                 (
                  .bind (Go.Proofs.Ythplkbeiapgclaa.Iv.of (Min.min iv10.lo y11.fst) (Max.max iv10.hi y12.fst)) fun iv15 =>
                  .bind (Go.Proofs.Ythplkbeiapgclaa.numMul x1.hi x2.hi Bool.false) fun y16 =>
                  .bind (Go.Proofs.Ythplkbeiapgclaa.numMul x1.hi x2.hi Bool.true) fun y17 =>
                  .br (!y16.snd)
                   (
                    .bind (Go.Proofs.Ythplkbeiapgclaa.Iv.none) fun iv18 =>
                    .ret (iv18))
                   (
                    .br (!y17.snd)
                     (
                      .bind (Go.Proofs.Ythplkbeiapgclaa.Iv.none) fun iv19 =>
                      .ret (iv19))
                     (
                      .bind (Go.Proofs.Ythplkbeiapgclaa.Iv.of (Min.min iv15.lo y16.fst) (Max.max iv15.hi y17.fst)) fun iv20 =>
                      .ret (iv20))))))))) := by kernel_rfl
theorem c_iv_ends_mul (x0 : Unit) (x1 : Iv) (x2 : Iv) : Plain Try.prog 67 [(cFn 81).enc x0, cIv.enc x1, cIv.enc x2] (cIv.enc (((fun (_ : Unit) a b => ends numMul a b)) x0 x1 x2)) :=
  plain_of_tree (n := 200) (EnvOK.add s_iv_Of (EnvOK.add s_iv_None (EnvOK.add s_num_Mul EnvOK.nil))) Try.func67 (args := [(cFn 81).av x0, cIv.av x1, cIv.av x2]) (by simp only [AV.vals, Cod.av_val]) (Nat.le_of_ble_eq_true (by kernel_rfl)) LFn.nil cIv (by
    rw [t_iv_ends_mul]
    simp only [den_br, den_bind, den_ret, den_fail, decide_eq_true_eq]
    exact ends_chain numMul_le x1 x2)
theorem s_iv_ends_mul : Ev.Spec Try.prog 67 (F3 (cFn 81) cIv cIv cIv ((fun (_ : Unit) a b => ends numMul a b))) := spec3 (fun vs w => Try.call67 vs w) c_iv_ends_mul

/-! iv.ends -/
theorem t_iv_ends_div (x0 : Unit) (x1 : Iv) (x2 : Iv) :
    evFn Try.prog (Env.add 20 (F2 cInt cInt cIv Iv.of) (Env.add 21 (F0 cIv Iv.none) (Env.add 68 (F3 cInt cInt cBool (cTwo cInt cBool) numDiv) Env.nil))) Laws.nil 200 Try.f67 [(cFn 68).av x0, cIv.av x1, cIv.av x2] [] cIv.dec =
      .bind (Go.Proofs.Ythplkbeiapgclaa.numDiv x1.lo x2.lo Bool.false) fun y0 =>
      .bind (Go.Proofs.Ythplkbeiapgclaa.numDiv x1.lo x2.lo Bool.true) fun y1 =>
      .br (!y0.snd)
       (
        .bind (Go.Proofs.Ythplkbeiapgclaa.Iv.none) fun iv2 =>
        .ret (iv2))
       (
        .br (!y1.snd)
         (
          .bind (Go.Proofs.Ythplkbeiapgclaa.Iv.none) fun iv3 =>
          .ret (iv3))
         (
          .bind (Go.Proofs.Ythplkbeiapgclaa.Iv.of y0.fst y1.fst) fun iv4 =>
          .bind (Go.Proofs.Ythplkbeiapgclaa.Iv.of (Min.min iv4.lo y0.fst) (Max.max iv4.hi y1.fst)) fun iv5 =>
          .bind (Go.Proofs.Ythplkbeiapgclaa.numDiv x1.lo x2.hi Bool.false) fun y6 =>
          .bind (Go.Proofs.Ythplkbeiapgclaa.numDiv x1.lo x2.hi Bool.true) fun y7 =>
          .br (!y6.snd)
           (
            .bind (Go.Proofs.Ythplkbeiapgclaa.Iv.none) fun iv8 =>
            .ret (iv8))
           (
            .br (!y7.snd)
             (
              .bind (Go.Proofs.Ythplkbeiapgclaa.Iv.none) fun iv9 =>
              .ret (iv9))
             (
              .bind (Go.Proofs.Ythplkbeiapgclaa.Iv.of (Min.min iv5.lo y6.fst) (Max.max iv5.hi y7.fst)) fun iv10 =>
              .bind (Go.Proofs.Ythplkbeiapgclaa.numDiv x1.hi x2.lo Bool.false) fun y11 =>
              .bind (Go.Proofs.Ythplkbeiapgclaa.numDiv x1.hi x2.lo Bool.true) fun y12 =>
              .br (!y11.snd)
               (
                .bind (Go.Proofs.Ythplkbeiapgclaa.Iv.none) fun iv13 =>
                .ret (iv13))
               (
                .br (!y12.snd)
                 (
                  .bind (Go.Proofs.Ythplkbeiapgclaa.Iv.none) fun iv14 =>
                  .ret (iv14))
                 (
                  .bind (Go.Proofs.Ythplkbeiapgclaa.Iv.of (Min.min iv10.lo y11.fst) (Max.max iv10.hi y12.fst)) fun iv15 =>
                  .bind (Go.Proofs.Ythplkbeiapgclaa.numDiv x1.hi x2.hi Bool.false) fun y16 =>
                  .bind (Go.Proofs.Ythplkbeiapgclaa.numDiv x1.hi x2.hi Bool.true) fun y17 =>
                  .br (!y16.snd)
                   (
                    .bind (Go.Proofs.Ythplkbeiapgclaa.Iv.none) fun iv18 =>
                    .ret (iv18))
                   (
                    .br (!y17.snd)
                     (
                      .bind (Go.Proofs.Ythplkbeiapgclaa.Iv.none) fun iv19 =>
                      .ret (iv19))
                     (
                      .bind (Go.Proofs.Ythplkbeiapgclaa.Iv.of (Min.min iv15.lo y16.fst) (Max.max iv15.hi y17.fst)) fun iv20 =>
                      .ret (iv20))))))))) := by kernel_rfl
theorem c_iv_ends_div (x0 : Unit) (x1 : Iv) (x2 : Iv) : Plain Try.prog 67 [(cFn 68).enc x0, cIv.enc x1, cIv.enc x2] (cIv.enc (((fun (_ : Unit) a b => ends numDiv a b)) x0 x1 x2)) :=
  plain_of_tree (n := 200) (EnvOK.add s_iv_Of (EnvOK.add s_iv_None (EnvOK.add s_num_Div EnvOK.nil))) Try.func67 (args := [(cFn 68).av x0, cIv.av x1, cIv.av x2]) (by simp only [AV.vals, Cod.av_val]) (Nat.le_of_ble_eq_true (by kernel_rfl)) LFn.nil cIv (by
    rw [t_iv_ends_div]
    simp only [den_br, den_bind, den_ret, den_fail, decide_eq_true_eq]
    exact ends_chain numDiv_le x1 x2)
theorem s_iv_ends_div : Ev.Spec Try.prog 67 (F3 (cFn 68) cIv cIv cIv ((fun (_ : Unit) a b => ends numDiv a b))) := spec3 (fun vs w => Try.call67 vs w) c_iv_ends_div

/-! iv.Mul -/
theorem t_iv_Mul (x0 : Iv) (x1 : Iv) :
    evFn Try.prog (Env.add 21 (F0 cIv Iv.none) (Env.add 66 (F2 cIv cIv cBool Iv.both) (Env.add 67 (F3 (cFn 81) cIv cIv cIv ((fun (_ : Unit) a b => ends numMul a b))) (Env.add 67 (F3 (cFn 68) cIv cIv cIv ((fun (_ : Unit) a b => ends numDiv a b))) (Env.add 81 (F3 cInt cInt cBool (cTwo cInt cBool) numMul) Env.nil))))) Laws.nil 200 Try.f30 [cIv.av x0, cIv.av x1] [] cIv.dec =
      .bind (x0.both x1) fun b0 =>
      .br (!b0)
       (
        .bind (Go.Proofs.Ythplkbeiapgclaa.Iv.none) fun iv1 =>
        .ret (iv1))
       (
        .bind (Go.Proofs.Ythplkbeiapgclaa.ends Go.Proofs.Ythplkbeiapgclaa.numMul x0 x1) fun iv2 =>
        .ret (iv2)) := by kernel_rfl
theorem c_iv_Mul (x0 : Iv) (x1 : Iv) : Plain Try.prog 30 [cIv.enc x0, cIv.enc x1] (cIv.enc (Iv.mul x0 x1)) :=
  plain_of_tree (n := 200) (EnvOK.add s_iv_None (EnvOK.add s_iv_both (EnvOK.add s_iv_ends_mul (EnvOK.add s_iv_ends_div (EnvOK.add s_num_Mul EnvOK.nil))))) Try.func30 (args := [cIv.av x0, cIv.av x1]) (by simp only [AV.vals, Cod.av_val]) (Nat.le_of_ble_eq_true (by kernel_rfl)) LFn.nil cIv (by
    rw [t_iv_Mul]
    simp only [Tr.den]
    grind [Iv.mul])
theorem s_iv_Mul : Ev.Spec Try.prog 30 (F2 cIv cIv cIv Iv.mul) := spec2 (fun vs w => Try.call30 vs w) c_iv_Mul

/-! iv.Div -/
theorem t_iv_Div (x0 : Iv) (x1 : Iv) :
    evFn Try.prog (Env.add 21 (F0 cIv Iv.none) (Env.add 24 (F2 cIv cInt cBool Iv.has) (Env.add 66 (F2 cIv cIv cBool Iv.both) (Env.add 67 (F3 (cFn 81) cIv cIv cIv ((fun (_ : Unit) a b => ends numMul a b))) (Env.add 67 (F3 (cFn 68) cIv cIv cIv ((fun (_ : Unit) a b => ends numDiv a b))) (Env.add 68 (F3 cInt cInt cBool (cTwo cInt cBool) numDiv) Env.nil)))))) Laws.nil 200 Try.f17 [cIv.av x0, cIv.av x1] [] cIv.dec =
      .bind (x0.both x1) fun b0 =>
      .br (!b0)
       (
        .bind (Go.Proofs.Ythplkbeiapgclaa.Iv.none) fun iv1 =>
        .ret (iv1))
       (
        .bind (x1.has 0) fun b2 =>
        .br (b2)
         (
          .bind (Go.Proofs.Ythplkbeiapgclaa.Iv.none) fun iv3 =>
          .ret (iv3))
         (
          .bind (Go.Proofs.Ythplkbeiapgclaa.ends Go.Proofs.Ythplkbeiapgclaa.numDiv x0 x1) fun iv4 =>
          .ret (iv4))) := by kernel_rfl
theorem c_iv_Div (x0 : Iv) (x1 : Iv) : Plain Try.prog 17 [cIv.enc x0, cIv.enc x1] (cIv.enc (Iv.div x0 x1)) :=
  plain_of_tree (n := 200) (EnvOK.add s_iv_None (EnvOK.add s_iv_Has (EnvOK.add s_iv_both (EnvOK.add s_iv_ends_mul (EnvOK.add s_iv_ends_div (EnvOK.add s_num_Div EnvOK.nil)))))) Try.func17 (args := [cIv.av x0, cIv.av x1]) (by simp only [AV.vals, Cod.av_val]) (Nat.le_of_ble_eq_true (by kernel_rfl)) LFn.nil cIv (by
    rw [t_iv_Div]
    simp only [den_br, den_bind, den_ret, den_fail, decide_eq_true_eq]
    simp only [Iv.div]
    cases Iv.both x0 x1 <;> cases Iv.has x1 0 <;> simp)
theorem s_iv_Div : Ev.Spec Try.prog 17 (F2 cIv cIv cIv Iv.div) := spec2 (fun vs w => Try.call17 vs w) c_iv_Div

/-! iv.Sqr -/
theorem t_iv_Sqr (x0 : Iv) :
    evFn Try.prog (Env.add 20 (F2 cInt cInt cIv Iv.of) (Env.add 21 (F0 cIv Iv.none) (Env.add 34 (F1 cIv cBool Iv.right) (Env.add 81 (F3 cInt cInt cBool (cTwo cInt cBool) numMul) Env.nil)))) Laws.nil 200 Try.f33 [cIv.av x0] [] cIv.dec =
      .bind (x0.right) fun b0 =>
      .br (!b0)
       (
        .bind (Go.Proofs.Ythplkbeiapgclaa.Iv.none) fun iv1 =>
        .ret (iv1))
       (
        .bind (Go.Proofs.Ythplkbeiapgclaa.numMul (Max.max (Go.IntKind.i64.wrap (0 - x0.lo)) x0.hi) (Max.max (Go.IntKind.i64.wrap (0 - x0.lo)) x0.hi) Bool.true) fun y2 =>
        .bind (Go.Proofs.Ythplkbeiapgclaa.numMul (Max.max (Max.max x0.lo (Go.IntKind.i64.wrap (0 - x0.hi))) 0) (Max.max (Max.max x0.lo (Go.IntKind.i64.wrap (0 - x0.hi))) 0) Bool.false) fun y3 =>
        .br (!y2.snd)
         (
          .bind (Go.Proofs.Ythplkbeiapgclaa.Iv.none) fun iv4 =>
          .ret (iv4))
         (
          .bind (Go.Proofs.Ythplkbeiapgclaa.Iv.of y3.fst y2.fst) fun iv5 =>
          .ret (iv5))) := by kernel_rfl
theorem c_iv_Sqr (x0 : Iv) : Plain Try.prog 33 [cIv.enc x0] (cIv.enc (Iv.sqr x0)) :=
  plain_of_tree (n := 200) (EnvOK.add s_iv_Of (EnvOK.add s_iv_None (EnvOK.add s_iv_Right (EnvOK.add s_num_Mul EnvOK.nil)))) Try.func33 (args := [cIv.av x0]) (by simp only [AV.vals, Cod.av_val]) (Nat.le_of_ble_eq_true (by kernel_rfl)) LFn.nil cIv (by
    rw [t_iv_Sqr]
    simp only [Iv.sqr]
    cases h0 : x0.right
    · simp [Tr.den]
    have b0 := right_bd h0
    have e1 : IntKind.i64.wrap (-x0.lo) = -x0.lo := IntWalk.i64_in _ (by omega)
    have e2 : IntKind.i64.wrap (-x0.hi) = -x0.hi := IntWalk.i64_in _ (by omega)
    simp only [den_br, den_bind, den_ret, den_fail, e1, e2]
    grind)
theorem s_iv_Sqr : Ev.Spec Try.prog 33 (F1 cIv cIv Iv.sqr) := spec1 (fun vs w => Try.call33 vs w) c_iv_Sqr

/-! iv.Root -/
theorem t_iv_Root (x0 : Iv) :
    evFn Try.prog (Env.add 20 (F2 cInt cInt cIv Iv.of) (Env.add 21 (F0 cIv Iv.none) (Env.add 34 (F1 cIv cBool Iv.right) (Env.add 140 (F2 cInt cBool (cTwo cInt cBool) numRoot) Env.nil)))) Laws.nil 200 Try.f93 [cIv.av x0] [] cIv.dec =
      .bind (x0.right) fun b0 =>
      .br (!b0)
       (
        .bind (Go.Proofs.Ythplkbeiapgclaa.Iv.none) fun iv1 =>
        .ret (iv1))
       (
        .br (Decidable.decide (x0.lo < 0))
         (
          .bind (Go.Proofs.Ythplkbeiapgclaa.Iv.none) fun iv2 =>
          .ret (iv2))
         (
          .bind (Go.Proofs.Ythplkbeiapgclaa.numRoot x0.lo Bool.false) fun y3 =>
          .bind (Go.Proofs.Ythplkbeiapgclaa.numRoot x0.hi Bool.true) fun y4 =>
          .bind (Go.Proofs.Ythplkbeiapgclaa.Iv.of y3.fst y4.fst) fun iv5 =>
          .ret (iv5))) := by kernel_rfl
theorem c_iv_Root (x0 : Iv) : Plain Try.prog 93 [cIv.enc x0] (cIv.enc (Iv.root x0)) :=
  plain_of_tree (n := 200) (EnvOK.add s_iv_Of (EnvOK.add s_iv_None (EnvOK.add s_iv_Right (EnvOK.add s_num_Root EnvOK.nil)))) Try.func93 (args := [cIv.av x0]) (by simp only [AV.vals, Cod.av_val]) (Nat.le_of_ble_eq_true (by kernel_rfl)) LFn.nil cIv (by
    rw [t_iv_Root]
    simp only [Iv.root, den_br, den_bind, den_ret, den_fail, decide_eq_true_eq]
    grind)
theorem s_iv_Root : Ev.Spec Try.prog 93 (F1 cIv cIv Iv.root) := spec1 (fun vs w => Try.call93 vs w) c_iv_Root

/-! iv.Hull -/
theorem t_iv_Hull (x0 : Iv) (x1 : Iv) :
    evFn Try.prog (Env.add 20 (F2 cInt cInt cIv Iv.of) (Env.add 21 (F0 cIv Iv.none) (Env.add 66 (F2 cIv cIv cBool Iv.both) Env.nil))) Laws.nil 200 Try.f146 [cIv.av x0, cIv.av x1] [] cIv.dec =
      .bind (x0.both x1) fun b0 =>
      .br (!b0)
       (
        .bind (Go.Proofs.Ythplkbeiapgclaa.Iv.none) fun iv1 =>
        .ret (iv1))
       (
        .bind (Go.Proofs.Ythplkbeiapgclaa.Iv.of (Min.min x0.lo x1.lo) (Max.max x0.hi x1.hi)) fun iv2 =>
        .ret (iv2)) := by kernel_rfl
theorem c_iv_Hull (x0 : Iv) (x1 : Iv) : Plain Try.prog 146 [cIv.enc x0, cIv.enc x1] (cIv.enc (Iv.hull x0 x1)) :=
  plain_of_tree (n := 200) (EnvOK.add s_iv_Of (EnvOK.add s_iv_None (EnvOK.add s_iv_both EnvOK.nil))) Try.func146 (args := [cIv.av x0, cIv.av x1]) (by simp only [AV.vals, Cod.av_val]) (Nat.le_of_ble_eq_true (by kernel_rfl)) LFn.nil cIv (by
    rw [t_iv_Hull]
    simp only [Tr.den]
    grind [Iv.hull])
theorem s_iv_Hull : Ev.Spec Try.prog 146 (F2 cIv cIv cIv Iv.hull) := spec2 (fun vs w => Try.call146 vs w) c_iv_Hull

/-! iv.Meet -/
theorem t_iv_Meet (x0 : Iv) (x1 : Iv) :
    evFn Try.prog (Env.add 20 (F2 cInt cInt cIv Iv.of) (Env.add 21 (F0 cIv Iv.none) (Env.add 66 (F2 cIv cIv cBool Iv.both) Env.nil))) Laws.nil 200 Try.f35 [cIv.av x0, cIv.av x1] [] cIv.dec =
      .bind (x0.both x1) fun b0 =>
      .br (!b0)
       (
        .bind (Go.Proofs.Ythplkbeiapgclaa.Iv.none) fun iv1 =>
        .ret (iv1))
       (
        .bind (Go.Proofs.Ythplkbeiapgclaa.Iv.of (Max.max x0.lo x1.lo) (Min.min x0.hi x1.hi)) fun iv2 =>
        .ret (iv2)) := by kernel_rfl
theorem c_iv_Meet (x0 : Iv) (x1 : Iv) : Plain Try.prog 35 [cIv.enc x0, cIv.enc x1] (cIv.enc (Iv.meet x0 x1)) :=
  plain_of_tree (n := 200) (EnvOK.add s_iv_Of (EnvOK.add s_iv_None (EnvOK.add s_iv_both EnvOK.nil))) Try.func35 (args := [cIv.av x0, cIv.av x1]) (by simp only [AV.vals, Cod.av_val]) (Nat.le_of_ble_eq_true (by kernel_rfl)) LFn.nil cIv (by
    rw [t_iv_Meet]
    simp only [Tr.den]
    grind [Iv.meet])
theorem s_iv_Meet : Ev.Spec Try.prog 35 (F2 cIv cIv cIv Iv.meet) := spec2 (fun vs w => Try.call35 vs w) c_iv_Meet

/-! iv.Mid -/
theorem t_iv_Mid (x0 : Iv) :
    evFn Try.prog (Env.add 34 (F1 cIv cBool Iv.right) Env.nil) Laws.nil 200 Try.f148 [cIv.av x0] [] cInt.dec =
      .bind (x0.right) fun b0 =>
      .br (!b0)
       (
        .ret (0))
       (
        .ret ((Go.IntKind.i64.wrap (x0.lo + x0.hi)).fdiv (2 ^ Min.min (Int.toNat 1) Go.IntKind.i64.bits))) := by kernel_rfl
theorem c_iv_Mid (x0 : Iv) : Plain Try.prog 148 [cIv.enc x0] (cInt.enc (Iv.mid x0)) :=
  plain_of_tree (n := 200) (EnvOK.add s_iv_Right EnvOK.nil) Try.func148 (args := [cIv.av x0]) (by simp only [AV.vals, Cod.av_val]) (Nat.le_of_ble_eq_true (by kernel_rfl)) LFn.nil cInt (by
    rw [t_iv_Mid]
    simp only [Iv.mid]
    cases h0 : x0.right
    · simp [Tr.den]
    have b0 := right_bd h0
    have e1 : IntKind.i64.wrap (x0.lo + x0.hi) = x0.lo + x0.hi := IntWalk.i64_in _ (by omega)
    simp only [Tr.den, e1, if_true]
    exact congrArg some (Int.fdiv_eq_ediv_of_nonneg _ (by decide)))
theorem s_iv_Mid : Ev.Spec Try.prog 148 (F1 cIv cInt Iv.mid) := spec1 (fun vs w => Try.call148 vs w) c_iv_Mid

/-! iv.Inside -/
theorem t_iv_Inside (x0 : Iv) (x1 : Iv) :
    evFn Try.prog (Env.add 66 (F2 cIv cIv cBool Iv.both) Env.nil) Laws.nil 200 Try.f54 [cIv.av x0, cIv.av x1] [] cBool.dec =
      .bind (x0.both x1) fun b0 =>
      .br (b0)
       (
        .br (Decidable.decide (x1.lo ≤ x0.lo))
         (
          .ret (Decidable.decide (x0.hi ≤ x1.hi)))
         (
          .ret (Bool.false)))
       (
        .ret (Bool.false)) := by kernel_rfl
theorem c_iv_Inside (x0 : Iv) (x1 : Iv) : Plain Try.prog 54 [cIv.enc x0, cIv.enc x1] (cBool.enc (Iv.inside x0 x1)) :=
  plain_of_tree (n := 200) (EnvOK.add s_iv_both EnvOK.nil) Try.func54 (args := [cIv.av x0, cIv.av x1]) (by simp only [AV.vals, Cod.av_val]) (Nat.le_of_ble_eq_true (by kernel_rfl)) LFn.nil cBool (by
    rw [t_iv_Inside]
    simp only [Tr.den]
    grind [Iv.inside])
theorem s_iv_Inside : Ev.Spec Try.prog 54 (F2 cIv cIv cBool Iv.inside) := spec2 (fun vs w => Try.call54 vs w) c_iv_Inside

/-! iv.Split -/
theorem t_iv_Split (x0 : Iv) :
    evFn Try.prog (Env.add 20 (F2 cInt cInt cIv Iv.of) (Env.add 21 (F0 cIv Iv.none) (Env.add 34 (F1 cIv cBool Iv.right) (Env.add 148 (F1 cIv cInt Iv.mid) Env.nil)))) Laws.nil 200 Try.f149 [cIv.av x0] [] (cTwo cIv cIv).dec =
      .bind (x0.right) fun b0 =>
      .br (!b0)
       (
        .bind (Go.Proofs.Ythplkbeiapgclaa.Iv.none) fun iv1 =>
        .bind (Go.Proofs.Ythplkbeiapgclaa.Iv.none) fun iv2 =>
        .ret ((iv1, iv2)))
       (
        .bind (x0.mid) fun n3 =>
        .bind (Go.Proofs.Ythplkbeiapgclaa.Iv.of x0.lo n3) fun iv4 =>
        .bind (x0.mid) fun n5 =>
        .bind (Go.Proofs.Ythplkbeiapgclaa.Iv.of n5 x0.hi) fun iv6 =>
        .ret ((iv4, iv6))) := by kernel_rfl
theorem c_iv_Split (x0 : Iv) : Plain Try.prog 149 [cIv.enc x0] ((cTwo cIv cIv).enc (Iv.split x0)) :=
  plain_of_tree (n := 200) (EnvOK.add s_iv_Of (EnvOK.add s_iv_None (EnvOK.add s_iv_Right (EnvOK.add s_iv_Mid EnvOK.nil)))) Try.func149 (args := [cIv.av x0]) (by simp only [AV.vals, Cod.av_val]) (Nat.le_of_ble_eq_true (by kernel_rfl)) LFn.nil (cTwo cIv cIv) (by
    rw [t_iv_Split]
    simp only [Tr.den]
    grind [Iv.split])
theorem s_iv_Split : Ev.Spec Try.prog 149 (F1 cIv (cTwo cIv cIv) Iv.split) := spec1 (fun vs w => Try.call149 vs w) c_iv_Split

/-! vec.Of -/
theorem t_vec_Of (x0 : Iv) (x1 : Iv) (x2 : Iv) :
    evFn Try.prog Env.nil Laws.nil 200 Try.f25 [cIv.av x0, cIv.av x1, cIv.av x2] [] cV.dec =
      .ret (Go.Proofs.Ythplkbeiapgclaa.V.mk x0 x1 x2) := by kernel_rfl
theorem c_vec_Of (x0 : Iv) (x1 : Iv) (x2 : Iv) : Plain Try.prog 25 [cIv.enc x0, cIv.enc x1, cIv.enc x2] (cV.enc (V.mk x0 x1 x2)) :=
  plain_of_tree (n := 200) EnvOK.nil Try.func25 (args := [cIv.av x0, cIv.av x1, cIv.av x2]) (by simp only [AV.vals, Cod.av_val]) (Nat.le_of_ble_eq_true (by kernel_rfl)) LFn.nil cV (by
    rw [t_vec_Of]
    rfl)
theorem s_vec_Of : Ev.Spec Try.prog 25 (F3 cIv cIv cIv cV V.mk) := spec3 (fun vs w => Try.call25 vs w) c_vec_Of

/-! vec.Right -/
theorem t_vec_Right (x0 : V) :
    evFn Try.prog (Env.add 34 (F1 cIv cBool Iv.right) Env.nil) Laws.nil 200 Try.f28 [cV.av x0] [] cBool.dec =
      .bind (x0.x.right) fun b0 =>
      .br (b0)
       (
        .bind (x0.y.right) fun b1 =>
        .br (b1)
         (
          .bind (x0.z.right) fun b2 =>
          .ret (b2))
         (
          .ret (Bool.false)))
       (
        .ret (Bool.false)) := by kernel_rfl
theorem c_vec_Right (x0 : V) : Plain Try.prog 28 [cV.enc x0] (cBool.enc (V.right x0)) :=
  plain_of_tree (n := 200) (EnvOK.add s_iv_Right EnvOK.nil) Try.func28 (args := [cV.av x0]) (by simp only [AV.vals, Cod.av_val]) (Nat.le_of_ble_eq_true (by kernel_rfl)) LFn.nil cBool (by
    rw [t_vec_Right]
    simp only [Tr.den]
    grind [V.right])
theorem s_vec_Right : Ev.Spec Try.prog 28 (F1 cV cBool V.right) := spec1 (fun vs w => Try.call28 vs w) c_vec_Right

/-! vec.Add -/
theorem t_vec_Add (x0 : V) (x1 : V) :
    evFn Try.prog (Env.add 25 (F3 cIv cIv cIv cV V.mk) (Env.add 32 (F2 cIv cIv cIv Iv.add) Env.nil)) Laws.nil 200 Try.f116 [cV.av x0, cV.av x1] [] cV.dec =
      .bind (x0.x.add x1.x) fun iv0 =>
      .bind (x0.y.add x1.y) fun iv1 =>
      .bind (x0.z.add x1.z) fun iv2 =>
      .bind (Go.Proofs.Ythplkbeiapgclaa.V.mk iv0 iv1 iv2) fun v3 =>
      .ret (v3) := by kernel_rfl
theorem c_vec_Add (x0 : V) (x1 : V) : Plain Try.prog 116 [cV.enc x0, cV.enc x1] (cV.enc (V.add x0 x1)) :=
  plain_of_tree (n := 200) (EnvOK.add s_vec_Of (EnvOK.add s_iv_Add EnvOK.nil)) Try.func116 (args := [cV.av x0, cV.av x1]) (by simp only [AV.vals, Cod.av_val]) (Nat.le_of_ble_eq_true (by kernel_rfl)) LFn.nil cV (by
    rw [t_vec_Add]
    rfl)
theorem s_vec_Add : Ev.Spec Try.prog 116 (F2 cV cV cV V.add) := spec2 (fun vs w => Try.call116 vs w) c_vec_Add

/-! vec.Scale -/
theorem t_vec_Scale (x0 : V) (x1 : Iv) :
    evFn Try.prog (Env.add 25 (F3 cIv cIv cIv cV V.mk) (Env.add 30 (F2 cIv cIv cIv Iv.mul) Env.nil)) Laws.nil 200 Try.f117 [cV.av x0, cIv.av x1] [] cV.dec =
      .bind (x0.x.mul x1) fun iv0 =>
      .bind (x0.y.mul x1) fun iv1 =>
      .bind (x0.z.mul x1) fun iv2 =>
      .bind (Go.Proofs.Ythplkbeiapgclaa.V.mk iv0 iv1 iv2) fun v3 =>
      .ret (v3) := by kernel_rfl
theorem c_vec_Scale (x0 : V) (x1 : Iv) : Plain Try.prog 117 [cV.enc x0, cIv.enc x1] (cV.enc (V.scale x0 x1)) :=
  plain_of_tree (n := 200) (EnvOK.add s_vec_Of (EnvOK.add s_iv_Mul EnvOK.nil)) Try.func117 (args := [cV.av x0, cIv.av x1]) (by simp only [AV.vals, Cod.av_val]) (Nat.le_of_ble_eq_true (by kernel_rfl)) LFn.nil cV (by
    rw [t_vec_Scale]
    rfl)
theorem s_vec_Scale : Ev.Spec Try.prog 117 (F2 cV cIv cV V.scale) := spec2 (fun vs w => Try.call117 vs w) c_vec_Scale

/-! vec.Dot -/
theorem t_vec_Dot (x0 : V) (x1 : V) :
    evFn Try.prog (Env.add 30 (F2 cIv cIv cIv Iv.mul) (Env.add 32 (F2 cIv cIv cIv Iv.add) Env.nil)) Laws.nil 200 Try.f136 [cV.av x0, cV.av x1] [] cIv.dec =
      .bind (x0.x.mul x1.x) fun iv0 =>
      .bind (x0.y.mul x1.y) fun iv1 =>
      .bind (iv0.add iv1) fun iv2 =>
      .bind (x0.z.mul x1.z) fun iv3 =>
      .bind (iv2.add iv3) fun iv4 =>
      .ret (iv4) := by kernel_rfl
theorem c_vec_Dot (x0 : V) (x1 : V) : Plain Try.prog 136 [cV.enc x0, cV.enc x1] (cIv.enc (V.dot x0 x1)) :=
  plain_of_tree (n := 200) (EnvOK.add s_iv_Mul (EnvOK.add s_iv_Add EnvOK.nil)) Try.func136 (args := [cV.av x0, cV.av x1]) (by simp only [AV.vals, Cod.av_val]) (Nat.le_of_ble_eq_true (by kernel_rfl)) LFn.nil cIv (by
    rw [t_vec_Dot]
    rfl)
theorem s_vec_Dot : Ev.Spec Try.prog 136 (F2 cV cV cIv V.dot) := spec2 (fun vs w => Try.call136 vs w) c_vec_Dot

/-! vec.Len2 -/
theorem t_vec_Len2 (x0 : V) :
    evFn Try.prog (Env.add 32 (F2 cIv cIv cIv Iv.add) (Env.add 33 (F1 cIv cIv Iv.sqr) Env.nil)) Laws.nil 200 Try.f94 [cV.av x0] [] cIv.dec =
      .bind (x0.x.sqr) fun iv0 =>
      .bind (x0.y.sqr) fun iv1 =>
      .bind (iv0.add iv1) fun iv2 =>
      .bind (x0.z.sqr) fun iv3 =>
      .bind (iv2.add iv3) fun iv4 =>
      .ret (iv4) := by kernel_rfl
theorem c_vec_Len2 (x0 : V) : Plain Try.prog 94 [cV.enc x0] (cIv.enc (V.len2 x0)) :=
  plain_of_tree (n := 200) (EnvOK.add s_iv_Add (EnvOK.add s_iv_Sqr EnvOK.nil)) Try.func94 (args := [cV.av x0]) (by simp only [AV.vals, Cod.av_val]) (Nat.le_of_ble_eq_true (by kernel_rfl)) LFn.nil cIv (by
    rw [t_vec_Len2]
    rfl)
theorem s_vec_Len2 : Ev.Spec Try.prog 94 (F1 cV cIv V.len2) := spec1 (fun vs w => Try.call94 vs w) c_vec_Len2

/-! vec.Unit -/
theorem t_vec_Unit (x0 : V) :
    evFn Try.prog (Env.add 17 (F2 cIv cIv cIv Iv.div) (Env.add 25 (F3 cIv cIv cIv cV V.mk) (Env.add 93 (F1 cIv cIv Iv.root) (Env.add 94 (F1 cV cIv V.len2) Env.nil)))) Laws.nil 200 Try.f46 [cV.av x0] [] cV.dec =
      .bind (x0.len2) fun iv0 =>
      .bind (iv0.root) fun iv1 =>
      .bind (x0.x.div iv1) fun iv2 =>
      .bind (x0.y.div iv1) fun iv3 =>
      .bind (x0.z.div iv1) fun iv4 =>
      .bind (Go.Proofs.Ythplkbeiapgclaa.V.mk iv2 iv3 iv4) fun v5 =>
      .ret (v5) := by kernel_rfl
theorem c_vec_Unit (x0 : V) : Plain Try.prog 46 [cV.enc x0] (cV.enc (V.unit x0)) :=
  plain_of_tree (n := 200) (EnvOK.add s_iv_Div (EnvOK.add s_vec_Of (EnvOK.add s_iv_Root (EnvOK.add s_vec_Len2 EnvOK.nil)))) Try.func46 (args := [cV.av x0]) (by simp only [AV.vals, Cod.av_val]) (Nat.le_of_ble_eq_true (by kernel_rfl)) LFn.nil cV (by
    rw [t_vec_Unit]
    rfl)
theorem s_vec_Unit : Ev.Spec Try.prog 46 (F1 cV cV V.unit) := spec1 (fun vs w => Try.call46 vs w) c_vec_Unit

/-! vec.Along -/
theorem t_vec_Along (x0 : Ray) (x1 : Iv) :
    evFn Try.prog (Env.add 116 (F2 cV cV cV V.add) (Env.add 117 (F2 cV cIv cV V.scale) Env.nil)) Laws.nil 200 Try.f72 [cRay.av x0, cIv.av x1] [] cV.dec =
      .bind (x0.d.scale x1) fun v0 =>
      .bind (x0.o.add v0) fun v1 =>
      .ret (v1) := by kernel_rfl
theorem c_vec_Along (x0 : Ray) (x1 : Iv) : Plain Try.prog 72 [cRay.enc x0, cIv.enc x1] (cV.enc (along x0 x1)) :=
  plain_of_tree (n := 200) (EnvOK.add s_vec_Add (EnvOK.add s_vec_Scale EnvOK.nil)) Try.func72 (args := [cRay.av x0, cIv.av x1]) (by simp only [AV.vals, Cod.av_val]) (Nat.le_of_ble_eq_true (by kernel_rfl)) LFn.nil cV (by
    rw [t_vec_Along]
    rfl)
theorem s_vec_Along : Ev.Spec Try.prog 72 (F2 cRay cIv cV along) := spec2 (fun vs w => Try.call72 vs w) c_vec_Along

/-! vec.Mirror -/
theorem t_vec_Mirror (x0 : V) :
    evFn Try.prog (Env.add 80 (F1 cIv cIv Iv.neg) Env.nil) Laws.nil 200 Try.f39 [cV.av x0] [] cV.dec =
      .bind (x0.y.neg) fun iv0 =>
      .ret (Go.Proofs.Ythplkbeiapgclaa.V.mk x0.x iv0 x0.z) := by kernel_rfl
theorem c_vec_Mirror (x0 : V) : Plain Try.prog 39 [cV.enc x0] (cV.enc (V.mirror x0)) :=
  plain_of_tree (n := 200) (EnvOK.add s_iv_Neg EnvOK.nil) Try.func39 (args := [cV.av x0]) (by simp only [AV.vals, Cod.av_val]) (Nat.le_of_ble_eq_true (by kernel_rfl)) LFn.nil cV (by
    rw [t_vec_Mirror]
    rfl)
theorem s_vec_Mirror : Ev.Spec Try.prog 39 (F1 cV cV V.mirror) := spec1 (fun vs w => Try.call39 vs w) c_vec_Mirror

/-! tri.told -/
theorem t_tri_told (x0 : Bool) (x1 : Bool) :
    evFn Try.prog Env.nil Laws.nil 200 Try.f135 [cBool.av x0, cBool.av x1] [] cInt.dec =
      .br (x0)
       (
        .ret (1))
       (
        .br (x1)
         (
          .ret (2))
         (
          .ret (0))) := by kernel_rfl
theorem c_tri_told (x0 : Bool) (x1 : Bool) : Plain Try.prog 135 [cBool.enc x0, cBool.enc x1] (cInt.enc (told x0 x1)) :=
  plain_of_tree (n := 200) EnvOK.nil Try.func135 (args := [cBool.av x0, cBool.av x1]) (by simp only [AV.vals, Cod.av_val]) (Nat.le_of_ble_eq_true (by kernel_rfl)) LFn.nil cInt (by
    rw [t_tri_told]
    simp only [Tr.den]
    grind [told])
theorem s_tri_told : Ev.Spec Try.prog 135 (F2 cBool cBool cInt told) := spec2 (fun vs w => Try.call135 vs w) c_tri_told

/-! tri.NotAbove -/
theorem t_tri_NotAbove (x0 : Iv) (x1 : Iv) :
    evFn Try.prog (Env.add 34 (F1 cIv cBool Iv.right) (Env.add 135 (F2 cBool cBool cInt told) Env.nil)) Laws.nil 200 Try.f86 [cIv.av x0, cIv.av x1] [] cInt.dec =
      .bind (x0.right) fun b0 =>
      .br (!b0)
       (
        .ret (0))
       (
        .bind (x1.right) fun b1 =>
        .br (!b1)
         (
          .ret (0))
         (
          .bind (Go.Proofs.Ythplkbeiapgclaa.told (Decidable.decide (x0.hi ≤ x1.lo)) (Decidable.decide (x0.lo > x1.hi))) fun n2 =>
          .ret (n2))) := by kernel_rfl
theorem c_tri_NotAbove (x0 : Iv) (x1 : Iv) : Plain Try.prog 86 [cIv.enc x0, cIv.enc x1] (cInt.enc (notAbove x0 x1)) :=
  plain_of_tree (n := 200) (EnvOK.add s_iv_Right (EnvOK.add s_tri_told EnvOK.nil)) Try.func86 (args := [cIv.av x0, cIv.av x1]) (by simp only [AV.vals, Cod.av_val]) (Nat.le_of_ble_eq_true (by kernel_rfl)) LFn.nil cInt (by
    rw [t_tri_NotAbove]
    simp only [Tr.den]
    grind [notAbove])
theorem s_tri_NotAbove : Ev.Spec Try.prog 86 (F2 cIv cIv cInt notAbove) := spec2 (fun vs w => Try.call86 vs w) c_tri_NotAbove

/-! quad.Near -/
theorem t_quad_Near (x0 : Iv) (x1 : Iv) (x2 : Iv) :
    evFn Try.prog (Env.add 17 (F2 cIv cIv cIv Iv.div) (Env.add 21 (F0 cIv Iv.none) (Env.add 29 (F2 cIv cIv cIv Iv.sub) (Env.add 30 (F2 cIv cIv cIv Iv.mul) (Env.add 33 (F1 cIv cIv Iv.sqr) (Env.add 93 (F1 cIv cIv Iv.root) Env.nil)))))) Laws.nil 200 Try.f113 [cIv.av x0, cIv.av x1, cIv.av x2] [] (cTwo cIv cInt).dec =
      .bind (x1.sqr) fun iv0 =>
      .bind (x0.mul x2) fun iv1 =>
      .bind (iv0.sub iv1) fun iv2 =>
      .br (iv2.no)
       (
        .bind (Go.Proofs.Ythplkbeiapgclaa.Iv.none) fun iv3 =>
        .ret ((iv3, 0)))
       (
        .br (Decidable.decide (iv2.hi < 0))
         (
          .bind (Go.Proofs.Ythplkbeiapgclaa.Iv.none) fun iv4 =>
          .ret ((iv4, 2)))
         (
          .br (Decidable.decide (iv2.lo < 0))
           (
            .bind (Go.Proofs.Ythplkbeiapgclaa.Iv.none) fun iv5 =>
            .ret ((iv5, 0)))
           (
            .bind (iv2.root) fun iv6 =>
            .bind (iv6.sub x1) fun iv7 =>
            .bind (x2.div iv7) fun iv8 =>
            .br (iv8.no)
             (
              .bind (Go.Proofs.Ythplkbeiapgclaa.Iv.none) fun iv9 =>
              .ret ((iv9, 0)))
             (
              .ret ((iv8, 1)))))) := by kernel_rfl
theorem c_quad_Near (x0 : Iv) (x1 : Iv) (x2 : Iv) : Plain Try.prog 113 [cIv.enc x0, cIv.enc x1, cIv.enc x2] ((cTwo cIv cInt).enc (near x0 x1 x2)) :=
  plain_of_tree (n := 200) (EnvOK.add s_iv_Div (EnvOK.add s_iv_None (EnvOK.add s_iv_Sub (EnvOK.add s_iv_Mul (EnvOK.add s_iv_Sqr (EnvOK.add s_iv_Root EnvOK.nil)))))) Try.func113 (args := [cIv.av x0, cIv.av x1, cIv.av x2]) (by simp only [AV.vals, Cod.av_val]) (Nat.le_of_ble_eq_true (by kernel_rfl)) LFn.nil (cTwo cIv cInt) (by
    rw [t_quad_Near]
    simp only [Tr.den]
    grind [near])
theorem s_quad_Near : Ev.Spec Try.prog 113 (F3 cIv cIv cIv (cTwo cIv cInt) near) := spec3 (fun vs w => Try.call113 vs w) c_quad_Near

/-! hit.round -/
theorem t_hit_round (x0 : Surf) (x1 : V) (x2 : V) :
    evFn Try.prog (Env.add 29 (F2 cIv cIv cIv Iv.sub) (Env.add 30 (F2 cIv cIv cIv Iv.mul) (Env.add 32 (F2 cIv cIv cIv Iv.add) (Env.add 33 (F1 cIv cIv Iv.sqr) (Env.add 100 (F2 cIv cInt cIv Iv.times) (Env.add 113 (F3 cIv cIv cIv (cTwo cIv cInt) near) Env.nil)))))) Laws.nil 200 Try.f69 [cSurf.av x0, cV.av x1, cV.av x2] [] (cTwo cIv cInt).dec =
      .bind (x2.x.sqr) fun iv0 =>
      .bind (x2.y.sqr) fun iv1 =>
      .bind (iv0.add iv1) fun iv2 =>
      .bind (x2.z.sqr) fun iv3 =>
      .bind (x0.conic.mul iv3) fun iv4 =>
      .bind (iv2.add iv4) fun iv5 =>
      .bind (x0.curve.mul iv5) fun iv6 =>
      .bind (x1.x.mul x2.x) fun iv7 =>
      .bind (x1.y.mul x2.y) fun iv8 =>
      .bind (iv7.add iv8) fun iv9 =>
      .bind (x1.z.mul x2.z) fun iv10 =>
      .bind (x0.conic.mul iv10) fun iv11 =>
      .bind (iv9.add iv11) fun iv12 =>
      .bind (x0.curve.mul iv12) fun iv13 =>
      .bind (iv13.sub x2.z) fun iv14 =>
      .bind (x1.x.sqr) fun iv15 =>
      .bind (x1.y.sqr) fun iv16 =>
      .bind (iv15.add iv16) fun iv17 =>
      .bind (x1.z.sqr) fun iv18 =>
      .bind (x0.conic.mul iv18) fun iv19 =>
      .bind (iv17.add iv19) fun iv20 =>
      .bind (x0.curve.mul iv20) fun iv21 =>
      .bind (x1.z.times 2) fun iv22 =>
      .bind (iv21.sub iv22) fun iv23 =>
      .bind (Go.Proofs.Ythplkbeiapgclaa.near iv6 iv14 iv23) fun y24 =>
      .ret (y24) := by kernel_rfl
theorem c_hit_round (x0 : Surf) (x1 : V) (x2 : V) : Plain Try.prog 69 [cSurf.enc x0, cV.enc x1, cV.enc x2] ((cTwo cIv cInt).enc (hitRound x0 x1 x2)) :=
  plain_of_tree (n := 200) (EnvOK.add s_iv_Sub (EnvOK.add s_iv_Mul (EnvOK.add s_iv_Add (EnvOK.add s_iv_Sqr (EnvOK.add s_iv_Times (EnvOK.add s_quad_Near EnvOK.nil)))))) Try.func69 (args := [cSurf.av x0, cV.av x1, cV.av x2]) (by simp only [AV.vals, Cod.av_val]) (Nat.le_of_ble_eq_true (by kernel_rfl)) LFn.nil (cTwo cIv cInt) (by
    rw [t_hit_round]
    rfl)
theorem s_hit_round : Ev.Spec Try.prog 69 (F3 cSurf cV cV (cTwo cIv cInt) hitRound) := spec3 (fun vs w => Try.call69 vs w) c_hit_round

/-! hit.none -/
theorem t_hit_none (x0 : Int) :
    evFn Try.prog (Env.add 21 (F0 cIv Iv.none) (Env.add 25 (F3 cIv cIv cIv cV V.mk) Env.nil)) Laws.nil 200 Try.f71 [cInt.av x0] [] (cThree cIv cV cInt).dec =
      .bind (Go.Proofs.Ythplkbeiapgclaa.Iv.none) fun iv0 =>
      .bind (Go.Proofs.Ythplkbeiapgclaa.V.mk iv0 iv0 iv0) fun v1 =>
      .ret ((iv0, v1, x0)) := by kernel_rfl
theorem c_hit_none (x0 : Int) : Plain Try.prog 71 [cInt.enc x0] ((cThree cIv cV cInt).enc (((fun is => (Iv.none, V.none, is))) x0)) :=
  plain_of_tree (n := 200) (EnvOK.add s_iv_None (EnvOK.add s_vec_Of EnvOK.nil)) Try.func71 (args := [cInt.av x0]) (by simp only [AV.vals, Cod.av_val]) (Nat.le_of_ble_eq_true (by kernel_rfl)) LFn.nil (cThree cIv cV cInt) (by
    rw [t_hit_none]
    rfl)
theorem s_hit_none : Ev.Spec Try.prog 71 (F1 cInt (cThree cIv cV cInt) ((fun is => (Iv.none, V.none, is)))) := spec1 (fun vs w => Try.call71 vs w) c_hit_none

/-! snell.nones -/
theorem t_snell_nones  :
    evFn Try.prog (Env.add 21 (F0 cIv Iv.none) (Env.add 25 (F3 cIv cIv cIv cV V.mk) Env.nil)) Laws.nil 200 Try.f137 [] [] cV.dec =
      .bind (Go.Proofs.Ythplkbeiapgclaa.Iv.none) fun iv0 =>
      .bind (Go.Proofs.Ythplkbeiapgclaa.Iv.none) fun iv1 =>
      .bind (Go.Proofs.Ythplkbeiapgclaa.Iv.none) fun iv2 =>
      .bind (Go.Proofs.Ythplkbeiapgclaa.V.mk iv0 iv1 iv2) fun v3 =>
      .ret (v3) := by kernel_rfl
theorem c_snell_nones  : Plain Try.prog 137 [] (cV.enc (V.none)) :=
  plain_of_tree (n := 200) (EnvOK.add s_iv_None (EnvOK.add s_vec_Of EnvOK.nil)) Try.func137 (args := []) rfl (Nat.le_of_ble_eq_true (by kernel_rfl)) LFn.nil cV (by
    rw [t_snell_nones]
    rfl)
theorem s_snell_nones : Ev.Spec Try.prog 137 (F0 cV V.none) := spec0 (fun vs w => Try.call137 vs w) c_snell_nones

/-! step.nones -/
theorem t_step_nones  :
    evFn Try.prog (Env.add 21 (F0 cIv Iv.none) (Env.add 25 (F3 cIv cIv cIv cV V.mk) Env.nil)) Laws.nil 200 Try.f89 [] [] cRay.dec =
      .bind (Go.Proofs.Ythplkbeiapgclaa.Iv.none) fun iv0 =>
      .bind (Go.Proofs.Ythplkbeiapgclaa.Iv.none) fun iv1 =>
      .bind (Go.Proofs.Ythplkbeiapgclaa.Iv.none) fun iv2 =>
      .bind (Go.Proofs.Ythplkbeiapgclaa.V.mk iv0 iv1 iv2) fun v3 =>
      .ret (Go.Proofs.Ythplkbeiapgclaa.Ray.mk v3 v3) := by kernel_rfl
theorem c_step_nones  : Plain Try.prog 89 [] (cRay.enc (Ray.none)) :=
  plain_of_tree (n := 200) (EnvOK.add s_iv_None (EnvOK.add s_vec_Of EnvOK.nil)) Try.func89 (args := []) rfl (Nat.le_of_ble_eq_true (by kernel_rfl)) LFn.nil cRay (by
    rw [t_step_nones]
    rfl)
theorem s_step_nones : Ev.Spec Try.prog 89 (F0 cRay Ray.none) := spec0 (fun vs w => Try.call89 vs w) c_step_nones
end Go.Proofs.Ythplkbeiapgclaa
