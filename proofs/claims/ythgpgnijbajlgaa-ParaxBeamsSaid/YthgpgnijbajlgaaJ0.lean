/-
  Contracts of calls, written by a small program of this session out of the evaluator's trees.
-/
import Derived.Test.YthgpgnijbajlgaaCore
import Derived.Test.YthgpgnijbajlgaaCoreLoops
import Derived.Test.YthgpgnijbajlgaaCore2
import Derived.Test.YthgpgnijbajlgaaCore3
import Derived.Test.YthgpgnijbajlgaaCore4
import Derived.Test.YthgpgnijbajlgaaCore5
import Derived.Test.YthgpgnijbajlgaaCore6
import Derived.Test.YthgpgnijbajlgaaCore7
import Derived.Test.YthgpgnijbajlgaaCore8
import Derived.Test.YthgpgnijbajlgaaCore9
import Derived.Test.YthgpgnijbajlgaaEvMore
import Derived.Test.YthgpgnijbajlgaaFloCod
import Derived.Test.YthgpgnijbajlgaaMat
import Derived.Test.YthgpgnijbajlgaaP0
import Derived.Test.YthgpgnijbajlgaaG0
import Derived.Test.YthgpgnijbajlgaaEvCod
import Derived.Test.YthgpgnijbajlgaaEvRet
import Derived.Test.YthgpgnijbajlgaaProg
namespace Go.Proofs.Ythgpgnijbajlgaa
open Go Go.RowKit Ev
set_option maxRecDepth 100000
set_option linter.unusedVariables false
set_option linter.unusedSimpArgs false

/-! parax.right -/
theorem t_parax_right (x0 : Quad) :
    evFn Try.prog Env.nil Laws.nil 200 Try.f95 [cQuad.av x0] [] cBool.dec =
      .br (Decidable.decide (x0.fst < -1048576))
       (
        .ret (Bool.false))
       (
        .br (Decidable.decide (x0.fst > 1048576))
         (
          .ret (Bool.false))
         (
          .br (Decidable.decide (x0.snd.fst < -1048576))
           (
            .ret (Bool.false))
           (
            .br (Decidable.decide (x0.snd.fst > 1048576))
             (
              .ret (Bool.false))
             (
              .br (Decidable.decide (x0.snd.snd.fst < -1048576))
               (
                .ret (Bool.false))
               (
                .br (Decidable.decide (x0.snd.snd.fst > 1048576))
                 (
                  .ret (Bool.false))
                 (
                  .br (Decidable.decide (x0.snd.snd.snd < -1048576))
                   (
                    .ret (Bool.false))
                   (
                    .br (Decidable.decide (x0.snd.snd.snd > 1048576))
                     (
                      .ret (Bool.false))
                     (
                      .ret (Bool.true))))))))) := by kernel_rfl
theorem c_parax_right (x0 : Quad) : Plain Try.prog 95 [cQuad.enc x0] (cBool.enc (quadIn x0)) :=
  plain_of_tree (n := 200) EnvOK.nil Try.func95 (args := [cQuad.av x0]) (by simp only [AV.vals, Cod.av_val]) (Nat.le_of_ble_eq_true (by kernel_rfl)) LFn.nil cBool (by
    rw [t_parax_right]
    simp only [den_br, den_bind, den_ret, den_fail, den_inl, den_inr, decide_eq_true_eq, gt_iff_lt, ge_iff_le, beq_iff_eq]
    cases hq : quadIn x0
    · have hn : ¬ (quadIn x0 = true) := by rw [hq]; decide
      rw [quadIn_iff] at hn
      by_cases h1 : x0.1 < -1048576
      · simp [h1]
      by_cases h2 : 1048576 < x0.1
      · simp [h1, h2]
      by_cases h3 : x0.2.1 < -1048576
      · simp [h1, h2, h3]
      by_cases h4 : 1048576 < x0.2.1
      · simp [h1, h2, h3, h4]
      by_cases h5 : x0.2.2.1 < -1048576
      · simp [h1, h2, h3, h4, h5]
      by_cases h6 : 1048576 < x0.2.2.1
      · simp [h1, h2, h3, h4, h5, h6]
      by_cases h7 : x0.2.2.2 < -1048576
      · simp [h1, h2, h3, h4, h5, h6, h7]
      by_cases h8 : 1048576 < x0.2.2.2
      · simp [h1, h2, h3, h4, h5, h6, h7, h8]
      exact absurd ⟨⟨by omega, by omega⟩, ⟨by omega, by omega⟩, ⟨by omega, by omega⟩, ⟨by omega, by omega⟩⟩ hn
    · obtain ⟨a1, a2, a3, a4⟩ := quadIn_iff.1 hq
      have h1 : ¬ x0.1 < -1048576 := by omega
      have h2 : ¬ 1048576 < x0.1 := by omega
      have h3 : ¬ x0.2.1 < -1048576 := by omega
      have h4 : ¬ 1048576 < x0.2.1 := by omega
      have h5 : ¬ x0.2.2.1 < -1048576 := by omega
      have h6 : ¬ 1048576 < x0.2.2.1 := by omega
      have h7 : ¬ x0.2.2.2 < -1048576 := by omega
      have h8 : ¬ 1048576 < x0.2.2.2 := by omega
      simp [h1, h2, h3, h4, h5, h6, h7, h8])
theorem s_parax_right : Ev.Spec Try.prog 95 (F1 cQuad cBool quadIn) := spec1 (fun vs w => Try.call95 vs w) c_parax_right

/-! meniscusref20.small -/
theorem t_meniscusref20_small (x0 : Quad) :
    evFn Try.prog Env.nil Laws.nil 200 Try.f104 [cQuad.av x0] [] cBool.dec =
      .br (Decidable.decide (x0.fst < -1048576))
       (
        .ret (Bool.false))
       (
        .br (Decidable.decide (x0.fst > 1048576))
         (
          .ret (Bool.false))
         (
          .br (Decidable.decide (x0.snd.fst < -1048576))
           (
            .ret (Bool.false))
           (
            .br (Decidable.decide (x0.snd.fst > 1048576))
             (
              .ret (Bool.false))
             (
              .br (Decidable.decide (x0.snd.snd.fst < -1048576))
               (
                .ret (Bool.false))
               (
                .br (Decidable.decide (x0.snd.snd.fst > 1048576))
                 (
                  .ret (Bool.false))
                 (
                  .br (Decidable.decide (x0.snd.snd.snd < -1048576))
                   (
                    .ret (Bool.false))
                   (
                    .br (Decidable.decide (x0.snd.snd.snd > 1048576))
                     (
                      .ret (Bool.false))
                     (
                      .ret (Bool.true))))))))) := by kernel_rfl
theorem c_meniscusref20_small (x0 : Quad) : Plain Try.prog 104 [cQuad.enc x0] (cBool.enc (quadIn x0)) :=
  plain_of_tree (n := 200) EnvOK.nil Try.func104 (args := [cQuad.av x0]) (by simp only [AV.vals, Cod.av_val]) (Nat.le_of_ble_eq_true (by kernel_rfl)) LFn.nil cBool (by
    rw [t_meniscusref20_small]
    simp only [den_br, den_bind, den_ret, den_fail, den_inl, den_inr, decide_eq_true_eq, gt_iff_lt, ge_iff_le, beq_iff_eq]
    cases hq : quadIn x0
    · have hn : ¬ (quadIn x0 = true) := by rw [hq]; decide
      rw [quadIn_iff] at hn
      by_cases h1 : x0.1 < -1048576
      · simp [h1]
      by_cases h2 : 1048576 < x0.1
      · simp [h1, h2]
      by_cases h3 : x0.2.1 < -1048576
      · simp [h1, h2, h3]
      by_cases h4 : 1048576 < x0.2.1
      · simp [h1, h2, h3, h4]
      by_cases h5 : x0.2.2.1 < -1048576
      · simp [h1, h2, h3, h4, h5]
      by_cases h6 : 1048576 < x0.2.2.1
      · simp [h1, h2, h3, h4, h5, h6]
      by_cases h7 : x0.2.2.2 < -1048576
      · simp [h1, h2, h3, h4, h5, h6, h7]
      by_cases h8 : 1048576 < x0.2.2.2
      · simp [h1, h2, h3, h4, h5, h6, h7, h8]
      exact absurd ⟨⟨by omega, by omega⟩, ⟨by omega, by omega⟩, ⟨by omega, by omega⟩, ⟨by omega, by omega⟩⟩ hn
    · obtain ⟨a1, a2, a3, a4⟩ := quadIn_iff.1 hq
      have h1 : ¬ x0.1 < -1048576 := by omega
      have h2 : ¬ 1048576 < x0.1 := by omega
      have h3 : ¬ x0.2.1 < -1048576 := by omega
      have h4 : ¬ 1048576 < x0.2.1 := by omega
      have h5 : ¬ x0.2.2.1 < -1048576 := by omega
      have h6 : ¬ 1048576 < x0.2.2.1 := by omega
      have h7 : ¬ x0.2.2.2 < -1048576 := by omega
      have h8 : ¬ 1048576 < x0.2.2.2 := by omega
      simp [h1, h2, h3, h4, h5, h6, h7, h8])
theorem s_meniscusref20_small : Ev.Spec Try.prog 104 (F1 cQuad cBool quadIn) := spec1 (fun vs w => Try.call104 vs w) c_meniscusref20_small

/-! parax.column$1 -/
theorem t_parax_column_1 (t0 : Int) (t1 : Int) (r0 : Cx) (r1 : Cx) :
    evFn Try.prog Env.nil Laws.nil 200 Try.f131 (((sc 4 [0, 1, 2, 3] (tCod 0 cInt (tCod 1 cInt (tOwn 2 0 (tOwn 3 1 tNil)))) (rRo ccCx ccCx_ok (rRo ccCx ccCx_ok rNil))).enc ((t0, t1, ()), (r0, r1, ()))).tmps.map Prod.snd) ((sc 4 [0, 1, 2, 3] (tCod 0 cInt (tCod 1 cInt (tOwn 2 0 (tOwn 3 1 tNil)))) (rRo ccCx ccCx_ok (rRo ccCx ccCx_ok rNil))).enc ((t0, t1, ()), (r0, r1, ()))).mem cInt.dec =
      .get (Go.cMulBits (Go.Proofs.Ythgpgnijbajlgaa.Ev.fInt t0) 0 r0.fst r0.snd) fun vy0 =>
      .get (Go.cMulBits (Go.Proofs.Ythgpgnijbajlgaa.Ev.fInt t1) 0 r1.fst r1.snd) fun vy1 =>
      .get (Go.cSumBits Go.BinOp.add Go.FloatKind.f64 vy0.fst vy0.snd vy1.fst vy1.snd) fun vy2 =>
      .get (Go.Proofs.Ythgpgnijbajlgaa.Ev.fTo vy2.fst) fun vn3 =>
      .ret (vn3) := by kernel_rfl
theorem c_parax_column_1 : PlainS Try.prog 131 (sc 4 [0, 1, 2, 3] (tCod 0 cInt (tCod 1 cInt (tOwn 2 0 (tOwn 3 1 tNil)))) (rRo ccCx ccCx_ok (rRo ccCx ccCx_ok rNil))) cInt ((fun x => (timesO x.1.1 x.1.2.1 x.2.1 x.2.2.1).isSome)) ((fun x => (timesO x.1.1 x.1.2.1 x.2.1 x.2.2.1).getD 0)) := by
  intro x h N w vs hM hv
  obtain ⟨⟨t0, t1, ⟨⟩⟩, ⟨r0, r1, ⟨⟩⟩⟩ := x
  refine calls_of_tree (n := 200) EnvOK.nil Try.func131 hv (Nat.le_of_ble_eq_true (by kernel_rfl)) LFn.nil hM cInt ?_
  rw [t_parax_column_1]
  simp only at h
  obtain ⟨n, hn⟩ := Option.isSome_iff_exists.1 h
  have hn' := hn
  unfold timesO rowC at hn'
  simp only [hn, Option.getD_some]
  revert hn'
  show ((cMulBits (Ev.fInt t0) 0 r0.1 r0.2).bind fun x => (cMulBits (Ev.fInt t1) 0 r1.1 r1.2).bind fun y => cSumBits .add .f64 x.1 x.2 y.1 y.2).bind (fun r => fTo r.1) = some n → _
  cases cMulBits (Ev.fInt t0) 0 r0.1 r0.2 with
  | none => intro e; cases e
  | some x =>
    show ((cMulBits (Ev.fInt t1) 0 r1.1 r1.2).bind fun y => cSumBits .add .f64 x.1 x.2 y.1 y.2).bind (fun r => fTo r.1) = some n → (Tr.get (cMulBits (Ev.fInt t1) 0 r1.1 r1.2) _).den = some n
    cases cMulBits (Ev.fInt t1) 0 r1.1 r1.2 with
    | none => intro e; cases e
    | some y =>
      show (cSumBits .add .f64 x.1 x.2 y.1 y.2).bind (fun r => fTo r.1) = some n → (Tr.get (cSumBits .add .f64 x.1 x.2 y.1 y.2) _).den = some n
      cases cSumBits BinOp.add FloatKind.f64 x.1 x.2 y.1 y.2 with
      | none => intro e; cases e
      | some z =>
        show fTo z.1 = some n → (Tr.get (fTo z.1) _).den = some n
        intro e
        rw [e]
        rfl
theorem s_parax_column_1 : Ev.Spec Try.prog 131 (FS (sc 4 [0, 1, 2, 3] (tCod 0 cInt (tCod 1 cInt (tOwn 2 0 (tOwn 3 1 tNil)))) (rRo ccCx ccCx_ok (rRo ccCx ccCx_ok rNil))) cInt ((fun x => (timesO x.1.1 x.1.2.1 x.2.1 x.2.2.1).isSome)) ((fun x => (timesO x.1.1 x.1.2.1 x.2.1 x.2.2.1).getD 0))) := specS rfl (fun vs w => Try.call131 vs w) c_parax_column_1

/-! parax.column -/
theorem t_parax_column (x0 : Quad) (x1 : Int) (x2 : Int) :
    evFn Try.prog (Env.add 131 (FS (sc 4 [0, 1, 2, 3] (tCod 0 cInt (tCod 1 cInt (tOwn 2 0 (tOwn 3 1 tNil)))) (rRo ccCx ccCx_ok (rRo ccCx ccCx_ok rNil))) cInt ((fun x => (timesO x.1.1 x.1.2.1 x.2.1 x.2.2.1).isSome)) ((fun x => (timesO x.1.1 x.1.2.1 x.2.1 x.2.2.1).getD 0))) (Env.add 131 (FS (sc 4 [0, 1, 2, 3] (tCod 0 cInt (tCod 1 cInt (tOwn 2 0 (tOwn 3 1 tNil)))) (rRo ccCx ccCx_ok (rRo ccCx ccCx_ok rNil))) cInt ((fun x => (timesO x.1.1 x.1.2.1 x.2.1 x.2.2.1).isSome)) ((fun x => (timesO x.1.1 x.1.2.1 x.2.1 x.2.2.1).getD 0))) Env.nil)) Laws.nil 200 Try.f96 [cQuad.av x0, cInt.av x1, cInt.av x2] [] (cTwo cInt cInt).dec =
      .br ((Go.Proofs.Ythgpgnijbajlgaa.timesO x0.fst x0.snd.fst (Go.Proofs.Ythgpgnijbajlgaa.Ev.fInt x1, 0) (Go.Proofs.Ythgpgnijbajlgaa.Ev.fInt x2, 0)).isSome)
       (
        .bind ((Go.Proofs.Ythgpgnijbajlgaa.timesO x0.fst x0.snd.fst (Go.Proofs.Ythgpgnijbajlgaa.Ev.fInt x1, 0) (Go.Proofs.Ythgpgnijbajlgaa.Ev.fInt x2, 0)).getD 0) fun vn0 =>
        .br ((Go.Proofs.Ythgpgnijbajlgaa.timesO x0.snd.snd.fst x0.snd.snd.snd (Go.Proofs.Ythgpgnijbajlgaa.Ev.fInt x1, 0) (Go.Proofs.Ythgpgnijbajlgaa.Ev.fInt x2, 0)).isSome)
         (
          .bind ((Go.Proofs.Ythgpgnijbajlgaa.timesO x0.snd.snd.fst x0.snd.snd.snd (Go.Proofs.Ythgpgnijbajlgaa.Ev.fInt x1, 0) (Go.Proofs.Ythgpgnijbajlgaa.Ev.fInt x2, 0)).getD 0) fun vn1 =>
          .ret ((vn0, vn1)))
         (
          .fail))
       (
        .fail) := by kernel_rfl
theorem c_parax_column (x0 : Quad) (x1 : Int) (x2 : Int) (h : colOk x0 x1 x2 = true) : Plain Try.prog 96 [cQuad.enc x0, cInt.enc x1, cInt.enc x2] ((cTwo cInt cInt).enc (colOf x0 x1 x2)) :=
  plain_of_tree (n := 200) (EnvOK.add s_parax_column_1 (EnvOK.add s_parax_column_1 EnvOK.nil)) Try.func96 (args := [cQuad.av x0, cInt.av x1, cInt.av x2]) (by simp only [AV.vals, Cod.av_val]) (Nat.le_of_ble_eq_true (by kernel_rfl)) LFn.nil (cTwo cInt cInt) (by
    rw [t_parax_column]
    simp only [colOk, Bool.and_eq_true] at h
    obtain ⟨hq, hx, hy⟩ := h
    obtain ⟨a1, a2, a3, a4⟩ := quadIn_iff.1 hq
    have e1 := times_eq (small1_iff.2 a1) (small1_iff.2 a2) hx hy
    have e2 := times_eq (small1_iff.2 a3) (small1_iff.2 a4) hx hy
    rw [show cxOf ⟨x1, 0⟩ = (Ev.fInt x1, 0) from rfl, show cxOf ⟨x2, 0⟩ = (Ev.fInt x2, 0) from rfl] at e1 e2
    simp only [den_br, den_bind, den_ret, den_fail, e1, e2, Option.isSome_some, Option.getD_some, if_true]
    rfl)
theorem s_parax_column : Ev.Spec Try.prog 96 (F3p cQuad cInt cInt (cTwo cInt cInt) colOk colOf) := spec3p (fun vs w => Try.call96 vs w) c_parax_column

/-! parax.Matrix -/
theorem tl_parax_Matrix_3 (t11 : Int) (t10 : Int) (r0 : List Quad) (r1 : Quad) (r2 : Quad) :
    ev Try.prog (Env.add 95 (F1 cQuad cBool quadIn) (Env.add 96 (F3p cQuad cInt cInt (cTwo cInt cInt) colOk colOf) Env.nil)) Laws.nil 200 none (loopAt Try.f47 3) ((sc 48 [11, 10, 9, 2, 4] (tCod 11 cInt (tCod 10 cInt (tSl 9 0 (tOwn 2 1 (tOwn 4 2 tNil))))) (rL_quad (rBox ccQuad ccQuad_ok (rBox ccQuad ccQuad_ok rNil)))).enc ((t11, t10, ()), (r0, r1, r2, ()))) (backK (sc 48 [11, 10, 9, 2, 4] (tCod 11 cInt (tCod 10 cInt (tSl 9 0 (tOwn 2 1 (tOwn 4 2 tNil))))) (rL_quad (rBox ccQuad ccQuad_ok (rBox ccQuad ccQuad_ok rNil)))) (ocOr (ocExit 0 (sc 48 [2, 4] (tOwn 2 0 (tOwn 4 1 tNil)) (rBox ccQuad ccQuad_ok (rBox ccQuad ccQuad_ok rNil)))) (ocRet (sc 48 [3, 2] (tCod 3 cBool (tOwn 2 0 tNil)) (rBox ccQuad ccQuad_ok rNil))))) =
      .br (Decidable.decide (t11 < t10))
       (
        .br (Decidable.decide (0 ≤ t11 ∧ t11 < (@Nat.cast Int _ r0.length)))
         (
          .get (r0[t11.toNat]?) fun vt0 =>
          .bind (Go.Proofs.Ythgpgnijbajlgaa.quadIn vt0) fun vb1 =>
          .br (!vb1)
           (
            .ret (Sum.inr (Sum.inr ((Bool.false, ()), (0, 0, 0, 0), ()))))
           (
            .br (Go.Proofs.Ythgpgnijbajlgaa.colOk vt0 r2.fst r2.snd.snd.fst)
             (
              .bind (Go.Proofs.Ythgpgnijbajlgaa.colOf vt0 r2.fst r2.snd.snd.fst) fun vy2 =>
              .br (Go.Proofs.Ythgpgnijbajlgaa.colOk vt0 r2.snd.fst r2.snd.snd.snd)
               (
                .bind (Go.Proofs.Ythgpgnijbajlgaa.colOf vt0 r2.snd.fst r2.snd.snd.snd) fun vy3 =>
                .bind (Go.Proofs.Ythgpgnijbajlgaa.quadIn (vy2.fst, vy3.fst, vy2.snd, vy3.snd)) fun vb4 =>
                .br (!vb4)
                 (
                  .ret (Sum.inr (Sum.inr ((Bool.false, ()), (0, 0, 0, 0), ()))))
                 (
                  .ret (Sum.inl ((Go.IntKind.i64.wrap (t11 + 1), t10, ()), r0, r1, (vy2.fst, vy3.fst, vy2.snd, vy3.snd), ()))))
               (
                .fail))
             (
              .fail)))
         (
          .fail))
       (
        .ret (Sum.inr (Sum.inl ((), r1, r2, ())))) := by kernel_rfl
theorem ok_parax_Matrix_3 : LOK Try.prog (LoopR.of (sc 48 [11, 10, 9, 2, 4] (tCod 11 cInt (tCod 10 cInt (tSl 9 0 (tOwn 2 1 (tOwn 4 2 tNil))))) (rL_quad (rBox ccQuad ccQuad_ok (rBox ccQuad ccQuad_ok rNil)))) (ocOr (ocExit 0 (sc 48 [2, 4] (tOwn 2 0 (tOwn 4 1 tNil)) (rBox ccQuad ccQuad_ok (rBox ccQuad ccQuad_ok rNil)))) (ocRet (sc 48 [3, 2] (tCod 3 cBool (tOwn 2 0 tNil)) (rBox ccQuad ccQuad_ok rNil)))) (runBy matStep matM)) (loopAt Try.f47 3) := by
  refine loop_ok (EnvOK.add s_parax_right (EnvOK.add s_parax_column EnvOK.nil)) (LFn.at (fn := Try.f47) LFn.nil 3) matStep (n := 200) (fun x z h => ?_) (runBy_ok _ _)
  obtain ⟨⟨t11, t10, ⟨⟩⟩, ⟨r0, r1, r2, ⟨⟩⟩⟩ := x
  rw [tl_parax_Matrix_3]
  rw [← h]
  simp only [matStep]
  simp only [den_br, den_bind, den_ret, den_fail, den_inl, den_inr, decide_eq_true_eq, gt_iff_lt, ge_iff_le, beq_iff_eq]
  by_cases h0 : t11 < t10 <;> simp only [h0, if_true, if_false]
  by_cases h1 : 0 ≤ t11 ∧ t11 < (r0.length : Int) <;> simp only [h1, and_self, if_true, if_false]
  cases hg : r0[t11.toNat]? with
  | none => rfl
  | some a =>
    simp only [den_get, den_br, den_bind, den_ret, den_fail]
    rw [show ((colOf a r2.1 r2.2.2.1).1, (colOf a r2.2.1 r2.2.2.2).1, (colOf a r2.1 r2.2.2.1).2, (colOf a r2.2.1 r2.2.2.2).2) = qmul a r2 from rfl]
    cases quadIn a <;> cases colOk a r2.1 r2.2.2.1 <;> cases colOk a r2.2.1 r2.2.2.2 <;> cases quadIn (qmul a r2) <;> rfl
theorem t_parax_Matrix (r0 : List Quad) :
    evFn Try.prog (Env.add 95 (F1 cQuad cBool quadIn) (Env.add 96 (F3p cQuad cInt cInt (cTwo cInt cInt) colOk colOf) Env.nil)) (Laws.add 3 (LoopR.of (sc 48 [11, 10, 9, 2, 4] (tCod 11 cInt (tCod 10 cInt (tSl 9 0 (tOwn 2 1 (tOwn 4 2 tNil))))) (rL_quad (rBox ccQuad ccQuad_ok (rBox ccQuad ccQuad_ok rNil)))) (ocOr (ocExit 0 (sc 48 [2, 4] (tOwn 2 0 (tOwn 4 1 tNil)) (rBox ccQuad ccQuad_ok (rBox ccQuad ccQuad_ok rNil)))) (ocRet (sc 48 [3, 2] (tCod 3 cBool (tOwn 2 0 tNil)) (rBox ccQuad ccQuad_ok rNil)))) (runBy matStep matM)) Laws.nil) 200 Try.f47 (((sc 1 [0] (tSl 0 0 tNil) (rL_quad rNil)).enc ((()), (r0, ()))).tmps.map Prod.snd) ((sc 1 [0] (tSl 0 0 tNil) (rL_quad rNil)).enc ((()), (r0, ()))).mem (cTwo cQuad cBool).dec =
      .get (Go.Proofs.Ythgpgnijbajlgaa.runBy Go.Proofs.Ythgpgnijbajlgaa.matStep Go.Proofs.Ythgpgnijbajlgaa.matM ((0, (@Nat.cast Int _ r0.length), ()), r0, (0, 0, 0, 0), (1, 0, 0, 1), ())) fun vy0 =>
      .sum (vy0)
       (fun vs1 =>
        .ret ((vs1.snd.snd.fst, Bool.true)))
       (fun vs2 =>
        .ret ((vs2.snd.fst, vs2.fst.fst))) := by kernel_rfl
theorem c_parax_Matrix : PlainS Try.prog 47 (sc 1 [0] (tSl 0 0 tNil) (rL_quad rNil)) (cTwo cQuad cBool) ((fun x => lenOk x.2.1)) ((fun x => matOf x.2.1)) := by
  intro x h N w vs hM hv
  obtain ⟨⟨⟩, ⟨r0, ⟨⟩⟩⟩ := x
  refine calls_of_tree (n := 200) (EnvOK.add s_parax_right (EnvOK.add s_parax_column EnvOK.nil)) Try.func47 hv (Nat.le_of_ble_eq_true (by kernel_rfl)) (LFn.add (fn := Try.f47) (i := 3) (by kernel_rfl) ok_parax_Matrix_3 LFn.nil) hM (cTwo cQuad cBool) ?_
  rw [t_parax_Matrix]
  simp only at h
  have hr := mat_run (lenOk_iff.1 h) (0, 0, 0, 0)
  simp only [hr, den_get, matOut]
  cases hb : (matOf r0).2
  · have := matGo_false _ _ hb
    simp only [Bool.false_eq_true, if_false]
    exact congrArg some (Prod.ext this.symm hb.symm)
  · simp only [if_true]
    exact congrArg some (Prod.ext rfl hb.symm)
theorem s_parax_Matrix : Ev.Spec Try.prog 47 (FS (sc 1 [0] (tSl 0 0 tNil) (rL_quad rNil)) (cTwo cQuad cBool) ((fun x => lenOk x.2.1)) ((fun x => matOf x.2.1))) := specS rfl (fun vs w => Try.call47 vs w) c_parax_Matrix

/-! meniscusref20.Matrix -/
theorem tl_meniscusref20_Matrix_3 (t5 : Int) (r0 : List Quad) (r1 : Quad) (r2 : Quad) :
    ev Try.prog (Env.add 104 (F1 cQuad cBool quadIn) Env.nil) Laws.nil 200 none (loopAt Try.f49 3) ((sc 72 [5, 0, 2, 4] (tCod 5 cInt (tSl 0 0 (tOwn 2 1 (tOwn 4 2 tNil)))) (rL_quad (rBox ccQuad ccQuad_ok (rBox ccQuad ccQuad_ok rNil)))).enc ((t5, ()), (r0, r1, r2, ()))) (backK (sc 72 [5, 0, 2, 4] (tCod 5 cInt (tSl 0 0 (tOwn 2 1 (tOwn 4 2 tNil)))) (rL_quad (rBox ccQuad ccQuad_ok (rBox ccQuad ccQuad_ok rNil)))) (ocOr (ocExit 0 (sc 72 [2, 4] (tOwn 2 0 (tOwn 4 1 tNil)) (rBox ccQuad ccQuad_ok (rBox ccQuad ccQuad_ok rNil)))) (ocRet (sc 72 [3, 2] (tCod 3 cBool (tOwn 2 0 tNil)) (rBox ccQuad ccQuad_ok rNil))))) =
      .br (Decidable.decide (t5 < (@Nat.cast Int _ r0.length)))
       (
        .br (Decidable.decide (0 ≤ t5 ∧ t5 < (@Nat.cast Int _ r0.length)))
         (
          .get (r0[t5.toNat]?) fun vt0 =>
          .bind (Go.Proofs.Ythgpgnijbajlgaa.quadIn vt0) fun vb1 =>
          .br (!vb1)
           (
            .ret (Sum.inr (Sum.inr ((Bool.false, ()), (0, 0, 0, 0), ()))))
           (
            .bind (Go.Proofs.Ythgpgnijbajlgaa.quadIn (Go.IntKind.i64.wrap (Go.IntKind.i64.wrap (vt0.fst * r2.fst) + Go.IntKind.i64.wrap (vt0.snd.fst * r2.snd.snd.fst)), Go.IntKind.i64.wrap (Go.IntKind.i64.wrap (vt0.fst * r2.snd.fst) + Go.IntKind.i64.wrap (vt0.snd.fst * r2.snd.snd.snd)), Go.IntKind.i64.wrap (Go.IntKind.i64.wrap (vt0.snd.snd.fst * r2.fst) + Go.IntKind.i64.wrap (vt0.snd.snd.snd * r2.snd.snd.fst)), Go.IntKind.i64.wrap (Go.IntKind.i64.wrap (vt0.snd.snd.fst * r2.snd.fst) + Go.IntKind.i64.wrap (vt0.snd.snd.snd * r2.snd.snd.snd)))) fun vb2 =>
            .br (!vb2)
             (
              .ret (Sum.inr (Sum.inr ((Bool.false, ()), (0, 0, 0, 0), ()))))
             (
              .ret (Sum.inl ((Go.IntKind.i64.wrap (t5 + 1), ()), r0, r1, (Go.IntKind.i64.wrap (Go.IntKind.i64.wrap (vt0.fst * r2.fst) + Go.IntKind.i64.wrap (vt0.snd.fst * r2.snd.snd.fst)), Go.IntKind.i64.wrap (Go.IntKind.i64.wrap (vt0.fst * r2.snd.fst) + Go.IntKind.i64.wrap (vt0.snd.fst * r2.snd.snd.snd)), Go.IntKind.i64.wrap (Go.IntKind.i64.wrap (vt0.snd.snd.fst * r2.fst) + Go.IntKind.i64.wrap (vt0.snd.snd.snd * r2.snd.snd.fst)), Go.IntKind.i64.wrap (Go.IntKind.i64.wrap (vt0.snd.snd.fst * r2.snd.fst) + Go.IntKind.i64.wrap (vt0.snd.snd.snd * r2.snd.snd.snd))), ())))))
         (
          .fail))
       (
        .ret (Sum.inr (Sum.inl ((), r1, r2, ())))) := by kernel_rfl
theorem ok_meniscusref20_Matrix_3 : LOK Try.prog (LoopR.of (sc 72 [5, 0, 2, 4] (tCod 5 cInt (tSl 0 0 (tOwn 2 1 (tOwn 4 2 tNil)))) (rL_quad (rBox ccQuad ccQuad_ok (rBox ccQuad ccQuad_ok rNil)))) (ocOr (ocExit 0 (sc 72 [2, 4] (tOwn 2 0 (tOwn 4 1 tNil)) (rBox ccQuad ccQuad_ok (rBox ccQuad ccQuad_ok rNil)))) (ocRet (sc 72 [3, 2] (tCod 3 cBool (tOwn 2 0 tNil)) (rBox ccQuad ccQuad_ok rNil)))) (runBy matStep2 matM2)) (loopAt Try.f49 3) := by
  refine loop_ok (EnvOK.add s_meniscusref20_small EnvOK.nil) (LFn.at (fn := Try.f49) LFn.nil 3) matStep2 (n := 200) (fun x z h => ?_) (runBy_ok _ _)
  obtain ⟨⟨t5, ⟨⟩⟩, ⟨r0, r1, r2, ⟨⟩⟩⟩ := x
  rw [tl_meniscusref20_Matrix_3]
  rw [← h]
  simp only [matStep2]
  simp only [den_br, den_bind, den_ret, den_fail, den_inl, den_inr, decide_eq_true_eq, gt_iff_lt, ge_iff_le, beq_iff_eq]
  by_cases h0 : t5 < (r0.length : Int) <;> simp only [h0, if_true, if_false]
  by_cases h1 : 0 ≤ t5 <;> simp only [h1, and_self, and_true, true_and, if_true, if_false]
  cases hg : r0[t5.toNat]? with
  | none => rfl
  | some a =>
    simp only [den_get, den_br, den_bind, den_ret, den_fail]
    rw [show (IntKind.i64.wrap (IntKind.i64.wrap (a.1 * r2.1) + IntKind.i64.wrap (a.2.1 * r2.2.2.1)), IntKind.i64.wrap (IntKind.i64.wrap (a.1 * r2.2.1) + IntKind.i64.wrap (a.2.1 * r2.2.2.2)), IntKind.i64.wrap (IntKind.i64.wrap (a.2.2.1 * r2.1) + IntKind.i64.wrap (a.2.2.2 * r2.2.2.1)), IntKind.i64.wrap (IntKind.i64.wrap (a.2.2.1 * r2.2.1) + IntKind.i64.wrap (a.2.2.2 * r2.2.2.2))) = qmulW a r2 from rfl]
    cases quadIn a <;> cases quadIn (qmulW a r2) <;> rfl
theorem t_meniscusref20_Matrix (r0 : List Quad) :
    evFn Try.prog (Env.add 104 (F1 cQuad cBool quadIn) Env.nil) (Laws.add 3 (LoopR.of (sc 72 [5, 0, 2, 4] (tCod 5 cInt (tSl 0 0 (tOwn 2 1 (tOwn 4 2 tNil)))) (rL_quad (rBox ccQuad ccQuad_ok (rBox ccQuad ccQuad_ok rNil)))) (ocOr (ocExit 0 (sc 72 [2, 4] (tOwn 2 0 (tOwn 4 1 tNil)) (rBox ccQuad ccQuad_ok (rBox ccQuad ccQuad_ok rNil)))) (ocRet (sc 72 [3, 2] (tCod 3 cBool (tOwn 2 0 tNil)) (rBox ccQuad ccQuad_ok rNil)))) (runBy matStep2 matM2)) Laws.nil) 200 Try.f49 (((sc 1 [0] (tSl 0 0 tNil) (rL_quad rNil)).enc ((()), (r0, ()))).tmps.map Prod.snd) ((sc 1 [0] (tSl 0 0 tNil) (rL_quad rNil)).enc ((()), (r0, ()))).mem (cTwo cQuad cBool).dec =
      .get (Go.Proofs.Ythgpgnijbajlgaa.runBy Go.Proofs.Ythgpgnijbajlgaa.matStep2 Go.Proofs.Ythgpgnijbajlgaa.matM2 ((0, ()), r0, (0, 0, 0, 0), (1, 0, 0, 1), ())) fun vy0 =>
      .sum (vy0)
       (fun vs1 =>
        .ret ((vs1.snd.snd.fst, Bool.true)))
       (fun vs2 =>
        .ret ((vs2.snd.fst, vs2.fst.fst))) := by kernel_rfl
theorem c_meniscusref20_Matrix : PlainS Try.prog 49 (sc 1 [0] (tSl 0 0 tNil) (rL_quad rNil)) (cTwo cQuad cBool) ((fun x => lenOk x.2.1)) ((fun x => matOf x.2.1)) := by
  intro x h N w vs hM hv
  obtain ⟨⟨⟩, ⟨r0, ⟨⟩⟩⟩ := x
  refine calls_of_tree (n := 200) (EnvOK.add s_meniscusref20_small EnvOK.nil) Try.func49 hv (Nat.le_of_ble_eq_true (by kernel_rfl)) (LFn.add (fn := Try.f49) (i := 3) (by kernel_rfl) ok_meniscusref20_Matrix_3 LFn.nil) hM (cTwo cQuad cBool) ?_
  rw [t_meniscusref20_Matrix]
  simp only at h
  have hr := mat_run2 (lenOk_iff.1 h) (0, 0, 0, 0)
  simp only [hr, den_get, matOut]
  cases hb : (matOf r0).2
  · have := matGo_false _ _ hb
    simp only [Bool.false_eq_true, if_false]
    exact congrArg some (Prod.ext this.symm hb.symm)
  · simp only [if_true]
    exact congrArg some (Prod.ext rfl hb.symm)
theorem s_meniscusref20_Matrix : Ev.Spec Try.prog 49 (FS (sc 1 [0] (tSl 0 0 tNil) (rL_quad rNil)) (cTwo cQuad cBool) ((fun x => lenOk x.2.1)) ((fun x => matOf x.2.1))) := specS rfl (fun vs w => Try.call49 vs w) c_meniscusref20_Matrix

/-! meniscuslaw20.ParaxKnown -/
theorem t_meniscuslaw20_ParaxKnown  :
    evFn Try.prog (Env.add 41 (FS (sc 1 [0] (tAgg 0 0 ccNil ccNil_ok ccIv ccIv_ok tNil) (rL_surf rNil)) cCard ((fun x => lenOk x.2.1)) ((fun x => paraxOf x.1.2.1 x.2.1))) (Env.add 42 (F0 cBool true) (Env.add 44 (F1 cInt cSurf flatAt) (Env.add 45 (F2 cIv cIv cIv Iv.div) (Env.add 46 (F1 cInt cIv Iv.whole) (Env.add 47 (FS (sc 1 [0] (tSl 0 0 tNil) (rL_quad rNil)) (cTwo cQuad cBool) ((fun x => lenOk x.2.1)) ((fun x => matOf x.2.1))) Env.nil)))))) Laws.nil 200 Try.f9 (((sc 0 [] tNil rNil).enc ((()), (()))).tmps.map Prod.snd) ((sc 0 [] tNil rNil).enc ((()), (()))).mem cBool.dec =
      .bind (Go.Proofs.Ythgpgnijbajlgaa.flatAt 10) fun vsu0 =>
      .bind (Go.Proofs.Ythgpgnijbajlgaa.Iv.whole 1) fun viv1 =>
      .bind (Go.Proofs.Ythgpgnijbajlgaa.Iv.whole 8) fun viv2 =>
      .bind (viv1.div viv2) fun viv3 =>
      .bind (Go.Proofs.Ythgpgnijbajlgaa.Iv.whole 1) fun viv4 =>
      .bind (Go.Proofs.Ythgpgnijbajlgaa.Iv.whole 2) fun viv5 =>
      .bind (viv4.div viv5) fun viv6 =>
      .bind (Go.Proofs.Ythgpgnijbajlgaa.flatAt 12) fun vsu7 =>
      .bind (Go.Proofs.Ythgpgnijbajlgaa.Iv.whole 1) fun viv8 =>
      .bind (Go.Proofs.Ythgpgnijbajlgaa.flatAt 14) fun vsu9 =>
      .bind (Go.Proofs.Ythgpgnijbajlgaa.Iv.whole 2) fun viv10 =>
      .bind (Go.Proofs.Ythgpgnijbajlgaa.Iv.whole 4) fun viv11 =>
      .br (Go.Proofs.Ythgpgnijbajlgaa.Ev.lenOk [Go.Proofs.Ythgpgnijbajlgaa.Surf.mk vsu0.stop vsu0.bent viv3 vsu0.conic vsu0.a4 vsu0.a6 vsu0.at_ vsu0.open2 viv6, Go.Proofs.Ythgpgnijbajlgaa.Surf.mk Bool.true vsu7.bent viv8 vsu7.conic vsu7.a4 vsu7.a6 vsu7.at_ vsu7.open2 vsu7.ratio, Go.Proofs.Ythgpgnijbajlgaa.Surf.mk vsu9.stop vsu9.bent vsu9.curve vsu9.conic vsu9.a4 vsu9.a6 vsu9.at_ vsu9.open2 viv10])
       (
        .bind (Go.Proofs.Ythgpgnijbajlgaa.paraxOf viv11 [Go.Proofs.Ythgpgnijbajlgaa.Surf.mk vsu0.stop vsu0.bent viv3 vsu0.conic vsu0.a4 vsu0.a6 vsu0.at_ vsu0.open2 viv6, Go.Proofs.Ythgpgnijbajlgaa.Surf.mk Bool.true vsu7.bent viv8 vsu7.conic vsu7.a4 vsu7.a6 vsu7.at_ vsu7.open2 vsu7.ratio, Go.Proofs.Ythgpgnijbajlgaa.Surf.mk vsu9.stop vsu9.bent vsu9.curve vsu9.conic vsu9.a4 vsu9.a6 vsu9.at_ vsu9.open2 viv10]) fun vca12 =>
        .br (Go.Proofs.Ythgpgnijbajlgaa.Ev.lenOk [(1, 5, 0, 1), (1, 0, -2, 1)])
         (
          .bind (Go.Proofs.Ythgpgnijbajlgaa.matOf [(1, 5, 0, 1), (1, 0, -2, 1)]) fun vy13 =>
          .br (Go.Proofs.Ythgpgnijbajlgaa.Ev.lenOk ([] : List Iv))
           (
            .bind (Go.Proofs.Ythgpgnijbajlgaa.matOf []) fun vy14 =>
            .br (Go.Proofs.Ythgpgnijbajlgaa.Ev.lenOk [(1048576, 0, 0, 1), (2, 0, 0, 1)])
             (
              .bind (Go.Proofs.Ythgpgnijbajlgaa.matOf [(1048576, 0, 0, 1), (2, 0, 0, 1)]) fun vy15 =>
              .br (Go.Proofs.Ythgpgnijbajlgaa.Ev.lenOk [(1048577, 0, 0, 1)])
               (
                .bind (Go.Proofs.Ythgpgnijbajlgaa.matOf [(1048577, 0, 0, 1)]) fun vy16 =>
                .bind (Bool.true) fun vb17 =>
                .br (vb17)
                 (
                  .bind (Go.Proofs.Ythgpgnijbajlgaa.Iv.whole 8) fun viv18 =>
                  .br (vca12.fst.lo == viv18.lo && (vca12.fst.hi == viv18.hi && vca12.fst.no == viv18.no))
                   (
                    .bind (Go.Proofs.Ythgpgnijbajlgaa.Iv.whole 6) fun viv19 =>
                    .br (vca12.snd.fst.lo == viv19.lo && (vca12.snd.fst.hi == viv19.hi && vca12.snd.fst.no == viv19.no))
                     (
                      .bind (Go.Proofs.Ythgpgnijbajlgaa.Iv.whole (-2)) fun viv20 =>
                      .br (vca12.snd.snd.fst.lo == viv20.lo && (vca12.snd.snd.fst.hi == viv20.hi && vca12.snd.snd.fst.no == viv20.no))
                       (
                        .bind (Go.Proofs.Ythgpgnijbajlgaa.Iv.whole 1) fun viv21 =>
                        .br (vca12.snd.snd.snd.lo == viv21.lo && (vca12.snd.snd.snd.hi == viv21.hi && vca12.snd.snd.snd.no == viv21.no))
                         (
                          .br (vy13.snd)
                           (
                            .br (vy13.fst.fst == 1 && (vy13.fst.snd.fst == 5 && (vy13.fst.snd.snd.fst == -2 && (vy13.fst.snd.snd.snd == -9 && Bool.true))))
                             (
                              .br (vy14.snd)
                               (
                                .br (vy14.fst.fst == 1 && (vy14.fst.snd.fst == 0 && (vy14.fst.snd.snd.fst == 0 && (vy14.fst.snd.snd.snd == 1 && Bool.true))))
                                 (
                                  .br (!vy15.snd)
                                   (
                                    .ret (!vy16.snd))
                                   (
                                    .ret (Bool.false)))
                                 (
                                  .ret (Bool.false)))
                               (
                                .ret (Bool.false)))
                             (
                              .ret (Bool.false)))
                           (
                            .ret (Bool.false)))
                         (
                          .ret (Bool.false)))
                       (
                        .ret (Bool.false)))
                     (
                      .ret (Bool.false)))
                   (
                    .ret (Bool.false)))
                 (
                  .ret (Bool.false)))
               (
                .fail))
             (
              .fail))
           (
            .fail))
         (
          .fail))
       (
        .fail) := by kernel_rfl
theorem c_meniscuslaw20_ParaxKnown : PlainS Try.prog 9 (sc 0 [] tNil rNil) cBool (fun _ => true) ((fun _ => true)) := by
  intro x h N w vs hM hv
  obtain ⟨⟨⟩, ⟨⟩⟩ := x
  refine calls_of_tree (n := 200) (EnvOK.add s_parax_Of (EnvOK.add s_meniscuslaw20_known (EnvOK.add s_meniscuslaw20_flat (EnvOK.add s_iv_Div (EnvOK.add s_iv_Whole (EnvOK.add s_parax_Matrix EnvOK.nil)))))) Try.func9 hv (Nat.le_of_ble_eq_true (by kernel_rfl)) LFn.nil hM cBool ?_
  rw [t_meniscuslaw20_ParaxKnown]
  decide +kernel
theorem s_meniscuslaw20_ParaxKnown : Ev.Spec Try.prog 9 (FS (sc 0 [] tNil rNil) cBool (fun _ => true) ((fun _ => true))) := specS rfl (fun vs w => Try.call9 vs w) c_meniscuslaw20_ParaxKnown
end Go.Proofs.Ythgpgnijbajlgaa
