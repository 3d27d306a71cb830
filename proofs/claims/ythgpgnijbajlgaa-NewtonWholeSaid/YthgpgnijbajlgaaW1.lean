/-
  Contracts of calls, written by a small program of this session out of the evaluator's trees.
-/
import Derived.Test.YthgpgnijbajlgaaCore
import Derived.Test.YthgpgnijbajlgaaCoreLoops
import Derived.Test.YthgpgnijbajlgaaCore2
import Derived.Test.YthgpgnijbajlgaaCore3
import Derived.Test.YthgpgnijbajlgaaPlane
import Derived.Test.YthgpgnijbajlgaaNewtonW
import Derived.Test.YthgpgnijbajlgaaEvCod
import Derived.Test.YthgpgnijbajlgaaEvRet
import Derived.Test.YthgpgnijbajlgaaProg
import Derived.Test.YthgpgnijbajlgaaW0
namespace Go.Proofs.Ythgpgnijbajlgaa
open Go Go.RowKit Ev
set_option maxRecDepth 100000
set_option linter.unusedVariables false
set_option linter.unusedSimpArgs false

/-! meniscusref1.Neg -/
theorem t_meniscusref1_Neg (x0 : Iv) :
    evFn Try.prog (Env.add 110 (F1 cIv cBool Iv.right) (Env.add 111 (F0 cIv Iv.none) (Env.add 132 (F2 cInt cInt cIv Iv.of) Env.nil))) Laws.nil 200 Try.f101 [cIv.av x0] [] cIv.dec =
      .bind (x0.right) fun vb0 =>
      .br (!vb0)
       (
        .bind (Go.Proofs.Ythgpgnijbajlgaa.Iv.none) fun viv1 =>
        .ret (viv1))
       (
        .bind (Go.Proofs.Ythgpgnijbajlgaa.Iv.of (Go.IntKind.i64.wrap (0 - x0.hi)) (Go.IntKind.i64.wrap (0 - x0.lo))) fun viv2 =>
        .ret (viv2)) := by kernel_rfl
theorem c_meniscusref1_Neg (x0 : Iv) : Plain Try.prog 101 [cIv.enc x0] (cIv.enc (Iv.neg x0)) :=
  plain_of_tree (n := 200) (EnvOK.add s_meniscusref1_Right (EnvOK.add s_meniscusref1_None (EnvOK.add s_meniscusref1_Of EnvOK.nil))) Try.func101 (args := [cIv.av x0]) (by simp only [AV.vals, Cod.av_val]) (Nat.le_of_ble_eq_true (by kernel_rfl)) LFn.nil cIv (by
    rw [t_meniscusref1_Neg]
    simp only [Tr.den, Iv.neg]
    cases h0 : x0.right <;> simp
    have b0 := right_bd h0
    simp (disch := omega) only [IntWalk.i64_in])
theorem s_meniscusref1_Neg : Ev.Spec Try.prog 101 (F1 cIv cIv Iv.neg) := spec1 (fun vs w => Try.call101 vs w) c_meniscusref1_Neg

/-! meniscusref1.Sub -/
theorem t_meniscusref1_Sub (x0 : Iv) (x1 : Iv) :
    evFn Try.prog (Env.add 110 (F1 cIv cBool Iv.right) (Env.add 111 (F0 cIv Iv.none) (Env.add 132 (F2 cInt cInt cIv Iv.of) Env.nil))) Laws.nil 200 Try.f98 [cIv.av x0, cIv.av x1] [] cIv.dec =
      .bind (x0.right) fun vb0 =>
      .br (!vb0)
       (
        .bind (Go.Proofs.Ythgpgnijbajlgaa.Iv.none) fun viv1 =>
        .ret (viv1))
       (
        .bind (x1.right) fun vb2 =>
        .br (!vb2)
         (
          .bind (Go.Proofs.Ythgpgnijbajlgaa.Iv.none) fun viv3 =>
          .ret (viv3))
         (
          .bind (Go.Proofs.Ythgpgnijbajlgaa.Iv.of (Go.IntKind.i64.wrap (x0.lo - x1.hi)) (Go.IntKind.i64.wrap (x0.hi - x1.lo))) fun viv4 =>
          .ret (viv4))) := by kernel_rfl
theorem c_meniscusref1_Sub (x0 : Iv) (x1 : Iv) : Plain Try.prog 98 [cIv.enc x0, cIv.enc x1] (cIv.enc (Iv.sub x0 x1)) :=
  plain_of_tree (n := 200) (EnvOK.add s_meniscusref1_Right (EnvOK.add s_meniscusref1_None (EnvOK.add s_meniscusref1_Of EnvOK.nil))) Try.func98 (args := [cIv.av x0, cIv.av x1]) (by simp only [AV.vals, Cod.av_val]) (Nat.le_of_ble_eq_true (by kernel_rfl)) LFn.nil cIv (by
    rw [t_meniscusref1_Sub]
    simp only [den_br, den_bind, den_ret, den_fail, den_inl, den_inr, decide_eq_true_eq]
    by_cases h0 : x0.right = true <;> by_cases h1 : x1.right = true <;> simp [sub_eq, Iv.both, h0, h1]
    have b0 := right_bd h0
    have b1 := right_bd h1
    simp (disch := omega) only [IntWalk.i64_in])
theorem s_meniscusref1_Sub : Ev.Spec Try.prog 98 (F2 cIv cIv cIv Iv.sub) := spec2 (fun vs w => Try.call98 vs w) c_meniscusref1_Sub

/-! meniscusref1.ends -/
theorem tl_meniscusref1_ends_4 (t2 : Bool) (t7 : Int) (t8 : Int) (t9 : Int) (r0 : Iv) (r1 : Iv) (r2 : Iv) :
    ev Try.prog (Env.add 111 (F0 cIv Iv.none) (Env.add 132 (F2 cInt cInt cIv Iv.of) (Env.add 148 (F3 cInt cInt cBool (cTwo cInt cBool) numMul) (Env.add 151 (F3 cInt cInt cBool (cTwo cInt cBool) numDiv) Env.nil)))) Laws.nil 200 none (loopAt Try.f133 4) ((sc 85 [2, 7, 8, 9, 3, 4, 6] (tCod 2 cBool (tCod 7 cInt (tCod 8 cInt (tCod 9 cInt (tOwn 3 0 (tOwn 4 1 (tOwn 6 2 tNil))))))) (rBox ccIv ccIv_ok (rBox ccIv ccIv_ok (rBox ccIv ccIv_ok rNil)))).enc ((t2, t7, t8, t9, ()), (r0, r1, r2, ()))) (backK (sc 85 [2, 7, 8, 9, 3, 4, 6] (tCod 2 cBool (tCod 7 cInt (tCod 8 cInt (tCod 9 cInt (tOwn 3 0 (tOwn 4 1 (tOwn 6 2 tNil))))))) (rBox ccIv ccIv_ok (rBox ccIv ccIv_ok (rBox ccIv ccIv_ok rNil)))) (ocOr (ocExit 0 (sc 85 [7, 8, 6] (tCod 7 cInt (tCod 8 cInt (tOwn 6 0 tNil))) (rBox ccIv ccIv_ok rNil))) (ocRet (sc 85 [6] (tOwn 6 0 tNil) (rBox ccIv ccIv_ok rNil))))) =
      .br (Decidable.decide (t9 < 4))
       (
        .br (t9.tmod 2 == 1)
         (
          .br (Go.IntKind.i64.wrap (t9.tdiv 2) == 1)
           (
            .bind (Go.Proofs.Ythgpgnijbajlgaa.numMul r0.hi r1.hi Bool.false) fun vy0 =>
            .bind (Go.Proofs.Ythgpgnijbajlgaa.numMul r0.hi r1.hi Bool.true) fun vy1 =>
            .br (t2)
             (
              .bind (Go.Proofs.Ythgpgnijbajlgaa.numDiv r0.hi r1.hi Bool.false) fun vy2 =>
              .bind (Go.Proofs.Ythgpgnijbajlgaa.numDiv r0.hi r1.hi Bool.true) fun vy3 =>
              .br (!vy2.snd)
               (
                .bind (Go.Proofs.Ythgpgnijbajlgaa.Iv.none) fun viv4 =>
                .ret (Sum.inr (Sum.inr ((), viv4, ()))))
               (
                .br (!vy3.snd)
                 (
                  .bind (Go.Proofs.Ythgpgnijbajlgaa.Iv.none) fun viv5 =>
                  .ret (Sum.inr (Sum.inr ((), viv5, ()))))
                 (
                  .br (t9 == 0)
                   (
                    .br (t9 == 0)
                     (
                      .ret (Sum.inl ((t2, vy2.fst, vy3.fst, Go.IntKind.i64.wrap (t9 + 1), ()), r0, r1, r2, ())))
                     (
                      .br (Decidable.decide (vy3.fst > t8))
                       (
                        .ret (Sum.inl ((t2, vy2.fst, vy3.fst, Go.IntKind.i64.wrap (t9 + 1), ()), r0, r1, r2, ())))
                       (
                        .ret (Sum.inl ((t2, vy2.fst, t8, Go.IntKind.i64.wrap (t9 + 1), ()), r0, r1, r2, ())))))
                   (
                    .br (Decidable.decide (vy2.fst < t7))
                     (
                      .br (t9 == 0)
                       (
                        .ret (Sum.inl ((t2, vy2.fst, vy3.fst, Go.IntKind.i64.wrap (t9 + 1), ()), r0, r1, r2, ())))
                       (
                        .br (Decidable.decide (vy3.fst > t8))
                         (
                          .ret (Sum.inl ((t2, vy2.fst, vy3.fst, Go.IntKind.i64.wrap (t9 + 1), ()), r0, r1, r2, ())))
                         (
                          .ret (Sum.inl ((t2, vy2.fst, t8, Go.IntKind.i64.wrap (t9 + 1), ()), r0, r1, r2, ())))))
                     (
                      .br (t9 == 0)
                       (
                        .ret (Sum.inl ((t2, t7, vy3.fst, Go.IntKind.i64.wrap (t9 + 1), ()), r0, r1, r2, ())))
                       (
                        .br (Decidable.decide (vy3.fst > t8))
                         (
                          .ret (Sum.inl ((t2, t7, vy3.fst, Go.IntKind.i64.wrap (t9 + 1), ()), r0, r1, r2, ())))
                         (
                          .ret (Sum.inl ((t2, t7, t8, Go.IntKind.i64.wrap (t9 + 1), ()), r0, r1, r2, ())))))))))
             (
              .br (!vy0.snd)
               (
                .bind (Go.Proofs.Ythgpgnijbajlgaa.Iv.none) fun viv6 =>
                .ret (Sum.inr (Sum.inr ((), viv6, ()))))
               (
                .br (!vy1.snd)
                 (
                  .bind (Go.Proofs.Ythgpgnijbajlgaa.Iv.none) fun viv7 =>
                  .ret (Sum.inr (Sum.inr ((), viv7, ()))))
                 (
                  .br (t9 == 0)
                   (
                    .br (t9 == 0)
                     (
                      .ret (Sum.inl ((t2, vy0.fst, vy1.fst, Go.IntKind.i64.wrap (t9 + 1), ()), r0, r1, r2, ())))
                     (
                      .br (Decidable.decide (vy1.fst > t8))
                       (
                        .ret (Sum.inl ((t2, vy0.fst, vy1.fst, Go.IntKind.i64.wrap (t9 + 1), ()), r0, r1, r2, ())))
                       (
                        .ret (Sum.inl ((t2, vy0.fst, t8, Go.IntKind.i64.wrap (t9 + 1), ()), r0, r1, r2, ())))))
                   (
                    .br (Decidable.decide (vy0.fst < t7))
                     (
                      .br (t9 == 0)
                       (
                        .ret (Sum.inl ((t2, vy0.fst, vy1.fst, Go.IntKind.i64.wrap (t9 + 1), ()), r0, r1, r2, ())))
                       (
                        .br (Decidable.decide (vy1.fst > t8))
                         (
                          .ret (Sum.inl ((t2, vy0.fst, vy1.fst, Go.IntKind.i64.wrap (t9 + 1), ()), r0, r1, r2, ())))
                         (
                          .ret (Sum.inl ((t2, vy0.fst, t8, Go.IntKind.i64.wrap (t9 + 1), ()), r0, r1, r2, ())))))
                     (
                      .br (t9 == 0)
                       (
                        .ret (Sum.inl ((t2, t7, vy1.fst, Go.IntKind.i64.wrap (t9 + 1), ()), r0, r1, r2, ())))
                       (
                        .br (Decidable.decide (vy1.fst > t8))
                         (
                          .ret (Sum.inl ((t2, t7, vy1.fst, Go.IntKind.i64.wrap (t9 + 1), ()), r0, r1, r2, ())))
                         (
                          .ret (Sum.inl ((t2, t7, t8, Go.IntKind.i64.wrap (t9 + 1), ()), r0, r1, r2, ()))))))))))
           (
            .bind (Go.Proofs.Ythgpgnijbajlgaa.numMul r0.hi r1.lo Bool.false) fun vy8 =>
            .bind (Go.Proofs.Ythgpgnijbajlgaa.numMul r0.hi r1.lo Bool.true) fun vy9 =>
            .br (t2)
             (
              .bind (Go.Proofs.Ythgpgnijbajlgaa.numDiv r0.hi r1.lo Bool.false) fun vy10 =>
              .bind (Go.Proofs.Ythgpgnijbajlgaa.numDiv r0.hi r1.lo Bool.true) fun vy11 =>
              .br (!vy10.snd)
               (
                .bind (Go.Proofs.Ythgpgnijbajlgaa.Iv.none) fun viv12 =>
                .ret (Sum.inr (Sum.inr ((), viv12, ()))))
               (
                .br (!vy11.snd)
                 (
                  .bind (Go.Proofs.Ythgpgnijbajlgaa.Iv.none) fun viv13 =>
                  .ret (Sum.inr (Sum.inr ((), viv13, ()))))
                 (
                  .br (t9 == 0)
                   (
                    .br (t9 == 0)
                     (
                      .ret (Sum.inl ((t2, vy10.fst, vy11.fst, Go.IntKind.i64.wrap (t9 + 1), ()), r0, r1, r2, ())))
                     (
                      .br (Decidable.decide (vy11.fst > t8))
                       (
                        .ret (Sum.inl ((t2, vy10.fst, vy11.fst, Go.IntKind.i64.wrap (t9 + 1), ()), r0, r1, r2, ())))
                       (
                        .ret (Sum.inl ((t2, vy10.fst, t8, Go.IntKind.i64.wrap (t9 + 1), ()), r0, r1, r2, ())))))
                   (
                    .br (Decidable.decide (vy10.fst < t7))
                     (
                      .br (t9 == 0)
                       (
                        .ret (Sum.inl ((t2, vy10.fst, vy11.fst, Go.IntKind.i64.wrap (t9 + 1), ()), r0, r1, r2, ())))
                       (
                        .br (Decidable.decide (vy11.fst > t8))
                         (
                          .ret (Sum.inl ((t2, vy10.fst, vy11.fst, Go.IntKind.i64.wrap (t9 + 1), ()), r0, r1, r2, ())))
                         (
                          .ret (Sum.inl ((t2, vy10.fst, t8, Go.IntKind.i64.wrap (t9 + 1), ()), r0, r1, r2, ())))))
                     (
                      .br (t9 == 0)
                       (
                        .ret (Sum.inl ((t2, t7, vy11.fst, Go.IntKind.i64.wrap (t9 + 1), ()), r0, r1, r2, ())))
                       (
                        .br (Decidable.decide (vy11.fst > t8))
                         (
                          .ret (Sum.inl ((t2, t7, vy11.fst, Go.IntKind.i64.wrap (t9 + 1), ()), r0, r1, r2, ())))
                         (
                          .ret (Sum.inl ((t2, t7, t8, Go.IntKind.i64.wrap (t9 + 1), ()), r0, r1, r2, ())))))))))
             (
              .br (!vy8.snd)
               (
                .bind (Go.Proofs.Ythgpgnijbajlgaa.Iv.none) fun viv14 =>
                .ret (Sum.inr (Sum.inr ((), viv14, ()))))
               (
                .br (!vy9.snd)
                 (
                  .bind (Go.Proofs.Ythgpgnijbajlgaa.Iv.none) fun viv15 =>
                  .ret (Sum.inr (Sum.inr ((), viv15, ()))))
                 (
                  .br (t9 == 0)
                   (
                    .br (t9 == 0)
                     (
                      .ret (Sum.inl ((t2, vy8.fst, vy9.fst, Go.IntKind.i64.wrap (t9 + 1), ()), r0, r1, r2, ())))
                     (
                      .br (Decidable.decide (vy9.fst > t8))
                       (
                        .ret (Sum.inl ((t2, vy8.fst, vy9.fst, Go.IntKind.i64.wrap (t9 + 1), ()), r0, r1, r2, ())))
                       (
                        .ret (Sum.inl ((t2, vy8.fst, t8, Go.IntKind.i64.wrap (t9 + 1), ()), r0, r1, r2, ())))))
                   (
                    .br (Decidable.decide (vy8.fst < t7))
                     (
                      .br (t9 == 0)
                       (
                        .ret (Sum.inl ((t2, vy8.fst, vy9.fst, Go.IntKind.i64.wrap (t9 + 1), ()), r0, r1, r2, ())))
                       (
                        .br (Decidable.decide (vy9.fst > t8))
                         (
                          .ret (Sum.inl ((t2, vy8.fst, vy9.fst, Go.IntKind.i64.wrap (t9 + 1), ()), r0, r1, r2, ())))
                         (
                          .ret (Sum.inl ((t2, vy8.fst, t8, Go.IntKind.i64.wrap (t9 + 1), ()), r0, r1, r2, ())))))
                     (
                      .br (t9 == 0)
                       (
                        .ret (Sum.inl ((t2, t7, vy9.fst, Go.IntKind.i64.wrap (t9 + 1), ()), r0, r1, r2, ())))
                       (
                        .br (Decidable.decide (vy9.fst > t8))
                         (
                          .ret (Sum.inl ((t2, t7, vy9.fst, Go.IntKind.i64.wrap (t9 + 1), ()), r0, r1, r2, ())))
                         (
                          .ret (Sum.inl ((t2, t7, t8, Go.IntKind.i64.wrap (t9 + 1), ()), r0, r1, r2, ())))))))))))
         (
          .br (Go.IntKind.i64.wrap (t9.tdiv 2) == 1)
           (
            .bind (Go.Proofs.Ythgpgnijbajlgaa.numMul r0.lo r1.hi Bool.false) fun vy16 =>
            .bind (Go.Proofs.Ythgpgnijbajlgaa.numMul r0.lo r1.hi Bool.true) fun vy17 =>
            .br (t2)
             (
              .bind (Go.Proofs.Ythgpgnijbajlgaa.numDiv r0.lo r1.hi Bool.false) fun vy18 =>
              .bind (Go.Proofs.Ythgpgnijbajlgaa.numDiv r0.lo r1.hi Bool.true) fun vy19 =>
              .br (!vy18.snd)
               (
                .bind (Go.Proofs.Ythgpgnijbajlgaa.Iv.none) fun viv20 =>
                .ret (Sum.inr (Sum.inr ((), viv20, ()))))
               (
                .br (!vy19.snd)
                 (
                  .bind (Go.Proofs.Ythgpgnijbajlgaa.Iv.none) fun viv21 =>
                  .ret (Sum.inr (Sum.inr ((), viv21, ()))))
                 (
                  .br (t9 == 0)
                   (
                    .br (t9 == 0)
                     (
                      .ret (Sum.inl ((t2, vy18.fst, vy19.fst, Go.IntKind.i64.wrap (t9 + 1), ()), r0, r1, r2, ())))
                     (
                      .br (Decidable.decide (vy19.fst > t8))
                       (
                        .ret (Sum.inl ((t2, vy18.fst, vy19.fst, Go.IntKind.i64.wrap (t9 + 1), ()), r0, r1, r2, ())))
                       (
                        .ret (Sum.inl ((t2, vy18.fst, t8, Go.IntKind.i64.wrap (t9 + 1), ()), r0, r1, r2, ())))))
                   (
                    .br (Decidable.decide (vy18.fst < t7))
                     (
                      .br (t9 == 0)
                       (
                        .ret (Sum.inl ((t2, vy18.fst, vy19.fst, Go.IntKind.i64.wrap (t9 + 1), ()), r0, r1, r2, ())))
                       (
                        .br (Decidable.decide (vy19.fst > t8))
                         (
                          .ret (Sum.inl ((t2, vy18.fst, vy19.fst, Go.IntKind.i64.wrap (t9 + 1), ()), r0, r1, r2, ())))
                         (
                          .ret (Sum.inl ((t2, vy18.fst, t8, Go.IntKind.i64.wrap (t9 + 1), ()), r0, r1, r2, ())))))
                     (
                      .br (t9 == 0)
                       (
                        .ret (Sum.inl ((t2, t7, vy19.fst, Go.IntKind.i64.wrap (t9 + 1), ()), r0, r1, r2, ())))
                       (
                        .br (Decidable.decide (vy19.fst > t8))
                         (
                          .ret (Sum.inl ((t2, t7, vy19.fst, Go.IntKind.i64.wrap (t9 + 1), ()), r0, r1, r2, ())))
                         (
                          .ret (Sum.inl ((t2, t7, t8, Go.IntKind.i64.wrap (t9 + 1), ()), r0, r1, r2, ())))))))))
             (
              .br (!vy16.snd)
               (
                .bind (Go.Proofs.Ythgpgnijbajlgaa.Iv.none) fun viv22 =>
                .ret (Sum.inr (Sum.inr ((), viv22, ()))))
               (
                .br (!vy17.snd)
                 (
                  .bind (Go.Proofs.Ythgpgnijbajlgaa.Iv.none) fun viv23 =>
                  .ret (Sum.inr (Sum.inr ((), viv23, ()))))
                 (
                  .br (t9 == 0)
                   (
                    .br (t9 == 0)
                     (
                      .ret (Sum.inl ((t2, vy16.fst, vy17.fst, Go.IntKind.i64.wrap (t9 + 1), ()), r0, r1, r2, ())))
                     (
                      .br (Decidable.decide (vy17.fst > t8))
                       (
                        .ret (Sum.inl ((t2, vy16.fst, vy17.fst, Go.IntKind.i64.wrap (t9 + 1), ()), r0, r1, r2, ())))
                       (
                        .ret (Sum.inl ((t2, vy16.fst, t8, Go.IntKind.i64.wrap (t9 + 1), ()), r0, r1, r2, ())))))
                   (
                    .br (Decidable.decide (vy16.fst < t7))
                     (
                      .br (t9 == 0)
                       (
                        .ret (Sum.inl ((t2, vy16.fst, vy17.fst, Go.IntKind.i64.wrap (t9 + 1), ()), r0, r1, r2, ())))
                       (
                        .br (Decidable.decide (vy17.fst > t8))
                         (
                          .ret (Sum.inl ((t2, vy16.fst, vy17.fst, Go.IntKind.i64.wrap (t9 + 1), ()), r0, r1, r2, ())))
                         (
                          .ret (Sum.inl ((t2, vy16.fst, t8, Go.IntKind.i64.wrap (t9 + 1), ()), r0, r1, r2, ())))))
                     (
                      .br (t9 == 0)
                       (
                        .ret (Sum.inl ((t2, t7, vy17.fst, Go.IntKind.i64.wrap (t9 + 1), ()), r0, r1, r2, ())))
                       (
                        .br (Decidable.decide (vy17.fst > t8))
                         (
                          .ret (Sum.inl ((t2, t7, vy17.fst, Go.IntKind.i64.wrap (t9 + 1), ()), r0, r1, r2, ())))
                         (
                          .ret (Sum.inl ((t2, t7, t8, Go.IntKind.i64.wrap (t9 + 1), ()), r0, r1, r2, ()))))))))))
           (
            .bind (Go.Proofs.Ythgpgnijbajlgaa.numMul r0.lo r1.lo Bool.false) fun vy24 =>
            .bind (Go.Proofs.Ythgpgnijbajlgaa.numMul r0.lo r1.lo Bool.true) fun vy25 =>
            .br (t2)
             (
              .bind (Go.Proofs.Ythgpgnijbajlgaa.numDiv r0.lo r1.lo Bool.false) fun vy26 =>
              .bind (Go.Proofs.Ythgpgnijbajlgaa.numDiv r0.lo r1.lo Bool.true) fun vy27 =>
              .br (!vy26.snd)
               (
                .bind (Go.Proofs.Ythgpgnijbajlgaa.Iv.none) fun viv28 =>
                .ret (Sum.inr (Sum.inr ((), viv28, ()))))
               (
                .br (!vy27.snd)
                 (
                  .bind (Go.Proofs.Ythgpgnijbajlgaa.Iv.none) fun viv29 =>
                  .ret (Sum.inr (Sum.inr ((), viv29, ()))))
                 (
                  .br (t9 == 0)
                   (
                    .br (t9 == 0)
                     (
                      .ret (Sum.inl ((t2, vy26.fst, vy27.fst, Go.IntKind.i64.wrap (t9 + 1), ()), r0, r1, r2, ())))
                     (
                      .br (Decidable.decide (vy27.fst > t8))
                       (
                        .ret (Sum.inl ((t2, vy26.fst, vy27.fst, Go.IntKind.i64.wrap (t9 + 1), ()), r0, r1, r2, ())))
                       (
                        .ret (Sum.inl ((t2, vy26.fst, t8, Go.IntKind.i64.wrap (t9 + 1), ()), r0, r1, r2, ())))))
                   (
                    .br (Decidable.decide (vy26.fst < t7))
                     (
                      .br (t9 == 0)
                       (
                        .ret (Sum.inl ((t2, vy26.fst, vy27.fst, Go.IntKind.i64.wrap (t9 + 1), ()), r0, r1, r2, ())))
                       (
                        .br (Decidable.decide (vy27.fst > t8))
                         (
                          .ret (Sum.inl ((t2, vy26.fst, vy27.fst, Go.IntKind.i64.wrap (t9 + 1), ()), r0, r1, r2, ())))
                         (
                          .ret (Sum.inl ((t2, vy26.fst, t8, Go.IntKind.i64.wrap (t9 + 1), ()), r0, r1, r2, ())))))
                     (
                      .br (t9 == 0)
                       (
                        .ret (Sum.inl ((t2, t7, vy27.fst, Go.IntKind.i64.wrap (t9 + 1), ()), r0, r1, r2, ())))
                       (
                        .br (Decidable.decide (vy27.fst > t8))
                         (
                          .ret (Sum.inl ((t2, t7, vy27.fst, Go.IntKind.i64.wrap (t9 + 1), ()), r0, r1, r2, ())))
                         (
                          .ret (Sum.inl ((t2, t7, t8, Go.IntKind.i64.wrap (t9 + 1), ()), r0, r1, r2, ())))))))))
             (
              .br (!vy24.snd)
               (
                .bind (Go.Proofs.Ythgpgnijbajlgaa.Iv.none) fun viv30 =>
                .ret (Sum.inr (Sum.inr ((), viv30, ()))))
               (
                .br (!vy25.snd)
                 (
                  .bind (Go.Proofs.Ythgpgnijbajlgaa.Iv.none) fun viv31 =>
                  .ret (Sum.inr (Sum.inr ((), viv31, ()))))
                 (
                  .br (t9 == 0)
                   (
                    .br (t9 == 0)
                     (
                      .ret (Sum.inl ((t2, vy24.fst, vy25.fst, Go.IntKind.i64.wrap (t9 + 1), ()), r0, r1, r2, ())))
                     (
                      .br (Decidable.decide (vy25.fst > t8))
                       (
                        .ret (Sum.inl ((t2, vy24.fst, vy25.fst, Go.IntKind.i64.wrap (t9 + 1), ()), r0, r1, r2, ())))
                       (
                        .ret (Sum.inl ((t2, vy24.fst, t8, Go.IntKind.i64.wrap (t9 + 1), ()), r0, r1, r2, ())))))
                   (
                    .br (Decidable.decide (vy24.fst < t7))
                     (
                      .br (t9 == 0)
                       (
                        .ret (Sum.inl ((t2, vy24.fst, vy25.fst, Go.IntKind.i64.wrap (t9 + 1), ()), r0, r1, r2, ())))
                       (
                        .br (Decidable.decide (vy25.fst > t8))
                         (
                          .ret (Sum.inl ((t2, vy24.fst, vy25.fst, Go.IntKind.i64.wrap (t9 + 1), ()), r0, r1, r2, ())))
                         (
                          .ret (Sum.inl ((t2, vy24.fst, t8, Go.IntKind.i64.wrap (t9 + 1), ()), r0, r1, r2, ())))))
                     (
                      .br (t9 == 0)
                       (
                        .ret (Sum.inl ((t2, t7, vy25.fst, Go.IntKind.i64.wrap (t9 + 1), ()), r0, r1, r2, ())))
                       (
                        .br (Decidable.decide (vy25.fst > t8))
                         (
                          .ret (Sum.inl ((t2, t7, vy25.fst, Go.IntKind.i64.wrap (t9 + 1), ()), r0, r1, r2, ())))
                         (
                          .ret (Sum.inl ((t2, t7, t8, Go.IntKind.i64.wrap (t9 + 1), ()), r0, r1, r2, ()))))))))))))
       (
        .ret (Sum.inr (Sum.inl ((t7, t8, ()), r2, ())))) := by kernel_rfl
theorem ok_meniscusref1_ends_4 : LOK Try.prog (LoopR.of (sc 85 [2, 7, 8, 9, 3, 4, 6] (tCod 2 cBool (tCod 7 cInt (tCod 8 cInt (tCod 9 cInt (tOwn 3 0 (tOwn 4 1 (tOwn 6 2 tNil))))))) (rBox ccIv ccIv_ok (rBox ccIv ccIv_ok (rBox ccIv ccIv_ok rNil)))) (ocOr (ocExit 0 (sc 85 [7, 8, 6] (tCod 7 cInt (tCod 8 cInt (tOwn 6 0 tNil))) (rBox ccIv ccIv_ok rNil))) (ocRet (sc 85 [6] (tOwn 6 0 tNil) (rBox ccIv ccIv_ok rNil)))) endsRun) (loopAt Try.f133 4) := by
  refine loop_ok (EnvOK.add s_meniscusref1_None (EnvOK.add s_meniscusref1_Of (EnvOK.add s_meniscusref1_Mul (EnvOK.add s_meniscusref1_Div EnvOK.nil)))) (LFn.at (fn := Try.f133) LFn.nil 4) endsStep (n := 200) (fun x z h => ?_) endsRun_ok
  obtain ⟨⟨t2, t7, t8, t9, ⟨⟩⟩, ⟨r0, r1, r2, ⟨⟩⟩⟩ := x
  rw [tl_meniscusref1_ends_4]
  rw [← h]
  simp only [den_br, den_bind, den_ret, den_fail, den_inl, den_inr, decide_eq_true_eq]
  simp only [endsStep, endsX, endsY, endsF, beq_iff_eq, Bool.not_eq_true']
  by_cases hk : t9 < 4 <;> simp only [hk, if_true, if_false]
  by_cases hx : t9.tmod 2 = 1 <;> simp only [hx, if_true, if_false] <;> by_cases hy : IntKind.i64.wrap (t9.tdiv 2) = 1 <;> simp only [hy, if_true, if_false] <;> cases t2 <;> simp only [Bool.false_eq_true, if_true, if_false] <;> grind
theorem t_meniscusref1_ends (x0 : Iv) (x1 : Iv) (x2 : Bool) :
    evFn Try.prog (Env.add 111 (F0 cIv Iv.none) (Env.add 132 (F2 cInt cInt cIv Iv.of) (Env.add 148 (F3 cInt cInt cBool (cTwo cInt cBool) numMul) (Env.add 151 (F3 cInt cInt cBool (cTwo cInt cBool) numDiv) Env.nil)))) (Laws.add 4 (LoopR.of (sc 85 [2, 7, 8, 9, 3, 4, 6] (tCod 2 cBool (tCod 7 cInt (tCod 8 cInt (tCod 9 cInt (tOwn 3 0 (tOwn 4 1 (tOwn 6 2 tNil))))))) (rBox ccIv ccIv_ok (rBox ccIv ccIv_ok (rBox ccIv ccIv_ok rNil)))) (ocOr (ocExit 0 (sc 85 [7, 8, 6] (tCod 7 cInt (tCod 8 cInt (tOwn 6 0 tNil))) (rBox ccIv ccIv_ok rNil))) (ocRet (sc 85 [6] (tOwn 6 0 tNil) (rBox ccIv ccIv_ok rNil)))) endsRun) Laws.nil) 200 Try.f133 [cIv.av x0, cIv.av x1, cBool.av x2] [] cIv.dec =
      .get (Go.Proofs.Ythgpgnijbajlgaa.endsRun ((x2, 0, 0, 0, ()), x0, x1, Go.Proofs.Ythgpgnijbajlgaa.Iv.mk 0 0 Bool.false, ())) fun vy0 =>
      .sum (vy0)
       (fun vs1 =>
        .bind (Go.Proofs.Ythgpgnijbajlgaa.Iv.of vs1.fst.fst vs1.fst.snd.fst) fun viv2 =>
        .ret (viv2))
       (fun vs3 =>
        .ret (vs3.snd.fst)) := by kernel_rfl
theorem c_meniscusref1_ends (x0 : Iv) (x1 : Iv) (x2 : Bool) : Plain Try.prog 133 [cIv.enc x0, cIv.enc x1, cBool.enc x2] (cIv.enc (endsD x0 x1 x2)) :=
  plain_of_tree (n := 200) (EnvOK.add s_meniscusref1_None (EnvOK.add s_meniscusref1_Of (EnvOK.add s_meniscusref1_Mul (EnvOK.add s_meniscusref1_Div EnvOK.nil)))) Try.func133 (args := [cIv.av x0, cIv.av x1, cBool.av x2]) (by simp only [AV.vals, Cod.av_val]) (Nat.le_of_ble_eq_true (by kernel_rfl)) (LFn.add (fn := Try.f133) (i := 4) (by kernel_rfl) ok_meniscusref1_ends_4 LFn.nil) cIv (by
    rw [t_meniscusref1_ends]
    simp only [den_br, den_bind, den_ret, den_fail, den_inl, den_inr, den_gets, decide_eq_true_eq]
    simp only [endsRun, endsD, ends, if_true]
    cases x2 <;> simp only [endsF, Bool.false_eq_true, if_false, if_true] <;> split <;> rfl)
theorem s_meniscusref1_ends : Ev.Spec Try.prog 133 (F3 cIv cIv cBool cIv endsD) := spec3 (fun vs w => Try.call133 vs w) c_meniscusref1_ends

/-! meniscusref1.MulIv -/
theorem t_meniscusref1_MulIv (x0 : Iv) (x1 : Iv) :
    evFn Try.prog (Env.add 110 (F1 cIv cBool Iv.right) (Env.add 111 (F0 cIv Iv.none) (Env.add 133 (F3 cIv cIv cBool cIv endsD) Env.nil))) Laws.nil 200 Try.f99 [cIv.av x0, cIv.av x1] [] cIv.dec =
      .bind (x0.right) fun vb0 =>
      .br (!vb0)
       (
        .bind (Go.Proofs.Ythgpgnijbajlgaa.Iv.none) fun viv1 =>
        .ret (viv1))
       (
        .bind (x1.right) fun vb2 =>
        .br (!vb2)
         (
          .bind (Go.Proofs.Ythgpgnijbajlgaa.Iv.none) fun viv3 =>
          .ret (viv3))
         (
          .bind (Go.Proofs.Ythgpgnijbajlgaa.endsD x0 x1 Bool.false) fun viv4 =>
          .ret (viv4))) := by kernel_rfl
theorem c_meniscusref1_MulIv (x0 : Iv) (x1 : Iv) : Plain Try.prog 99 [cIv.enc x0, cIv.enc x1] (cIv.enc (Iv.mul x0 x1)) :=
  plain_of_tree (n := 200) (EnvOK.add s_meniscusref1_Right (EnvOK.add s_meniscusref1_None (EnvOK.add s_meniscusref1_ends EnvOK.nil))) Try.func99 (args := [cIv.av x0, cIv.av x1]) (by simp only [AV.vals, Cod.av_val]) (Nat.le_of_ble_eq_true (by kernel_rfl)) LFn.nil cIv (by
    rw [t_meniscusref1_MulIv]
    simp only [den_br, den_bind, den_ret, den_fail, den_inl, den_inr, decide_eq_true_eq]
    grind [Iv.mul, Iv.both, endsD])
theorem s_meniscusref1_MulIv : Ev.Spec Try.prog 99 (F2 cIv cIv cIv Iv.mul) := spec2 (fun vs w => Try.call99 vs w) c_meniscusref1_MulIv

/-! meniscusref1.DivIv -/
theorem t_meniscusref1_DivIv (x0 : Iv) (x1 : Iv) :
    evFn Try.prog (Env.add 110 (F1 cIv cBool Iv.right) (Env.add 111 (F0 cIv Iv.none) (Env.add 133 (F3 cIv cIv cBool cIv endsD) Env.nil))) Laws.nil 200 Try.f102 [cIv.av x0, cIv.av x1] [] cIv.dec =
      .bind (x0.right) fun vb0 =>
      .br (!vb0)
       (
        .bind (Go.Proofs.Ythgpgnijbajlgaa.Iv.none) fun viv1 =>
        .ret (viv1))
       (
        .bind (x1.right) fun vb2 =>
        .br (!vb2)
         (
          .bind (Go.Proofs.Ythgpgnijbajlgaa.Iv.none) fun viv3 =>
          .ret (viv3))
         (
          .br (Decidable.decide (x1.lo ≤ 0))
           (
            .br (Decidable.decide (x1.hi ≥ 0))
             (
              .bind (Go.Proofs.Ythgpgnijbajlgaa.Iv.none) fun viv4 =>
              .ret (viv4))
             (
              .bind (Go.Proofs.Ythgpgnijbajlgaa.endsD x0 x1 Bool.true) fun viv5 =>
              .ret (viv5)))
           (
            .bind (Go.Proofs.Ythgpgnijbajlgaa.endsD x0 x1 Bool.true) fun viv6 =>
            .ret (viv6)))) := by kernel_rfl
theorem c_meniscusref1_DivIv (x0 : Iv) (x1 : Iv) : Plain Try.prog 102 [cIv.enc x0, cIv.enc x1] (cIv.enc (Iv.div x0 x1)) :=
  plain_of_tree (n := 200) (EnvOK.add s_meniscusref1_Right (EnvOK.add s_meniscusref1_None (EnvOK.add s_meniscusref1_ends EnvOK.nil))) Try.func102 (args := [cIv.av x0, cIv.av x1]) (by simp only [AV.vals, Cod.av_val]) (Nat.le_of_ble_eq_true (by kernel_rfl)) LFn.nil cIv (by
    rw [t_meniscusref1_DivIv]
    simp only [den_br, den_bind, den_ret, den_fail, den_inl, den_inr, decide_eq_true_eq]
    grind [Iv.div, Iv.both, Iv.has, endsD])
theorem s_meniscusref1_DivIv : Ev.Spec Try.prog 102 (F2 cIv cIv cIv Iv.div) := spec2 (fun vs w => Try.call102 vs w) c_meniscusref1_DivIv

/-! meniscusref1.Times -/
theorem t_meniscusref1_Times (x0 : Iv) (x1 : Int) :
    evFn Try.prog (Env.add 110 (F1 cIv cBool Iv.right) (Env.add 111 (F0 cIv Iv.none) (Env.add 132 (F2 cInt cInt cIv Iv.of) (Env.add 134 (F1 cInt cBool numIn) Env.nil)))) Laws.nil 200 Try.f103 [cIv.av x0, cInt.av x1] [] cIv.dec =
      .bind (x0.right) fun vb0 =>
      .br (!vb0)
       (
        .bind (Go.Proofs.Ythgpgnijbajlgaa.Iv.none) fun viv1 =>
        .ret (viv1))
       (
        .bind (Go.Proofs.Ythgpgnijbajlgaa.numIn x1) fun vb2 =>
        .br (!vb2)
         (
          .bind (Go.Proofs.Ythgpgnijbajlgaa.Iv.none) fun viv3 =>
          .ret (viv3))
         (
          .bind (Go.Proofs.Ythgpgnijbajlgaa.Iv.of (Min.min (Go.IntKind.i64.wrap (x1 * x0.lo)) (Go.IntKind.i64.wrap (x1 * x0.hi))) (Max.max (Go.IntKind.i64.wrap (x1 * x0.lo)) (Go.IntKind.i64.wrap (x1 * x0.hi)))) fun viv4 =>
          .ret (viv4))) := by kernel_rfl
theorem c_meniscusref1_Times (x0 : Iv) (x1 : Int) : Plain Try.prog 103 [cIv.enc x0, cInt.enc x1] (cIv.enc (Iv.times x0 x1)) :=
  plain_of_tree (n := 200) (EnvOK.add s_meniscusref1_Right (EnvOK.add s_meniscusref1_None (EnvOK.add s_meniscusref1_Of (EnvOK.add s_meniscusref1_In EnvOK.nil)))) Try.func103 (args := [cIv.av x0, cInt.av x1]) (by simp only [AV.vals, Cod.av_val]) (Nat.le_of_ble_eq_true (by kernel_rfl)) LFn.nil cIv (by
    rw [t_meniscusref1_Times]
    simp only [Tr.den, Iv.times]
    cases h0 : x0.right <;> cases h1 : numIn x1 <;> simp
    have b0 := right_bd h0
    have b1 := numIn_iff.1 h1
    have m1 := mul_bd x1 x0.lo h1 (numIn_iff.2 (by omega))
    have m2 := mul_bd x1 x0.hi h1 (numIn_iff.2 (by omega))
    simp (disch := omega) only [IntWalk.i64_in])
theorem s_meniscusref1_Times : Ev.Spec Try.prog 103 (F2 cIv cInt cIv Iv.times) := spec2 (fun vs w => Try.call103 vs w) c_meniscusref1_Times

/-! meniscusref1.Sqr -/
theorem t_meniscusref1_Sqr (x0 : Iv) :
    evFn Try.prog (Env.add 110 (F1 cIv cBool Iv.right) (Env.add 111 (F0 cIv Iv.none) (Env.add 132 (F2 cInt cInt cIv Iv.of) (Env.add 148 (F3 cInt cInt cBool (cTwo cInt cBool) numMul) Env.nil)))) Laws.nil 200 Try.f126 [cIv.av x0] [] cIv.dec =
      .bind (x0.right) fun vb0 =>
      .br (!vb0)
       (
        .bind (Go.Proofs.Ythgpgnijbajlgaa.Iv.none) fun viv1 =>
        .ret (viv1))
       (
        .br (Decidable.decide (x0.lo ≤ 0))
         (
          .br (Decidable.decide (x0.hi ≥ 0))
           (
            .bind (Go.Proofs.Ythgpgnijbajlgaa.numMul 0 0 Bool.false) fun vy2 =>
            .bind (Go.Proofs.Ythgpgnijbajlgaa.numMul (Max.max (Max.max (Max.max x0.lo (Go.IntKind.i64.wrap (0 - x0.lo))) x0.hi) (Go.IntKind.i64.wrap (0 - x0.hi))) (Max.max (Max.max (Max.max x0.lo (Go.IntKind.i64.wrap (0 - x0.lo))) x0.hi) (Go.IntKind.i64.wrap (0 - x0.hi))) Bool.true) fun vy3 =>
            .br (!vy3.snd)
             (
              .bind (Go.Proofs.Ythgpgnijbajlgaa.Iv.none) fun viv4 =>
              .ret (viv4))
             (
              .bind (Go.Proofs.Ythgpgnijbajlgaa.Iv.of vy2.fst vy3.fst) fun viv5 =>
              .ret (viv5)))
           (
            .bind (Go.Proofs.Ythgpgnijbajlgaa.numMul (Min.min (Max.max x0.lo (Go.IntKind.i64.wrap (0 - x0.lo))) (Max.max x0.hi (Go.IntKind.i64.wrap (0 - x0.hi)))) (Min.min (Max.max x0.lo (Go.IntKind.i64.wrap (0 - x0.lo))) (Max.max x0.hi (Go.IntKind.i64.wrap (0 - x0.hi)))) Bool.false) fun vy6 =>
            .bind (Go.Proofs.Ythgpgnijbajlgaa.numMul (Max.max (Max.max (Max.max x0.lo (Go.IntKind.i64.wrap (0 - x0.lo))) x0.hi) (Go.IntKind.i64.wrap (0 - x0.hi))) (Max.max (Max.max (Max.max x0.lo (Go.IntKind.i64.wrap (0 - x0.lo))) x0.hi) (Go.IntKind.i64.wrap (0 - x0.hi))) Bool.true) fun vy7 =>
            .br (!vy7.snd)
             (
              .bind (Go.Proofs.Ythgpgnijbajlgaa.Iv.none) fun viv8 =>
              .ret (viv8))
             (
              .bind (Go.Proofs.Ythgpgnijbajlgaa.Iv.of vy6.fst vy7.fst) fun viv9 =>
              .ret (viv9))))
         (
          .bind (Go.Proofs.Ythgpgnijbajlgaa.numMul (Min.min (Max.max x0.lo (Go.IntKind.i64.wrap (0 - x0.lo))) (Max.max x0.hi (Go.IntKind.i64.wrap (0 - x0.hi)))) (Min.min (Max.max x0.lo (Go.IntKind.i64.wrap (0 - x0.lo))) (Max.max x0.hi (Go.IntKind.i64.wrap (0 - x0.hi)))) Bool.false) fun vy10 =>
          .bind (Go.Proofs.Ythgpgnijbajlgaa.numMul (Max.max (Max.max (Max.max x0.lo (Go.IntKind.i64.wrap (0 - x0.lo))) x0.hi) (Go.IntKind.i64.wrap (0 - x0.hi))) (Max.max (Max.max (Max.max x0.lo (Go.IntKind.i64.wrap (0 - x0.lo))) x0.hi) (Go.IntKind.i64.wrap (0 - x0.hi))) Bool.true) fun vy11 =>
          .br (!vy11.snd)
           (
            .bind (Go.Proofs.Ythgpgnijbajlgaa.Iv.none) fun viv12 =>
            .ret (viv12))
           (
            .bind (Go.Proofs.Ythgpgnijbajlgaa.Iv.of vy10.fst vy11.fst) fun viv13 =>
            .ret (viv13)))) := by kernel_rfl
theorem c_meniscusref1_Sqr (x0 : Iv) : Plain Try.prog 126 [cIv.enc x0] (cIv.enc (Iv.sqr x0)) :=
  plain_of_tree (n := 200) (EnvOK.add s_meniscusref1_Right (EnvOK.add s_meniscusref1_None (EnvOK.add s_meniscusref1_Of (EnvOK.add s_meniscusref1_Mul EnvOK.nil)))) Try.func126 (args := [cIv.av x0]) (by simp only [AV.vals, Cod.av_val]) (Nat.le_of_ble_eq_true (by kernel_rfl)) LFn.nil cIv (by
    rw [t_meniscusref1_Sqr]
    simp only [Iv.sqr]
    cases h0 : x0.right
    · simp [Tr.den]
    have b0 := right_bd h0
    have e1 : IntKind.i64.wrap (-x0.lo) = -x0.lo := wr (by omega)
    have e2 : IntKind.i64.wrap (-x0.hi) = -x0.hi := wr (by omega)
    have f1 : max (max (max x0.lo (-x0.lo)) x0.hi) (-x0.hi) = max (-x0.lo) x0.hi := by omega
    simp only [den_br, den_bind, den_ret, den_fail, decide_eq_true_eq, e1, e2, f1]
    by_cases h1 : x0.lo ≤ 0
    · by_cases h2 : 0 ≤ x0.hi
      · have f2 : max (max x0.lo (-x0.hi)) 0 = 0 := by omega
        simp only [h1, h2, f2]
        grind
      · have f2 : min (max x0.lo (-x0.lo)) (max x0.hi (-x0.hi)) = max (max x0.lo (-x0.hi)) 0 := by omega
        simp only [h1, h2, f2]
        grind
    · have f2 : min (max x0.lo (-x0.lo)) (max x0.hi (-x0.hi)) = max (max x0.lo (-x0.hi)) 0 := by omega
      simp only [h1, f2]
      grind)
theorem s_meniscusref1_Sqr : Ev.Spec Try.prog 126 (F1 cIv cIv Iv.sqr) := spec1 (fun vs w => Try.call126 vs w) c_meniscusref1_Sqr

/-! meniscusref1.RootIv -/
theorem t_meniscusref1_RootIv (x0 : Iv) :
    evFn Try.prog (Env.add 110 (F1 cIv cBool Iv.right) (Env.add 111 (F0 cIv Iv.none) (Env.add 132 (F2 cInt cInt cIv Iv.of) (Env.add 165 (F2 cInt cBool (cTwo cInt cBool) numRoot) Env.nil)))) Laws.nil 200 Try.f149 [cIv.av x0] [] cIv.dec =
      .bind (x0.right) fun vb0 =>
      .br (!vb0)
       (
        .bind (Go.Proofs.Ythgpgnijbajlgaa.Iv.none) fun viv1 =>
        .ret (viv1))
       (
        .br (Decidable.decide (x0.lo < 0))
         (
          .bind (Go.Proofs.Ythgpgnijbajlgaa.Iv.none) fun viv2 =>
          .ret (viv2))
         (
          .bind (Go.Proofs.Ythgpgnijbajlgaa.numRoot x0.lo Bool.false) fun vy3 =>
          .bind (Go.Proofs.Ythgpgnijbajlgaa.numRoot x0.hi Bool.true) fun vy4 =>
          .bind (Go.Proofs.Ythgpgnijbajlgaa.Iv.of vy3.fst vy4.fst) fun viv5 =>
          .ret (viv5))) := by kernel_rfl
theorem c_meniscusref1_RootIv (x0 : Iv) : Plain Try.prog 149 [cIv.enc x0] (cIv.enc (Iv.root x0)) :=
  plain_of_tree (n := 200) (EnvOK.add s_meniscusref1_Right (EnvOK.add s_meniscusref1_None (EnvOK.add s_meniscusref1_Of (EnvOK.add s_meniscusref1_Root EnvOK.nil)))) Try.func149 (args := [cIv.av x0]) (by simp only [AV.vals, Cod.av_val]) (Nat.le_of_ble_eq_true (by kernel_rfl)) LFn.nil cIv (by
    rw [t_meniscusref1_RootIv]
    simp only [den_br, den_bind, den_ret, den_fail, den_inl, den_inr, decide_eq_true_eq]
    grind [Iv.root])
theorem s_meniscusref1_RootIv : Ev.Spec Try.prog 149 (F1 cIv cIv Iv.root) := spec1 (fun vs w => Try.call149 vs w) c_meniscusref1_RootIv

/-! meniscusref1.Meet -/
theorem t_meniscusref1_Meet (x0 : Iv) (x1 : Iv) :
    evFn Try.prog (Env.add 110 (F1 cIv cBool Iv.right) (Env.add 111 (F0 cIv Iv.none) (Env.add 132 (F2 cInt cInt cIv Iv.of) Env.nil))) Laws.nil 200 Try.f117 [cIv.av x0, cIv.av x1] [] cIv.dec =
      .bind (x0.right) fun vb0 =>
      .br (!vb0)
       (
        .bind (Go.Proofs.Ythgpgnijbajlgaa.Iv.none) fun viv1 =>
        .ret (viv1))
       (
        .bind (x1.right) fun vb2 =>
        .br (!vb2)
         (
          .bind (Go.Proofs.Ythgpgnijbajlgaa.Iv.none) fun viv3 =>
          .ret (viv3))
         (
          .bind (Go.Proofs.Ythgpgnijbajlgaa.Iv.of (Max.max x0.lo x1.lo) (Min.min x0.hi x1.hi)) fun viv4 =>
          .ret (viv4))) := by kernel_rfl
theorem c_meniscusref1_Meet (x0 : Iv) (x1 : Iv) : Plain Try.prog 117 [cIv.enc x0, cIv.enc x1] (cIv.enc (Iv.meet x0 x1)) :=
  plain_of_tree (n := 200) (EnvOK.add s_meniscusref1_Right (EnvOK.add s_meniscusref1_None (EnvOK.add s_meniscusref1_Of EnvOK.nil))) Try.func117 (args := [cIv.av x0, cIv.av x1]) (by simp only [AV.vals, Cod.av_val]) (Nat.le_of_ble_eq_true (by kernel_rfl)) LFn.nil cIv (by
    rw [t_meniscusref1_Meet]
    simp only [den_br, den_bind, den_ret, den_fail, den_inl, den_inr, decide_eq_true_eq]
    grind [Iv.meet, Iv.both])
theorem s_meniscusref1_Meet : Ev.Spec Try.prog 117 (F2 cIv cIv cIv Iv.meet) := spec2 (fun vs w => Try.call117 vs w) c_meniscusref1_Meet

/-! meniscusref1.Mid -/
theorem t_meniscusref1_Mid (x0 : Iv) :
    evFn Try.prog (Env.add 110 (F1 cIv cBool Iv.right) (Env.add 135 (F2p cInt cInt cInt flOk fl) Env.nil)) Laws.nil 200 Try.f113 [cIv.av x0] [] cInt.dec =
      .bind (x0.right) fun vb0 =>
      .br (!vb0)
       (
        .ret (0))
       (
        .br (Go.Proofs.Ythgpgnijbajlgaa.flOk (Go.IntKind.i64.wrap (x0.lo + x0.hi)) 2)
         (
          .bind (Go.Proofs.Ythgpgnijbajlgaa.fl (Go.IntKind.i64.wrap (x0.lo + x0.hi)) 2) fun vn1 =>
          .ret (vn1))
         (
          .fail)) := by kernel_rfl
theorem c_meniscusref1_Mid (x0 : Iv) : Plain Try.prog 113 [cIv.enc x0] (cInt.enc (Iv.mid x0)) :=
  plain_of_tree (n := 200) (EnvOK.add s_meniscusref1_Right (EnvOK.add s_meniscusref1_Floor EnvOK.nil)) Try.func113 (args := [cIv.av x0]) (by simp only [AV.vals, Cod.av_val]) (Nat.le_of_ble_eq_true (by kernel_rfl)) LFn.nil cInt (by
    rw [t_meniscusref1_Mid]
    simp only [den_br, den_bind, den_ret, den_fail, den_inl, den_inr, decide_eq_true_eq]
    simp only [Iv.mid]
    cases h0 : x0.right
    · simp
    have b0 := right_bd h0
    have e1 : IntKind.i64.wrap (x0.lo + x0.hi) = x0.lo + x0.hi := wr (by omega)
    have c1 : flOk (x0.lo + x0.hi) 2 = true := by simp [flOk]; omega
    simp only [e1, c1, if_true]
    simp [fl])
theorem s_meniscusref1_Mid : Ev.Spec Try.prog 113 (F1 cIv cInt Iv.mid) := spec1 (fun vs w => Try.call113 vs w) c_meniscusref1_Mid

/-! meniscusref1.Has -/
theorem t_meniscusref1_Has (x0 : Iv) (x1 : Int) :
    evFn Try.prog (Env.add 110 (F1 cIv cBool Iv.right) Env.nil) Laws.nil 200 Try.f138 [cIv.av x0, cInt.av x1] [] cBool.dec =
      .bind (x0.right) fun vb0 =>
      .br (vb0)
       (
        .br (Decidable.decide (x0.lo ≤ x1))
         (
          .ret (Decidable.decide (x1 ≤ x0.hi)))
         (
          .ret (Bool.false)))
       (
        .ret (Bool.false)) := by kernel_rfl
theorem c_meniscusref1_Has (x0 : Iv) (x1 : Int) : Plain Try.prog 138 [cIv.enc x0, cInt.enc x1] (cBool.enc (Iv.has x0 x1)) :=
  plain_of_tree (n := 200) (EnvOK.add s_meniscusref1_Right EnvOK.nil) Try.func138 (args := [cIv.av x0, cInt.av x1]) (by simp only [AV.vals, Cod.av_val]) (Nat.le_of_ble_eq_true (by kernel_rfl)) LFn.nil cBool (by
    rw [t_meniscusref1_Has]
    simp only [den_br, den_bind, den_ret, den_fail, den_inl, den_inr, decide_eq_true_eq]
    grind [Iv.has])
theorem s_meniscusref1_Has : Ev.Spec Try.prog 138 (F2 cIv cInt cBool Iv.has) := spec2 (fun vs w => Try.call138 vs w) c_meniscusref1_Has

/-! meniscusref1.Split -/
theorem t_meniscusref1_Split (x0 : Iv) :
    evFn Try.prog (Env.add 110 (F1 cIv cBool Iv.right) (Env.add 111 (F0 cIv Iv.none) (Env.add 113 (F1 cIv cInt Iv.mid) (Env.add 132 (F2 cInt cInt cIv Iv.of) Env.nil)))) Laws.nil 200 Try.f115 [cIv.av x0] [] (cTwo cIv cIv).dec =
      .bind (x0.right) fun vb0 =>
      .br (!vb0)
       (
        .bind (Go.Proofs.Ythgpgnijbajlgaa.Iv.none) fun viv1 =>
        .bind (Go.Proofs.Ythgpgnijbajlgaa.Iv.none) fun viv2 =>
        .ret ((viv1, viv2)))
       (
        .bind (x0.mid) fun vn3 =>
        .bind (Go.Proofs.Ythgpgnijbajlgaa.Iv.of x0.lo vn3) fun viv4 =>
        .bind (x0.mid) fun vn5 =>
        .bind (Go.Proofs.Ythgpgnijbajlgaa.Iv.of vn5 x0.hi) fun viv6 =>
        .ret ((viv4, viv6))) := by kernel_rfl
theorem c_meniscusref1_Split (x0 : Iv) : Plain Try.prog 115 [cIv.enc x0] ((cTwo cIv cIv).enc (Iv.split x0)) :=
  plain_of_tree (n := 200) (EnvOK.add s_meniscusref1_Right (EnvOK.add s_meniscusref1_None (EnvOK.add s_meniscusref1_Mid (EnvOK.add s_meniscusref1_Of EnvOK.nil)))) Try.func115 (args := [cIv.av x0]) (by simp only [AV.vals, Cod.av_val]) (Nat.le_of_ble_eq_true (by kernel_rfl)) LFn.nil (cTwo cIv cIv) (by
    rw [t_meniscusref1_Split]
    simp only [den_br, den_bind, den_ret, den_fail, den_inl, den_inr, decide_eq_true_eq]
    grind [Iv.split])
theorem s_meniscusref1_Split : Ev.Spec Try.prog 115 (F1 cIv (cTwo cIv cIv) Iv.split) := spec1 (fun vs w => Try.call115 vs w) c_meniscusref1_Split

/-! meniscusref1.AddV -/
theorem t_meniscusref1_AddV (x0 : V) (x1 : V) :
    evFn Try.prog (Env.add 100 (F2 cIv cIv cIv Iv.add) Env.nil) Laws.nil 200 Try.f152 [cV.av x0, cV.av x1] [] cV.dec =
      .bind (x0.x.add x1.x) fun viv0 =>
      .bind (x0.y.add x1.y) fun viv1 =>
      .bind (x0.z.add x1.z) fun viv2 =>
      .ret (Go.Proofs.Ythgpgnijbajlgaa.V.mk viv0 viv1 viv2) := by kernel_rfl
theorem c_meniscusref1_AddV (x0 : V) (x1 : V) : Plain Try.prog 152 [cV.enc x0, cV.enc x1] (cV.enc (V.add x0 x1)) :=
  plain_of_tree (n := 200) (EnvOK.add s_meniscusref1_Add EnvOK.nil) Try.func152 (args := [cV.av x0, cV.av x1]) (by simp only [AV.vals, Cod.av_val]) (Nat.le_of_ble_eq_true (by kernel_rfl)) LFn.nil cV (by
    rw [t_meniscusref1_AddV]
    rfl)
theorem s_meniscusref1_AddV : Ev.Spec Try.prog 152 (F2 cV cV cV V.add) := spec2 (fun vs w => Try.call152 vs w) c_meniscusref1_AddV

/-! meniscusref1.Scale -/
theorem t_meniscusref1_Scale (x0 : V) (x1 : Iv) :
    evFn Try.prog (Env.add 99 (F2 cIv cIv cIv Iv.mul) Env.nil) Laws.nil 200 Try.f153 [cV.av x0, cIv.av x1] [] cV.dec =
      .bind (x0.x.mul x1) fun viv0 =>
      .bind (x0.y.mul x1) fun viv1 =>
      .bind (x0.z.mul x1) fun viv2 =>
      .ret (Go.Proofs.Ythgpgnijbajlgaa.V.mk viv0 viv1 viv2) := by kernel_rfl
theorem c_meniscusref1_Scale (x0 : V) (x1 : Iv) : Plain Try.prog 153 [cV.enc x0, cIv.enc x1] (cV.enc (V.scale x0 x1)) :=
  plain_of_tree (n := 200) (EnvOK.add s_meniscusref1_MulIv EnvOK.nil) Try.func153 (args := [cV.av x0, cIv.av x1]) (by simp only [AV.vals, Cod.av_val]) (Nat.le_of_ble_eq_true (by kernel_rfl)) LFn.nil cV (by
    rw [t_meniscusref1_Scale]
    rfl)
theorem s_meniscusref1_Scale : Ev.Spec Try.prog 153 (F2 cV cIv cV V.scale) := spec2 (fun vs w => Try.call153 vs w) c_meniscusref1_Scale

/-! meniscusref1.Along -/
theorem t_meniscusref1_Along (x0 : Ray) (x1 : Iv) :
    evFn Try.prog (Env.add 152 (F2 cV cV cV V.add) (Env.add 153 (F2 cV cIv cV V.scale) Env.nil)) Laws.nil 200 Try.f136 [cRay.av x0, cIv.av x1] [] cV.dec =
      .bind (x0.d.scale x1) fun vv0 =>
      .bind (x0.o.add vv0) fun vv1 =>
      .ret (vv1) := by kernel_rfl
theorem c_meniscusref1_Along (x0 : Ray) (x1 : Iv) : Plain Try.prog 136 [cRay.enc x0, cIv.enc x1] (cV.enc (along x0 x1)) :=
  plain_of_tree (n := 200) (EnvOK.add s_meniscusref1_AddV (EnvOK.add s_meniscusref1_Scale EnvOK.nil)) Try.func136 (args := [cRay.av x0, cIv.av x1]) (by simp only [AV.vals, Cod.av_val]) (Nat.le_of_ble_eq_true (by kernel_rfl)) LFn.nil cV (by
    rw [t_meniscusref1_Along]
    rfl)
theorem s_meniscusref1_Along : Ev.Spec Try.prog 136 (F2 cRay cIv cV along) := spec2 (fun vs w => Try.call136 vs w) c_meniscusref1_Along

/-! meniscusref8.Within -/
theorem t_meniscusref8_Within (x0 : Int) (x1 : Int) (x2 : Int) :
    evFn Try.prog Env.nil Laws.nil 200 Try.f81 [cInt.av x0, cInt.av x1, cInt.av x2] [] cInt.dec =
      .ret (Max.max x1 (Min.min x2 x0)) := by kernel_rfl
theorem c_meniscusref8_Within (x0 : Int) (x1 : Int) (x2 : Int) : Plain Try.prog 81 [cInt.enc x0, cInt.enc x1, cInt.enc x2] (cInt.enc (within x0 x1 x2)) :=
  plain_of_tree (n := 200) EnvOK.nil Try.func81 (args := [cInt.av x0, cInt.av x1, cInt.av x2]) (by simp only [AV.vals, Cod.av_val]) (Nat.le_of_ble_eq_true (by kernel_rfl)) LFn.nil cInt (by
    rw [t_meniscusref8_Within]
    rfl)
theorem s_meniscusref8_Within : Ev.Spec Try.prog 81 (F3 cInt cInt cInt cInt within) := spec3 (fun vs w => Try.call81 vs w) c_meniscusref8_Within

/-! meniscushand.Wide -/
theorem t_meniscushand_Wide (x0 : Int) (x1 : Int) :
    evFn Try.prog (Env.add 81 (F3 cInt cInt cInt cInt within) Env.nil) Laws.nil 200 Try.f51 [cInt.av x0, cInt.av x1] [] cIv.dec =
      .bind (Go.Proofs.Ythgpgnijbajlgaa.within x0 (-1073741824) 1073741824) fun vn0 =>
      .ret (Go.Proofs.Ythgpgnijbajlgaa.Iv.mk vn0 (Min.min 1073741824 (Go.IntKind.i64.wrap (vn0 + x1))) Bool.false) := by kernel_rfl
theorem c_meniscushand_Wide (x0 : Int) (x1 : Int) : Plain Try.prog 51 [cInt.enc x0, cInt.enc x1] (cIv.enc (wide x0 x1)) :=
  plain_of_tree (n := 200) (EnvOK.add s_meniscusref8_Within EnvOK.nil) Try.func51 (args := [cInt.av x0, cInt.av x1]) (by simp only [AV.vals, Cod.av_val]) (Nat.le_of_ble_eq_true (by kernel_rfl)) LFn.nil cIv (by
    rw [t_meniscushand_Wide]
    rfl)
theorem s_meniscushand_Wide : Ev.Spec Try.prog 51 (F2 cInt cInt cIv wide) := spec2 (fun vs w => Try.call51 vs w) c_meniscushand_Wide

/-! meniscushand.Num -/
theorem t_meniscushand_Num (x0 : Int) :
    evFn Try.prog (Env.add 22 (F2p cInt cInt cInt pickOk pick) Env.nil) Laws.nil 200 Try.f105 [cInt.av x0] [] cInt.dec =
      .br (Go.Proofs.Ythgpgnijbajlgaa.pickOk x0 9)
       (
        .bind (Go.Proofs.Ythgpgnijbajlgaa.pick x0 9) fun vn0 =>
        .br (vn0 == 0)
         (
          .ret (x0))
         (
          .br (vn0 == 1)
           (
            .br (Go.Proofs.Ythgpgnijbajlgaa.pickOk (Go.IntKind.i64.wrap (x0.tdiv 9)) 201)
             (
              .bind (Go.Proofs.Ythgpgnijbajlgaa.pick (Go.IntKind.i64.wrap (x0.tdiv 9)) 201) fun vn1 =>
              .ret (Go.IntKind.i64.wrap (Go.IntKind.i64.wrap (vn1 - 100) * 65536)))
             (
              .fail))
           (
            .br (vn0 == 2)
             (
              .br (Go.Proofs.Ythgpgnijbajlgaa.pickOk (Go.IntKind.i64.wrap (x0.tdiv 9)) 9)
               (
                .bind (Go.Proofs.Ythgpgnijbajlgaa.pick (Go.IntKind.i64.wrap (x0.tdiv 9)) 9) fun vn2 =>
                .ret (Go.IntKind.i64.wrap (vn2 - 4)))
               (
                .fail))
             (
              .br (vn0 == 3)
               (
                .br (Go.Proofs.Ythgpgnijbajlgaa.pickOk (Go.IntKind.i64.wrap (x0.tdiv 9)) 2147483657)
                 (
                  .bind (Go.Proofs.Ythgpgnijbajlgaa.pick (Go.IntKind.i64.wrap (x0.tdiv 9)) 2147483657) fun vn3 =>
                  .ret (Go.IntKind.i64.wrap (Go.IntKind.i64.wrap (vn3 - 1073741824) - 4)))
                 (
                  .fail))
               (
                .br (Go.Proofs.Ythgpgnijbajlgaa.pickOk (Go.IntKind.i64.wrap (x0.tdiv 9)) 2621440)
                 (
                  .bind (Go.Proofs.Ythgpgnijbajlgaa.pick (Go.IntKind.i64.wrap (x0.tdiv 9)) 2621440) fun vn4 =>
                  .ret (Go.IntKind.i64.wrap (vn4 - 1310720)))
                 (
                  .fail))))))
       (
        .fail) := by kernel_rfl
theorem c_meniscushand_Num (x0 : Int) : Plain Try.prog 105 [cInt.enc x0] (cInt.enc (num x0)) :=
  plain_of_tree (n := 200) (EnvOK.add s_meniscushand_Pick EnvOK.nil) Try.func105 (args := [cInt.av x0]) (by simp only [AV.vals, Cod.av_val]) (Nat.le_of_ble_eq_true (by kernel_rfl)) LFn.nil cInt (by
    rw [t_meniscushand_Num]
    have b1 := pick_bd (dv x0 9) (m := 201) (by decide)
    have b2 := pick_bd (dv x0 9) (m := 9) (by decide)
    have b3 := pick_bd (dv x0 9) (m := 2147483657) (by decide)
    have b4 := pick_bd (dv x0 9) (m := 2621440) (by decide)
    simp only [Tr.den, dv_eq, num]
    simp (disch := omega) only [IntWalk.i64_in]
    grind [pickOk])
theorem s_meniscushand_Num : Ev.Spec Try.prog 105 (F1 cInt cInt num) := spec1 (fun vs w => Try.call105 vs w) c_meniscushand_Num

/-! meniscushand.Iv -/
theorem t_meniscushand_Iv (x0 : Int) (x1 : Int) :
    evFn Try.prog (Env.add 22 (F2p cInt cInt cInt pickOk pick) (Env.add 51 (F2 cInt cInt cIv wide) (Env.add 105 (F1 cInt cInt num) Env.nil))) Laws.nil 200 Try.f52 [cInt.av x0, cInt.av x1] [] cIv.dec =
      .bind (Go.Proofs.Ythgpgnijbajlgaa.num x0) fun vn0 =>
      .br (Go.Proofs.Ythgpgnijbajlgaa.pickOk x1 12)
       (
        .bind (Go.Proofs.Ythgpgnijbajlgaa.pick x1 12) fun vn1 =>
        .br (vn1 == 0)
         (
          .bind (Go.Proofs.Ythgpgnijbajlgaa.num (Go.IntKind.i64.wrap (x1.tdiv 12))) fun vn2 =>
          .ret (Go.Proofs.Ythgpgnijbajlgaa.Iv.mk vn0 vn2 Bool.false))
         (
          .br (vn1 == 1)
           (
            .br (Go.Proofs.Ythgpgnijbajlgaa.pickOk (Go.IntKind.i64.wrap (x1.tdiv 12)) 5)
             (
              .bind (Go.Proofs.Ythgpgnijbajlgaa.pick (Go.IntKind.i64.wrap (x1.tdiv 12)) 5) fun vn3 =>
              .ret (Go.Proofs.Ythgpgnijbajlgaa.Iv.mk vn0 vn0 (vn3 == 4)))
             (
              .fail))
           (
            .br (vn1 == 2)
             (
              .ret (Go.Proofs.Ythgpgnijbajlgaa.Iv.mk vn0 vn0 Bool.false))
             (
              .br (vn1 == 3)
               (
                .ret (Go.Proofs.Ythgpgnijbajlgaa.Iv.mk vn0 vn0 Bool.false))
               (
                .br (Go.Proofs.Ythgpgnijbajlgaa.pickOk (Go.IntKind.i64.wrap (x1.tdiv 12)) 9000)
                 (
                  .bind (Go.Proofs.Ythgpgnijbajlgaa.pick (Go.IntKind.i64.wrap (x1.tdiv 12)) 9000) fun vn4 =>
                  .bind (Go.Proofs.Ythgpgnijbajlgaa.wide vn0 vn4) fun viv5 =>
                  .ret (viv5))
                 (
                  .fail))))))
       (
        .fail) := by kernel_rfl
theorem c_meniscushand_Iv (x0 : Int) (x1 : Int) : Plain Try.prog 52 [cInt.enc x0, cInt.enc x1] (cIv.enc (rawIv x0 x1)) :=
  plain_of_tree (n := 200) (EnvOK.add s_meniscushand_Pick (EnvOK.add s_meniscushand_Wide (EnvOK.add s_meniscushand_Num EnvOK.nil))) Try.func52 (args := [cInt.av x0, cInt.av x1]) (by simp only [AV.vals, Cod.av_val]) (Nat.le_of_ble_eq_true (by kernel_rfl)) LFn.nil cIv (by
    rw [t_meniscushand_Iv]
    simp only [Tr.den, dv_eq, rawIv]
    grind [pickOk])
theorem s_meniscushand_Iv : Ev.Spec Try.prog 52 (F2 cInt cInt cIv rawIv) := spec2 (fun vs w => Try.call52 vs w) c_meniscushand_Iv

/-! meniscuslaw7.NewtonWhole$1 -/
theorem t_meniscuslaw7_NewtonWhole_1 (t0 : Iv) (r0 : Int) (r1 : Int) :
    evFn Try.prog (Env.add 40 (F2 cIv cIv cIv Iv.sub) (Env.add 46 (F1 cInt cIv Iv.whole) (Env.add 62 (F2 cIv cInt cIv Iv.times) Env.nil))) Laws.nil 200 Try.f61 (((sc 3 [0, 1, 2] (tCod 0 cIv (tOwn 1 0 (tOwn 2 1 tNil))) (rRo ccInt ccInt_ok (rRo ccInt ccInt_ok rNil))).enc ((t0, ()), (r0, r1, ()))).tmps.map Prod.snd) ((sc 3 [0, 1, 2] (tCod 0 cIv (tOwn 1 0 (tOwn 2 1 tNil))) (rRo ccInt ccInt_ok (rRo ccInt ccInt_ok rNil))).enc ((t0, ()), (r0, r1, ()))).mem (cTwo cIv cIv).dec =
      .bind (Go.Proofs.Ythgpgnijbajlgaa.Iv.whole r0) fun viv0 =>
      .bind (t0.sub viv0) fun viv1 =>
      .bind (viv1.times r1) fun viv2 =>
      .bind (Go.Proofs.Ythgpgnijbajlgaa.Iv.whole r1) fun viv3 =>
      .ret ((viv2, viv3)) := by kernel_rfl
theorem c_meniscuslaw7_NewtonWhole_1 : PlainS Try.prog 61 (sc 3 [0, 1, 2] (tCod 0 cIv (tOwn 1 0 (tOwn 2 1 tNil))) (rRo ccInt ccInt_ok (rRo ccInt ccInt_ok rNil))) (cTwo cIv cIv) (fun _ => true) ((fun x => (fun (c : Int × Int × Unit) => wholeF c.1 c.2.1) x.2 x.1.1)) := by
  intro x h N w vs hM hv
  obtain ⟨⟨t0, ⟨⟩⟩, ⟨r0, r1, ⟨⟩⟩⟩ := x
  refine calls_of_tree (n := 200) (EnvOK.add s_iv_Sub (EnvOK.add s_iv_Whole (EnvOK.add s_iv_Times EnvOK.nil))) Try.func61 hv (Nat.le_of_ble_eq_true (by kernel_rfl)) LFn.nil hM (cTwo cIv cIv) ?_
  rw [t_meniscuslaw7_NewtonWhole_1]
  rfl
theorem s_meniscuslaw7_NewtonWhole_1 : Ev.Spec Try.prog 61 (FS (sc 3 [0, 1, 2] (tCod 0 cIv (tOwn 1 0 (tOwn 2 1 tNil))) (rRo ccInt ccInt_ok (rRo ccInt ccInt_ok rNil))) (cTwo cIv cIv) (fun _ => true) ((fun x => (fun (c : Int × Int × Unit) => wholeF c.1 c.2.1) x.2 x.1.1))) := specS rfl (fun vs w => Try.call61 vs w) c_meniscuslaw7_NewtonWhole_1

/-! newton.without -/
theorem t_newton_without_whole (t1 : Iv) (r0 : Int) (r1 : Int) :
    evFn Try.prog (Env.add 63 (F2 cIv cInt cBool Iv.has) (Env.add 91 (F1 cIv cBool Iv.right) (Env.add 61 (FS (sc 3 [0, 1, 2] (tCod 0 cIv (tOwn 1 0 (tOwn 2 1 tNil))) (rRo ccInt ccInt_ok (rRo ccInt ccInt_ok rNil))) (cTwo cIv cIv) (fun _ => true) ((fun x => (fun (c : Int × Int × Unit) => wholeF c.1 c.2.1) x.2 x.1.1))) Env.nil))) Laws.nil 200 Try.f109 (((sc 2 [0, 1] (tClo 0 61 [0,1] (tCod 1 cIv tNil)) (rRo ccInt ccInt_ok (rRo ccInt ccInt_ok rNil))).enc ((t1, ()), (r0, r1, ()))).tmps.map Prod.snd) ((sc 2 [0, 1] (tClo 0 61 [0,1] (tCod 1 cIv tNil)) (rRo ccInt ccInt_ok (rRo ccInt ccInt_ok rNil))).enc ((t1, ()), (r0, r1, ()))).mem cBool.dec =
      .br (Bool.true)
       (
        .bind (Go.Proofs.Ythgpgnijbajlgaa.wholeF r0 r1 t1) fun vy0 =>
        .bind (vy0.fst.right) fun vb1 =>
        .br (vb1)
         (
          .bind (vy0.fst.has 0) fun vb2 =>
          .ret (!vb2))
         (
          .ret (Bool.false)))
       (
        .fail) := by kernel_rfl
theorem c_newton_without_whole : PlainS Try.prog 109 (sc 2 [0, 1] (tClo 0 61 [0,1] (tCod 1 cIv tNil)) (rRo ccInt ccInt_ok (rRo ccInt ccInt_ok rNil))) cBool (fun _ => true) ((fun x => without ((fun (c : Int × Int × Unit) => wholeF c.1 c.2.1) x.2) x.1.1)) := by
  intro x h N w vs hM hv
  obtain ⟨⟨t1, ⟨⟩⟩, ⟨r0, r1, ⟨⟩⟩⟩ := x
  refine calls_of_tree (n := 200) (EnvOK.add s_iv_Has (EnvOK.add s_iv_Right (EnvOK.add s_meniscuslaw7_NewtonWhole_1 EnvOK.nil))) Try.func109 hv (Nat.le_of_ble_eq_true (by kernel_rfl)) LFn.nil hM cBool ?_
  rw [t_newton_without_whole]
  simp only [den_br, den_bind, den_ret, den_fail, den_inl, den_inr, decide_eq_true_eq]
  simp only [without]
  grind
theorem s_newton_without_whole : Ev.Spec Try.prog 109 (FS (sc 2 [0, 1] (tClo 0 61 [0,1] (tCod 1 cIv tNil)) (rRo ccInt ccInt_ok (rRo ccInt ccInt_ok rNil))) cBool (fun _ => true) ((fun x => without ((fun (c : Int × Int × Unit) => wholeF c.1 c.2.1) x.2) x.1.1))) := specS rfl (fun vs w => Try.call109 vs w) c_newton_without_whole
end Go.Proofs.Ythgpgnijbajlgaa
