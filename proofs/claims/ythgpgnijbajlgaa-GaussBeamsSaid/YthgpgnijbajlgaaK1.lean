/-
  Contracts of calls, written by a small program of this session out of the evaluator's trees.
-/
import Derived.Test.YthgpgnijbajlgaaCore
import Derived.Test.YthgpgnijbajlgaaCoreLoops
import Derived.Test.YthgpgnijbajlgaaCore2
import Derived.Test.YthgpgnijbajlgaaCore3
import Derived.Test.YthgpgnijbajlgaaCore4
import Derived.Test.YthgpgnijbajlgaaEvCod
import Derived.Test.YthgpgnijbajlgaaEvRet
import Derived.Test.YthgpgnijbajlgaaProg
import Derived.Test.YthgpgnijbajlgaaK0
namespace Go.Proofs.Ythgpgnijbajlgaa
open Go Go.RowKit Ev
set_option maxRecDepth 100000
set_option linter.unusedVariables false
set_option linter.unusedSimpArgs false

/-! meniscusref1.Neg -/
theorem t_meniscusref1_Neg (x0 : Iv) :
    evFn Try.prog (Env.add 110 (F1 cIv cBool Iv.right) (Env.add 111 (F0 cIv Iv.none) (Env.add 132 (F2 cInt cInt cIv Iv.of) Env.nil))) Laws.nil 200 Try.f101 [cIv.av x0] [] cIv.dec =
      .bind (x0.right) fun vb0 =>
      .br (!vb0)
       (
        .bind (Go.Proofs.Ythgpgnijbajlgaa.Iv.none) fun viv1 =>
        .ret (viv1))
       (
        .bind (Go.Proofs.Ythgpgnijbajlgaa.Iv.of (Go.IntKind.i64.wrap (0 - x0.hi)) (Go.IntKind.i64.wrap (0 - x0.lo))) fun viv2 =>
        .ret (viv2)) := by kernel_rfl
theorem c_meniscusref1_Neg (x0 : Iv) : Plain Try.prog 101 [cIv.enc x0] (cIv.enc (Iv.neg x0)) :=
  plain_of_tree (n := 200) (EnvOK.add s_meniscusref1_Right (EnvOK.add s_meniscusref1_None (EnvOK.add s_meniscusref1_Of EnvOK.nil))) Try.func101 (args := [cIv.av x0]) (by simp only [AV.vals, Cod.av_val]) (Nat.le_of_ble_eq_true (by kernel_rfl)) LFn.nil cIv (by
    rw [t_meniscusref1_Neg]
    simp only [Tr.den, Iv.neg]
    cases h0 : x0.right <;> simp
    have b0 := right_bd h0
    simp (disch := omega) only [IntWalk.i64_in])
theorem s_meniscusref1_Neg : Ev.Spec Try.prog 101 (F1 cIv cIv Iv.neg) := spec1 (fun vs w => Try.call101 vs w) c_meniscusref1_Neg

/-! meniscusref1.Sub -/
theorem t_meniscusref1_Sub (x0 : Iv) (x1 : Iv) :
    evFn Try.prog (Env.add 110 (F1 cIv cBool Iv.right) (Env.add 111 (F0 cIv Iv.none) (Env.add 132 (F2 cInt cInt cIv Iv.of) Env.nil))) Laws.nil 200 Try.f98 [cIv.av x0, cIv.av x1] [] cIv.dec =
      .bind (x0.right) fun vb0 =>
      .br (!vb0)
       (
        .bind (Go.Proofs.Ythgpgnijbajlgaa.Iv.none) fun viv1 =>
        .ret (viv1))
       (
        .bind (x1.right) fun vb2 =>
        .br (!vb2)
         (
          .bind (Go.Proofs.Ythgpgnijbajlgaa.Iv.none) fun viv3 =>
          .ret (viv3))
         (
          .bind (Go.Proofs.Ythgpgnijbajlgaa.Iv.of (Go.IntKind.i64.wrap (x0.lo - x1.hi)) (Go.IntKind.i64.wrap (x0.hi - x1.lo))) fun viv4 =>
          .ret (viv4))) := by kernel_rfl
theorem c_meniscusref1_Sub (x0 : Iv) (x1 : Iv) : Plain Try.prog 98 [cIv.enc x0, cIv.enc x1] (cIv.enc (Iv.sub x0 x1)) :=
  plain_of_tree (n := 200) (EnvOK.add s_meniscusref1_Right (EnvOK.add s_meniscusref1_None (EnvOK.add s_meniscusref1_Of EnvOK.nil))) Try.func98 (args := [cIv.av x0, cIv.av x1]) (by simp only [AV.vals, Cod.av_val]) (Nat.le_of_ble_eq_true (by kernel_rfl)) LFn.nil cIv (by
    rw [t_meniscusref1_Sub]
    simp only [den_br, den_bind, den_ret, den_fail, den_inl, den_inr, decide_eq_true_eq]
    by_cases h0 : x0.right = true <;> by_cases h1 : x1.right = true <;> simp [sub_eq, Iv.both, h0, h1]
    have b0 := right_bd h0
    have b1 := right_bd h1
    simp (disch := omega) only [IntWalk.i64_in])
theorem s_meniscusref1_Sub : Ev.Spec Try.prog 98 (F2 cIv cIv cIv Iv.sub) := spec2 (fun vs w => Try.call98 vs w) c_meniscusref1_Sub

/-! meniscusref1.ends -/
theorem tl_meniscusref1_ends_4 (t2 : Bool) (t7 : Int) (t8 : Int) (t9 : Int) (r0 : Iv) (r1 : Iv) (r2 : Iv) :
    ev Try.prog (Env.add 111 (F0 cIv Iv.none) (Env.add 132 (F2 cInt cInt cIv Iv.of) (Env.add 148 (F3 cInt cInt cBool (cTwo cInt cBool) numMul) (Env.add 151 (F3 cInt cInt cBool (cTwo cInt cBool) numDiv) Env.nil)))) Laws.nil 200 none (loopAt Try.f133 4) ((sc 85 [2, 7, 8, 9, 3, 4, 6] (tCod 2 cBool (tCod 7 cInt (tCod 8 cInt (tCod 9 cInt (tOwn 3 0 (tOwn 4 1 (tOwn 6 2 tNil))))))) (rBox ccIv ccIv_ok (rBox ccIv ccIv_ok (rBox ccIv ccIv_ok rNil)))).enc ((t2, t7, t8, t9, ()), (r0, r1, r2, ()))) (backK (sc 85 [2, 7, 8, 9, 3, 4, 6] (tCod 2 cBool (tCod 7 cInt (tCod 8 cInt (tCod 9 cInt (tOwn 3 0 (tOwn 4 1 (tOwn 6 2 tNil))))))) (rBox ccIv ccIv_ok (rBox ccIv ccIv_ok (rBox ccIv ccIv_ok rNil)))) (ocOr (ocExit 0 (sc 85 [7, 8, 6] (tCod 7 cInt (tCod 8 cInt (tOwn 6 0 tNil))) (rBox ccIv ccIv_ok rNil))) (ocRet (sc 85 [6] (tOwn 6 0 tNil) (rBox ccIv ccIv_ok rNil))))) =
      .br (Decidable.decide (t9 < 4))
       (
        .br (t9.tmod 2 == 1)
         (
          .br (Go.IntKind.i64.wrap (t9.tdiv 2) == 1)
           (
            .bind (Go.Proofs.Ythgpgnijbajlgaa.numMul r0.hi r1.hi Bool.false) fun vy0 =>
            .bind (Go.Proofs.Ythgpgnijbajlgaa.numMul r0.hi r1.hi Bool.true) fun vy1 =>
            .br (t2)
             (
              .bind (Go.Proofs.Ythgpgnijbajlgaa.numDiv r0.hi r1.hi Bool.false) fun vy2 =>
              .bind (Go.Proofs.Ythgpgnijbajlgaa.numDiv r0.hi r1.hi Bool.true) fun vy3 =>
              .br (!vy2.snd)
               (
                .bind (Go.Proofs.Ythgpgnijbajlgaa.Iv.none) fun viv4 =>
                .ret (Sum.inr (Sum.inr ((), viv4, ()))))
               (
                .br (!vy3.snd)
                 (
                  .bind (Go.Proofs.Ythgpgnijbajlgaa.Iv.none) fun viv5 =>
                  .ret (Sum.inr (Sum.inr ((), viv5, ()))))
                 (
                  .br (t9 == 0)
                   (
                    .br (t9 == 0)
                     (
                      .ret (Sum.inl ((t2, vy2.fst, vy3.fst, Go.IntKind.i64.wrap (t9 + 1), ()), r0, r1, r2, ())))
                     (
                      .br (Decidable.decide (vy3.fst > t8))
                       (
                        .ret (Sum.inl ((t2, vy2.fst, vy3.fst, Go.IntKind.i64.wrap (t9 + 1), ()), r0, r1, r2, ())))
                       (
                        .ret (Sum.inl ((t2, vy2.fst, t8, Go.IntKind.i64.wrap (t9 + 1), ()), r0, r1, r2, ())))))
                   (
                    .br (Decidable.decide (vy2.fst < t7))
                     (
                      .br (t9 == 0)
                       (
                        .ret (Sum.inl ((t2, vy2.fst, vy3.fst, Go.IntKind.i64.wrap (t9 + 1), ()), r0, r1, r2, ())))
                       (
                        .br (Decidable.decide (vy3.fst > t8))
                         (
                          .ret (Sum.inl ((t2, vy2.fst, vy3.fst, Go.IntKind.i64.wrap (t9 + 1), ()), r0, r1, r2, ())))
                         (
                          .ret (Sum.inl ((t2, vy2.fst, t8, Go.IntKind.i64.wrap (t9 + 1), ()), r0, r1, r2, ())))))
                     (
                      .br (t9 == 0)
                       (
                        .ret (Sum.inl ((t2, t7, vy3.fst, Go.IntKind.i64.wrap (t9 + 1), ()), r0, r1, r2, ())))
                       (
                        .br (Decidable.decide (vy3.fst > t8))
                         (
                          .ret (Sum.inl ((t2, t7, vy3.fst, Go.IntKind.i64.wrap (t9 + 1), ()), r0, r1, r2, ())))
                         (
                          .ret (Sum.inl ((t2, t7, t8, Go.IntKind.i64.wrap (t9 + 1), ()), r0, r1, r2, ())))))))))
             (
              .br (!vy0.snd)
               (
                .bind (Go.Proofs.Ythgpgnijbajlgaa.Iv.none) fun viv6 =>
                .ret (Sum.inr (Sum.inr ((), viv6, ()))))
               (
                .br (!vy1.snd)
                 (
                  .bind (Go.Proofs.Ythgpgnijbajlgaa.Iv.none) fun viv7 =>
                  .ret (Sum.inr (Sum.inr ((), viv7, ()))))
                 (
                  .br (t9 == 0)
                   (
                    .br (t9 == 0)
                     (
                      .ret (Sum.inl ((t2, vy0.fst, vy1.fst, Go.IntKind.i64.wrap (t9 + 1), ()), r0, r1, r2, ())))
                     (
                      .br (Decidable.decide (vy1.fst > t8))
                       (
                        .ret (Sum.inl ((t2, vy0.fst, vy1.fst, Go.IntKind.i64.wrap (t9 + 1), ()), r0, r1, r2, ())))
                       (
                        .ret (Sum.inl ((t2, vy0.fst, t8, Go.IntKind.i64.wrap (t9 + 1), ()), r0, r1, r2, ())))))
                   (
                    .br (Decidable.decide (vy0.fst < t7))
                     (
                      .br (t9 == 0)
                       (
                        .ret (Sum.inl ((t2, vy0.fst, vy1.fst, Go.IntKind.i64.wrap (t9 + 1), ()), r0, r1, r2, ())))
                       (
                        .br (Decidable.decide (vy1.fst > t8))
                         (
                          .ret (Sum.inl ((t2, vy0.fst, vy1.fst, Go.IntKind.i64.wrap (t9 + 1), ()), r0, r1, r2, ())))
                         (
                          .ret (Sum.inl ((t2, vy0.fst, t8, Go.IntKind.i64.wrap (t9 + 1), ()), r0, r1, r2, ())))))
                     (
                      .br (t9 == 0)
                       (
                        .ret (Sum.inl ((t2, t7, vy1.fst, Go.IntKind.i64.wrap (t9 + 1), ()), r0, r1, r2, ())))
                       (
                        .br (Decidable.decide (vy1.fst > t8))
                         (
                          .ret (Sum.inl ((t2, t7, vy1.fst, Go.IntKind.i64.wrap (t9 + 1), ()), r0, r1, r2, ())))
                         (
                          .ret (Sum.inl ((t2, t7, t8, Go.IntKind.i64.wrap (t9 + 1), ()), r0, r1, r2, ()))))))))))
           (
            .bind (Go.Proofs.Ythgpgnijbajlgaa.numMul r0.hi r1.lo Bool.false) fun vy8 =>
            .bind (Go.Proofs.Ythgpgnijbajlgaa.numMul r0.hi r1.lo Bool.true) fun vy9 =>
            .br (t2)
             (
              .bind (Go.Proofs.Ythgpgnijbajlgaa.numDiv r0.hi r1.lo Bool.false) fun vy10 =>
              .bind (Go.Proofs.Ythgpgnijbajlgaa.numDiv r0.hi r1.lo Bool.true) fun vy11 =>
              .br (!vy10.snd)
               (
                .bind (Go.Proofs.Ythgpgnijbajlgaa.Iv.none) fun viv12 =>
                .ret (Sum.inr (Sum.inr ((), viv12, ()))))
               (
                .br (!vy11.snd)
                 (
                  .bind (Go.Proofs.Ythgpgnijbajlgaa.Iv.none) fun viv13 =>
                  .ret (Sum.inr (Sum.inr ((), viv13, ()))))
                 (
                  .br (t9 == 0)
                   (
                    .br (t9 == 0)
                     (
                      .ret (Sum.inl ((t2, vy10.fst, vy11.fst, Go.IntKind.i64.wrap (t9 + 1), ()), r0, r1, r2, ())))
                     (
                      .br (Decidable.decide (vy11.fst > t8))
                       (
                        .ret (Sum.inl ((t2, vy10.fst, vy11.fst, Go.IntKind.i64.wrap (t9 + 1), ()), r0, r1, r2, ())))
                       (
                        .ret (Sum.inl ((t2, vy10.fst, t8, Go.IntKind.i64.wrap (t9 + 1), ()), r0, r1, r2, ())))))
                   (
                    .br (Decidable.decide (vy10.fst < t7))
                     (
                      .br (t9 == 0)
                       (
                        .ret (Sum.inl ((t2, vy10.fst, vy11.fst, Go.IntKind.i64.wrap (t9 + 1), ()), r0, r1, r2, ())))
                       (
                        .br (Decidable.decide (vy11.fst > t8))
                         (
                          .ret (Sum.inl ((t2, vy10.fst, vy11.fst, Go.IntKind.i64.wrap (t9 + 1), ()), r0, r1, r2, ())))
                         (
                          .ret (Sum.inl ((t2, vy10.fst, t8, Go.IntKind.i64.wrap (t9 + 1), ()), r0, r1, r2, ())))))
                     (
                      .br (t9 == 0)
                       (
                        .ret (Sum.inl ((t2, t7, vy11.fst, Go.IntKind.i64.wrap (t9 + 1), ()), r0, r1, r2, ())))
                       (
                        .br (Decidable.decide (vy11.fst > t8))
                         (
                          .ret (Sum.inl ((t2, t7, vy11.fst, Go.IntKind.i64.wrap (t9 + 1), ()), r0, r1, r2, ())))
                         (
                          .ret (Sum.inl ((t2, t7, t8, Go.IntKind.i64.wrap (t9 + 1), ()), r0, r1, r2, ())))))))))
             (
              .br (!vy8.snd)
               (
                .bind (Go.Proofs.Ythgpgnijbajlgaa.Iv.none) fun viv14 =>
                .ret (Sum.inr (Sum.inr ((), viv14, ()))))
               (
                .br (!vy9.snd)
                 (
                  .bind (Go.Proofs.Ythgpgnijbajlgaa.Iv.none) fun viv15 =>
                  .ret (Sum.inr (Sum.inr ((), viv15, ()))))
                 (
                  .br (t9 == 0)
                   (
                    .br (t9 == 0)
                     (
                      .ret (Sum.inl ((t2, vy8.fst, vy9.fst, Go.IntKind.i64.wrap (t9 + 1), ()), r0, r1, r2, ())))
                     (
                      .br (Decidable.decide (vy9.fst > t8))
                       (
                        .ret (Sum.inl ((t2, vy8.fst, vy9.fst, Go.IntKind.i64.wrap (t9 + 1), ()), r0, r1, r2, ())))
                       (
                        .ret (Sum.inl ((t2, vy8.fst, t8, Go.IntKind.i64.wrap (t9 + 1), ()), r0, r1, r2, ())))))
                   (
                    .br (Decidable.decide (vy8.fst < t7))
                     (
                      .br (t9 == 0)
                       (
                        .ret (Sum.inl ((t2, vy8.fst, vy9.fst, Go.IntKind.i64.wrap (t9 + 1), ()), r0, r1, r2, ())))
                       (
                        .br (Decidable.decide (vy9.fst > t8))
                         (
                          .ret (Sum.inl ((t2, vy8.fst, vy9.fst, Go.IntKind.i64.wrap (t9 + 1), ()), r0, r1, r2, ())))
                         (
                          .ret (Sum.inl ((t2, vy8.fst, t8, Go.IntKind.i64.wrap (t9 + 1), ()), r0, r1, r2, ())))))
                     (
                      .br (t9 == 0)
                       (
                        .ret (Sum.inl ((t2, t7, vy9.fst, Go.IntKind.i64.wrap (t9 + 1), ()), r0, r1, r2, ())))
                       (
                        .br (Decidable.decide (vy9.fst > t8))
                         (
                          .ret (Sum.inl ((t2, t7, vy9.fst, Go.IntKind.i64.wrap (t9 + 1), ()), r0, r1, r2, ())))
                         (
                          .ret (Sum.inl ((t2, t7, t8, Go.IntKind.i64.wrap (t9 + 1), ()), r0, r1, r2, ())))))))))))
         (
          .br (Go.IntKind.i64.wrap (t9.tdiv 2) == 1)
           (
            .bind (Go.Proofs.Ythgpgnijbajlgaa.numMul r0.lo r1.hi Bool.false) fun vy16 =>
            .bind (Go.Proofs.Ythgpgnijbajlgaa.numMul r0.lo r1.hi Bool.true) fun vy17 =>
            .br (t2)
             (
              .bind (Go.Proofs.Ythgpgnijbajlgaa.numDiv r0.lo r1.hi Bool.false) fun vy18 =>
              .bind (Go.Proofs.Ythgpgnijbajlgaa.numDiv r0.lo r1.hi Bool.true) fun vy19 =>
              .br (!vy18.snd)
               (
                .bind (Go.Proofs.Ythgpgnijbajlgaa.Iv.none) fun viv20 =>
                .ret (Sum.inr (Sum.inr ((), viv20, ()))))
               (
                .br (!vy19.snd)
                 (
                  .bind (Go.Proofs.Ythgpgnijbajlgaa.Iv.none) fun viv21 =>
                  .ret (Sum.inr (Sum.inr ((), viv21, ()))))
                 (
                  .br (t9 == 0)
                   (
                    .br (t9 == 0)
                     (
                      .ret (Sum.inl ((t2, vy18.fst, vy19.fst, Go.IntKind.i64.wrap (t9 + 1), ()), r0, r1, r2, ())))
                     (
                      .br (Decidable.decide (vy19.fst > t8))
                       (
                        .ret (Sum.inl ((t2, vy18.fst, vy19.fst, Go.IntKind.i64.wrap (t9 + 1), ()), r0, r1, r2, ())))
                       (
                        .ret (Sum.inl ((t2, vy18.fst, t8, Go.IntKind.i64.wrap (t9 + 1), ()), r0, r1, r2, ())))))
                   (
                    .br (Decidable.decide (vy18.fst < t7))
                     (
                      .br (t9 == 0)
                       (
                        .ret (Sum.inl ((t2, vy18.fst, vy19.fst, Go.IntKind.i64.wrap (t9 + 1), ()), r0, r1, r2, ())))
                       (
                        .br (Decidable.decide (vy19.fst > t8))
                         (
                          .ret (Sum.inl ((t2, vy18.fst, vy19.fst, Go.IntKind.i64.wrap (t9 + 1), ()), r0, r1, r2, ())))
                         (
                          .ret (Sum.inl ((t2, vy18.fst, t8, Go.IntKind.i64.wrap (t9 + 1), ()), r0, r1, r2, ())))))
                     (
                      .br (t9 == 0)
                       (
                        .ret (Sum.inl ((t2, t7, vy19.fst, Go.IntKind.i64.wrap (t9 + 1), ()), r0, r1, r2, ())))
                       (
                        .br (Decidable.decide (vy19.fst > t8))
                         (
                          .ret (Sum.inl ((t2, t7, vy19.fst, Go.IntKind.i64.wrap (t9 + 1), ()), r0, r1, r2, ())))
                         (
                          .ret (Sum.inl ((t2, t7, t8, Go.IntKind.i64.wrap (t9 + 1), ()), r0, r1, r2, ())))))))))
             (
              .br (!vy16.snd)
               (
                .bind (Go.Proofs.Ythgpgnijbajlgaa.Iv.none) fun viv22 =>
                .ret (Sum.inr (Sum.inr ((), viv22, ()))))
               (
                .br (!vy17.snd)
                 (
                  .bind (Go.Proofs.Ythgpgnijbajlgaa.Iv.none) fun viv23 =>
                  .ret (Sum.inr (Sum.inr ((), viv23, ()))))
                 (
                  .br (t9 == 0)
                   (
                    .br (t9 == 0)
                     (
                      .ret (Sum.inl ((t2, vy16.fst, vy17.fst, Go.IntKind.i64.wrap (t9 + 1), ()), r0, r1, r2, ())))
                     (
                      .br (Decidable.decide (vy17.fst > t8))
                       (
                        .ret (Sum.inl ((t2, vy16.fst, vy17.fst, Go.IntKind.i64.wrap (t9 + 1), ()), r0, r1, r2, ())))
                       (
                        .ret (Sum.inl ((t2, vy16.fst, t8, Go.IntKind.i64.wrap (t9 + 1), ()), r0, r1, r2, ())))))
                   (
                    .br (Decidable.decide (vy16.fst < t7))
                     (
                      .br (t9 == 0)
                       (
                        .ret (Sum.inl ((t2, vy16.fst, vy17.fst, Go.IntKind.i64.wrap (t9 + 1), ()), r0, r1, r2, ())))
                       (
                        .br (Decidable.decide (vy17.fst > t8))
                         (
                          .ret (Sum.inl ((t2, vy16.fst, vy17.fst, Go.IntKind.i64.wrap (t9 + 1), ()), r0, r1, r2, ())))
                         (
                          .ret (Sum.inl ((t2, vy16.fst, t8, Go.IntKind.i64.wrap (t9 + 1), ()), r0, r1, r2, ())))))
                     (
                      .br (t9 == 0)
                       (
                        .ret (Sum.inl ((t2, t7, vy17.fst, Go.IntKind.i64.wrap (t9 + 1), ()), r0, r1, r2, ())))
                       (
                        .br (Decidable.decide (vy17.fst > t8))
                         (
                          .ret (Sum.inl ((t2, t7, vy17.fst, Go.IntKind.i64.wrap (t9 + 1), ()), r0, r1, r2, ())))
                         (
                          .ret (Sum.inl ((t2, t7, t8, Go.IntKind.i64.wrap (t9 + 1), ()), r0, r1, r2, ()))))))))))
           (
            .bind (Go.Proofs.Ythgpgnijbajlgaa.numMul r0.lo r1.lo Bool.false) fun vy24 =>
            .bind (Go.Proofs.Ythgpgnijbajlgaa.numMul r0.lo r1.lo Bool.true) fun vy25 =>
            .br (t2)
             (
              .bind (Go.Proofs.Ythgpgnijbajlgaa.numDiv r0.lo r1.lo Bool.false) fun vy26 =>
              .bind (Go.Proofs.Ythgpgnijbajlgaa.numDiv r0.lo r1.lo Bool.true) fun vy27 =>
              .br (!vy26.snd)
               (
                .bind (Go.Proofs.Ythgpgnijbajlgaa.Iv.none) fun viv28 =>
                .ret (Sum.inr (Sum.inr ((), viv28, ()))))
               (
                .br (!vy27.snd)
                 (
                  .bind (Go.Proofs.Ythgpgnijbajlgaa.Iv.none) fun viv29 =>
                  .ret (Sum.inr (Sum.inr ((), viv29, ()))))
                 (
                  .br (t9 == 0)
                   (
                    .br (t9 == 0)
                     (
                      .ret (Sum.inl ((t2, vy26.fst, vy27.fst, Go.IntKind.i64.wrap (t9 + 1), ()), r0, r1, r2, ())))
                     (
                      .br (Decidable.decide (vy27.fst > t8))
                       (
                        .ret (Sum.inl ((t2, vy26.fst, vy27.fst, Go.IntKind.i64.wrap (t9 + 1), ()), r0, r1, r2, ())))
                       (
                        .ret (Sum.inl ((t2, vy26.fst, t8, Go.IntKind.i64.wrap (t9 + 1), ()), r0, r1, r2, ())))))
                   (
                    .br (Decidable.decide (vy26.fst < t7))
                     (
                      .br (t9 == 0)
                       (
                        .ret (Sum.inl ((t2, vy26.fst, vy27.fst, Go.IntKind.i64.wrap (t9 + 1), ()), r0, r1, r2, ())))
                       (
                        .br (Decidable.decide (vy27.fst > t8))
                         (
                          .ret (Sum.inl ((t2, vy26.fst, vy27.fst, Go.IntKind.i64.wrap (t9 + 1), ()), r0, r1, r2, ())))
                         (
                          .ret (Sum.inl ((t2, vy26.fst, t8, Go.IntKind.i64.wrap (t9 + 1), ()), r0, r1, r2, ())))))
                     (
                      .br (t9 == 0)
                       (
                        .ret (Sum.inl ((t2, t7, vy27.fst, Go.IntKind.i64.wrap (t9 + 1), ()), r0, r1, r2, ())))
                       (
                        .br (Decidable.decide (vy27.fst > t8))
                         (
                          .ret (Sum.inl ((t2, t7, vy27.fst, Go.IntKind.i64.wrap (t9 + 1), ()), r0, r1, r2, ())))
                         (
                          .ret (Sum.inl ((t2, t7, t8, Go.IntKind.i64.wrap (t9 + 1), ()), r0, r1, r2, ())))))))))
             (
              .br (!vy24.snd)
               (
                .bind (Go.Proofs.Ythgpgnijbajlgaa.Iv.none) fun viv30 =>
                .ret (Sum.inr (Sum.inr ((), viv30, ()))))
               (
                .br (!vy25.snd)
                 (
                  .bind (Go.Proofs.Ythgpgnijbajlgaa.Iv.none) fun viv31 =>
                  .ret (Sum.inr (Sum.inr ((), viv31, ()))))
                 (
                  .br (t9 == 0)
                   (
                    .br (t9 == 0)
                     (
                      .ret (Sum.inl ((t2, vy24.fst, vy25.fst, Go.IntKind.i64.wrap (t9 + 1), ()), r0, r1, r2, ())))
                     (
                      .br (Decidable.decide (vy25.fst > t8))
                       (
                        .ret (Sum.inl ((t2, vy24.fst, vy25.fst, Go.IntKind.i64.wrap (t9 + 1), ()), r0, r1, r2, ())))
                       (
                        .ret (Sum.inl ((t2, vy24.fst, t8, Go.IntKind.i64.wrap (t9 + 1), ()), r0, r1, r2, ())))))
                   (
                    .br (Decidable.decide (vy24.fst < t7))
                     (
                      .br (t9 == 0)
                       (
                        .ret (Sum.inl ((t2, vy24.fst, vy25.fst, Go.IntKind.i64.wrap (t9 + 1), ()), r0, r1, r2, ())))
                       (
                        .br (Decidable.decide (vy25.fst > t8))
                         (
                          .ret (Sum.inl ((t2, vy24.fst, vy25.fst, Go.IntKind.i64.wrap (t9 + 1), ()), r0, r1, r2, ())))
                         (
                          .ret (Sum.inl ((t2, vy24.fst, t8, Go.IntKind.i64.wrap (t9 + 1), ()), r0, r1, r2, ())))))
                     (
                      .br (t9 == 0)
                       (
                        .ret (Sum.inl ((t2, t7, vy25.fst, Go.IntKind.i64.wrap (t9 + 1), ()), r0, r1, r2, ())))
                       (
                        .br (Decidable.decide (vy25.fst > t8))
                         (
                          .ret (Sum.inl ((t2, t7, vy25.fst, Go.IntKind.i64.wrap (t9 + 1), ()), r0, r1, r2, ())))
                         (
                          .ret (Sum.inl ((t2, t7, t8, Go.IntKind.i64.wrap (t9 + 1), ()), r0, r1, r2, ()))))))))))))
       (
        .ret (Sum.inr (Sum.inl ((t7, t8, ()), r2, ())))) := by kernel_rfl
theorem ok_meniscusref1_ends_4 : LOK Try.prog (LoopR.of (sc 85 [2, 7, 8, 9, 3, 4, 6] (tCod 2 cBool (tCod 7 cInt (tCod 8 cInt (tCod 9 cInt (tOwn 3 0 (tOwn 4 1 (tOwn 6 2 tNil))))))) (rBox ccIv ccIv_ok (rBox ccIv ccIv_ok (rBox ccIv ccIv_ok rNil)))) (ocOr (ocExit 0 (sc 85 [7, 8, 6] (tCod 7 cInt (tCod 8 cInt (tOwn 6 0 tNil))) (rBox ccIv ccIv_ok rNil))) (ocRet (sc 85 [6] (tOwn 6 0 tNil) (rBox ccIv ccIv_ok rNil)))) endsRun) (loopAt Try.f133 4) := by
  refine loop_ok (EnvOK.add s_meniscusref1_None (EnvOK.add s_meniscusref1_Of (EnvOK.add s_meniscusref1_Mul (EnvOK.add s_meniscusref1_Div EnvOK.nil)))) (LFn.at (fn := Try.f133) LFn.nil 4) endsStep (n := 200) (fun x z h => ?_) endsRun_ok
  obtain ⟨⟨t2, t7, t8, t9, ⟨⟩⟩, ⟨r0, r1, r2, ⟨⟩⟩⟩ := x
  rw [tl_meniscusref1_ends_4]
  rw [← h]
  simp only [den_br, den_bind, den_ret, den_fail, den_inl, den_inr, decide_eq_true_eq]
  simp only [endsStep, endsX, endsY, endsF, beq_iff_eq, Bool.not_eq_true']
  by_cases hk : t9 < 4 <;> simp only [hk, if_true, if_false]
  by_cases hx : t9.tmod 2 = 1 <;> simp only [hx, if_true, if_false] <;> by_cases hy : IntKind.i64.wrap (t9.tdiv 2) = 1 <;> simp only [hy, if_true, if_false] <;> cases t2 <;> simp only [Bool.false_eq_true, if_true, if_false] <;> grind
theorem t_meniscusref1_ends (x0 : Iv) (x1 : Iv) (x2 : Bool) :
    evFn Try.prog (Env.add 111 (F0 cIv Iv.none) (Env.add 132 (F2 cInt cInt cIv Iv.of) (Env.add 148 (F3 cInt cInt cBool (cTwo cInt cBool) numMul) (Env.add 151 (F3 cInt cInt cBool (cTwo cInt cBool) numDiv) Env.nil)))) (Laws.add 4 (LoopR.of (sc 85 [2, 7, 8, 9, 3, 4, 6] (tCod 2 cBool (tCod 7 cInt (tCod 8 cInt (tCod 9 cInt (tOwn 3 0 (tOwn 4 1 (tOwn 6 2 tNil))))))) (rBox ccIv ccIv_ok (rBox ccIv ccIv_ok (rBox ccIv ccIv_ok rNil)))) (ocOr (ocExit 0 (sc 85 [7, 8, 6] (tCod 7 cInt (tCod 8 cInt (tOwn 6 0 tNil))) (rBox ccIv ccIv_ok rNil))) (ocRet (sc 85 [6] (tOwn 6 0 tNil) (rBox ccIv ccIv_ok rNil)))) endsRun) Laws.nil) 200 Try.f133 [cIv.av x0, cIv.av x1, cBool.av x2] [] cIv.dec =
      .get (Go.Proofs.Ythgpgnijbajlgaa.endsRun ((x2, 0, 0, 0, ()), x0, x1, Go.Proofs.Ythgpgnijbajlgaa.Iv.mk 0 0 Bool.false, ())) fun vy0 =>
      .sum (vy0)
       (fun vs1 =>
        .bind (Go.Proofs.Ythgpgnijbajlgaa.Iv.of vs1.fst.fst vs1.fst.snd.fst) fun viv2 =>
        .ret (viv2))
       (fun vs3 =>
        .ret (vs3.snd.fst)) := by kernel_rfl
theorem c_meniscusref1_ends (x0 : Iv) (x1 : Iv) (x2 : Bool) : Plain Try.prog 133 [cIv.enc x0, cIv.enc x1, cBool.enc x2] (cIv.enc (endsD x0 x1 x2)) :=
  plain_of_tree (n := 200) (EnvOK.add s_meniscusref1_None (EnvOK.add s_meniscusref1_Of (EnvOK.add s_meniscusref1_Mul (EnvOK.add s_meniscusref1_Div EnvOK.nil)))) Try.func133 (args := [cIv.av x0, cIv.av x1, cBool.av x2]) (by simp only [AV.vals, Cod.av_val]) (Nat.le_of_ble_eq_true (by kernel_rfl)) (LFn.add (fn := Try.f133) (i := 4) (by kernel_rfl) ok_meniscusref1_ends_4 LFn.nil) cIv (by
    rw [t_meniscusref1_ends]
    simp only [den_br, den_bind, den_ret, den_fail, den_inl, den_inr, den_gets, decide_eq_true_eq]
    simp only [endsRun, endsD, ends, if_true]
    cases x2 <;> simp only [endsF, Bool.false_eq_true, if_false, if_true] <;> split <;> rfl)
theorem s_meniscusref1_ends : Ev.Spec Try.prog 133 (F3 cIv cIv cBool cIv endsD) := spec3 (fun vs w => Try.call133 vs w) c_meniscusref1_ends

/-! meniscusref1.MulIv -/
theorem t_meniscusref1_MulIv (x0 : Iv) (x1 : Iv) :
    evFn Try.prog (Env.add 110 (F1 cIv cBool Iv.right) (Env.add 111 (F0 cIv Iv.none) (Env.add 133 (F3 cIv cIv cBool cIv endsD) Env.nil))) Laws.nil 200 Try.f99 [cIv.av x0, cIv.av x1] [] cIv.dec =
      .bind (x0.right) fun vb0 =>
      .br (!vb0)
       (
        .bind (Go.Proofs.Ythgpgnijbajlgaa.Iv.none) fun viv1 =>
        .ret (viv1))
       (
        .bind (x1.right) fun vb2 =>
        .br (!vb2)
         (
          .bind (Go.Proofs.Ythgpgnijbajlgaa.Iv.none) fun viv3 =>
          .ret (viv3))
         (
          .bind (Go.Proofs.Ythgpgnijbajlgaa.endsD x0 x1 Bool.false) fun viv4 =>
          .ret (viv4))) := by kernel_rfl
theorem c_meniscusref1_MulIv (x0 : Iv) (x1 : Iv) : Plain Try.prog 99 [cIv.enc x0, cIv.enc x1] (cIv.enc (Iv.mul x0 x1)) :=
  plain_of_tree (n := 200) (EnvOK.add s_meniscusref1_Right (EnvOK.add s_meniscusref1_None (EnvOK.add s_meniscusref1_ends EnvOK.nil))) Try.func99 (args := [cIv.av x0, cIv.av x1]) (by simp only [AV.vals, Cod.av_val]) (Nat.le_of_ble_eq_true (by kernel_rfl)) LFn.nil cIv (by
    rw [t_meniscusref1_MulIv]
    simp only [den_br, den_bind, den_ret, den_fail, den_inl, den_inr, decide_eq_true_eq]
    grind [Iv.mul, Iv.both, endsD])
theorem s_meniscusref1_MulIv : Ev.Spec Try.prog 99 (F2 cIv cIv cIv Iv.mul) := spec2 (fun vs w => Try.call99 vs w) c_meniscusref1_MulIv

/-! meniscusref1.DivIv -/
theorem t_meniscusref1_DivIv (x0 : Iv) (x1 : Iv) :
    evFn Try.prog (Env.add 110 (F1 cIv cBool Iv.right) (Env.add 111 (F0 cIv Iv.none) (Env.add 133 (F3 cIv cIv cBool cIv endsD) Env.nil))) Laws.nil 200 Try.f102 [cIv.av x0, cIv.av x1] [] cIv.dec =
      .bind (x0.right) fun vb0 =>
      .br (!vb0)
       (
        .bind (Go.Proofs.Ythgpgnijbajlgaa.Iv.none) fun viv1 =>
        .ret (viv1))
       (
        .bind (x1.right) fun vb2 =>
        .br (!vb2)
         (
          .bind (Go.Proofs.Ythgpgnijbajlgaa.Iv.none) fun viv3 =>
          .ret (viv3))
         (
          .br (Decidable.decide (x1.lo ≤ 0))
           (
            .br (Decidable.decide (x1.hi ≥ 0))
             (
              .bind (Go.Proofs.Ythgpgnijbajlgaa.Iv.none) fun viv4 =>
              .ret (viv4))
             (
              .bind (Go.Proofs.Ythgpgnijbajlgaa.endsD x0 x1 Bool.true) fun viv5 =>
              .ret (viv5)))
           (
            .bind (Go.Proofs.Ythgpgnijbajlgaa.endsD x0 x1 Bool.true) fun viv6 =>
            .ret (viv6)))) := by kernel_rfl
theorem c_meniscusref1_DivIv (x0 : Iv) (x1 : Iv) : Plain Try.prog 102 [cIv.enc x0, cIv.enc x1] (cIv.enc (Iv.div x0 x1)) :=
  plain_of_tree (n := 200) (EnvOK.add s_meniscusref1_Right (EnvOK.add s_meniscusref1_None (EnvOK.add s_meniscusref1_ends EnvOK.nil))) Try.func102 (args := [cIv.av x0, cIv.av x1]) (by simp only [AV.vals, Cod.av_val]) (Nat.le_of_ble_eq_true (by kernel_rfl)) LFn.nil cIv (by
    rw [t_meniscusref1_DivIv]
    simp only [den_br, den_bind, den_ret, den_fail, den_inl, den_inr, decide_eq_true_eq]
    grind [Iv.div, Iv.both, Iv.has, endsD])
theorem s_meniscusref1_DivIv : Ev.Spec Try.prog 102 (F2 cIv cIv cIv Iv.div) := spec2 (fun vs w => Try.call102 vs w) c_meniscusref1_DivIv

/-! meniscusref1.Times -/
theorem t_meniscusref1_Times (x0 : Iv) (x1 : Int) :
    evFn Try.prog (Env.add 110 (F1 cIv cBool Iv.right) (Env.add 111 (F0 cIv Iv.none) (Env.add 132 (F2 cInt cInt cIv Iv.of) (Env.add 134 (F1 cInt cBool numIn) Env.nil)))) Laws.nil 200 Try.f103 [cIv.av x0, cInt.av x1] [] cIv.dec =
      .bind (x0.right) fun vb0 =>
      .br (!vb0)
       (
        .bind (Go.Proofs.Ythgpgnijbajlgaa.Iv.none) fun viv1 =>
        .ret (viv1))
       (
        .bind (Go.Proofs.Ythgpgnijbajlgaa.numIn x1) fun vb2 =>
        .br (!vb2)
         (
          .bind (Go.Proofs.Ythgpgnijbajlgaa.Iv.none) fun viv3 =>
          .ret (viv3))
         (
          .bind (Go.Proofs.Ythgpgnijbajlgaa.Iv.of (Min.min (Go.IntKind.i64.wrap (x1 * x0.lo)) (Go.IntKind.i64.wrap (x1 * x0.hi))) (Max.max (Go.IntKind.i64.wrap (x1 * x0.lo)) (Go.IntKind.i64.wrap (x1 * x0.hi)))) fun viv4 =>
          .ret (viv4))) := by kernel_rfl
theorem c_meniscusref1_Times (x0 : Iv) (x1 : Int) : Plain Try.prog 103 [cIv.enc x0, cInt.enc x1] (cIv.enc (Iv.times x0 x1)) :=
  plain_of_tree (n := 200) (EnvOK.add s_meniscusref1_Right (EnvOK.add s_meniscusref1_None (EnvOK.add s_meniscusref1_Of (EnvOK.add s_meniscusref1_In EnvOK.nil)))) Try.func103 (args := [cIv.av x0, cInt.av x1]) (by simp only [AV.vals, Cod.av_val]) (Nat.le_of_ble_eq_true (by kernel_rfl)) LFn.nil cIv (by
    rw [t_meniscusref1_Times]
    simp only [Tr.den, Iv.times]
    cases h0 : x0.right <;> cases h1 : numIn x1 <;> simp
    have b0 := right_bd h0
    have b1 := numIn_iff.1 h1
    have m1 := mul_bd x1 x0.lo h1 (numIn_iff.2 (by omega))
    have m2 := mul_bd x1 x0.hi h1 (numIn_iff.2 (by omega))
    simp (disch := omega) only [IntWalk.i64_in])
theorem s_meniscusref1_Times : Ev.Spec Try.prog 103 (F2 cIv cInt cIv Iv.times) := spec2 (fun vs w => Try.call103 vs w) c_meniscusref1_Times

/-! meniscusref1.Sqr -/
theorem t_meniscusref1_Sqr (x0 : Iv) :
    evFn Try.prog (Env.add 110 (F1 cIv cBool Iv.right) (Env.add 111 (F0 cIv Iv.none) (Env.add 132 (F2 cInt cInt cIv Iv.of) (Env.add 148 (F3 cInt cInt cBool (cTwo cInt cBool) numMul) Env.nil)))) Laws.nil 200 Try.f126 [cIv.av x0] [] cIv.dec =
      .bind (x0.right) fun vb0 =>
      .br (!vb0)
       (
        .bind (Go.Proofs.Ythgpgnijbajlgaa.Iv.none) fun viv1 =>
        .ret (viv1))
       (
        .br (Decidable.decide (x0.lo ≤ 0))
         (
          .br (Decidable.decide (x0.hi ≥ 0))
           (
            .bind (Go.Proofs.Ythgpgnijbajlgaa.numMul 0 0 Bool.false) fun vy2 =>
            .bind (Go.Proofs.Ythgpgnijbajlgaa.numMul (Max.max (Max.max (Max.max x0.lo (Go.IntKind.i64.wrap (0 - x0.lo))) x0.hi) (Go.IntKind.i64.wrap (0 - x0.hi))) (Max.max (Max.max (Max.max x0.lo (Go.IntKind.i64.wrap (0 - x0.lo))) x0.hi) (Go.IntKind.i64.wrap (0 - x0.hi))) Bool.true) fun vy3 =>
            .br (!vy3.snd)
             (
              .bind (Go.Proofs.Ythgpgnijbajlgaa.Iv.none) fun viv4 =>
              .ret (viv4))
             (
              .bind (Go.Proofs.Ythgpgnijbajlgaa.Iv.of vy2.fst vy3.fst) fun viv5 =>
              .ret (viv5)))
           (
            .bind (Go.Proofs.Ythgpgnijbajlgaa.numMul (Min.min (Max.max x0.lo (Go.IntKind.i64.wrap (0 - x0.lo))) (Max.max x0.hi (Go.IntKind.i64.wrap (0 - x0.hi)))) (Min.min (Max.max x0.lo (Go.IntKind.i64.wrap (0 - x0.lo))) (Max.max x0.hi (Go.IntKind.i64.wrap (0 - x0.hi)))) Bool.false) fun vy6 =>
            .bind (Go.Proofs.Ythgpgnijbajlgaa.numMul (Max.max (Max.max (Max.max x0.lo (Go.IntKind.i64.wrap (0 - x0.lo))) x0.hi) (Go.IntKind.i64.wrap (0 - x0.hi))) (Max.max (Max.max (Max.max x0.lo (Go.IntKind.i64.wrap (0 - x0.lo))) x0.hi) (Go.IntKind.i64.wrap (0 - x0.hi))) Bool.true) fun vy7 =>
            .br (!vy7.snd)
             (
              .bind (Go.Proofs.Ythgpgnijbajlgaa.Iv.none) fun viv8 =>
              .ret (viv8))
             (
              .bind (Go.Proofs.Ythgpgnijbajlgaa.Iv.of vy6.fst vy7.fst) fun viv9 =>
              .ret (viv9))))
         (
          .bind (Go.Proofs.Ythgpgnijbajlgaa.numMul (Min.min (Max.max x0.lo (Go.IntKind.i64.wrap (0 - x0.lo))) (Max.max x0.hi (Go.IntKind.i64.wrap (0 - x0.hi)))) (Min.min (Max.max x0.lo (Go.IntKind.i64.wrap (0 - x0.lo))) (Max.max x0.hi (Go.IntKind.i64.wrap (0 - x0.hi)))) Bool.false) fun vy10 =>
          .bind (Go.Proofs.Ythgpgnijbajlgaa.numMul (Max.max (Max.max (Max.max x0.lo (Go.IntKind.i64.wrap (0 - x0.lo))) x0.hi) (Go.IntKind.i64.wrap (0 - x0.hi))) (Max.max (Max.max (Max.max x0.lo (Go.IntKind.i64.wrap (0 - x0.lo))) x0.hi) (Go.IntKind.i64.wrap (0 - x0.hi))) Bool.true) fun vy11 =>
          .br (!vy11.snd)
           (
            .bind (Go.Proofs.Ythgpgnijbajlgaa.Iv.none) fun viv12 =>
            .ret (viv12))
           (
            .bind (Go.Proofs.Ythgpgnijbajlgaa.Iv.of vy10.fst vy11.fst) fun viv13 =>
            .ret (viv13)))) := by kernel_rfl
theorem c_meniscusref1_Sqr (x0 : Iv) : Plain Try.prog 126 [cIv.enc x0] (cIv.enc (Iv.sqr x0)) :=
  plain_of_tree (n := 200) (EnvOK.add s_meniscusref1_Right (EnvOK.add s_meniscusref1_None (EnvOK.add s_meniscusref1_Of (EnvOK.add s_meniscusref1_Mul EnvOK.nil)))) Try.func126 (args := [cIv.av x0]) (by simp only [AV.vals, Cod.av_val]) (Nat.le_of_ble_eq_true (by kernel_rfl)) LFn.nil cIv (by
    rw [t_meniscusref1_Sqr]
    simp only [Iv.sqr]
    cases h0 : x0.right
    · simp [Tr.den]
    have b0 := right_bd h0
    have e1 : IntKind.i64.wrap (-x0.lo) = -x0.lo := wr (by omega)
    have e2 : IntKind.i64.wrap (-x0.hi) = -x0.hi := wr (by omega)
    have f1 : max (max (max x0.lo (-x0.lo)) x0.hi) (-x0.hi) = max (-x0.lo) x0.hi := by omega
    simp only [den_br, den_bind, den_ret, den_fail, decide_eq_true_eq, e1, e2, f1]
    by_cases h1 : x0.lo ≤ 0
    · by_cases h2 : 0 ≤ x0.hi
      · have f2 : max (max x0.lo (-x0.hi)) 0 = 0 := by omega
        simp only [h1, h2, f2]
        grind
      · have f2 : min (max x0.lo (-x0.lo)) (max x0.hi (-x0.hi)) = max (max x0.lo (-x0.hi)) 0 := by omega
        simp only [h1, h2, f2]
        grind
    · have f2 : min (max x0.lo (-x0.lo)) (max x0.hi (-x0.hi)) = max (max x0.lo (-x0.hi)) 0 := by omega
      simp only [h1, f2]
      grind)
theorem s_meniscusref1_Sqr : Ev.Spec Try.prog 126 (F1 cIv cIv Iv.sqr) := spec1 (fun vs w => Try.call126 vs w) c_meniscusref1_Sqr

/-! meniscusref1.RootIv -/
theorem t_meniscusref1_RootIv (x0 : Iv) :
    evFn Try.prog (Env.add 110 (F1 cIv cBool Iv.right) (Env.add 111 (F0 cIv Iv.none) (Env.add 132 (F2 cInt cInt cIv Iv.of) (Env.add 165 (F2 cInt cBool (cTwo cInt cBool) numRoot) Env.nil)))) Laws.nil 200 Try.f149 [cIv.av x0] [] cIv.dec =
      .bind (x0.right) fun vb0 =>
      .br (!vb0)
       (
        .bind (Go.Proofs.Ythgpgnijbajlgaa.Iv.none) fun viv1 =>
        .ret (viv1))
       (
        .br (Decidable.decide (x0.lo < 0))
         (
          .bind (Go.Proofs.Ythgpgnijbajlgaa.Iv.none) fun viv2 =>
          .ret (viv2))
         (
          .bind (Go.Proofs.Ythgpgnijbajlgaa.numRoot x0.lo Bool.false) fun vy3 =>
          .bind (Go.Proofs.Ythgpgnijbajlgaa.numRoot x0.hi Bool.true) fun vy4 =>
          .bind (Go.Proofs.Ythgpgnijbajlgaa.Iv.of vy3.fst vy4.fst) fun viv5 =>
          .ret (viv5))) := by kernel_rfl
theorem c_meniscusref1_RootIv (x0 : Iv) : Plain Try.prog 149 [cIv.enc x0] (cIv.enc (Iv.root x0)) :=
  plain_of_tree (n := 200) (EnvOK.add s_meniscusref1_Right (EnvOK.add s_meniscusref1_None (EnvOK.add s_meniscusref1_Of (EnvOK.add s_meniscusref1_Root EnvOK.nil)))) Try.func149 (args := [cIv.av x0]) (by simp only [AV.vals, Cod.av_val]) (Nat.le_of_ble_eq_true (by kernel_rfl)) LFn.nil cIv (by
    rw [t_meniscusref1_RootIv]
    simp only [den_br, den_bind, den_ret, den_fail, den_inl, den_inr, decide_eq_true_eq]
    grind [Iv.root])
theorem s_meniscusref1_RootIv : Ev.Spec Try.prog 149 (F1 cIv cIv Iv.root) := spec1 (fun vs w => Try.call149 vs w) c_meniscusref1_RootIv

/-! meniscusref1.Meet -/
theorem t_meniscusref1_Meet (x0 : Iv) (x1 : Iv) :
    evFn Try.prog (Env.add 110 (F1 cIv cBool Iv.right) (Env.add 111 (F0 cIv Iv.none) (Env.add 132 (F2 cInt cInt cIv Iv.of) Env.nil))) Laws.nil 200 Try.f117 [cIv.av x0, cIv.av x1] [] cIv.dec =
      .bind (x0.right) fun vb0 =>
      .br (!vb0)
       (
        .bind (Go.Proofs.Ythgpgnijbajlgaa.Iv.none) fun viv1 =>
        .ret (viv1))
       (
        .bind (x1.right) fun vb2 =>
        .br (!vb2)
         (
          .bind (Go.Proofs.Ythgpgnijbajlgaa.Iv.none) fun viv3 =>
          .ret (viv3))
         (
          .bind (Go.Proofs.Ythgpgnijbajlgaa.Iv.of (Max.max x0.lo x1.lo) (Min.min x0.hi x1.hi)) fun viv4 =>
          .ret (viv4))) := by kernel_rfl
theorem c_meniscusref1_Meet (x0 : Iv) (x1 : Iv) : Plain Try.prog 117 [cIv.enc x0, cIv.enc x1] (cIv.enc (Iv.meet x0 x1)) :=
  plain_of_tree (n := 200) (EnvOK.add s_meniscusref1_Right (EnvOK.add s_meniscusref1_None (EnvOK.add s_meniscusref1_Of EnvOK.nil))) Try.func117 (args := [cIv.av x0, cIv.av x1]) (by simp only [AV.vals, Cod.av_val]) (Nat.le_of_ble_eq_true (by kernel_rfl)) LFn.nil cIv (by
    rw [t_meniscusref1_Meet]
    simp only [den_br, den_bind, den_ret, den_fail, den_inl, den_inr, decide_eq_true_eq]
    grind [Iv.meet, Iv.both])
theorem s_meniscusref1_Meet : Ev.Spec Try.prog 117 (F2 cIv cIv cIv Iv.meet) := spec2 (fun vs w => Try.call117 vs w) c_meniscusref1_Meet

/-! meniscusref1.Mid -/
theorem t_meniscusref1_Mid (x0 : Iv) :
    evFn Try.prog (Env.add 110 (F1 cIv cBool Iv.right) (Env.add 135 (F2p cInt cInt cInt flOk fl) Env.nil)) Laws.nil 200 Try.f113 [cIv.av x0] [] cInt.dec =
      .bind (x0.right) fun vb0 =>
      .br (!vb0)
       (
        .ret (0))
       (
        .br (Go.Proofs.Ythgpgnijbajlgaa.flOk (Go.IntKind.i64.wrap (x0.lo + x0.hi)) 2)
         (
          .bind (Go.Proofs.Ythgpgnijbajlgaa.fl (Go.IntKind.i64.wrap (x0.lo + x0.hi)) 2) fun vn1 =>
          .ret (vn1))
         (
          .fail)) := by kernel_rfl
theorem c_meniscusref1_Mid (x0 : Iv) : Plain Try.prog 113 [cIv.enc x0] (cInt.enc (Iv.mid x0)) :=
  plain_of_tree (n := 200) (EnvOK.add s_meniscusref1_Right (EnvOK.add s_meniscusref1_Floor EnvOK.nil)) Try.func113 (args := [cIv.av x0]) (by simp only [AV.vals, Cod.av_val]) (Nat.le_of_ble_eq_true (by kernel_rfl)) LFn.nil cInt (by
    rw [t_meniscusref1_Mid]
    simp only [den_br, den_bind, den_ret, den_fail, den_inl, den_inr, decide_eq_true_eq]
    simp only [Iv.mid]
    cases h0 : x0.right
    · simp
    have b0 := right_bd h0
    have e1 : IntKind.i64.wrap (x0.lo + x0.hi) = x0.lo + x0.hi := wr (by omega)
    have c1 : flOk (x0.lo + x0.hi) 2 = true := by simp [flOk]; omega
    simp only [e1, c1, if_true]
    simp [fl])
theorem s_meniscusref1_Mid : Ev.Spec Try.prog 113 (F1 cIv cInt Iv.mid) := spec1 (fun vs w => Try.call113 vs w) c_meniscusref1_Mid

/-! meniscusref1.Has -/
theorem t_meniscusref1_Has (x0 : Iv) (x1 : Int) :
    evFn Try.prog (Env.add 110 (F1 cIv cBool Iv.right) Env.nil) Laws.nil 200 Try.f138 [cIv.av x0, cInt.av x1] [] cBool.dec =
      .bind (x0.right) fun vb0 =>
      .br (vb0)
       (
        .br (Decidable.decide (x0.lo ≤ x1))
         (
          .ret (Decidable.decide (x1 ≤ x0.hi)))
         (
          .ret (Bool.false)))
       (
        .ret (Bool.false)) := by kernel_rfl
theorem c_meniscusref1_Has (x0 : Iv) (x1 : Int) : Plain Try.prog 138 [cIv.enc x0, cInt.enc x1] (cBool.enc (Iv.has x0 x1)) :=
  plain_of_tree (n := 200) (EnvOK.add s_meniscusref1_Right EnvOK.nil) Try.func138 (args := [cIv.av x0, cInt.av x1]) (by simp only [AV.vals, Cod.av_val]) (Nat.le_of_ble_eq_true (by kernel_rfl)) LFn.nil cBool (by
    rw [t_meniscusref1_Has]
    simp only [den_br, den_bind, den_ret, den_fail, den_inl, den_inr, decide_eq_true_eq]
    grind [Iv.has])
theorem s_meniscusref1_Has : Ev.Spec Try.prog 138 (F2 cIv cInt cBool Iv.has) := spec2 (fun vs w => Try.call138 vs w) c_meniscusref1_Has

/-! meniscusref1.Split -/
theorem t_meniscusref1_Split (x0 : Iv) :
    evFn Try.prog (Env.add 110 (F1 cIv cBool Iv.right) (Env.add 111 (F0 cIv Iv.none) (Env.add 113 (F1 cIv cInt Iv.mid) (Env.add 132 (F2 cInt cInt cIv Iv.of) Env.nil)))) Laws.nil 200 Try.f115 [cIv.av x0] [] (cTwo cIv cIv).dec =
      .bind (x0.right) fun vb0 =>
      .br (!vb0)
       (
        .bind (Go.Proofs.Ythgpgnijbajlgaa.Iv.none) fun viv1 =>
        .bind (Go.Proofs.Ythgpgnijbajlgaa.Iv.none) fun viv2 =>
        .ret ((viv1, viv2)))
       (
        .bind (x0.mid) fun vn3 =>
        .bind (Go.Proofs.Ythgpgnijbajlgaa.Iv.of x0.lo vn3) fun viv4 =>
        .bind (x0.mid) fun vn5 =>
        .bind (Go.Proofs.Ythgpgnijbajlgaa.Iv.of vn5 x0.hi) fun viv6 =>
        .ret ((viv4, viv6))) := by kernel_rfl
theorem c_meniscusref1_Split (x0 : Iv) : Plain Try.prog 115 [cIv.enc x0] ((cTwo cIv cIv).enc (Iv.split x0)) :=
  plain_of_tree (n := 200) (EnvOK.add s_meniscusref1_Right (EnvOK.add s_meniscusref1_None (EnvOK.add s_meniscusref1_Mid (EnvOK.add s_meniscusref1_Of EnvOK.nil)))) Try.func115 (args := [cIv.av x0]) (by simp only [AV.vals, Cod.av_val]) (Nat.le_of_ble_eq_true (by kernel_rfl)) LFn.nil (cTwo cIv cIv) (by
    rw [t_meniscusref1_Split]
    simp only [den_br, den_bind, den_ret, den_fail, den_inl, den_inr, decide_eq_true_eq]
    grind [Iv.split])
theorem s_meniscusref1_Split : Ev.Spec Try.prog 115 (F1 cIv (cTwo cIv cIv) Iv.split) := spec1 (fun vs w => Try.call115 vs w) c_meniscusref1_Split

/-! meniscusref1.AddV -/
theorem t_meniscusref1_AddV (x0 : V) (x1 : V) :
    evFn Try.prog (Env.add 100 (F2 cIv cIv cIv Iv.add) Env.nil) Laws.nil 200 Try.f152 [cV.av x0, cV.av x1] [] cV.dec =
      .bind (x0.x.add x1.x) fun viv0 =>
      .bind (x0.y.add x1.y) fun viv1 =>
      .bind (x0.z.add x1.z) fun viv2 =>
      .ret (Go.Proofs.Ythgpgnijbajlgaa.V.mk viv0 viv1 viv2) := by kernel_rfl
theorem c_meniscusref1_AddV (x0 : V) (x1 : V) : Plain Try.prog 152 [cV.enc x0, cV.enc x1] (cV.enc (V.add x0 x1)) :=
  plain_of_tree (n := 200) (EnvOK.add s_meniscusref1_Add EnvOK.nil) Try.func152 (args := [cV.av x0, cV.av x1]) (by simp only [AV.vals, Cod.av_val]) (Nat.le_of_ble_eq_true (by kernel_rfl)) LFn.nil cV (by
    rw [t_meniscusref1_AddV]
    rfl)
theorem s_meniscusref1_AddV : Ev.Spec Try.prog 152 (F2 cV cV cV V.add) := spec2 (fun vs w => Try.call152 vs w) c_meniscusref1_AddV

/-! meniscusref1.Scale -/
theorem t_meniscusref1_Scale (x0 : V) (x1 : Iv) :
    evFn Try.prog (Env.add 99 (F2 cIv cIv cIv Iv.mul) Env.nil) Laws.nil 200 Try.f153 [cV.av x0, cIv.av x1] [] cV.dec =
      .bind (x0.x.mul x1) fun viv0 =>
      .bind (x0.y.mul x1) fun viv1 =>
      .bind (x0.z.mul x1) fun viv2 =>
      .ret (Go.Proofs.Ythgpgnijbajlgaa.V.mk viv0 viv1 viv2) := by kernel_rfl
theorem c_meniscusref1_Scale (x0 : V) (x1 : Iv) : Plain Try.prog 153 [cV.enc x0, cIv.enc x1] (cV.enc (V.scale x0 x1)) :=
  plain_of_tree (n := 200) (EnvOK.add s_meniscusref1_MulIv EnvOK.nil) Try.func153 (args := [cV.av x0, cIv.av x1]) (by simp only [AV.vals, Cod.av_val]) (Nat.le_of_ble_eq_true (by kernel_rfl)) LFn.nil cV (by
    rw [t_meniscusref1_Scale]
    rfl)
theorem s_meniscusref1_Scale : Ev.Spec Try.prog 153 (F2 cV cIv cV V.scale) := spec2 (fun vs w => Try.call153 vs w) c_meniscusref1_Scale

/-! meniscusref1.Along -/
theorem t_meniscusref1_Along (x0 : Ray) (x1 : Iv) :
    evFn Try.prog (Env.add 152 (F2 cV cV cV V.add) (Env.add 153 (F2 cV cIv cV V.scale) Env.nil)) Laws.nil 200 Try.f136 [cRay.av x0, cIv.av x1] [] cV.dec =
      .bind (x0.d.scale x1) fun vv0 =>
      .bind (x0.o.add vv0) fun vv1 =>
      .ret (vv1) := by kernel_rfl
theorem c_meniscusref1_Along (x0 : Ray) (x1 : Iv) : Plain Try.prog 136 [cRay.enc x0, cIv.enc x1] (cV.enc (along x0 x1)) :=
  plain_of_tree (n := 200) (EnvOK.add s_meniscusref1_AddV (EnvOK.add s_meniscusref1_Scale EnvOK.nil)) Try.func136 (args := [cRay.av x0, cIv.av x1]) (by simp only [AV.vals, Cod.av_val]) (Nat.le_of_ble_eq_true (by kernel_rfl)) LFn.nil cV (by
    rw [t_meniscusref1_Along]
    rfl)
theorem s_meniscusref1_Along : Ev.Spec Try.prog 136 (F2 cRay cIv cV along) := spec2 (fun vs w => Try.call136 vs w) c_meniscusref1_Along

/-! meniscusref1.Horner -/
theorem tl_meniscusref1_Horner_5 (t6 : Int) (r0 : List Iv) (r1 : Iv) (r2 : Iv) (r3 : Iv) :
    ev Try.prog (Env.add 97 (F1 cInt cIv Iv.point) (Env.add 99 (F2 cIv cIv cIv Iv.mul) (Env.add 100 (F2 cIv cIv cIv Iv.add) (Env.add 110 (F1 cIv cBool Iv.right) (Env.add 111 (F0 cIv Iv.none) Env.nil))))) Laws.nil 200 none (loopAt Try.f56 5) ((sc 37 [6, 0, 3, 4, 5] (tCod 6 cInt (tSl 0 0 (tOwn 3 1 (tOwn 4 2 (tOwn 5 3 tNil))))) (rL_iv (rBox ccIv ccIv_ok (rBox ccIv ccIv_ok (rBox ccIv ccIv_ok rNil))))).enc ((t6, ()), (r0, r1, r2, r3, ()))) (backK (sc 37 [6, 0, 3, 4, 5] (tCod 6 cInt (tSl 0 0 (tOwn 3 1 (tOwn 4 2 (tOwn 5 3 tNil))))) (rL_iv (rBox ccIv ccIv_ok (rBox ccIv ccIv_ok (rBox ccIv ccIv_ok rNil))))) (ocExit 0 (sc 37 [4, 5] (tOwn 4 0 (tOwn 5 1 tNil)) (rBox ccIv ccIv_ok (rBox ccIv ccIv_ok rNil))))) =
      .br (Decidable.decide (t6 ≥ 0))
       (
        .bind (r3.mul r1) fun viv0 =>
        .br (Decidable.decide (0 ≤ t6 ∧ t6 < (@Nat.cast Int _ r0.length)))
         (
          .get (r0[t6.toNat]?) fun vt1 =>
          .bind (viv0.add vt1) fun viv2 =>
          .ret (Sum.inl ((Go.IntKind.i64.wrap (t6 - 1), ()), r0, r1, r2, viv2, ())))
         (
          .fail))
       (
        .ret (Sum.inr ((), r2, r3, ()))) := by kernel_rfl
theorem ok_meniscusref1_Horner_5 : LOK Try.prog (LoopR.of (sc 37 [6, 0, 3, 4, 5] (tCod 6 cInt (tSl 0 0 (tOwn 3 1 (tOwn 4 2 (tOwn 5 3 tNil))))) (rL_iv (rBox ccIv ccIv_ok (rBox ccIv ccIv_ok (rBox ccIv ccIv_ok rNil))))) (ocExit 0 (sc 37 [4, 5] (tOwn 4 0 (tOwn 5 1 tNil)) (rBox ccIv ccIv_ok (rBox ccIv ccIv_ok rNil)))) hornRun) (loopAt Try.f56 5) := by
  refine loop_ok (EnvOK.add s_meniscusref1_Point (EnvOK.add s_meniscusref1_MulIv (EnvOK.add s_meniscusref1_Add (EnvOK.add s_meniscusref1_Right (EnvOK.add s_meniscusref1_None EnvOK.nil))))) (LFn.at (fn := Try.f56) LFn.nil 5) hornStep (n := 200) (fun x z h => ?_) hornRun_ok
  obtain ⟨⟨t6, ⟨⟩⟩, ⟨r0, r1, r2, r3, ⟨⟩⟩⟩ := x
  rw [tl_meniscusref1_Horner_5]
  rw [← h]
  simp only [den_br, den_bind, den_ret, den_fail, den_inl, den_inr, decide_eq_true_eq]
  simp only [hornStep]
  by_cases h0 : 0 ≤ t6 <;> simp only [h0, if_true, if_false, true_and]
  by_cases h1 : t6 < (r0.length : Int) <;> simp only [h1, if_true, if_false]
  cases hg : r0[t6.toNat]? with
  | none => rfl
  | some a => simp only [den_get, den_br, den_bind, den_ret, den_fail]
theorem t_meniscusref1_Horner (t1 : Iv) (r0 : List Iv) :
    evFn Try.prog (Env.add 97 (F1 cInt cIv Iv.point) (Env.add 99 (F2 cIv cIv cIv Iv.mul) (Env.add 100 (F2 cIv cIv cIv Iv.add) (Env.add 110 (F1 cIv cBool Iv.right) (Env.add 111 (F0 cIv Iv.none) Env.nil))))) (Laws.add 5 (LoopR.of (sc 37 [6, 0, 3, 4, 5] (tCod 6 cInt (tSl 0 0 (tOwn 3 1 (tOwn 4 2 (tOwn 5 3 tNil))))) (rL_iv (rBox ccIv ccIv_ok (rBox ccIv ccIv_ok (rBox ccIv ccIv_ok rNil))))) (ocExit 0 (sc 37 [4, 5] (tOwn 4 0 (tOwn 5 1 tNil)) (rBox ccIv ccIv_ok (rBox ccIv ccIv_ok rNil)))) hornRun) Laws.nil) 200 Try.f56 (((sc 2 [0, 1] (tSl 0 0 (tCod 1 cIv tNil)) (rL_iv rNil)).enc ((t1, ()), (r0, ()))).tmps.map Prod.snd) ((sc 2 [0, 1] (tSl 0 0 (tCod 1 cIv tNil)) (rL_iv rNil)).enc ((t1, ()), (r0, ()))).mem cIv.dec =
      .br ((@Nat.cast Int _ r0.length) == 0)
       (
        .bind (Go.Proofs.Ythgpgnijbajlgaa.Iv.point 0) fun viv0 =>
        .ret (viv0))
       (
        .br (Decidable.decide (0 ≤ Go.IntKind.i64.wrap ((@Nat.cast Int _ r0.length) - 1) ∧ Go.IntKind.i64.wrap ((@Nat.cast Int _ r0.length) - 1) < (@Nat.cast Int _ r0.length)))
         (
          .get (r0[(Go.IntKind.i64.wrap ((@Nat.cast Int _ r0.length) - 1)).toNat]?) fun vt1 =>
          .get (Go.Proofs.Ythgpgnijbajlgaa.hornRun ((Go.IntKind.i64.wrap ((@Nat.cast Int _ r0.length) - 2), ()), r0, t1, Go.Proofs.Ythgpgnijbajlgaa.Iv.mk 0 0 Bool.false, vt1, ())) fun vy2 =>
          .bind (vy2.snd.snd.fst.right) fun vb3 =>
          .br (!vb3)
           (
            .bind (Go.Proofs.Ythgpgnijbajlgaa.Iv.none) fun viv4 =>
            .ret (viv4))
           (
            .ret (vy2.snd.snd.fst)))
         (
          .fail)) := by kernel_rfl
theorem c_meniscusref1_Horner : PlainS Try.prog 56 (sc 2 [0, 1] (tSl 0 0 (tCod 1 cIv tNil)) (rL_iv rNil)) cIv (fun x => lenOk x.2.1) ((fun x => horner x.2.1 x.1.1)) := by
  intro x h N w vs hM hv
  obtain ⟨⟨t1, ⟨⟩⟩, ⟨r0, ⟨⟩⟩⟩ := x
  refine calls_of_tree (n := 200) (EnvOK.add s_meniscusref1_Point (EnvOK.add s_meniscusref1_MulIv (EnvOK.add s_meniscusref1_Add (EnvOK.add s_meniscusref1_Right (EnvOK.add s_meniscusref1_None EnvOK.nil))))) Try.func56 hv (Nat.le_of_ble_eq_true (by kernel_rfl)) (LFn.add (fn := Try.f56) (i := 5) (by kernel_rfl) ok_meniscusref1_Horner_5 LFn.nil) hM cIv ?_
  rw [t_meniscusref1_Horner]
  simp only [den_br, den_bind, den_ret, den_fail, den_inl, den_inr, decide_eq_true_eq]
  simp at h
  have hl := lenOk_iff.1 h
  have e1 : IntKind.i64.wrap ((r0.length : Int) - 1) = (r0.length : Int) - 1 := wr (by omega)
  have e2 : IntKind.i64.wrap ((r0.length : Int) - 2) = (r0.length : Int) - 2 := wr (by omega)
  simp only [e1, e2, horner]
  by_cases h0 : r0.length = 0
  · simp [h0]
  have h1 : ¬ ((r0.length : Int) = 0) := by omega
  have hlt : ((r0.length : Int) - 1).toNat < r0.length := by omega
  have et : ((r0.length : Int) - 1).toNat = r0.length - 1 := by omega
  have hr : hornRun (((r0.length : Int) - 2, ()), (r0, t1, Iv.zero, atI r0 (r0.length - 1), ())) = some ((), (Iv.zero, hornerD r0 t1 (r0.length - 1) (atI r0 (r0.length - 1)), ())) := by
    simp only [hornRun]
    rw [if_pos (by omega)]
    have : ((r0.length : Int) - 2 + 1).toNat = r0.length - 1 := by omega
    rw [this]
  rw [get_atI hlt, et]
  have h2 : 0 ≤ (r0.length : Int) - 1 ∧ (r0.length : Int) - 1 < (r0.length : Int) := by omega
  have h3 : ((r0.length : Int) == 0) = false := beq_eq_false_iff_ne.2 h1
  simp only [h0, h2, h3, if_true, if_false, Bool.false_eq_true, den_get]
  rw [show (⟨0, 0, false⟩ : Iv) = Iv.zero from rfl, hr]
  simp only [den_get, den_bind, den_br, den_ret]
  cases (hornerD r0 t1 (r0.length - 1) (atI r0 (r0.length - 1))).right <;> rfl
theorem s_meniscusref1_Horner : Ev.Spec Try.prog 56 (FS (sc 2 [0, 1] (tSl 0 0 (tCod 1 cIv tNil)) (rL_iv rNil)) cIv (fun x => lenOk x.2.1) ((fun x => horner x.2.1 x.1.1))) := specS rfl (fun vs w => Try.call56 vs w) c_meniscusref1_Horner

/-! meniscusref1.Slope -/
theorem tl_meniscusref1_Slope_3 (t4 : Int) (r0 : List Iv) (r1 : List Iv) :
    ev Try.prog (Env.add 103 (F2 cIv cInt cIv Iv.times) Env.nil) Laws.nil 200 none (loopAt Try.f53 3) ((sc 21 [4, 0, 3] (tCod 4 cInt (tSl 0 0 (tSl 3 1 tNil))) (rL_iv (rG_iv 63 rNil))).enc ((t4, ()), (r0, r1, ()))) (backK (sc 21 [4, 0, 3] (tCod 4 cInt (tSl 0 0 (tSl 3 1 tNil))) (rL_iv (rG_iv 63 rNil))) (ocExit 0 (sc 21 [3] (tSl 3 0 tNil) (rG_iv 63 rNil)))) =
      .br (Decidable.decide (t4 < (@Nat.cast Int _ r0.length)))
       (
        .br (Decidable.decide (0 ≤ t4 ∧ t4 < (@Nat.cast Int _ r0.length)))
         (
          .get (r0[t4.toNat]?) fun vt0 =>
          .bind (Go.Proofs.Ythgpgnijbajlgaa.Iv.times vt0 t4) fun viv1 =>
          .br (Go.Proofs.Ythgpgnijbajlgaa.Ev.lenOk (r1 ++ [viv1]))
           (
            .ret (Sum.inl ((Go.IntKind.i64.wrap (t4 + 1), ()), r0, r1 ++ [viv1], ())))
           (
            .fail))
         (
          .fail))
       (
        .ret (Sum.inr ((), r1, ()))) := by kernel_rfl
theorem ok_meniscusref1_Slope_3 : LOK Try.prog (LoopR.of (sc 21 [4, 0, 3] (tCod 4 cInt (tSl 0 0 (tSl 3 1 tNil))) (rL_iv (rG_iv 63 rNil))) (ocExit 0 (sc 21 [3] (tSl 3 0 tNil) (rG_iv 63 rNil))) slopeRun) (loopAt Try.f53 3) := by
  refine loop_ok (EnvOK.add s_meniscusref1_Times EnvOK.nil) (LFn.at (fn := Try.f53) LFn.nil 3) slopeStep (n := 200) (fun x z h => ?_) slopeRun_ok
  obtain ⟨⟨t4, ⟨⟩⟩, ⟨r0, r1, ⟨⟩⟩⟩ := x
  rw [tl_meniscusref1_Slope_3]
  rw [← h]
  simp only [den_br, den_bind, den_ret, den_fail, den_inl, den_inr, decide_eq_true_eq]
  simp only [slopeStep]
  by_cases h0 : t4 < (r0.length : Int) <;> simp only [h0, if_true, if_false, and_true]
  by_cases h1 : 0 ≤ t4 <;> simp only [h1, if_true, if_false]
  cases hg : r0[t4.toNat]? with
  | none => rfl
  | some a => simp only [den_get, den_br, den_bind, den_ret, den_fail]
theorem t_meniscusref1_Slope (r0 : List Iv) :
    evFnR Try.prog (Env.add 103 (F2 cIv cInt cIv Iv.times) Env.nil) (Laws.add 3 (LoopR.of (sc 21 [4, 0, 3] (tCod 4 cInt (tSl 0 0 (tSl 3 1 tNil))) (rL_iv (rG_iv 63 rNil))) (ocExit 0 (sc 21 [3] (tSl 3 0 tNil) (rG_iv 63 rNil))) slopeRun) Laws.nil) 200 Try.f53 (((sc 1 [0] (tSl 0 0 tNil) (rL_iv rNil)).enc ((()), (r0, ()))).tmps.map Prod.snd) ((sc 1 [0] (tSl 0 0 tNil) (rL_iv rNil)).enc ((()), (r0, ()))).mem (sc 1 [0] (tSl 0 0 tNil) (rG_iv 63 rNil)).ts (sc 1 [0] (tSl 0 0 tNil) (rG_iv 63 rNil)).dec =
      .get (Go.Proofs.Ythgpgnijbajlgaa.slopeRun ((1, ()), r0, [], ())) fun vy0 =>
      .ret (((), vy0.snd.fst, ())) := by kernel_rfl
theorem c_meniscusref1_Slope : PlainR Try.prog 53 (sc 1 [0] (tSl 0 0 tNil) (rL_iv rNil)) (sc 1 [0] (tSl 0 0 tNil) (rG_iv 63 rNil)) (fun x => lenOk x.2.1) ((fun x => (((), (slope x.2.1, ()))))) := by
  intro x h N w vs hM hv
  obtain ⟨⟨⟩, ⟨r0, ⟨⟩⟩⟩ := x
  refine calls_of_treeR (n := 200) (EnvOK.add s_meniscusref1_Times EnvOK.nil) Try.func53 hv (Nat.le_of_ble_eq_true (by kernel_rfl)) (LFn.add (fn := Try.f53) (i := 3) (by kernel_rfl) ok_meniscusref1_Slope_3 LFn.nil) hM (sc 1 [0] (tSl 0 0 tNil) (rG_iv 63 rNil)) rfl ?_
  rw [t_meniscusref1_Slope]
  simp only [den_br, den_bind, den_ret, den_fail, den_inl, den_inr, decide_eq_true_eq]
  simp at h
  have hl := lenOk_iff.1 h
  have hr : slopeRun ((1, ()), (r0, [], ())) = some ((), (slope r0, ())) := by
    refine (if_pos ⟨by omega, by omega, by omega, by simp⟩).trans ?_
    rfl
  rw [hr]
  rfl
theorem s_meniscusref1_Slope : Ev.Spec Try.prog 53 (FR (sc 1 [0] (tSl 0 0 tNil) (rL_iv rNil)) (sc 1 [0] (tSl 0 0 tNil) (rG_iv 63 rNil)) (fun x => lenOk x.2.1) ((fun x => (((), (slope x.2.1, ())))))) := specR rfl (fun _ => rfl) (fun vs w => Try.call53 vs w) c_meniscusref1_Slope

/-! meniscusref14.none -/
theorem t_meniscusref14_none  :
    evFn Try.prog (Env.add 111 (F0 cIv Iv.none) Env.nil) Laws.nil 200 Try.f112 [] [] cIv.dec =
      .bind (Go.Proofs.Ythgpgnijbajlgaa.Iv.none) fun viv0 =>
      .ret (viv0) := by kernel_rfl
theorem c_meniscusref14_none  : Plain Try.prog 112 [] (cIv.enc (Iv.none)) :=
  plain_of_tree (n := 200) (EnvOK.add s_meniscusref1_None EnvOK.nil) Try.func112 (args := []) rfl (Nat.le_of_ble_eq_true (by kernel_rfl)) LFn.nil cIv (by
    rw [t_meniscusref14_none]
    rfl)
theorem s_meniscusref14_none : Ev.Spec Try.prog 112 (F0 cIv Iv.none) := spec0 (fun vs w => Try.call112 vs w) c_meniscusref14_none
end Go.Proofs.Ythgpgnijbajlgaa
