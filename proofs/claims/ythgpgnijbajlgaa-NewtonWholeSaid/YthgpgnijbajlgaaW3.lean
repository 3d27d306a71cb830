/-
  Contracts of calls, written by a small program of this session out of the evaluator's trees.
-/
import Derived.Test.YthgpgnijbajlgaaCore
import Derived.Test.YthgpgnijbajlgaaCoreLoops
import Derived.Test.YthgpgnijbajlgaaCore2
import Derived.Test.YthgpgnijbajlgaaCore3
import Derived.Test.YthgpgnijbajlgaaPlane
import Derived.Test.YthgpgnijbajlgaaNewtonW
import Derived.Test.YthgpgnijbajlgaaEvCod
import Derived.Test.YthgpgnijbajlgaaEvRet
import Derived.Test.YthgpgnijbajlgaaProg
import Derived.Test.YthgpgnijbajlgaaW2
namespace Go.Proofs.Ythgpgnijbajlgaa
open Go Go.RowKit Ev
set_option maxRecDepth 100000
set_option linter.unusedVariables false
set_option linter.unusedSimpArgs false

/-! meniscuslaw7.NewtonWhole -/
theorem t_meniscuslaw7_NewtonWhole (t0 : Int) (t1 : Int) (t2 : Int) (t3 : Int) (t4 : Bool) :
    evFn Try.prog (Env.add 22 (F2p cInt cInt cInt pickOk pick) (Env.add 51 (F2 cInt cInt cIv wide) (Env.add 54 (FS (sc 3 [0, 1, 2] (tClo 0 61 [0,1] (tCod 1 cIv (tCod 2 cInt tNil))) (rRo ccInt ccInt_ok (rRo ccInt ccInt_ok rNil))) (cTwo cIv cInt) (fun _ => true) ((fun x => _root_.Go.Proofs.Ythgpgnijbajlgaa.solve ((fun (c : Int × Int × Unit) => wholeF c.1 c.2.1) x.2) x.1.1 x.1.2.1))) (Env.add 54 (FS (sc 3 [0, 1, 2] (tClo 0 71 [] (tCod 1 cIv (tCod 2 cInt tNil))) rNil) (cTwo cIv cInt) (fun _ => true) ((fun x => _root_.Go.Proofs.Ythgpgnijbajlgaa.solve ((fun (_ : Unit) => lineF) x.2) x.1.1 x.1.2.1))) (Env.add 58 (F0 cBool true) (Env.add 61 (FS (sc 3 [0, 1, 2] (tCod 0 cIv (tOwn 1 0 (tOwn 2 1 tNil))) (rRo ccInt ccInt_ok (rRo ccInt ccInt_ok rNil))) (cTwo cIv cIv) (fun _ => true) ((fun x => (fun (c : Int × Int × Unit) => wholeF c.1 c.2.1) x.2 x.1.1))) (Env.add 63 (F2 cIv cInt cBool Iv.has) Env.nil))))))) Laws.nil 200 Try.f13 (((sc 5 [0, 1, 2, 3, 4] (tCod 0 cInt (tCod 1 cInt (tCod 2 cInt (tCod 3 cInt (tCod 4 cBool tNil))))) rNil).enc ((t0, t1, t2, t3, t4, ()), (()))).tmps.map Prod.snd) ((sc 5 [0, 1, 2, 3, 4] (tCod 0 cInt (tCod 1 cInt (tCod 2 cInt (tCod 3 cInt (tCod 4 cBool tNil))))) rNil).enc ((t0, t1, t2, t3, t4, ()), (()))).mem cBool.dec =
      .br (Go.Proofs.Ythgpgnijbajlgaa.pickOk t0 21)
       (
        .bind (Go.Proofs.Ythgpgnijbajlgaa.pick t0 21) fun vn0 =>
        .br (Go.Proofs.Ythgpgnijbajlgaa.pickOk t1 5)
         (
          .bind (Go.Proofs.Ythgpgnijbajlgaa.pick t1 5) fun vn1 =>
          .br (t4)
           (
            .br (Go.Proofs.Ythgpgnijbajlgaa.pickOk t2 2621440)
             (
              .bind (Go.Proofs.Ythgpgnijbajlgaa.pick t2 2621440) fun vn2 =>
              .br (Go.Proofs.Ythgpgnijbajlgaa.pickOk t3 1310720)
               (
                .bind (Go.Proofs.Ythgpgnijbajlgaa.pick t3 1310720) fun vn3 =>
                .bind (Go.Proofs.Ythgpgnijbajlgaa.wide (Go.IntKind.i64.wrap (vn2 - 1310720)) vn3) fun viv4 =>
                .br (Bool.true)
                 (
                  .bind (Go.Proofs.Ythgpgnijbajlgaa.solve (Go.Proofs.Ythgpgnijbajlgaa.wholeF (Go.IntKind.i64.wrap (vn0 - 10)) (Go.IntKind.i64.wrap (0 - Go.IntKind.i64.wrap (1 + vn1)))) viv4 20) fun vy5 =>
                  .br (Decidable.decide (Go.IntKind.i64.wrap (viv4.lo + 2) < Go.IntKind.i64.wrap (Go.IntKind.i64.wrap (vn0 - 10) * 65536)))
                   (
                    .br (Decidable.decide (Go.IntKind.i64.wrap (viv4.lo - 2) > Go.IntKind.i64.wrap (Go.IntKind.i64.wrap (vn0 - 10) * 65536)))
                     (
                      .bind (Bool.true) fun vb6 =>
                      .br (!vb6)
                       (
                        .ret (Bool.false))
                       (
                        .br (Decidable.decide (Go.IntKind.i64.wrap (viv4.hi - 2) > Go.IntKind.i64.wrap (Go.IntKind.i64.wrap (vn0 - 10) * 65536)))
                         (
                          .br (vy5.snd != 1)
                           (
                            .ret (Bool.false))
                           (
                            .br (vy5.snd != 2)
                             (
                              .ret (Bool.false))
                             (
                              .br (vy5.snd == 1)
                               (
                                .bind (vy5.fst.has (Go.IntKind.i64.wrap (Go.IntKind.i64.wrap (vn0 - 10) * 65536))) fun vb7 =>
                                .br (!vb7)
                                 (
                                  .ret (Bool.false))
                                 (
                                  .br (vy5.snd != 1)
                                   (
                                    .ret (Bool.true))
                                   (
                                    .ret (Decidable.decide (Go.IntKind.i64.wrap (vy5.fst.hi - vy5.fst.lo) ≤ 2)))))
                               (
                                .br (vy5.snd != 1)
                                 (
                                  .ret (Bool.true))
                                 (
                                  .ret (Decidable.decide (Go.IntKind.i64.wrap (vy5.fst.hi - vy5.fst.lo) ≤ 2)))))))
                         (
                          .br (vy5.snd != 2)
                           (
                            .ret (Bool.false))
                           (
                            .br (vy5.snd == 1)
                             (
                              .bind (vy5.fst.has (Go.IntKind.i64.wrap (Go.IntKind.i64.wrap (vn0 - 10) * 65536))) fun vb8 =>
                              .br (!vb8)
                               (
                                .ret (Bool.false))
                               (
                                .br (vy5.snd != 1)
                                 (
                                  .ret (Bool.true))
                                 (
                                  .ret (Decidable.decide (Go.IntKind.i64.wrap (vy5.fst.hi - vy5.fst.lo) ≤ 2)))))
                             (
                              .br (vy5.snd != 1)
                               (
                                .ret (Bool.true))
                               (
                                .ret (Decidable.decide (Go.IntKind.i64.wrap (vy5.fst.hi - vy5.fst.lo) ≤ 2))))))))
                     (
                      .bind (Bool.true) fun vb9 =>
                      .br (!vb9)
                       (
                        .ret (Bool.false))
                       (
                        .br (Decidable.decide (Go.IntKind.i64.wrap (viv4.hi - 2) > Go.IntKind.i64.wrap (Go.IntKind.i64.wrap (vn0 - 10) * 65536)))
                         (
                          .br (vy5.snd != 1)
                           (
                            .ret (Bool.false))
                           (
                            .br (Decidable.decide (Go.IntKind.i64.wrap (viv4.hi + 2) < Go.IntKind.i64.wrap (Go.IntKind.i64.wrap (vn0 - 10) * 65536)))
                             (
                              .br (vy5.snd != 2)
                               (
                                .ret (Bool.false))
                               (
                                .br (vy5.snd == 1)
                                 (
                                  .bind (vy5.fst.has (Go.IntKind.i64.wrap (Go.IntKind.i64.wrap (vn0 - 10) * 65536))) fun vb10 =>
                                  .br (!vb10)
                                   (
                                    .ret (Bool.false))
                                   (
                                    .br (vy5.snd != 1)
                                     (
                                      .ret (Bool.true))
                                     (
                                      .ret (Decidable.decide (Go.IntKind.i64.wrap (vy5.fst.hi - vy5.fst.lo) ≤ 2)))))
                                 (
                                  .br (vy5.snd != 1)
                                   (
                                    .ret (Bool.true))
                                   (
                                    .ret (Decidable.decide (Go.IntKind.i64.wrap (vy5.fst.hi - vy5.fst.lo) ≤ 2))))))
                             (
                              .br (vy5.snd == 1)
                               (
                                .bind (vy5.fst.has (Go.IntKind.i64.wrap (Go.IntKind.i64.wrap (vn0 - 10) * 65536))) fun vb11 =>
                                .br (!vb11)
                                 (
                                  .ret (Bool.false))
                                 (
                                  .br (vy5.snd != 1)
                                   (
                                    .ret (Bool.true))
                                   (
                                    .ret (Decidable.decide (Go.IntKind.i64.wrap (vy5.fst.hi - vy5.fst.lo) ≤ 2)))))
                               (
                                .br (vy5.snd != 1)
                                 (
                                  .ret (Bool.true))
                                 (
                                  .ret (Decidable.decide (Go.IntKind.i64.wrap (vy5.fst.hi - vy5.fst.lo) ≤ 2)))))))
                         (
                          .br (Decidable.decide (Go.IntKind.i64.wrap (viv4.hi + 2) < Go.IntKind.i64.wrap (Go.IntKind.i64.wrap (vn0 - 10) * 65536)))
                           (
                            .br (vy5.snd != 2)
                             (
                              .ret (Bool.false))
                             (
                              .br (vy5.snd == 1)
                               (
                                .bind (vy5.fst.has (Go.IntKind.i64.wrap (Go.IntKind.i64.wrap (vn0 - 10) * 65536))) fun vb12 =>
                                .br (!vb12)
                                 (
                                  .ret (Bool.false))
                                 (
                                  .br (vy5.snd != 1)
                                   (
                                    .ret (Bool.true))
                                   (
                                    .ret (Decidable.decide (Go.IntKind.i64.wrap (vy5.fst.hi - vy5.fst.lo) ≤ 2)))))
                               (
                                .br (vy5.snd != 1)
                                 (
                                  .ret (Bool.true))
                                 (
                                  .ret (Decidable.decide (Go.IntKind.i64.wrap (vy5.fst.hi - vy5.fst.lo) ≤ 2))))))
                           (
                            .br (vy5.snd == 1)
                             (
                              .bind (vy5.fst.has (Go.IntKind.i64.wrap (Go.IntKind.i64.wrap (vn0 - 10) * 65536))) fun vb13 =>
                              .br (!vb13)
                               (
                                .ret (Bool.false))
                               (
                                .br (vy5.snd != 1)
                                 (
                                  .ret (Bool.true))
                                 (
                                  .ret (Decidable.decide (Go.IntKind.i64.wrap (vy5.fst.hi - vy5.fst.lo) ≤ 2)))))
                             (
                              .br (vy5.snd != 1)
                               (
                                .ret (Bool.true))
                               (
                                .ret (Decidable.decide (Go.IntKind.i64.wrap (vy5.fst.hi - vy5.fst.lo) ≤ 2)))))))))
                   (
                    .br (Decidable.decide (Go.IntKind.i64.wrap (viv4.lo - 2) > Go.IntKind.i64.wrap (Go.IntKind.i64.wrap (vn0 - 10) * 65536)))
                     (
                      .bind (Bool.true) fun vb14 =>
                      .br (!vb14)
                       (
                        .ret (Bool.false))
                       (
                        .br (vy5.snd != 2)
                         (
                          .ret (Bool.false))
                         (
                          .br (vy5.snd == 1)
                           (
                            .bind (vy5.fst.has (Go.IntKind.i64.wrap (Go.IntKind.i64.wrap (vn0 - 10) * 65536))) fun vb15 =>
                            .br (!vb15)
                             (
                              .ret (Bool.false))
                             (
                              .br (vy5.snd != 1)
                               (
                                .ret (Bool.true))
                               (
                                .ret (Decidable.decide (Go.IntKind.i64.wrap (vy5.fst.hi - vy5.fst.lo) ≤ 2)))))
                           (
                            .br (vy5.snd != 1)
                             (
                              .ret (Bool.true))
                             (
                              .ret (Decidable.decide (Go.IntKind.i64.wrap (vy5.fst.hi - vy5.fst.lo) ≤ 2)))))))
                     (
                      .bind (Bool.true) fun vb16 =>
                      .br (!vb16)
                       (
                        .ret (Bool.false))
                       (
                        .br (Decidable.decide (Go.IntKind.i64.wrap (viv4.hi + 2) < Go.IntKind.i64.wrap (Go.IntKind.i64.wrap (vn0 - 10) * 65536)))
                         (
                          .br (vy5.snd != 2)
                           (
                            .ret (Bool.false))
                           (
                            .br (vy5.snd == 1)
                             (
                              .bind (vy5.fst.has (Go.IntKind.i64.wrap (Go.IntKind.i64.wrap (vn0 - 10) * 65536))) fun vb17 =>
                              .br (!vb17)
                               (
                                .ret (Bool.false))
                               (
                                .br (vy5.snd != 1)
                                 (
                                  .ret (Bool.true))
                                 (
                                  .ret (Decidable.decide (Go.IntKind.i64.wrap (vy5.fst.hi - vy5.fst.lo) ≤ 2)))))
                             (
                              .br (vy5.snd != 1)
                               (
                                .ret (Bool.true))
                               (
                                .ret (Decidable.decide (Go.IntKind.i64.wrap (vy5.fst.hi - vy5.fst.lo) ≤ 2))))))
                         (
                          .br (vy5.snd == 1)
                           (
                            .bind (vy5.fst.has (Go.IntKind.i64.wrap (Go.IntKind.i64.wrap (vn0 - 10) * 65536))) fun vb18 =>
                            .br (!vb18)
                             (
                              .ret (Bool.false))
                             (
                              .br (vy5.snd != 1)
                               (
                                .ret (Bool.true))
                               (
                                .ret (Decidable.decide (Go.IntKind.i64.wrap (vy5.fst.hi - vy5.fst.lo) ≤ 2)))))
                           (
                            .br (vy5.snd != 1)
                             (
                              .ret (Bool.true))
                             (
                              .ret (Decidable.decide (Go.IntKind.i64.wrap (vy5.fst.hi - vy5.fst.lo) ≤ 2)))))))))
                 (
                  .fail))
               (
                .fail))
             (
              .fail))
           (
            .br (Go.Proofs.Ythgpgnijbajlgaa.pickOk t2 2621440)
             (
              .bind (Go.Proofs.Ythgpgnijbajlgaa.pick t2 2621440) fun vn19 =>
              .br (Go.Proofs.Ythgpgnijbajlgaa.pickOk t3 1310720)
               (
                .bind (Go.Proofs.Ythgpgnijbajlgaa.pick t3 1310720) fun vn20 =>
                .bind (Go.Proofs.Ythgpgnijbajlgaa.wide (Go.IntKind.i64.wrap (vn19 - 1310720)) vn20) fun viv21 =>
                .br (Bool.true)
                 (
                  .bind (Go.Proofs.Ythgpgnijbajlgaa.solve (Go.Proofs.Ythgpgnijbajlgaa.wholeF (Go.IntKind.i64.wrap (vn0 - 10)) (Go.IntKind.i64.wrap (1 + vn1))) viv21 20) fun vy22 =>
                  .br (Decidable.decide (Go.IntKind.i64.wrap (viv21.lo + 2) < Go.IntKind.i64.wrap (Go.IntKind.i64.wrap (vn0 - 10) * 65536)))
                   (
                    .br (Decidable.decide (Go.IntKind.i64.wrap (viv21.lo - 2) > Go.IntKind.i64.wrap (Go.IntKind.i64.wrap (vn0 - 10) * 65536)))
                     (
                      .bind (Bool.true) fun vb23 =>
                      .br (!vb23)
                       (
                        .ret (Bool.false))
                       (
                        .br (Decidable.decide (Go.IntKind.i64.wrap (viv21.hi - 2) > Go.IntKind.i64.wrap (Go.IntKind.i64.wrap (vn0 - 10) * 65536)))
                         (
                          .br (vy22.snd != 1)
                           (
                            .ret (Bool.false))
                           (
                            .br (vy22.snd != 2)
                             (
                              .ret (Bool.false))
                             (
                              .br (vy22.snd == 1)
                               (
                                .bind (vy22.fst.has (Go.IntKind.i64.wrap (Go.IntKind.i64.wrap (vn0 - 10) * 65536))) fun vb24 =>
                                .br (!vb24)
                                 (
                                  .ret (Bool.false))
                                 (
                                  .br (vy22.snd != 1)
                                   (
                                    .ret (Bool.true))
                                   (
                                    .ret (Decidable.decide (Go.IntKind.i64.wrap (vy22.fst.hi - vy22.fst.lo) ≤ 2)))))
                               (
                                .br (vy22.snd != 1)
                                 (
                                  .ret (Bool.true))
                                 (
                                  .ret (Decidable.decide (Go.IntKind.i64.wrap (vy22.fst.hi - vy22.fst.lo) ≤ 2)))))))
                         (
                          .br (vy22.snd != 2)
                           (
                            .ret (Bool.false))
                           (
                            .br (vy22.snd == 1)
                             (
                              .bind (vy22.fst.has (Go.IntKind.i64.wrap (Go.IntKind.i64.wrap (vn0 - 10) * 65536))) fun vb25 =>
                              .br (!vb25)
                               (
                                .ret (Bool.false))
                               (
                                .br (vy22.snd != 1)
                                 (
                                  .ret (Bool.true))
                                 (
                                  .ret (Decidable.decide (Go.IntKind.i64.wrap (vy22.fst.hi - vy22.fst.lo) ≤ 2)))))
                             (
                              .br (vy22.snd != 1)
                               (
                                .ret (Bool.true))
                               (
                                .ret (Decidable.decide (Go.IntKind.i64.wrap (vy22.fst.hi - vy22.fst.lo) ≤ 2))))))))
                     (
                      .bind (Bool.true) fun vb26 =>
                      .br (!vb26)
                       (
                        .ret (Bool.false))
                       (
                        .br (Decidable.decide (Go.IntKind.i64.wrap (viv21.hi - 2) > Go.IntKind.i64.wrap (Go.IntKind.i64.wrap (vn0 - 10) * 65536)))
                         (
                          .br (vy22.snd != 1)
                           (
                            .ret (Bool.false))
                           (
                            .br (Decidable.decide (Go.IntKind.i64.wrap (viv21.hi + 2) < Go.IntKind.i64.wrap (Go.IntKind.i64.wrap (vn0 - 10) * 65536)))
                             (
                              .br (vy22.snd != 2)
                               (
                                .ret (Bool.false))
                               (
                                .br (vy22.snd == 1)
                                 (
                                  .bind (vy22.fst.has (Go.IntKind.i64.wrap (Go.IntKind.i64.wrap (vn0 - 10) * 65536))) fun vb27 =>
                                  .br (!vb27)
                                   (
                                    .ret (Bool.false))
                                   (
                                    .br (vy22.snd != 1)
                                     (
                                      .ret (Bool.true))
                                     (
                                      .ret (Decidable.decide (Go.IntKind.i64.wrap (vy22.fst.hi - vy22.fst.lo) ≤ 2)))))
                                 (
                                  .br (vy22.snd != 1)
                                   (
                                    .ret (Bool.true))
                                   (
                                    .ret (Decidable.decide (Go.IntKind.i64.wrap (vy22.fst.hi - vy22.fst.lo) ≤ 2))))))
                             (
                              .br (vy22.snd == 1)
                               (
                                .bind (vy22.fst.has (Go.IntKind.i64.wrap (Go.IntKind.i64.wrap (vn0 - 10) * 65536))) fun vb28 =>
                                .br (!vb28)
                                 (
                                  .ret (Bool.false))
                                 (
                                  .br (vy22.snd != 1)
                                   (
                                    .ret (Bool.true))
                                   (
                                    .ret (Decidable.decide (Go.IntKind.i64.wrap (vy22.fst.hi - vy22.fst.lo) ≤ 2)))))
                               (
                                .br (vy22.snd != 1)
                                 (
                                  .ret (Bool.true))
                                 (
                                  .ret (Decidable.decide (Go.IntKind.i64.wrap (vy22.fst.hi - vy22.fst.lo) ≤ 2)))))))
                         (
                          .br (Decidable.decide (Go.IntKind.i64.wrap (viv21.hi + 2) < Go.IntKind.i64.wrap (Go.IntKind.i64.wrap (vn0 - 10) * 65536)))
                           (
                            .br (vy22.snd != 2)
                             (
                              .ret (Bool.false))
                             (
                              .br (vy22.snd == 1)
                               (
                                .bind (vy22.fst.has (Go.IntKind.i64.wrap (Go.IntKind.i64.wrap (vn0 - 10) * 65536))) fun vb29 =>
                                .br (!vb29)
                                 (
                                  .ret (Bool.false))
                                 (
                                  .br (vy22.snd != 1)
                                   (
                                    .ret (Bool.true))
                                   (
                                    .ret (Decidable.decide (Go.IntKind.i64.wrap (vy22.fst.hi - vy22.fst.lo) ≤ 2)))))
                               (
                                .br (vy22.snd != 1)
                                 (
                                  .ret (Bool.true))
                                 (
                                  .ret (Decidable.decide (Go.IntKind.i64.wrap (vy22.fst.hi - vy22.fst.lo) ≤ 2))))))
                           (
                            .br (vy22.snd == 1)
                             (
                              .bind (vy22.fst.has (Go.IntKind.i64.wrap (Go.IntKind.i64.wrap (vn0 - 10) * 65536))) fun vb30 =>
                              .br (!vb30)
                               (
                                .ret (Bool.false))
                               (
                                .br (vy22.snd != 1)
                                 (
                                  .ret (Bool.true))
                                 (
                                  .ret (Decidable.decide (Go.IntKind.i64.wrap (vy22.fst.hi - vy22.fst.lo) ≤ 2)))))
                             (
                              .br (vy22.snd != 1)
                               (
                                .ret (Bool.true))
                               (
                                .ret (Decidable.decide (Go.IntKind.i64.wrap (vy22.fst.hi - vy22.fst.lo) ≤ 2)))))))))
                   (
                    .br (Decidable.decide (Go.IntKind.i64.wrap (viv21.lo - 2) > Go.IntKind.i64.wrap (Go.IntKind.i64.wrap (vn0 - 10) * 65536)))
                     (
                      .bind (Bool.true) fun vb31 =>
                      .br (!vb31)
                       (
                        .ret (Bool.false))
                       (
                        .br (vy22.snd != 2)
                         (
                          .ret (Bool.false))
                         (
                          .br (vy22.snd == 1)
                           (
                            .bind (vy22.fst.has (Go.IntKind.i64.wrap (Go.IntKind.i64.wrap (vn0 - 10) * 65536))) fun vb32 =>
                            .br (!vb32)
                             (
                              .ret (Bool.false))
                             (
                              .br (vy22.snd != 1)
                               (
                                .ret (Bool.true))
                               (
                                .ret (Decidable.decide (Go.IntKind.i64.wrap (vy22.fst.hi - vy22.fst.lo) ≤ 2)))))
                           (
                            .br (vy22.snd != 1)
                             (
                              .ret (Bool.true))
                             (
                              .ret (Decidable.decide (Go.IntKind.i64.wrap (vy22.fst.hi - vy22.fst.lo) ≤ 2)))))))
                     (
                      .bind (Bool.true) fun vb33 =>
                      .br (!vb33)
                       (
                        .ret (Bool.false))
                       (
                        .br (Decidable.decide (Go.IntKind.i64.wrap (viv21.hi + 2) < Go.IntKind.i64.wrap (Go.IntKind.i64.wrap (vn0 - 10) * 65536)))
                         (
                          .br (vy22.snd != 2)
                           (
                            .ret (Bool.false))
                           (
                            .br (vy22.snd == 1)
                             (
                              .bind (vy22.fst.has (Go.IntKind.i64.wrap (Go.IntKind.i64.wrap (vn0 - 10) * 65536))) fun vb34 =>
                              .br (!vb34)
                               (
                                .ret (Bool.false))
                               (
                                .br (vy22.snd != 1)
                                 (
                                  .ret (Bool.true))
                                 (
                                  .ret (Decidable.decide (Go.IntKind.i64.wrap (vy22.fst.hi - vy22.fst.lo) ≤ 2)))))
                             (
                              .br (vy22.snd != 1)
                               (
                                .ret (Bool.true))
                               (
                                .ret (Decidable.decide (Go.IntKind.i64.wrap (vy22.fst.hi - vy22.fst.lo) ≤ 2))))))
                         (
                          .br (vy22.snd == 1)
                           (
                            .bind (vy22.fst.has (Go.IntKind.i64.wrap (Go.IntKind.i64.wrap (vn0 - 10) * 65536))) fun vb35 =>
                            .br (!vb35)
                             (
                              .ret (Bool.false))
                             (
                              .br (vy22.snd != 1)
                               (
                                .ret (Bool.true))
                               (
                                .ret (Decidable.decide (Go.IntKind.i64.wrap (vy22.fst.hi - vy22.fst.lo) ≤ 2)))))
                           (
                            .br (vy22.snd != 1)
                             (
                              .ret (Bool.true))
                             (
                              .ret (Decidable.decide (Go.IntKind.i64.wrap (vy22.fst.hi - vy22.fst.lo) ≤ 2)))))))))
                 (
                  .fail))
               (
                .fail))
             (
              .fail)))
         (
          .fail))
       (
        .fail) := by kernel_rfl
theorem c_meniscuslaw7_NewtonWhole : PlainS Try.prog 13 (sc 5 [0, 1, 2, 3, 4] (tCod 0 cInt (tCod 1 cInt (tCod 2 cInt (tCod 3 cInt (tCod 4 cBool tNil))))) rNil) cBool (fun _ => true) ((fun _ => true)) := by
  intro x h N w vs hM hv
  obtain ⟨⟨t0, t1, t2, t3, t4, ⟨⟩⟩, ⟨⟩⟩ := x
  refine calls_of_tree (n := 200) (EnvOK.add s_meniscushand_Pick (EnvOK.add s_meniscushand_Wide (EnvOK.add s_newton_Solve_whole (EnvOK.add s_newton_Solve_line (EnvOK.add s_meniscuslaw7_known (EnvOK.add s_meniscuslaw7_NewtonWhole_1 (EnvOK.add s_iv_Has EnvOK.nil))))))) Try.func13 hv (Nat.le_of_ble_eq_true (by kernel_rfl)) LFn.nil hM cBool ?_
  rw [t_meniscuslaw7_NewtonWhole]
  have p0 : pickOk t0 21 = true := by simp [pickOk]
  have p1 : pickOk t1 5 = true := by simp [pickOk]
  have p2 : pickOk t2 2621440 = true := by simp [pickOk]
  have p3 : pickOk t3 1310720 = true := by simp [pickOk]
  have b0 := pick_bd t0 (m := 21) (by decide)
  have b1 := pick_bd t1 (m := 5) (by decide)
  have b2 := pick_bd t2 (m := 2621440) (by decide)
  have b3 := pick_bd t3 (m := 1310720) (by decide)
  have e0 : IntKind.i64.wrap (pick t0 21 - 10) = pick t0 21 - 10 := wr (by omega)
  have e1 : IntKind.i64.wrap (1 + pick t1 5) = 1 + pick t1 5 := wr (by omega)
  have e2 : IntKind.i64.wrap (0 - (1 + pick t1 5)) = 0 - (1 + pick t1 5) := wr (by omega)
  have e3 : IntKind.i64.wrap (pick t2 2621440 - 1310720) = pick t2 2621440 - 1310720 := wr (by omega)
  have e4 : IntKind.i64.wrap ((pick t0 21 - 10) * 65536) = (pick t0 21 - 10) * 65536 := wr (by omega)
  have hw : wide (pick t2 2621440 - 1310720) (pick t3 1310720) = ⟨pick t2 2621440 - 1310720, pick t2 2621440 - 1310720 + pick t3 1310720, false⟩ := by
    have h1 : within (pick t2 2621440 - 1310720) (-1073741824) 1073741824 = pick t2 2621440 - 1310720 := by simp only [within]; omega
    unfold wide
    rw [h1, w64_of (by omega) (by omega)]
    congr 1
    omega
  simp only [den_br, den_bind, den_ret, den_fail, decide_eq_true_eq, p0, p1, p2, p3, if_true, e0, e1, e2, e3, e4, hw]
  obtain ⟨P, hP⟩ : ∃ P, P = pick t0 21 - 10 := ⟨_, rfl⟩
  obtain ⟨lo, hlo⟩ : ∃ P, P = pick t2 2621440 - 1310720 := ⟨_, rfl⟩
  obtain ⟨wd, hwd⟩ : ∃ P, P = pick t3 1310720 := ⟨_, rfl⟩
  rw [← hP, ← hlo, ← hwd]
  have main : ∀ S : Iv × Int, S = (if P * 65536 < lo ∨ lo + wd < P * 65536 then (Iv.none, 2) else if lo < P * 65536 ∧ P * 65536 < lo + wd then (stp (P * 65536), 1) else (Iv.none, 0)) →
      (S = (Iv.none, 2) ∧ (P * 65536 < lo ∨ lo + wd < P * 65536)) ∨ (S = (stp (P * 65536), 1) ∧ lo < P * 65536 ∧ P * 65536 < lo + wd) ∨ (S = (Iv.none, 0) ∧ ¬ (P * 65536 < lo ∨ lo + wd < P * 65536) ∧ ¬ (lo < P * 65536 ∧ P * 65536 < lo + wd)) := by
    intro S hS
    split at hS
    · exact .inl ⟨hS, by assumption⟩
    · split at hS
      · exact .inr (.inl ⟨hS, by assumption⟩)
      · exact .inr (.inr ⟨hS, by assumption, by assumption⟩)
  have w1 : IntKind.i64.wrap (lo + 2) = lo + 2 := wr (by omega)
  have w2 : IntKind.i64.wrap (lo - 2) = lo - 2 := wr (by omega)
  have w3 : IntKind.i64.wrap (lo + wd - 2) = lo + wd - 2 := wr (by omega)
  have w4 : IntKind.i64.wrap (lo + wd + 2) = lo + wd + 2 := wr (by omega)
  have w5 : IntKind.i64.wrap (P * 65536 - P * 65536) = 0 := by rw [Int.sub_self]; rfl
  have hh : (stp (P * 65536)).has (P * 65536) = true := by
    simp only [Iv.has, stp_right (show -1073741824 ≤ P * 65536 ∧ P * 65536 ≤ 1073741824 by omega)]
    simp [stp]
  have s1 := main _ (solve_whole (p := P) (k := 1 + pick t1 5) (t := ⟨lo, lo + wd, false⟩) (by omega) (by omega) (by omega) rfl (by simp only; omega) (by simp only; omega) (by simp only; omega))
  have s2 := main _ (solve_whole (p := P) (k := 0 - (1 + pick t1 5)) (t := ⟨lo, lo + wd, false⟩) (by omega) (by omega) (by omega) rfl (by simp only; omega) (by simp only; omega) (by simp only; omega))
  simp only [w1, w2, w3, w4]
  generalize solve (wholeF P (1 + pick t1 5)) _ 20 = S1 at *
  generalize solve (wholeF P (0 - (1 + pick t1 5))) _ 20 = S2 at *
  clear hP hlo hwd
  cases t4
  · simp only [Bool.false_eq_true, if_false]
    rcases s1 with ⟨rfl, h1⟩ | ⟨rfl, h1⟩ | ⟨rfl, h1⟩
    · simp [w4]; omega
    · simp only [hh]; simp [stp, w5, w4]; (repeat' split) <;> first | rfl | omega
    · simp [w4]; (repeat' split) <;> first | rfl | omega
  · simp only [if_true]
    rcases s2 with ⟨rfl, h1⟩ | ⟨rfl, h1⟩ | ⟨rfl, h1⟩
    · simp [w4]; omega
    · simp only [hh]; simp [stp, w5, w4]; (repeat' split) <;> first | rfl | omega
    · simp [w4]; (repeat' split) <;> first | rfl | omega
theorem s_meniscuslaw7_NewtonWhole : Ev.Spec Try.prog 13 (FS (sc 5 [0, 1, 2, 3, 4] (tCod 0 cInt (tCod 1 cInt (tCod 2 cInt (tCod 3 cInt (tCod 4 cBool tNil))))) rNil) cBool (fun _ => true) ((fun _ => true))) := specS rfl (fun vs w => Try.call13 vs w) c_meniscuslaw7_NewtonWhole
end Go.Proofs.Ythgpgnijbajlgaa
