/-
  Contracts of calls, written by a small program of this session out of the evaluator's trees.
-/
import Derived.Test.YtemndghpenbmeaaEvCod
import Derived.Test.YtemndghpenbmeaaProg
import Derived.Test.YtemndghpenbmeaaC1
namespace Go.Proofs.Ytemndghpenbmeaa
open Go Go.RowKit Ev
set_option maxRecDepth 100000
set_option linter.unusedVariables false
set_option linter.unusedSimpArgs false

/-! meniscuslaw3.TriKnown -/
theorem t_meniscuslaw3_TriKnown  :
    evFn Try.prog (Env.add 11 (F2 cIv cIv cInt less) (Env.add 12 (F2 cIv cIv cInt notAbove) (Env.add 13 (F0 cBool true) (Env.add 14 (F1 cInt cInt tNot) (Env.add 15 (F2 cInt cInt cInt tAnd) (Env.add 16 (F2 cInt cInt cInt tOr) (Env.add 17 (F2 cInt cInt cIv Iv.of) (Env.add 18 (F0 cIv Iv.none) Env.nil)))))))) 200 Try.f5 [] [] cBool.dec =
      .bind (Go.Proofs.Ytemndghpenbmeaa.Iv.of 1 3) fun iv0 =>
      .bind (Go.Proofs.Ytemndghpenbmeaa.Iv.of 3 5) fun iv1 =>
      .bind (Bool.true) fun b2 =>
      .br (!b2)
       (
        .ret (Bool.false))
       (
        .bind (Go.Proofs.Ytemndghpenbmeaa.notAbove iv0 iv1) fun n3 =>
        .br (n3 != 1)
         (
          .ret (Bool.false))
         (
          .bind (Go.Proofs.Ytemndghpenbmeaa.less iv1 iv0) fun n4 =>
          .br (n4 != 2)
           (
            .ret (Bool.false))
           (
            .bind (Go.Proofs.Ytemndghpenbmeaa.notAbove iv1 iv0) fun n5 =>
            .br (n5 != 0)
             (
              .ret (Bool.false))
             (
              .bind (Go.Proofs.Ytemndghpenbmeaa.Iv.none) fun iv6 =>
              .bind (Go.Proofs.Ytemndghpenbmeaa.less iv6 iv0) fun n7 =>
              .br (n7 != 0)
               (
                .ret (Bool.false))
               (
                .bind (Go.Proofs.Ytemndghpenbmeaa.Iv.of 4 5) fun iv8 =>
                .bind (Go.Proofs.Ytemndghpenbmeaa.notAbove iv8 iv0) fun n9 =>
                .br (n9 != 2)
                 (
                  .ret (Bool.false))
                 (
                  .bind (Go.Proofs.Ytemndghpenbmeaa.tNot 0) fun n10 =>
                  .br (n10 != 0)
                   (
                    .ret (Bool.false))
                   (
                    .bind (Go.Proofs.Ytemndghpenbmeaa.tNot 1) fun n11 =>
                    .br (n11 != 2)
                     (
                      .ret (Bool.false))
                     (
                      .bind (Go.Proofs.Ytemndghpenbmeaa.tAnd 0 0) fun n12 =>
                      .br (n12 != 0)
                       (
                        .ret (Bool.false))
                       (
                        .bind (Go.Proofs.Ytemndghpenbmeaa.tOr 0 0) fun n13 =>
                        .br (n13 != 0)
                         (
                          .ret (Bool.false))
                         (
                          .bind (Go.Proofs.Ytemndghpenbmeaa.tAnd 0 1) fun n14 =>
                          .br (n14 != 0)
                           (
                            .ret (Bool.false))
                           (
                            .bind (Go.Proofs.Ytemndghpenbmeaa.tOr 0 1) fun n15 =>
                            .br (n15 != 1)
                             (
                              .ret (Bool.false))
                             (
                              .bind (Go.Proofs.Ytemndghpenbmeaa.tAnd 0 2) fun n16 =>
                              .br (n16 != 2)
                               (
                                .ret (Bool.false))
                               (
                                .bind (Go.Proofs.Ytemndghpenbmeaa.tOr 0 2) fun n17 =>
                                .br (n17 != 0)
                                 (
                                  .ret (Bool.false))
                                 (
                                  .bind (Go.Proofs.Ytemndghpenbmeaa.tAnd 1 0) fun n18 =>
                                  .br (n18 != 0)
                                   (
                                    .ret (Bool.false))
                                   (
                                    .bind (Go.Proofs.Ytemndghpenbmeaa.tOr 1 0) fun n19 =>
                                    .br (n19 != 1)
                                     (
                                      .ret (Bool.false))
                                     (
                                      .bind (Go.Proofs.Ytemndghpenbmeaa.tAnd 1 1) fun n20 =>
                                      .br (n20 != 1)
                                       (
                                        .ret (Bool.false))
                                       (
                                        .bind (Go.Proofs.Ytemndghpenbmeaa.tOr 1 1) fun n21 =>
                                        .br (n21 != 1)
                                         (
                                          .ret (Bool.false))
                                         (
                                          .bind (Go.Proofs.Ytemndghpenbmeaa.tAnd 1 2) fun n22 =>
                                          .br (n22 != 2)
                                           (
                                            .ret (Bool.false))
                                           (
                                            .bind (Go.Proofs.Ytemndghpenbmeaa.tOr 1 2) fun n23 =>
                                            .br (n23 != 1)
                                             (
                                              .ret (Bool.false))
                                             (
                                              .bind (Go.Proofs.Ytemndghpenbmeaa.tAnd 2 0) fun n24 =>
                                              .br (n24 != 2)
                                               (
                                                .ret (Bool.false))
                                               (
                                                .bind (Go.Proofs.Ytemndghpenbmeaa.tOr 2 0) fun n25 =>
                                                .br (n25 != 0)
                                                 (
                                                  .ret (Bool.false))
                                                 (
                                                  .bind (Go.Proofs.Ytemndghpenbmeaa.tAnd 2 1) fun n26 =>
                                                  .br (n26 != 2)
                                                   (
                                                    .ret (Bool.false))
                                                   (
                                                    .bind (Go.Proofs.Ytemndghpenbmeaa.tOr 2 1) fun n27 =>
                                                    .br (n27 != 1)
                                                     (
                                                      .ret (Bool.false))
                                                     (
                                                      .bind (Go.Proofs.Ytemndghpenbmeaa.tAnd 2 2) fun n28 =>
                                                      .br (n28 != 2)
                                                       (
                                                        .ret (Bool.false))
                                                       (
                                                        .bind (Go.Proofs.Ytemndghpenbmeaa.tOr 2 2) fun n29 =>
                                                        .br (n29 != 2)
                                                         (
                                                          .ret (Bool.false))
                                                         (
                                                          .bind (Go.Proofs.Ytemndghpenbmeaa.tAnd 7 1) fun n30 =>
                                                          .br (n30 == 0)
                                                           (
                                                            .bind (Go.Proofs.Ytemndghpenbmeaa.tOr (-1) 2) fun n31 =>
                                                            .br (n31 == 0)
                                                             (
                                                              .bind (Go.Proofs.Ytemndghpenbmeaa.tNot 9) fun n32 =>
                                                              .ret (n32 == 0))
                                                             (
                                                              .ret (Bool.false)))
                                                           (
                                                            .ret (Bool.false)))))))))))))))))))))))))))) := by kernel_rfl
theorem e_meniscuslaw3_TriKnown : EnvOK Try.prog (Env.add 11 (F2 cIv cIv cInt less) (Env.add 12 (F2 cIv cIv cInt notAbove) (Env.add 13 (F0 cBool true) (Env.add 14 (F1 cInt cInt tNot) (Env.add 15 (F2 cInt cInt cInt tAnd) (Env.add 16 (F2 cInt cInt cInt tOr) (Env.add 17 (F2 cInt cInt cIv Iv.of) (Env.add 18 (F0 cIv Iv.none) Env.nil)))))))) := (EnvOK.add s_tri_Less (EnvOK.add s_tri_NotAbove (EnvOK.add s_meniscuslaw3_known (EnvOK.add s_tri_Not (EnvOK.add s_tri_And (EnvOK.add s_tri_Or (EnvOK.add s_iv_Of (EnvOK.add s_iv_None EnvOK.nil))))))))
end Go.Proofs.Ytemndghpenbmeaa
