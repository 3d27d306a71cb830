/-
  Contracts of calls, written by a small program of this session out of the evaluator's trees.
-/
import Derived.Test.YtemndghpenbmeaaEvCod
import Derived.Test.YtemndghpenbmeaaProg
import Derived.Test.YtemndghpenbmeaaC0
namespace Go.Proofs.Ytemndghpenbmeaa
open Go Go.RowKit Ev
set_option maxRecDepth 100000
set_option linter.unusedVariables false
set_option linter.unusedSimpArgs false

/-! meniscuslaw3.TriTrue -/
theorem t_meniscuslaw3_TriTrue (x0 : Int) (x1 : Int) (x2 : Int) (x3 : Int) (x4 : Int) (x5 : Int) :
    evFn Try.prog (Env.add 7 (F2 cInt cInt cIv tame) (Env.add 8 (F2 cInt cInt cIv wide) (Env.add 9 (F2p cInt cInt cInt pickOk pick) (Env.add 10 (F3 cIv cInt cInt cIv inIv) (Env.add 11 (F2 cIv cIv cInt less) (Env.add 12 (F2 cIv cIv cInt notAbove) (Env.add 13 (F0 cBool true) (Env.add 14 (F1 cInt cInt tNot) Env.nil)))))))) 200 Try.f3 [cInt.av x0, cInt.av x1, cInt.av x2, cInt.av x3, cInt.av x4, cInt.av x5] [] cBool.dec =
      .bind (Go.Proofs.Ytemndghpenbmeaa.tame x0 x1) fun iv0 =>
      .br (Go.Proofs.Ytemndghpenbmeaa.pickOk x2 9000)
       (
        .bind (Go.Proofs.Ytemndghpenbmeaa.pick x2 9000) fun n1 =>
        .br (Go.Proofs.Ytemndghpenbmeaa.pickOk x3 3000)
         (
          .bind (Go.Proofs.Ytemndghpenbmeaa.pick x3 3000) fun n2 =>
          .bind (Go.Proofs.Ytemndghpenbmeaa.wide (Go.IntKind.i64.wrap (Go.IntKind.i64.wrap (iv0.lo + n1) - 4000)) n2) fun iv3 =>
          .bind (Go.Proofs.Ytemndghpenbmeaa.inIv iv0 x4 0) fun iv4 =>
          .bind (Go.Proofs.Ytemndghpenbmeaa.inIv iv3 x5 0) fun iv5 =>
          .bind (Go.Proofs.Ytemndghpenbmeaa.less iv0 iv3) fun n6 =>
          .bind (Go.Proofs.Ytemndghpenbmeaa.notAbove iv0 iv3) fun n7 =>
          .bind (Bool.true) fun b8 =>
          .br (!b8)
           (
            .ret (Bool.false))
           (
            .br (n6 == 1)
             (
              .br (Decidable.decide (iv4.lo ≥ iv5.lo))
               (
                .ret (Bool.false))
               (
                .br (n6 == 2)
                 (
                  .br (Decidable.decide (iv4.lo < iv5.lo))
                   (
                    .ret (Bool.false))
                   (
                    .br (n7 == 1)
                     (
                      .br (Decidable.decide (iv4.lo > iv5.lo))
                       (
                        .ret (Bool.false))
                       (
                        .br (n7 == 2)
                         (
                          .br (Decidable.decide (iv4.lo ≤ iv5.lo))
                           (
                            .ret (Bool.false))
                           (
                            .bind (Go.Proofs.Ytemndghpenbmeaa.inIv iv0 x5 x4) fun iv9 =>
                            .bind (Go.Proofs.Ytemndghpenbmeaa.inIv iv3 x4 x5) fun iv10 =>
                            .br (n6 == 0)
                             (
                              .br (n7 == 0)
                               (
                                .bind (Go.Proofs.Ytemndghpenbmeaa.less iv0 iv3) fun n11 =>
                                .bind (Go.Proofs.Ytemndghpenbmeaa.notAbove iv3 iv0) fun n12 =>
                                .bind (Go.Proofs.Ytemndghpenbmeaa.tNot n12) fun n13 =>
                                .ret (n11 == n13))
                               (
                                .bind (Go.Proofs.Ytemndghpenbmeaa.notAbove iv9 iv10) fun n14 =>
                                .br (n14 == n7)
                                 (
                                  .bind (Go.Proofs.Ytemndghpenbmeaa.less iv0 iv3) fun n15 =>
                                  .bind (Go.Proofs.Ytemndghpenbmeaa.notAbove iv3 iv0) fun n16 =>
                                  .bind (Go.Proofs.Ytemndghpenbmeaa.tNot n16) fun n17 =>
                                  .ret (n15 == n17))
                                 (
                                  .ret (Bool.false))))
                             (
                              .bind (Go.Proofs.Ytemndghpenbmeaa.less iv9 iv10) fun n18 =>
                              .br (n18 == n6)
                               (
                                .br (n7 == 0)
                                 (
                                  .bind (Go.Proofs.Ytemndghpenbmeaa.less iv0 iv3) fun n19 =>
                                  .bind (Go.Proofs.Ytemndghpenbmeaa.notAbove iv3 iv0) fun n20 =>
                                  .bind (Go.Proofs.Ytemndghpenbmeaa.tNot n20) fun n21 =>
                                  .ret (n19 == n21))
                                 (
                                  .bind (Go.Proofs.Ytemndghpenbmeaa.notAbove iv9 iv10) fun n22 =>
                                  .br (n22 == n7)
                                   (
                                    .bind (Go.Proofs.Ytemndghpenbmeaa.less iv0 iv3) fun n23 =>
                                    .bind (Go.Proofs.Ytemndghpenbmeaa.notAbove iv3 iv0) fun n24 =>
                                    .bind (Go.Proofs.Ytemndghpenbmeaa.tNot n24) fun n25 =>
                                    .ret (n23 == n25))
                                   (
                                    .ret (Bool.false))))
                               (
                                .ret (Bool.false)))))
                         (
                          .bind (Go.Proofs.Ytemndghpenbmeaa.inIv iv0 x5 x4) fun iv26 =>
                          .bind (Go.Proofs.Ytemndghpenbmeaa.inIv iv3 x4 x5) fun iv27 =>
                          .br (n6 == 0)
                           (
                            .br (n7 == 0)
                             (
                              .bind (Go.Proofs.Ytemndghpenbmeaa.less iv0 iv3) fun n28 =>
                              .bind (Go.Proofs.Ytemndghpenbmeaa.notAbove iv3 iv0) fun n29 =>
                              .bind (Go.Proofs.Ytemndghpenbmeaa.tNot n29) fun n30 =>
                              .ret (n28 == n30))
                             (
                              .bind (Go.Proofs.Ytemndghpenbmeaa.notAbove iv26 iv27) fun n31 =>
                              .br (n31 == n7)
                               (
                                .bind (Go.Proofs.Ytemndghpenbmeaa.less iv0 iv3) fun n32 =>
                                .bind (Go.Proofs.Ytemndghpenbmeaa.notAbove iv3 iv0) fun n33 =>
                                .bind (Go.Proofs.Ytemndghpenbmeaa.tNot n33) fun n34 =>
                                .ret (n32 == n34))
                               (
                                .ret (Bool.false))))
                           (
                            .bind (Go.Proofs.Ytemndghpenbmeaa.less iv26 iv27) fun n35 =>
                            .br (n35 == n6)
                             (
                              .br (n7 == 0)
                               (
                                .bind (Go.Proofs.Ytemndghpenbmeaa.less iv0 iv3) fun n36 =>
                                .bind (Go.Proofs.Ytemndghpenbmeaa.notAbove iv3 iv0) fun n37 =>
                                .bind (Go.Proofs.Ytemndghpenbmeaa.tNot n37) fun n38 =>
                                .ret (n36 == n38))
                               (
                                .bind (Go.Proofs.Ytemndghpenbmeaa.notAbove iv26 iv27) fun n39 =>
                                .br (n39 == n7)
                                 (
                                  .bind (Go.Proofs.Ytemndghpenbmeaa.less iv0 iv3) fun n40 =>
                                  .bind (Go.Proofs.Ytemndghpenbmeaa.notAbove iv3 iv0) fun n41 =>
                                  .bind (Go.Proofs.Ytemndghpenbmeaa.tNot n41) fun n42 =>
                                  .ret (n40 == n42))
                                 (
                                  .ret (Bool.false))))
                             (
                              .ret (Bool.false))))))
                     (
                      .br (n7 == 2)
                       (
                        .br (Decidable.decide (iv4.lo ≤ iv5.lo))
                         (
                          .ret (Bool.false))
                         (
                          .bind (Go.Proofs.Ytemndghpenbmeaa.inIv iv0 x5 x4) fun iv43 =>
                          .bind (Go.Proofs.Ytemndghpenbmeaa.inIv iv3 x4 x5) fun iv44 =>
                          .br (n6 == 0)
                           (
                            .br (n7 == 0)
                             (
                              .bind (Go.Proofs.Ytemndghpenbmeaa.less iv0 iv3) fun n45 =>
                              .bind (Go.Proofs.Ytemndghpenbmeaa.notAbove iv3 iv0) fun n46 =>
                              .bind (Go.Proofs.Ytemndghpenbmeaa.tNot n46) fun n47 =>
                              .ret (n45 == n47))
                             (
                              .bind (Go.Proofs.Ytemndghpenbmeaa.notAbove iv43 iv44) fun n48 =>
                              .br (n48 == n7)
                               (
                                .bind (Go.Proofs.Ytemndghpenbmeaa.less iv0 iv3) fun n49 =>
                                .bind (Go.Proofs.Ytemndghpenbmeaa.notAbove iv3 iv0) fun n50 =>
                                .bind (Go.Proofs.Ytemndghpenbmeaa.tNot n50) fun n51 =>
                                .ret (n49 == n51))
                               (
                                .ret (Bool.false))))
                           (
                            .bind (Go.Proofs.Ytemndghpenbmeaa.less iv43 iv44) fun n52 =>
                            .br (n52 == n6)
                             (
                              .br (n7 == 0)
                               (
                                .bind (Go.Proofs.Ytemndghpenbmeaa.less iv0 iv3) fun n53 =>
                                .bind (Go.Proofs.Ytemndghpenbmeaa.notAbove iv3 iv0) fun n54 =>
                                .bind (Go.Proofs.Ytemndghpenbmeaa.tNot n54) fun n55 =>
                                .ret (n53 == n55))
                               (
                                .bind (Go.Proofs.Ytemndghpenbmeaa.notAbove iv43 iv44) fun n56 =>
                                .br (n56 == n7)
                                 (
                                  .bind (Go.Proofs.Ytemndghpenbmeaa.less iv0 iv3) fun n57 =>
                                  .bind (Go.Proofs.Ytemndghpenbmeaa.notAbove iv3 iv0) fun n58 =>
                                  .bind (Go.Proofs.Ytemndghpenbmeaa.tNot n58) fun n59 =>
                                  .ret (n57 == n59))
                                 (
                                  .ret (Bool.false))))
                             (
                              .ret (Bool.false)))))
                       (
                        .bind (Go.Proofs.Ytemndghpenbmeaa.inIv iv0 x5 x4) fun iv60 =>
                        .bind (Go.Proofs.Ytemndghpenbmeaa.inIv iv3 x4 x5) fun iv61 =>
                        .br (n6 == 0)
                         (
                          .br (n7 == 0)
                           (
                            .bind (Go.Proofs.Ytemndghpenbmeaa.less iv0 iv3) fun n62 =>
                            .bind (Go.Proofs.Ytemndghpenbmeaa.notAbove iv3 iv0) fun n63 =>
                            .bind (Go.Proofs.Ytemndghpenbmeaa.tNot n63) fun n64 =>
                            .ret (n62 == n64))
                           (
                            .bind (Go.Proofs.Ytemndghpenbmeaa.notAbove iv60 iv61) fun n65 =>
                            .br (n65 == n7)
                             (
                              .bind (Go.Proofs.Ytemndghpenbmeaa.less iv0 iv3) fun n66 =>
                              .bind (Go.Proofs.Ytemndghpenbmeaa.notAbove iv3 iv0) fun n67 =>
                              .bind (Go.Proofs.Ytemndghpenbmeaa.tNot n67) fun n68 =>
                              .ret (n66 == n68))
                             (
                              .ret (Bool.false))))
                         (
                          .bind (Go.Proofs.Ytemndghpenbmeaa.less iv60 iv61) fun n69 =>
                          .br (n69 == n6)
                           (
                            .br (n7 == 0)
                             (
                              .bind (Go.Proofs.Ytemndghpenbmeaa.less iv0 iv3) fun n70 =>
                              .bind (Go.Proofs.Ytemndghpenbmeaa.notAbove iv3 iv0) fun n71 =>
                              .bind (Go.Proofs.Ytemndghpenbmeaa.tNot n71) fun n72 =>
                              .ret (n70 == n72))
                             (
                              .bind (Go.Proofs.Ytemndghpenbmeaa.notAbove iv60 iv61) fun n73 =>
                              .br (n73 == n7)
                               (
                                .bind (Go.Proofs.Ytemndghpenbmeaa.less iv0 iv3) fun n74 =>
                                .bind (Go.Proofs.Ytemndghpenbmeaa.notAbove iv3 iv0) fun n75 =>
                                .bind (Go.Proofs.Ytemndghpenbmeaa.tNot n75) fun n76 =>
                                .ret (n74 == n76))
                               (
                                .ret (Bool.false))))
                           (
                            .ret (Bool.false)))))))
                 (
                  .br (n7 == 1)
                   (
                    .br (Decidable.decide (iv4.lo > iv5.lo))
                     (
                      .ret (Bool.false))
                     (
                      .br (n7 == 2)
                       (
                        .br (Decidable.decide (iv4.lo ≤ iv5.lo))
                         (
                          .ret (Bool.false))
                         (
                          .bind (Go.Proofs.Ytemndghpenbmeaa.inIv iv0 x5 x4) fun iv77 =>
                          .bind (Go.Proofs.Ytemndghpenbmeaa.inIv iv3 x4 x5) fun iv78 =>
                          .br (n6 == 0)
                           (
                            .br (n7 == 0)
                             (
                              .bind (Go.Proofs.Ytemndghpenbmeaa.less iv0 iv3) fun n79 =>
                              .bind (Go.Proofs.Ytemndghpenbmeaa.notAbove iv3 iv0) fun n80 =>
                              .bind (Go.Proofs.Ytemndghpenbmeaa.tNot n80) fun n81 =>
                              .ret (n79 == n81))
                             (
                              .bind (Go.Proofs.Ytemndghpenbmeaa.notAbove iv77 iv78) fun n82 =>
                              .br (n82 == n7)
                               (
                                .bind (Go.Proofs.Ytemndghpenbmeaa.less iv0 iv3) fun n83 =>
                                .bind (Go.Proofs.Ytemndghpenbmeaa.notAbove iv3 iv0) fun n84 =>
                                .bind (Go.Proofs.Ytemndghpenbmeaa.tNot n84) fun n85 =>
                                .ret (n83 == n85))
                               (
                                .ret (Bool.false))))
                           (
                            .bind (Go.Proofs.Ytemndghpenbmeaa.less iv77 iv78) fun n86 =>
                            .br (n86 == n6)
                             (
                              .br (n7 == 0)
                               (
                                .bind (Go.Proofs.Ytemndghpenbmeaa.less iv0 iv3) fun n87 =>
                                .bind (Go.Proofs.Ytemndghpenbmeaa.notAbove iv3 iv0) fun n88 =>
                                .bind (Go.Proofs.Ytemndghpenbmeaa.tNot n88) fun n89 =>
                                .ret (n87 == n89))
                               (
                                .bind (Go.Proofs.Ytemndghpenbmeaa.notAbove iv77 iv78) fun n90 =>
                                .br (n90 == n7)
                                 (
                                  .bind (Go.Proofs.Ytemndghpenbmeaa.less iv0 iv3) fun n91 =>
                                  .bind (Go.Proofs.Ytemndghpenbmeaa.notAbove iv3 iv0) fun n92 =>
                                  .bind (Go.Proofs.Ytemndghpenbmeaa.tNot n92) fun n93 =>
                                  .ret (n91 == n93))
                                 (
                                  .ret (Bool.false))))
                             (
                              .ret (Bool.false)))))
                       (
                        .bind (Go.Proofs.Ytemndghpenbmeaa.inIv iv0 x5 x4) fun iv94 =>
                        .bind (Go.Proofs.Ytemndghpenbmeaa.inIv iv3 x4 x5) fun iv95 =>
                        .br (n6 == 0)
                         (
                          .br (n7 == 0)
                           (
                            .bind (Go.Proofs.Ytemndghpenbmeaa.less iv0 iv3) fun n96 =>
                            .bind (Go.Proofs.Ytemndghpenbmeaa.notAbove iv3 iv0) fun n97 =>
                            .bind (Go.Proofs.Ytemndghpenbmeaa.tNot n97) fun n98 =>
                            .ret (n96 == n98))
                           (
                            .bind (Go.Proofs.Ytemndghpenbmeaa.notAbove iv94 iv95) fun n99 =>
                            .br (n99 == n7)
                             (
                              .bind (Go.Proofs.Ytemndghpenbmeaa.less iv0 iv3) fun n100 =>
                              .bind (Go.Proofs.Ytemndghpenbmeaa.notAbove iv3 iv0) fun n101 =>
                              .bind (Go.Proofs.Ytemndghpenbmeaa.tNot n101) fun n102 =>
                              .ret (n100 == n102))
                             (
                              .ret (Bool.false))))
                         (
                          .bind (Go.Proofs.Ytemndghpenbmeaa.less iv94 iv95) fun n103 =>
                          .br (n103 == n6)
                           (
                            .br (n7 == 0)
                             (
                              .bind (Go.Proofs.Ytemndghpenbmeaa.less iv0 iv3) fun n104 =>
                              .bind (Go.Proofs.Ytemndghpenbmeaa.notAbove iv3 iv0) fun n105 =>
                              .bind (Go.Proofs.Ytemndghpenbmeaa.tNot n105) fun n106 =>
                              .ret (n104 == n106))
                             (
                              .bind (Go.Proofs.Ytemndghpenbmeaa.notAbove iv94 iv95) fun n107 =>
                              .br (n107 == n7)
                               (
                                .bind (Go.Proofs.Ytemndghpenbmeaa.less iv0 iv3) fun n108 =>
                                .bind (Go.Proofs.Ytemndghpenbmeaa.notAbove iv3 iv0) fun n109 =>
                                .bind (Go.Proofs.Ytemndghpenbmeaa.tNot n109) fun n110 =>
                                .ret (n108 == n110))
                               (
                                .ret (Bool.false))))
                           (
                            .ret (Bool.false))))))
                   (
                    .br (n7 == 2)
                     (
                      .br (Decidable.decide (iv4.lo ≤ iv5.lo))
                       (
                        .ret (Bool.false))
                       (
                        .bind (Go.Proofs.Ytemndghpenbmeaa.inIv iv0 x5 x4) fun iv111 =>
                        .bind (Go.Proofs.Ytemndghpenbmeaa.inIv iv3 x4 x5) fun iv112 =>
                        .br (n6 == 0)
                         (
                          .br (n7 == 0)
                           (
                            .bind (Go.Proofs.Ytemndghpenbmeaa.less iv0 iv3) fun n113 =>
                            .bind (Go.Proofs.Ytemndghpenbmeaa.notAbove iv3 iv0) fun n114 =>
                            .bind (Go.Proofs.Ytemndghpenbmeaa.tNot n114) fun n115 =>
                            .ret (n113 == n115))
                           (
                            .bind (Go.Proofs.Ytemndghpenbmeaa.notAbove iv111 iv112) fun n116 =>
                            .br (n116 == n7)
                             (
                              .bind (Go.Proofs.Ytemndghpenbmeaa.less iv0 iv3) fun n117 =>
                              .bind (Go.Proofs.Ytemndghpenbmeaa.notAbove iv3 iv0) fun n118 =>
                              .bind (Go.Proofs.Ytemndghpenbmeaa.tNot n118) fun n119 =>
                              .ret (n117 == n119))
                             (
                              .ret (Bool.false))))
                         (
                          .bind (Go.Proofs.Ytemndghpenbmeaa.less iv111 iv112) fun n120 =>
                          .br (n120 == n6)
                           (
                            .br (n7 == 0)
                             (
                              .bind (Go.Proofs.Ytemndghpenbmeaa.less iv0 iv3) fun n121 =>
                              .bind (Go.Proofs.Ytemndghpenbmeaa.notAbove iv3 iv0) fun n122 =>
                              .bind (Go.Proofs.Ytemndghpenbmeaa.tNot n122) fun n123 =>
                              .ret (n121 == n123))
                             (
                              .bind (Go.Proofs.Ytemndghpenbmeaa.notAbove iv111 iv112) fun n124 =>
                              .br (n124 == n7)
                               (
                                .bind (Go.Proofs.Ytemndghpenbmeaa.less iv0 iv3) fun n125 =>
                                .bind (Go.Proofs.Ytemndghpenbmeaa.notAbove iv3 iv0) fun n126 =>
                                .bind (Go.Proofs.Ytemndghpenbmeaa.tNot n126) fun n127 =>
                                .ret (n125 == n127))
                               (
                                .ret (Bool.false))))
                           (
                            .ret (Bool.false)))))
                     (
                      .bind (Go.Proofs.Ytemndghpenbmeaa.inIv iv0 x5 x4) fun iv128 =>
                      .bind (Go.Proofs.Ytemndghpenbmeaa.inIv iv3 x4 x5) fun iv129 =>
                      .br (n6 == 0)
                       (
                        .br (n7 == 0)
                         (
                          .bind (Go.Proofs.Ytemndghpenbmeaa.less iv0 iv3) fun n130 =>
                          .bind (Go.Proofs.Ytemndghpenbmeaa.notAbove iv3 iv0) fun n131 =>
                          .bind (Go.Proofs.Ytemndghpenbmeaa.tNot n131) fun n132 =>
                          .ret (n130 == n132))
                         (
                          .bind (Go.Proofs.Ytemndghpenbmeaa.notAbove iv128 iv129) fun n133 =>
                          .br (n133 == n7)
                           (
                            .bind (Go.Proofs.Ytemndghpenbmeaa.less iv0 iv3) fun n134 =>
                            .bind (Go.Proofs.Ytemndghpenbmeaa.notAbove iv3 iv0) fun n135 =>
                            .bind (Go.Proofs.Ytemndghpenbmeaa.tNot n135) fun n136 =>
                            .ret (n134 == n136))
                           (
                            .ret (Bool.false))))
                       (
                        .bind (Go.Proofs.Ytemndghpenbmeaa.less iv128 iv129) fun n137 =>
                        .br (n137 == n6)
                         (
                          .br (n7 == 0)
                           (
                            .bind (Go.Proofs.Ytemndghpenbmeaa.less iv0 iv3) fun n138 =>
                            .bind (Go.Proofs.Ytemndghpenbmeaa.notAbove iv3 iv0) fun n139 =>
                            .bind (Go.Proofs.Ytemndghpenbmeaa.tNot n139) fun n140 =>
                            .ret (n138 == n140))
                           (
                            .bind (Go.Proofs.Ytemndghpenbmeaa.notAbove iv128 iv129) fun n141 =>
                            .br (n141 == n7)
                             (
                              .bind (Go.Proofs.Ytemndghpenbmeaa.less iv0 iv3) fun n142 =>
                              .bind (Go.Proofs.Ytemndghpenbmeaa.notAbove iv3 iv0) fun n143 =>
                              .bind (Go.Proofs.Ytemndghpenbmeaa.tNot n143) fun n144 =>
                              .ret (n142 == n144))
                             (
                              .ret (Bool.false))))
                         (
                          .ret (Bool.false))))))))
             (
              .br (n6 == 2)
               (
                .br (Decidable.decide (iv4.lo < iv5.lo))
                 (
                  .ret (Bool.false))
                 (
                  .br (n7 == 1)
                   (
                    .br (Decidable.decide (iv4.lo > iv5.lo))
                     (
                      .ret (Bool.false))
                     (
                      .br (n7 == 2)
                       (
                        .br (Decidable.decide (iv4.lo ≤ iv5.lo))
                         (
                          .ret (Bool.false))
                         (
                          .bind (Go.Proofs.Ytemndghpenbmeaa.inIv iv0 x5 x4) fun iv145 =>
                          .bind (Go.Proofs.Ytemndghpenbmeaa.inIv iv3 x4 x5) fun iv146 =>
                          .br (n6 == 0)
                           (
                            .br (n7 == 0)
                             (
                              .bind (Go.Proofs.Ytemndghpenbmeaa.less iv0 iv3) fun n147 =>
                              .bind (Go.Proofs.Ytemndghpenbmeaa.notAbove iv3 iv0) fun n148 =>
                              .bind (Go.Proofs.Ytemndghpenbmeaa.tNot n148) fun n149 =>
                              .ret (n147 == n149))
                             (
                              .bind (Go.Proofs.Ytemndghpenbmeaa.notAbove iv145 iv146) fun n150 =>
                              .br (n150 == n7)
                               (
                                .bind (Go.Proofs.Ytemndghpenbmeaa.less iv0 iv3) fun n151 =>
                                .bind (Go.Proofs.Ytemndghpenbmeaa.notAbove iv3 iv0) fun n152 =>
                                .bind (Go.Proofs.Ytemndghpenbmeaa.tNot n152) fun n153 =>
                                .ret (n151 == n153))
                               (
                                .ret (Bool.false))))
                           (
                            .bind (Go.Proofs.Ytemndghpenbmeaa.less iv145 iv146) fun n154 =>
                            .br (n154 == n6)
                             (
                              .br (n7 == 0)
                               (
                                .bind (Go.Proofs.Ytemndghpenbmeaa.less iv0 iv3) fun n155 =>
                                .bind (Go.Proofs.Ytemndghpenbmeaa.notAbove iv3 iv0) fun n156 =>
                                .bind (Go.Proofs.Ytemndghpenbmeaa.tNot n156) fun n157 =>
                                .ret (n155 == n157))
                               (
                                .bind (Go.Proofs.Ytemndghpenbmeaa.notAbove iv145 iv146) fun n158 =>
                                .br (n158 == n7)
                                 (
                                  .bind (Go.Proofs.Ytemndghpenbmeaa.less iv0 iv3) fun n159 =>
                                  .bind (Go.Proofs.Ytemndghpenbmeaa.notAbove iv3 iv0) fun n160 =>
                                  .bind (Go.Proofs.Ytemndghpenbmeaa.tNot n160) fun n161 =>
                                  .ret (n159 == n161))
                                 (
                                  .ret (Bool.false))))
                             (
                              .ret (Bool.false)))))
                       (
                        .bind (Go.Proofs.Ytemndghpenbmeaa.inIv iv0 x5 x4) fun iv162 =>
                        .bind (Go.Proofs.Ytemndghpenbmeaa.inIv iv3 x4 x5) fun iv163 =>
                        .br (n6 == 0)
                         (
                          .br (n7 == 0)
                           (
                            .bind (Go.Proofs.Ytemndghpenbmeaa.less iv0 iv3) fun n164 =>
                            .bind (Go.Proofs.Ytemndghpenbmeaa.notAbove iv3 iv0) fun n165 =>
                            .bind (Go.Proofs.Ytemndghpenbmeaa.tNot n165) fun n166 =>
                            .ret (n164 == n166))
                           (
                            .bind (Go.Proofs.Ytemndghpenbmeaa.notAbove iv162 iv163) fun n167 =>
                            .br (n167 == n7)
                             (
                              .bind (Go.Proofs.Ytemndghpenbmeaa.less iv0 iv3) fun n168 =>
                              .bind (Go.Proofs.Ytemndghpenbmeaa.notAbove iv3 iv0) fun n169 =>
                              .bind (Go.Proofs.Ytemndghpenbmeaa.tNot n169) fun n170 =>
                              .ret (n168 == n170))
                             (
                              .ret (Bool.false))))
                         (
                          .bind (Go.Proofs.Ytemndghpenbmeaa.less iv162 iv163) fun n171 =>
                          .br (n171 == n6)
                           (
                            .br (n7 == 0)
                             (
                              .bind (Go.Proofs.Ytemndghpenbmeaa.less iv0 iv3) fun n172 =>
                              .bind (Go.Proofs.Ytemndghpenbmeaa.notAbove iv3 iv0) fun n173 =>
                              .bind (Go.Proofs.Ytemndghpenbmeaa.tNot n173) fun n174 =>
                              .ret (n172 == n174))
                             (
                              .bind (Go.Proofs.Ytemndghpenbmeaa.notAbove iv162 iv163) fun n175 =>
                              .br (n175 == n7)
                               (
                                .bind (Go.Proofs.Ytemndghpenbmeaa.less iv0 iv3) fun n176 =>
                                .bind (Go.Proofs.Ytemndghpenbmeaa.notAbove iv3 iv0) fun n177 =>
                                .bind (Go.Proofs.Ytemndghpenbmeaa.tNot n177) fun n178 =>
                                .ret (n176 == n178))
                               (
                                .ret (Bool.false))))
                           (
                            .ret (Bool.false))))))
                   (
                    .br (n7 == 2)
                     (
                      .br (Decidable.decide (iv4.lo ≤ iv5.lo))
                       (
                        .ret (Bool.false))
                       (
                        .bind (Go.Proofs.Ytemndghpenbmeaa.inIv iv0 x5 x4) fun iv179 =>
                        .bind (Go.Proofs.Ytemndghpenbmeaa.inIv iv3 x4 x5) fun iv180 =>
                        .br (n6 == 0)
                         (
                          .br (n7 == 0)
                           (
                            .bind (Go.Proofs.Ytemndghpenbmeaa.less iv0 iv3) fun n181 =>
                            .bind (Go.Proofs.Ytemndghpenbmeaa.notAbove iv3 iv0) fun n182 =>
                            .bind (Go.Proofs.Ytemndghpenbmeaa.tNot n182) fun n183 =>
                            .ret (n181 == n183))
                           (
                            .bind (Go.Proofs.Ytemndghpenbmeaa.notAbove iv179 iv180) fun n184 =>
                            .br (n184 == n7)
                             (
                              .bind (Go.Proofs.Ytemndghpenbmeaa.less iv0 iv3) fun n185 =>
                              .bind (Go.Proofs.Ytemndghpenbmeaa.notAbove iv3 iv0) fun n186 =>
                              .bind (Go.Proofs.Ytemndghpenbmeaa.tNot n186) fun n187 =>
                              .ret (n185 == n187))
                             (
                              .ret (Bool.false))))
                         (
                          .bind (Go.Proofs.Ytemndghpenbmeaa.less iv179 iv180) fun n188 =>
                          .br (n188 == n6)
                           (
                            .br (n7 == 0)
                             (
                              .bind (Go.Proofs.Ytemndghpenbmeaa.less iv0 iv3) fun n189 =>
                              .bind (Go.Proofs.Ytemndghpenbmeaa.notAbove iv3 iv0) fun n190 =>
                              .bind (Go.Proofs.Ytemndghpenbmeaa.tNot n190) fun n191 =>
                              .ret (n189 == n191))
                             (
                              .bind (Go.Proofs.Ytemndghpenbmeaa.notAbove iv179 iv180) fun n192 =>
                              .br (n192 == n7)
                               (
                                .bind (Go.Proofs.Ytemndghpenbmeaa.less iv0 iv3) fun n193 =>
                                .bind (Go.Proofs.Ytemndghpenbmeaa.notAbove iv3 iv0) fun n194 =>
                                .bind (Go.Proofs.Ytemndghpenbmeaa.tNot n194) fun n195 =>
                                .ret (n193 == n195))
                               (
                                .ret (Bool.false))))
                           (
                            .ret (Bool.false)))))
                     (
                      .bind (Go.Proofs.Ytemndghpenbmeaa.inIv iv0 x5 x4) fun iv196 =>
                      .bind (Go.Proofs.Ytemndghpenbmeaa.inIv iv3 x4 x5) fun iv197 =>
                      .br (n6 == 0)
                       (
                        .br (n7 == 0)
                         (
                          .bind (Go.Proofs.Ytemndghpenbmeaa.less iv0 iv3) fun n198 =>
                          .bind (Go.Proofs.Ytemndghpenbmeaa.notAbove iv3 iv0) fun n199 =>
                          .bind (Go.Proofs.Ytemndghpenbmeaa.tNot n199) fun n200 =>
                          .ret (n198 == n200))
                         (
                          .bind (Go.Proofs.Ytemndghpenbmeaa.notAbove iv196 iv197) fun n201 =>
                          .br (n201 == n7)
                           (
                            .bind (Go.Proofs.Ytemndghpenbmeaa.less iv0 iv3) fun n202 =>
                            .bind (Go.Proofs.Ytemndghpenbmeaa.notAbove iv3 iv0) fun n203 =>
                            .bind (Go.Proofs.Ytemndghpenbmeaa.tNot n203) fun n204 =>
                            .ret (n202 == n204))
                           (
                            .ret (Bool.false))))
                       (
                        .bind (Go.Proofs.Ytemndghpenbmeaa.less iv196 iv197) fun n205 =>
                        .br (n205 == n6)
                         (
                          .br (n7 == 0)
                           (
                            .bind (Go.Proofs.Ytemndghpenbmeaa.less iv0 iv3) fun n206 =>
                            .bind (Go.Proofs.Ytemndghpenbmeaa.notAbove iv3 iv0) fun n207 =>
                            .bind (Go.Proofs.Ytemndghpenbmeaa.tNot n207) fun n208 =>
                            .ret (n206 == n208))
                           (
                            .bind (Go.Proofs.Ytemndghpenbmeaa.notAbove iv196 iv197) fun n209 =>
                            .br (n209 == n7)
                             (
                              .bind (Go.Proofs.Ytemndghpenbmeaa.less iv0 iv3) fun n210 =>
                              .bind (Go.Proofs.Ytemndghpenbmeaa.notAbove iv3 iv0) fun n211 =>
                              .bind (Go.Proofs.Ytemndghpenbmeaa.tNot n211) fun n212 =>
                              .ret (n210 == n212))
                             (
                              .ret (Bool.false))))
                         (
                          .ret (Bool.false)))))))
               (
                .br (n7 == 1)
                 (
                  .br (Decidable.decide (iv4.lo > iv5.lo))
                   (
                    .ret (Bool.false))
                   (
                    .br (n7 == 2)
                     (
                      .br (Decidable.decide (iv4.lo ≤ iv5.lo))
                       (
                        .ret (Bool.false))
                       (
                        .bind (Go.Proofs.Ytemndghpenbmeaa.inIv iv0 x5 x4) fun iv213 =>
                        .bind (Go.Proofs.Ytemndghpenbmeaa.inIv iv3 x4 x5) fun iv214 =>
                        .br (n6 == 0)
                         (
                          .br (n7 == 0)
                           (
                            .bind (Go.Proofs.Ytemndghpenbmeaa.less iv0 iv3) fun n215 =>
                            .bind (Go.Proofs.Ytemndghpenbmeaa.notAbove iv3 iv0) fun n216 =>
                            .bind (Go.Proofs.Ytemndghpenbmeaa.tNot n216) fun n217 =>
                            .ret (n215 == n217))
                           (
                            .bind (Go.Proofs.Ytemndghpenbmeaa.notAbove iv213 iv214) fun n218 =>
                            .br (n218 == n7)
                             (
                              .bind (Go.Proofs.Ytemndghpenbmeaa.less iv0 iv3) fun n219 =>
                              .bind (Go.Proofs.Ytemndghpenbmeaa.notAbove iv3 iv0) fun n220 =>
                              .bind (Go.Proofs.Ytemndghpenbmeaa.tNot n220) fun n221 =>
                              .ret (n219 == n221))
                             (
                              .ret (Bool.false))))
                         (
                          .bind (Go.Proofs.Ytemndghpenbmeaa.less iv213 iv214) fun n222 =>
                          .br (n222 == n6)
                           (
                            .br (n7 == 0)
                             (
                              .bind (Go.Proofs.Ytemndghpenbmeaa.less iv0 iv3) fun n223 =>
                              .bind (Go.Proofs.Ytemndghpenbmeaa.notAbove iv3 iv0) fun n224 =>
                              .bind (Go.Proofs.Ytemndghpenbmeaa.tNot n224) fun n225 =>
                              .ret (n223 == n225))
                             (
                              .bind (Go.Proofs.Ytemndghpenbmeaa.notAbove iv213 iv214) fun n226 =>
                              .br (n226 == n7)
                               (
                                .bind (Go.Proofs.Ytemndghpenbmeaa.less iv0 iv3) fun n227 =>
                                .bind (Go.Proofs.Ytemndghpenbmeaa.notAbove iv3 iv0) fun n228 =>
                                .bind (Go.Proofs.Ytemndghpenbmeaa.tNot n228) fun n229 =>
                                .ret (n227 == n229))
                               (
                                .ret (Bool.false))))
                           (
                            .ret (Bool.false)))))
                     (
                      .bind (Go.Proofs.Ytemndghpenbmeaa.inIv iv0 x5 x4) fun iv230 =>
                      .bind (Go.Proofs.Ytemndghpenbmeaa.inIv iv3 x4 x5) fun iv231 =>
                      .br (n6 == 0)
                       (
                        .br (n7 == 0)
                         (
                          .bind (Go.Proofs.Ytemndghpenbmeaa.less iv0 iv3) fun n232 =>
                          .bind (Go.Proofs.Ytemndghpenbmeaa.notAbove iv3 iv0) fun n233 =>
                          .bind (Go.Proofs.Ytemndghpenbmeaa.tNot n233) fun n234 =>
                          .ret (n232 == n234))
                         (
                          .bind (Go.Proofs.Ytemndghpenbmeaa.notAbove iv230 iv231) fun n235 =>
                          .br (n235 == n7)
                           (
                            .bind (Go.Proofs.Ytemndghpenbmeaa.less iv0 iv3) fun n236 =>
                            .bind (Go.Proofs.Ytemndghpenbmeaa.notAbove iv3 iv0) fun n237 =>
                            .bind (Go.Proofs.Ytemndghpenbmeaa.tNot n237) fun n238 =>
                            .ret (n236 == n238))
                           (
                            .ret (Bool.false))))
                       (
                        .bind (Go.Proofs.Ytemndghpenbmeaa.less iv230 iv231) fun n239 =>
                        .br (n239 == n6)
                         (
                          .br (n7 == 0)
                           (
                            .bind (Go.Proofs.Ytemndghpenbmeaa.less iv0 iv3) fun n240 =>
                            .bind (Go.Proofs.Ytemndghpenbmeaa.notAbove iv3 iv0) fun n241 =>
                            .bind (Go.Proofs.Ytemndghpenbmeaa.tNot n241) fun n242 =>
                            .ret (n240 == n242))
                           (
                            .bind (Go.Proofs.Ytemndghpenbmeaa.notAbove iv230 iv231) fun n243 =>
                            .br (n243 == n7)
                             (
                              .bind (Go.Proofs.Ytemndghpenbmeaa.less iv0 iv3) fun n244 =>
                              .bind (Go.Proofs.Ytemndghpenbmeaa.notAbove iv3 iv0) fun n245 =>
                              .bind (Go.Proofs.Ytemndghpenbmeaa.tNot n245) fun n246 =>
                              .ret (n244 == n246))
                             (
                              .ret (Bool.false))))
                         (
                          .ret (Bool.false))))))
                 (
                  .br (n7 == 2)
                   (
                    .br (Decidable.decide (iv4.lo ≤ iv5.lo))
                     (
                      .ret (Bool.false))
                     (
                      .bind (Go.Proofs.Ytemndghpenbmeaa.inIv iv0 x5 x4) fun iv247 =>
                      .bind (Go.Proofs.Ytemndghpenbmeaa.inIv iv3 x4 x5) fun iv248 =>
                      .br (n6 == 0)
                       (
                        .br (n7 == 0)
                         (
                          .bind (Go.Proofs.Ytemndghpenbmeaa.less iv0 iv3) fun n249 =>
                          .bind (Go.Proofs.Ytemndghpenbmeaa.notAbove iv3 iv0) fun n250 =>
                          .bind (Go.Proofs.Ytemndghpenbmeaa.tNot n250) fun n251 =>
                          .ret (n249 == n251))
                         (
                          .bind (Go.Proofs.Ytemndghpenbmeaa.notAbove iv247 iv248) fun n252 =>
                          .br (n252 == n7)
                           (
                            .bind (Go.Proofs.Ytemndghpenbmeaa.less iv0 iv3) fun n253 =>
                            .bind (Go.Proofs.Ytemndghpenbmeaa.notAbove iv3 iv0) fun n254 =>
                            .bind (Go.Proofs.Ytemndghpenbmeaa.tNot n254) fun n255 =>
                            .ret (n253 == n255))
                           (
                            .ret (Bool.false))))
                       (
                        .bind (Go.Proofs.Ytemndghpenbmeaa.less iv247 iv248) fun n256 =>
                        .br (n256 == n6)
                         (
                          .br (n7 == 0)
                           (
                            .bind (Go.Proofs.Ytemndghpenbmeaa.less iv0 iv3) fun n257 =>
                            .bind (Go.Proofs.Ytemndghpenbmeaa.notAbove iv3 iv0) fun n258 =>
                            .bind (Go.Proofs.Ytemndghpenbmeaa.tNot n258) fun n259 =>
                            .ret (n257 == n259))
                           (
                            .bind (Go.Proofs.Ytemndghpenbmeaa.notAbove iv247 iv248) fun n260 =>
                            .br (n260 == n7)
                             (
                              .bind (Go.Proofs.Ytemndghpenbmeaa.less iv0 iv3) fun n261 =>
                              .bind (Go.Proofs.Ytemndghpenbmeaa.notAbove iv3 iv0) fun n262 =>
                              .bind (Go.Proofs.Ytemndghpenbmeaa.tNot n262) fun n263 =>
                              .ret (n261 == n263))
                             (
                              .ret (Bool.false))))
                         (
                          .ret (Bool.false)))))
                   (
                    .bind (Go.Proofs.Ytemndghpenbmeaa.inIv iv0 x5 x4) fun iv264 =>
                    .bind (Go.Proofs.Ytemndghpenbmeaa.inIv iv3 x4 x5) fun iv265 =>
                    .br (n6 == 0)
                     (
                      .br (n7 == 0)
                       (
                        .bind (Go.Proofs.Ytemndghpenbmeaa.less iv0 iv3) fun n266 =>
                        .bind (Go.Proofs.Ytemndghpenbmeaa.notAbove iv3 iv0) fun n267 =>
                        .bind (Go.Proofs.Ytemndghpenbmeaa.tNot n267) fun n268 =>
                        .ret (n266 == n268))
                       (
                        .bind (Go.Proofs.Ytemndghpenbmeaa.notAbove iv264 iv265) fun n269 =>
                        .br (n269 == n7)
                         (
                          .bind (Go.Proofs.Ytemndghpenbmeaa.less iv0 iv3) fun n270 =>
                          .bind (Go.Proofs.Ytemndghpenbmeaa.notAbove iv3 iv0) fun n271 =>
                          .bind (Go.Proofs.Ytemndghpenbmeaa.tNot n271) fun n272 =>
                          .ret (n270 == n272))
                         (
                          .ret (Bool.false))))
                     (
                      .bind (Go.Proofs.Ytemndghpenbmeaa.less iv264 iv265) fun n273 =>
                      .br (n273 == n6)
                       (
                        .br (n7 == 0)
                         (
                          .bind (Go.Proofs.Ytemndghpenbmeaa.less iv0 iv3) fun n274 =>
                          .bind (Go.Proofs.Ytemndghpenbmeaa.notAbove iv3 iv0) fun n275 =>
                          .bind (Go.Proofs.Ytemndghpenbmeaa.tNot n275) fun n276 =>
                          .ret (n274 == n276))
                         (
                          .bind (Go.Proofs.Ytemndghpenbmeaa.notAbove iv264 iv265) fun n277 =>
                          .br (n277 == n7)
                           (
                            .bind (Go.Proofs.Ytemndghpenbmeaa.less iv0 iv3) fun n278 =>
                            .bind (Go.Proofs.Ytemndghpenbmeaa.notAbove iv3 iv0) fun n279 =>
                            .bind (Go.Proofs.Ytemndghpenbmeaa.tNot n279) fun n280 =>
                            .ret (n278 == n280))
                           (
                            .ret (Bool.false))))
                       (
                        .ret (Bool.false)))))))))
         (
          .fail))
       (
        .fail) := by kernel_rfl
theorem e_meniscuslaw3_TriTrue : EnvOK Try.prog (Env.add 7 (F2 cInt cInt cIv tame) (Env.add 8 (F2 cInt cInt cIv wide) (Env.add 9 (F2p cInt cInt cInt pickOk pick) (Env.add 10 (F3 cIv cInt cInt cIv inIv) (Env.add 11 (F2 cIv cIv cInt less) (Env.add 12 (F2 cIv cIv cInt notAbove) (Env.add 13 (F0 cBool true) (Env.add 14 (F1 cInt cInt tNot) Env.nil)))))))) := (EnvOK.add s_meniscushand_Tame (EnvOK.add s_meniscushand_Wide (EnvOK.add s_meniscushand_Pick (EnvOK.add s_meniscushand_In (EnvOK.add s_tri_Less (EnvOK.add s_tri_NotAbove (EnvOK.add s_meniscuslaw3_known (EnvOK.add s_tri_Not EnvOK.nil))))))))

/-! meniscuslaw3.TriLaws -/
theorem t_meniscuslaw3_TriLaws (x0 : Int) (x1 : Int) (x2 : Int) :
    evFn Try.prog (Env.add 9 (F2p cInt cInt cInt pickOk pick) (Env.add 13 (F0 cBool true) (Env.add 14 (F1 cInt cInt tNot) (Env.add 15 (F2 cInt cInt cInt tAnd) (Env.add 16 (F2 cInt cInt cInt tOr) Env.nil))))) 200 Try.f4 [cInt.av x0, cInt.av x1, cInt.av x2] [] cBool.dec =
      .br (Go.Proofs.Ytemndghpenbmeaa.pickOk x0 3)
       (
        .bind (Go.Proofs.Ytemndghpenbmeaa.pick x0 3) fun n0 =>
        .br (Go.Proofs.Ytemndghpenbmeaa.pickOk x1 3)
         (
          .bind (Go.Proofs.Ytemndghpenbmeaa.pick x1 3) fun n1 =>
          .br (Go.Proofs.Ytemndghpenbmeaa.pickOk x2 3)
           (
            .bind (Go.Proofs.Ytemndghpenbmeaa.pick x2 3) fun n2 =>
            .bind (Bool.true) fun b3 =>
            .br (b3)
             (
              .bind (Go.Proofs.Ytemndghpenbmeaa.tNot n0) fun n4 =>
              .bind (Go.Proofs.Ytemndghpenbmeaa.tNot n4) fun n5 =>
              .br (n5 == n0)
               (
                .bind (Go.Proofs.Ytemndghpenbmeaa.tAnd n0 n1) fun n6 =>
                .bind (Go.Proofs.Ytemndghpenbmeaa.tNot n6) fun n7 =>
                .bind (Go.Proofs.Ytemndghpenbmeaa.tNot n0) fun n8 =>
                .bind (Go.Proofs.Ytemndghpenbmeaa.tNot n1) fun n9 =>
                .bind (Go.Proofs.Ytemndghpenbmeaa.tOr n8 n9) fun n10 =>
                .br (n7 == n10)
                 (
                  .bind (Go.Proofs.Ytemndghpenbmeaa.tAnd n0 n1) fun n11 =>
                  .bind (Go.Proofs.Ytemndghpenbmeaa.tAnd n1 n0) fun n12 =>
                  .br (n11 == n12)
                   (
                    .bind (Go.Proofs.Ytemndghpenbmeaa.tOr n0 n1) fun n13 =>
                    .bind (Go.Proofs.Ytemndghpenbmeaa.tOr n1 n0) fun n14 =>
                    .br (n13 == n14)
                     (
                      .bind (Go.Proofs.Ytemndghpenbmeaa.tAnd n1 n2) fun n15 =>
                      .bind (Go.Proofs.Ytemndghpenbmeaa.tAnd n0 n15) fun n16 =>
                      .bind (Go.Proofs.Ytemndghpenbmeaa.tAnd n0 n1) fun n17 =>
                      .bind (Go.Proofs.Ytemndghpenbmeaa.tAnd n17 n2) fun n18 =>
                      .br (n16 == n18)
                       (
                        .bind (Go.Proofs.Ytemndghpenbmeaa.tOr n1 n2) fun n19 =>
                        .bind (Go.Proofs.Ytemndghpenbmeaa.tOr n0 n19) fun n20 =>
                        .bind (Go.Proofs.Ytemndghpenbmeaa.tOr n0 n1) fun n21 =>
                        .bind (Go.Proofs.Ytemndghpenbmeaa.tOr n21 n2) fun n22 =>
                        .br (n20 == n22)
                         (
                          .bind (Go.Proofs.Ytemndghpenbmeaa.tAnd n0 n0) fun n23 =>
                          .br (n23 == n0)
                           (
                            .bind (Go.Proofs.Ytemndghpenbmeaa.tOr n1 n2) fun n24 =>
                            .bind (Go.Proofs.Ytemndghpenbmeaa.tAnd n0 n24) fun n25 =>
                            .bind (Go.Proofs.Ytemndghpenbmeaa.tAnd n0 n1) fun n26 =>
                            .bind (Go.Proofs.Ytemndghpenbmeaa.tAnd n0 n2) fun n27 =>
                            .bind (Go.Proofs.Ytemndghpenbmeaa.tOr n26 n27) fun n28 =>
                            .ret (n25 == n28))
                           (
                            .ret (Bool.false)))
                         (
                          .ret (Bool.false)))
                       (
                        .ret (Bool.false)))
                     (
                      .ret (Bool.false)))
                   (
                    .ret (Bool.false)))
                 (
                  .ret (Bool.false)))
               (
                .ret (Bool.false)))
             (
              .ret (Bool.false)))
           (
            .fail))
         (
          .fail))
       (
        .fail) := by kernel_rfl
theorem e_meniscuslaw3_TriLaws : EnvOK Try.prog (Env.add 9 (F2p cInt cInt cInt pickOk pick) (Env.add 13 (F0 cBool true) (Env.add 14 (F1 cInt cInt tNot) (Env.add 15 (F2 cInt cInt cInt tAnd) (Env.add 16 (F2 cInt cInt cInt tOr) Env.nil))))) := (EnvOK.add s_meniscushand_Pick (EnvOK.add s_meniscuslaw3_known (EnvOK.add s_tri_Not (EnvOK.add s_tri_And (EnvOK.add s_tri_Or EnvOK.nil)))))

/-! meniscuslaw3.TriTells -/
theorem t_meniscuslaw3_TriTells (x0 : Int) (x1 : Int) (x2 : Int) (x3 : Int) (x4 : Int) (x5 : Int) :
    evFn Try.prog (Env.add 9 (F2p cInt cInt cInt pickOk pick) (Env.add 11 (F2 cIv cIv cInt less) (Env.add 12 (F2 cIv cIv cInt notAbove) (Env.add 13 (F0 cBool true) (Env.add 14 (F1 cInt cInt tNot) (Env.add 15 (F2 cInt cInt cInt tAnd) (Env.add 16 (F2 cInt cInt cInt tOr) (Env.add 19 (F2 cInt cInt cIv rawIv) (Env.add 20 (F2 cIv cIv cInt less) (Env.add 21 (F2 cIv cIv cInt notAbove) (Env.add 22 (F1 cInt cInt tNot) (Env.add 23 (F2 cInt cInt cInt tAnd) (Env.add 24 (F2 cInt cInt cInt tOr) Env.nil))))))))))))) 200 Try.f6 [cInt.av x0, cInt.av x1, cInt.av x2, cInt.av x3, cInt.av x4, cInt.av x5] [] cBool.dec =
      .bind (Go.Proofs.Ytemndghpenbmeaa.rawIv x0 x1) fun iv0 =>
      .bind (Go.Proofs.Ytemndghpenbmeaa.rawIv x2 x3) fun iv1 =>
      .br (Go.Proofs.Ytemndghpenbmeaa.pickOk x4 5)
       (
        .bind (Go.Proofs.Ytemndghpenbmeaa.pick x4 5) fun n2 =>
        .br (Go.Proofs.Ytemndghpenbmeaa.pickOk x5 5)
         (
          .bind (Go.Proofs.Ytemndghpenbmeaa.pick x5 5) fun n3 =>
          .bind (Bool.true) fun b4 =>
          .br (b4)
           (
            .bind (Go.Proofs.Ytemndghpenbmeaa.less iv0 iv1) fun n5 =>
            .bind (Go.Proofs.Ytemndghpenbmeaa.less iv0 iv1) fun n6 =>
            .br (n5 == n6)
             (
              .bind (Go.Proofs.Ytemndghpenbmeaa.notAbove iv0 iv1) fun n7 =>
              .bind (Go.Proofs.Ytemndghpenbmeaa.notAbove iv0 iv1) fun n8 =>
              .br (n7 == n8)
               (
                .bind (Go.Proofs.Ytemndghpenbmeaa.tNot (Go.IntKind.i64.wrap (n2 - 1))) fun n9 =>
                .bind (Go.Proofs.Ytemndghpenbmeaa.tNot (Go.IntKind.i64.wrap (n2 - 1))) fun n10 =>
                .br (n9 == n10)
                 (
                  .bind (Go.Proofs.Ytemndghpenbmeaa.tAnd (Go.IntKind.i64.wrap (n2 - 1)) (Go.IntKind.i64.wrap (n3 - 1))) fun n11 =>
                  .bind (Go.Proofs.Ytemndghpenbmeaa.tAnd (Go.IntKind.i64.wrap (n2 - 1)) (Go.IntKind.i64.wrap (n3 - 1))) fun n12 =>
                  .br (n11 == n12)
                   (
                    .bind (Go.Proofs.Ytemndghpenbmeaa.tOr (Go.IntKind.i64.wrap (n2 - 1)) (Go.IntKind.i64.wrap (n3 - 1))) fun n13 =>
                    .bind (Go.Proofs.Ytemndghpenbmeaa.tOr (Go.IntKind.i64.wrap (n2 - 1)) (Go.IntKind.i64.wrap (n3 - 1))) fun n14 =>
                    .ret (n13 == n14))
                   (
                    .ret (Bool.false)))
                 (
                  .ret (Bool.false)))
               (
                .ret (Bool.false)))
             (
              .ret (Bool.false)))
           (
            .ret (Bool.false)))
         (
          .fail))
       (
        .fail) := by kernel_rfl
theorem e_meniscuslaw3_TriTells : EnvOK Try.prog (Env.add 9 (F2p cInt cInt cInt pickOk pick) (Env.add 11 (F2 cIv cIv cInt less) (Env.add 12 (F2 cIv cIv cInt notAbove) (Env.add 13 (F0 cBool true) (Env.add 14 (F1 cInt cInt tNot) (Env.add 15 (F2 cInt cInt cInt tAnd) (Env.add 16 (F2 cInt cInt cInt tOr) (Env.add 19 (F2 cInt cInt cIv rawIv) (Env.add 20 (F2 cIv cIv cInt less) (Env.add 21 (F2 cIv cIv cInt notAbove) (Env.add 22 (F1 cInt cInt tNot) (Env.add 23 (F2 cInt cInt cInt tAnd) (Env.add 24 (F2 cInt cInt cInt tOr) Env.nil))))))))))))) := (EnvOK.add s_meniscushand_Pick (EnvOK.add s_tri_Less (EnvOK.add s_tri_NotAbove (EnvOK.add s_meniscuslaw3_known (EnvOK.add s_tri_Not (EnvOK.add s_tri_And (EnvOK.add s_tri_Or (EnvOK.add s_meniscushand_Iv (EnvOK.add s_meniscusref1_Less (EnvOK.add s_meniscusref1_NotAbove (EnvOK.add s_meniscusref1_Not (EnvOK.add s_meniscusref1_And (EnvOK.add s_meniscusref1_Or EnvOK.nil)))))))))))))
end Go.Proofs.Ytemndghpenbmeaa
