/-
  Contracts of calls, written by a small program of this session out of the evaluator's trees.
-/
import Derived.Test.YthgpgnijbajlgaaCore
import Derived.Test.YthgpgnijbajlgaaCoreLoops
import Derived.Test.YthgpgnijbajlgaaCore2
import Derived.Test.YthgpgnijbajlgaaCore3
import Derived.Test.YthgpgnijbajlgaaCore4
import Derived.Test.YthgpgnijbajlgaaCore5
import Derived.Test.YthgpgnijbajlgaaCore6
import Derived.Test.YthgpgnijbajlgaaCore7
import Derived.Test.YthgpgnijbajlgaaO0
import Derived.Test.YthgpgnijbajlgaaEvCod
import Derived.Test.YthgpgnijbajlgaaEvRet
import Derived.Test.YthgpgnijbajlgaaProg
import Derived.Test.YthgpgnijbajlgaaQ0
namespace Go.Proofs.Ythgpgnijbajlgaa
open Go Go.RowKit Ev
set_option maxRecDepth 100000
set_option linter.unusedVariables false
set_option linter.unusedSimpArgs false

/-! meniscushand.Lens -/
theorem tl_meniscushand_Lens_3 (t3 : Int) (t10 : Int) (r0a : ByteArray × Dec) (r0b : Unit) (r1a : ByteArray × Dec) (r1b : Unit) (r2 : List RawFace) (r3 : List Glass) (r4 : List Face) (r5 : List Face) :
    ev Try.prog (Env.add 22 (F2p cInt cInt cInt pickOk pick) (Env.add 120 (F2p cInt cInt cDec scaleOk decOf) (Env.add 121 (F1p cInt cStr ((digOk 6)) ((dig 6))) (Env.add 122 (FS (sc 1 [0] (tSl 0 0 tNil) (rL_face rNil)) cBool ((fun x => lenOk x.2.1)) ((fun x => someFace x.2.1))) Env.nil)))) Laws.nil 200 none (loopAt Try.f85 3) ((sc 166 [3, 10, 9, 8, 1, 2] (tCod 3 cInt (tCod 10 cInt (tOwn 9 0 (tOwn 8 1 (tSl 1 2 (tSl 2 3 tNil)))))) (rBoxA 4 (ccTwo ccStr ccDec) (ccTwo_ok ccStr_ok ccDec_ok) ccNil ccNil_ok (rBoxA 5 (ccTwo ccStr ccDec) (ccTwo_ok ccStr_ok ccDec_ok) ccNil ccNil_ok (rL_rface (rL_glass (rG_face 146 (rL_face rNil))))))).enc ((t3, t10, ()), (r0a, r0b, r1a, r1b, r2, r3, r4, r5, ()))) (backK (sc 166 [3, 10, 9, 8, 1, 2] (tCod 3 cInt (tCod 10 cInt (tOwn 9 0 (tOwn 8 1 (tSl 1 2 (tSl 2 3 tNil)))))) (rBoxA 4 (ccTwo ccStr ccDec) (ccTwo_ok ccStr_ok ccDec_ok) ccNil ccNil_ok (rBoxA 5 (ccTwo ccStr ccDec) (ccTwo_ok ccStr_ok ccDec_ok) ccNil ccNil_ok (rL_rface (rL_glass (rG_face 146 (rL_face rNil))))))) (ocExit 0 (sc 166 [9, 8] (tOwn 9 0 (tOwn 8 1 tNil)) (rBoxA 2 (ccTwo ccStr ccDec) (ccTwo_ok ccStr_ok ccDec_ok) ccNil ccNil_ok (rBoxA 3 (ccTwo ccStr ccDec) (ccTwo_ok ccStr_ok ccDec_ok) ccNil ccNil_ok (rG_face 146 (rL_face rNil))))))) =
      .br (Decidable.decide (t10 < (@Nat.cast Int _ r2.length)))
       (
        .br (Decidable.decide ((@Nat.cast Int _ r4.length) < t3))
         (
          .br (Decidable.decide (0 ≤ t10 ∧ t10 < (@Nat.cast Int _ r2.length)))
           (
            .get (r2[t10.toNat]?) fun vt0 =>
            .br (Go.Proofs.Ythgpgnijbajlgaa.pickOk vt0.a 70)
             (
              .bind (Go.Proofs.Ythgpgnijbajlgaa.pick vt0.a 70) fun vn1 =>
              .br (Go.Proofs.Ythgpgnijbajlgaa.scaleOk (Go.IntKind.i64.wrap (30 + vn1)) 1)
               (
                .bind (Go.Proofs.Ythgpgnijbajlgaa.decOf (Go.IntKind.i64.wrap (30 + vn1)) 1) fun vde2 =>
                .br (Go.Proofs.Ythgpgnijbajlgaa.pickOk vt0.t 80)
                 (
                  .bind (Go.Proofs.Ythgpgnijbajlgaa.pick vt0.t 80) fun vn3 =>
                  .br (Go.Proofs.Ythgpgnijbajlgaa.scaleOk vn3 1)
                   (
                    .bind (Go.Proofs.Ythgpgnijbajlgaa.decOf vn3 1) fun vde4 =>
                    .br (Go.Proofs.Ythgpgnijbajlgaa.pickOk vt0.kind 6)
                     (
                      .bind (Go.Proofs.Ythgpgnijbajlgaa.pick vt0.kind 6) fun vn5 =>
                      .br (vn5 == 5)
                       (
                        .br (Decidable.decide (t10 > 0))
                         (
                          .br (Go.Proofs.Ythgpgnijbajlgaa.Ev.lenOk (r4 ++ [Go.Proofs.Ythgpgnijbajlgaa.Face.mk Bool.true (Go.Proofs.Ythgpgnijbajlgaa.Dec.mk 0 0) vde2 vde4 (Go.Proofs.Ythgpgnijbajlgaa.Dec.mk 0 0) (Go.Proofs.Ythgpgnijbajlgaa.Dec.mk 0 0) (Go.Proofs.Ythgpgnijbajlgaa.Dec.mk 0 0) (ByteArray.mk #[])]))
                           (
                            .ret (Sum.inl ((t3, Go.IntKind.i64.wrap (t10 + 1), ()), r0a, (), r1a, (), r2, r3, r4 ++ [Go.Proofs.Ythgpgnijbajlgaa.Face.mk Bool.true (Go.Proofs.Ythgpgnijbajlgaa.Dec.mk 0 0) vde2 vde4 (Go.Proofs.Ythgpgnijbajlgaa.Dec.mk 0 0) (Go.Proofs.Ythgpgnijbajlgaa.Dec.mk 0 0) (Go.Proofs.Ythgpgnijbajlgaa.Dec.mk 0 0) (ByteArray.mk #[])], r5, ())))
                           (
                            .fail))
                         (
                          .br (Go.Proofs.Ythgpgnijbajlgaa.pickOk vt0.g (Go.IntKind.i64.wrap ((@Nat.cast Int _ r3.length) + 2)))
                           (
                            .bind (Go.Proofs.Ythgpgnijbajlgaa.pick vt0.g (Go.IntKind.i64.wrap ((@Nat.cast Int _ r3.length) + 2))) fun vn6 =>
                            .br (Decidable.decide (vn6 < (@Nat.cast Int _ r3.length)))
                             (
                              .br (Decidable.decide (0 ≤ vn6 ∧ vn6 < (@Nat.cast Int _ r3.length)))
                               (
                                .get (r3[vn6.toNat]?) fun vt7 =>
                                .br (Go.Proofs.Ythgpgnijbajlgaa.pickOk vt0.r 7)
                                 (
                                  .bind (Go.Proofs.Ythgpgnijbajlgaa.pick vt0.r 7) fun vn8 =>
                                  .br (Decidable.decide (vn8 > 0))
                                   (
                                    .br (Go.Proofs.Ythgpgnijbajlgaa.pickOk vt0.r 900)
                                     (
                                      .bind (Go.Proofs.Ythgpgnijbajlgaa.pick vt0.r 900) fun vn9 =>
                                      .br (Go.Proofs.Ythgpgnijbajlgaa.scaleOk (Go.IntKind.i64.wrap (150 + vn9)) 1)
                                       (
                                        .bind (Go.Proofs.Ythgpgnijbajlgaa.decOf (Go.IntKind.i64.wrap (150 + vn9)) 1) fun vde10 =>
                                        .br (Go.Proofs.Ythgpgnijbajlgaa.pickOk (Go.IntKind.i64.wrap (vt0.r.tdiv 7)) 2)
                                         (
                                          .bind (Go.Proofs.Ythgpgnijbajlgaa.pick (Go.IntKind.i64.wrap (vt0.r.tdiv 7)) 2) fun vn11 =>
                                          .br (vn11 == 0)
                                           (
                                            .br (Go.Proofs.Ythgpgnijbajlgaa.pickOk vt0.r 900)
                                             (
                                              .bind (Go.Proofs.Ythgpgnijbajlgaa.pick vt0.r 900) fun vn12 =>
                                              .br (Go.Proofs.Ythgpgnijbajlgaa.scaleOk (Go.IntKind.i64.wrap (-150 - vn12)) 1)
                                               (
                                                .bind (Go.Proofs.Ythgpgnijbajlgaa.decOf (Go.IntKind.i64.wrap (-150 - vn12)) 1) fun vde13 =>
                                                .br (Go.Proofs.Ythgpgnijbajlgaa.pickOk vt0.k 6)
                                                 (
                                                  .bind (Go.Proofs.Ythgpgnijbajlgaa.pick vt0.k 6) fun vn14 =>
                                                  .br (vn14 == 3)
                                                   (
                                                    .br (Go.Proofs.Ythgpgnijbajlgaa.pickOk (Go.IntKind.i64.wrap (vt0.k.tdiv 6)) 30)
                                                     (
                                                      .bind (Go.Proofs.Ythgpgnijbajlgaa.pick (Go.IntKind.i64.wrap (vt0.k.tdiv 6)) 30) fun vn15 =>
                                                      .br (Go.Proofs.Ythgpgnijbajlgaa.scaleOk (Go.IntKind.i64.wrap (vn15 - 15)) 1)
                                                       (
                                                        .bind (Go.Proofs.Ythgpgnijbajlgaa.decOf (Go.IntKind.i64.wrap (vn15 - 15)) 1) fun vde16 =>
                                                        .br (Go.Proofs.Ythgpgnijbajlgaa.Ev.lenOk (r4 ++ [Go.Proofs.Ythgpgnijbajlgaa.Face.mk Bool.false vde13 vde2 vde4 vde16 (Go.Proofs.Ythgpgnijbajlgaa.Dec.mk 0 0) (Go.Proofs.Ythgpgnijbajlgaa.Dec.mk 0 0) vt7.name]))
                                                         (
                                                          .ret (Sum.inl ((t3, Go.IntKind.i64.wrap (t10 + 1), ()), r0a, (), r1a, (), r2, r3, r4 ++ [Go.Proofs.Ythgpgnijbajlgaa.Face.mk Bool.false vde13 vde2 vde4 vde16 (Go.Proofs.Ythgpgnijbajlgaa.Dec.mk 0 0) (Go.Proofs.Ythgpgnijbajlgaa.Dec.mk 0 0) vt7.name], r5, ())))
                                                         (
                                                          .fail))
                                                       (
                                                        .fail))
                                                     (
                                                      .fail))
                                                   (
                                                    .br (vn14 == 4)
                                                     (
                                                      .br (Go.Proofs.Ythgpgnijbajlgaa.pickOk (Go.IntKind.i64.wrap (vt0.k.tdiv 6)) 400)
                                                       (
                                                        .bind (Go.Proofs.Ythgpgnijbajlgaa.pick (Go.IntKind.i64.wrap (vt0.k.tdiv 6)) 400) fun vn17 =>
                                                        .br (Go.Proofs.Ythgpgnijbajlgaa.scaleOk (Go.IntKind.i64.wrap (vn17 - 200)) 2)
                                                         (
                                                          .bind (Go.Proofs.Ythgpgnijbajlgaa.decOf (Go.IntKind.i64.wrap (vn17 - 200)) 2) fun vde18 =>
                                                          .br (Go.Proofs.Ythgpgnijbajlgaa.Ev.lenOk (r4 ++ [Go.Proofs.Ythgpgnijbajlgaa.Face.mk Bool.false vde13 vde2 vde4 (Go.Proofs.Ythgpgnijbajlgaa.Dec.mk 0 0) vde18 (Go.Proofs.Ythgpgnijbajlgaa.Dec.mk 0 0) vt7.name]))
                                                           (
                                                            .ret (Sum.inl ((t3, Go.IntKind.i64.wrap (t10 + 1), ()), r0a, (), r1a, (), r2, r3, r4 ++ [Go.Proofs.Ythgpgnijbajlgaa.Face.mk Bool.false vde13 vde2 vde4 (Go.Proofs.Ythgpgnijbajlgaa.Dec.mk 0 0) vde18 (Go.Proofs.Ythgpgnijbajlgaa.Dec.mk 0 0) vt7.name], r5, ())))
                                                           (
                                                            .fail))
                                                         (
                                                          .fail))
                                                       (
                                                        .fail))
                                                     (
                                                      .br (vn14 == 5)
                                                       (
                                                        .br (Go.Proofs.Ythgpgnijbajlgaa.pickOk (Go.IntKind.i64.wrap (vt0.k.tdiv 6)) 400)
                                                         (
                                                          .bind (Go.Proofs.Ythgpgnijbajlgaa.pick (Go.IntKind.i64.wrap (vt0.k.tdiv 6)) 400) fun vn19 =>
                                                          .br (Go.Proofs.Ythgpgnijbajlgaa.scaleOk (Go.IntKind.i64.wrap (vn19 - 200)) 2)
                                                           (
                                                            .bind (Go.Proofs.Ythgpgnijbajlgaa.decOf (Go.IntKind.i64.wrap (vn19 - 200)) 2) fun vde20 =>
                                                            .br (Go.Proofs.Ythgpgnijbajlgaa.pickOk (Go.IntKind.i64.wrap (vt0.k.tdiv 12)) 400)
                                                             (
                                                              .bind (Go.Proofs.Ythgpgnijbajlgaa.pick (Go.IntKind.i64.wrap (vt0.k.tdiv 12)) 400) fun vn21 =>
                                                              .br (Go.Proofs.Ythgpgnijbajlgaa.scaleOk (Go.IntKind.i64.wrap (vn21 - 200)) 1)
                                                               (
                                                                .bind (Go.Proofs.Ythgpgnijbajlgaa.decOf (Go.IntKind.i64.wrap (vn21 - 200)) 1) fun vde22 =>
                                                                .br (Go.Proofs.Ythgpgnijbajlgaa.Ev.lenOk (r4 ++ [Go.Proofs.Ythgpgnijbajlgaa.Face.mk Bool.false vde13 vde2 vde4 (Go.Proofs.Ythgpgnijbajlgaa.Dec.mk 0 0) vde20 vde22 vt7.name]))
                                                                 (
                                                                  .ret (Sum.inl ((t3, Go.IntKind.i64.wrap (t10 + 1), ()), r0a, (), r1a, (), r2, r3, r4 ++ [Go.Proofs.Ythgpgnijbajlgaa.Face.mk Bool.false vde13 vde2 vde4 (Go.Proofs.Ythgpgnijbajlgaa.Dec.mk 0 0) vde20 vde22 vt7.name], r5, ())))
                                                                 (
                                                                  .fail))
                                                               (
                                                                .fail))
                                                             (
                                                              .fail))
                                                           (
                                                            .fail))
                                                         (
                                                          .fail))
                                                       (
                                                        .br (Go.Proofs.Ythgpgnijbajlgaa.Ev.lenOk (r4 ++ [Go.Proofs.Ythgpgnijbajlgaa.Face.mk Bool.false vde13 vde2 vde4 (Go.Proofs.Ythgpgnijbajlgaa.Dec.mk 0 0) (Go.Proofs.Ythgpgnijbajlgaa.Dec.mk 0 0) (Go.Proofs.Ythgpgnijbajlgaa.Dec.mk 0 0) vt7.name]))
                                                         (
                                                          .ret (Sum.inl ((t3, Go.IntKind.i64.wrap (t10 + 1), ()), r0a, (), r1a, (), r2, r3, r4 ++ [Go.Proofs.Ythgpgnijbajlgaa.Face.mk Bool.false vde13 vde2 vde4 (Go.Proofs.Ythgpgnijbajlgaa.Dec.mk 0 0) (Go.Proofs.Ythgpgnijbajlgaa.Dec.mk 0 0) (Go.Proofs.Ythgpgnijbajlgaa.Dec.mk 0 0) vt7.name], r5, ())))
                                                         (
                                                          .fail)))))
                                                 (
                                                  .fail))
                                               (
                                                .fail))
                                             (
                                              .fail))
                                           (
                                            .br (Go.Proofs.Ythgpgnijbajlgaa.pickOk vt0.k 6)
                                             (
                                              .bind (Go.Proofs.Ythgpgnijbajlgaa.pick vt0.k 6) fun vn23 =>
                                              .br (vn23 == 3)
                                               (
                                                .br (Go.Proofs.Ythgpgnijbajlgaa.pickOk (Go.IntKind.i64.wrap (vt0.k.tdiv 6)) 30)
                                                 (
                                                  .bind (Go.Proofs.Ythgpgnijbajlgaa.pick (Go.IntKind.i64.wrap (vt0.k.tdiv 6)) 30) fun vn24 =>
                                                  .br (Go.Proofs.Ythgpgnijbajlgaa.scaleOk (Go.IntKind.i64.wrap (vn24 - 15)) 1)
                                                   (
                                                    .bind (Go.Proofs.Ythgpgnijbajlgaa.decOf (Go.IntKind.i64.wrap (vn24 - 15)) 1) fun vde25 =>
                                                    .br (Go.Proofs.Ythgpgnijbajlgaa.Ev.lenOk (r4 ++ [Go.Proofs.Ythgpgnijbajlgaa.Face.mk Bool.false vde10 vde2 vde4 vde25 (Go.Proofs.Ythgpgnijbajlgaa.Dec.mk 0 0) (Go.Proofs.Ythgpgnijbajlgaa.Dec.mk 0 0) vt7.name]))
                                                     (
                                                      .ret (Sum.inl ((t3, Go.IntKind.i64.wrap (t10 + 1), ()), r0a, (), r1a, (), r2, r3, r4 ++ [Go.Proofs.Ythgpgnijbajlgaa.Face.mk Bool.false vde10 vde2 vde4 vde25 (Go.Proofs.Ythgpgnijbajlgaa.Dec.mk 0 0) (Go.Proofs.Ythgpgnijbajlgaa.Dec.mk 0 0) vt7.name], r5, ())))
                                                     (
                                                      .fail))
                                                   (
                                                    .fail))
                                                 (
                                                  .fail))
                                               (
                                                .br (vn23 == 4)
                                                 (
                                                  .br (Go.Proofs.Ythgpgnijbajlgaa.pickOk (Go.IntKind.i64.wrap (vt0.k.tdiv 6)) 400)
                                                   (
                                                    .bind (Go.Proofs.Ythgpgnijbajlgaa.pick (Go.IntKind.i64.wrap (vt0.k.tdiv 6)) 400) fun vn26 =>
                                                    .br (Go.Proofs.Ythgpgnijbajlgaa.scaleOk (Go.IntKind.i64.wrap (vn26 - 200)) 2)
                                                     (
                                                      .bind (Go.Proofs.Ythgpgnijbajlgaa.decOf (Go.IntKind.i64.wrap (vn26 - 200)) 2) fun vde27 =>
                                                      .br (Go.Proofs.Ythgpgnijbajlgaa.Ev.lenOk (r4 ++ [Go.Proofs.Ythgpgnijbajlgaa.Face.mk Bool.false vde10 vde2 vde4 (Go.Proofs.Ythgpgnijbajlgaa.Dec.mk 0 0) vde27 (Go.Proofs.Ythgpgnijbajlgaa.Dec.mk 0 0) vt7.name]))
                                                       (
                                                        .ret (Sum.inl ((t3, Go.IntKind.i64.wrap (t10 + 1), ()), r0a, (), r1a, (), r2, r3, r4 ++ [Go.Proofs.Ythgpgnijbajlgaa.Face.mk Bool.false vde10 vde2 vde4 (Go.Proofs.Ythgpgnijbajlgaa.Dec.mk 0 0) vde27 (Go.Proofs.Ythgpgnijbajlgaa.Dec.mk 0 0) vt7.name], r5, ())))
                                                       (
                                                        .fail))
                                                     (
                                                      .fail))
                                                   (
                                                    .fail))
                                                 (
                                                  .br (vn23 == 5)
                                                   (
                                                    .br (Go.Proofs.Ythgpgnijbajlgaa.pickOk (Go.IntKind.i64.wrap (vt0.k.tdiv 6)) 400)
                                                     (
                                                      .bind (Go.Proofs.Ythgpgnijbajlgaa.pick (Go.IntKind.i64.wrap (vt0.k.tdiv 6)) 400) fun vn28 =>
                                                      .br (Go.Proofs.Ythgpgnijbajlgaa.scaleOk (Go.IntKind.i64.wrap (vn28 - 200)) 2)
                                                       (
                                                        .bind (Go.Proofs.Ythgpgnijbajlgaa.decOf (Go.IntKind.i64.wrap (vn28 - 200)) 2) fun vde29 =>
                                                        .br (Go.Proofs.Ythgpgnijbajlgaa.pickOk (Go.IntKind.i64.wrap (vt0.k.tdiv 12)) 400)
                                                         (
                                                          .bind (Go.Proofs.Ythgpgnijbajlgaa.pick (Go.IntKind.i64.wrap (vt0.k.tdiv 12)) 400) fun vn30 =>
                                                          .br (Go.Proofs.Ythgpgnijbajlgaa.scaleOk (Go.IntKind.i64.wrap (vn30 - 200)) 1)
                                                           (
                                                            .bind (Go.Proofs.Ythgpgnijbajlgaa.decOf (Go.IntKind.i64.wrap (vn30 - 200)) 1) fun vde31 =>
                                                            .br (Go.Proofs.Ythgpgnijbajlgaa.Ev.lenOk (r4 ++ [Go.Proofs.Ythgpgnijbajlgaa.Face.mk Bool.false vde10 vde2 vde4 (Go.Proofs.Ythgpgnijbajlgaa.Dec.mk 0 0) vde29 vde31 vt7.name]))
                                                             (
                                                              .ret (Sum.inl ((t3, Go.IntKind.i64.wrap (t10 + 1), ()), r0a, (), r1a, (), r2, r3, r4 ++ [Go.Proofs.Ythgpgnijbajlgaa.Face.mk Bool.false vde10 vde2 vde4 (Go.Proofs.Ythgpgnijbajlgaa.Dec.mk 0 0) vde29 vde31 vt7.name], r5, ())))
                                                             (
                                                              .fail))
                                                           (
                                                            .fail))
                                                         (
                                                          .fail))
                                                       (
                                                        .fail))
                                                     (
                                                      .fail))
                                                   (
                                                    .br (Go.Proofs.Ythgpgnijbajlgaa.Ev.lenOk (r4 ++ [Go.Proofs.Ythgpgnijbajlgaa.Face.mk Bool.false vde10 vde2 vde4 (Go.Proofs.Ythgpgnijbajlgaa.Dec.mk 0 0) (Go.Proofs.Ythgpgnijbajlgaa.Dec.mk 0 0) (Go.Proofs.Ythgpgnijbajlgaa.Dec.mk 0 0) vt7.name]))
                                                     (
                                                      .ret (Sum.inl ((t3, Go.IntKind.i64.wrap (t10 + 1), ()), r0a, (), r1a, (), r2, r3, r4 ++ [Go.Proofs.Ythgpgnijbajlgaa.Face.mk Bool.false vde10 vde2 vde4 (Go.Proofs.Ythgpgnijbajlgaa.Dec.mk 0 0) (Go.Proofs.Ythgpgnijbajlgaa.Dec.mk 0 0) (Go.Proofs.Ythgpgnijbajlgaa.Dec.mk 0 0) vt7.name], r5, ())))
                                                     (
                                                      .fail)))))
                                             (
                                              .fail)))
                                         (
                                          .fail))
                                       (
                                        .fail))
                                     (
                                      .fail))
                                   (
                                    .br (Go.Proofs.Ythgpgnijbajlgaa.pickOk vt0.k 6)
                                     (
                                      .bind (Go.Proofs.Ythgpgnijbajlgaa.pick vt0.k 6) fun vn32 =>
                                      .br (vn32 == 3)
                                       (
                                        .br (Go.Proofs.Ythgpgnijbajlgaa.pickOk (Go.IntKind.i64.wrap (vt0.k.tdiv 6)) 30)
                                         (
                                          .bind (Go.Proofs.Ythgpgnijbajlgaa.pick (Go.IntKind.i64.wrap (vt0.k.tdiv 6)) 30) fun vn33 =>
                                          .br (Go.Proofs.Ythgpgnijbajlgaa.scaleOk (Go.IntKind.i64.wrap (vn33 - 15)) 1)
                                           (
                                            .bind (Go.Proofs.Ythgpgnijbajlgaa.decOf (Go.IntKind.i64.wrap (vn33 - 15)) 1) fun vde34 =>
                                            .br (Go.Proofs.Ythgpgnijbajlgaa.Ev.lenOk (r4 ++ [Go.Proofs.Ythgpgnijbajlgaa.Face.mk Bool.false (Go.Proofs.Ythgpgnijbajlgaa.Dec.mk 0 0) vde2 vde4 vde34 (Go.Proofs.Ythgpgnijbajlgaa.Dec.mk 0 0) (Go.Proofs.Ythgpgnijbajlgaa.Dec.mk 0 0) vt7.name]))
                                             (
                                              .ret (Sum.inl ((t3, Go.IntKind.i64.wrap (t10 + 1), ()), r0a, (), r1a, (), r2, r3, r4 ++ [Go.Proofs.Ythgpgnijbajlgaa.Face.mk Bool.false (Go.Proofs.Ythgpgnijbajlgaa.Dec.mk 0 0) vde2 vde4 vde34 (Go.Proofs.Ythgpgnijbajlgaa.Dec.mk 0 0) (Go.Proofs.Ythgpgnijbajlgaa.Dec.mk 0 0) vt7.name], r5, ())))
                                             (
                                              .fail))
                                           (
                                            .fail))
                                         (
                                          .fail))
                                       (
                                        .br (vn32 == 4)
                                         (
                                          .br (Go.Proofs.Ythgpgnijbajlgaa.pickOk (Go.IntKind.i64.wrap (vt0.k.tdiv 6)) 400)
                                           (
                                            .bind (Go.Proofs.Ythgpgnijbajlgaa.pick (Go.IntKind.i64.wrap (vt0.k.tdiv 6)) 400) fun vn35 =>
                                            .br (Go.Proofs.Ythgpgnijbajlgaa.scaleOk (Go.IntKind.i64.wrap (vn35 - 200)) 2)
                                             (
                                              .bind (Go.Proofs.Ythgpgnijbajlgaa.decOf (Go.IntKind.i64.wrap (vn35 - 200)) 2) fun vde36 =>
                                              .br (Go.Proofs.Ythgpgnijbajlgaa.Ev.lenOk (r4 ++ [Go.Proofs.Ythgpgnijbajlgaa.Face.mk Bool.false (Go.Proofs.Ythgpgnijbajlgaa.Dec.mk 0 0) vde2 vde4 (Go.Proofs.Ythgpgnijbajlgaa.Dec.mk 0 0) vde36 (Go.Proofs.Ythgpgnijbajlgaa.Dec.mk 0 0) vt7.name]))
                                               (
                                                .ret (Sum.inl ((t3, Go.IntKind.i64.wrap (t10 + 1), ()), r0a, (), r1a, (), r2, r3, r4 ++ [Go.Proofs.Ythgpgnijbajlgaa.Face.mk Bool.false (Go.Proofs.Ythgpgnijbajlgaa.Dec.mk 0 0) vde2 vde4 (Go.Proofs.Ythgpgnijbajlgaa.Dec.mk 0 0) vde36 (Go.Proofs.Ythgpgnijbajlgaa.Dec.mk 0 0) vt7.name], r5, ())))
                                               (
                                                .fail))
                                             (
                                              .fail))
                                           (
                                            .fail))
                                         (
                                          .br (vn32 == 5)
                                           (
                                            .br (Go.Proofs.Ythgpgnijbajlgaa.pickOk (Go.IntKind.i64.wrap (vt0.k.tdiv 6)) 400)
                                             (
                                              .bind (Go.Proofs.Ythgpgnijbajlgaa.pick (Go.IntKind.i64.wrap (vt0.k.tdiv 6)) 400) fun vn37 =>
                                              .br (Go.Proofs.Ythgpgnijbajlgaa.scaleOk (Go.IntKind.i64.wrap (vn37 - 200)) 2)
                                               (
                                                .bind (Go.Proofs.Ythgpgnijbajlgaa.decOf (Go.IntKind.i64.wrap (vn37 - 200)) 2) fun vde38 =>
                                                .br (Go.Proofs.Ythgpgnijbajlgaa.pickOk (Go.IntKind.i64.wrap (vt0.k.tdiv 12)) 400)
                                                 (
                                                  .bind (Go.Proofs.Ythgpgnijbajlgaa.pick (Go.IntKind.i64.wrap (vt0.k.tdiv 12)) 400) fun vn39 =>
                                                  .br (Go.Proofs.Ythgpgnijbajlgaa.scaleOk (Go.IntKind.i64.wrap (vn39 - 200)) 1)
                                                   (
                                                    .bind (Go.Proofs.Ythgpgnijbajlgaa.decOf (Go.IntKind.i64.wrap (vn39 - 200)) 1) fun vde40 =>
                                                    .br (Go.Proofs.Ythgpgnijbajlgaa.Ev.lenOk (r4 ++ [Go.Proofs.Ythgpgnijbajlgaa.Face.mk Bool.false (Go.Proofs.Ythgpgnijbajlgaa.Dec.mk 0 0) vde2 vde4 (Go.Proofs.Ythgpgnijbajlgaa.Dec.mk 0 0) vde38 vde40 vt7.name]))
                                                     (
                                                      .ret (Sum.inl ((t3, Go.IntKind.i64.wrap (t10 + 1), ()), r0a, (), r1a, (), r2, r3, r4 ++ [Go.Proofs.Ythgpgnijbajlgaa.Face.mk Bool.false (Go.Proofs.Ythgpgnijbajlgaa.Dec.mk 0 0) vde2 vde4 (Go.Proofs.Ythgpgnijbajlgaa.Dec.mk 0 0) vde38 vde40 vt7.name], r5, ())))
                                                     (
                                                      .fail))
                                                   (
                                                    .fail))
                                                 (
                                                  .fail))
                                               (
                                                .fail))
                                             (
                                              .fail))
                                           (
                                            .br (Go.Proofs.Ythgpgnijbajlgaa.Ev.lenOk (r4 ++ [Go.Proofs.Ythgpgnijbajlgaa.Face.mk Bool.false (Go.Proofs.Ythgpgnijbajlgaa.Dec.mk 0 0) vde2 vde4 (Go.Proofs.Ythgpgnijbajlgaa.Dec.mk 0 0) (Go.Proofs.Ythgpgnijbajlgaa.Dec.mk 0 0) (Go.Proofs.Ythgpgnijbajlgaa.Dec.mk 0 0) vt7.name]))
                                             (
                                              .ret (Sum.inl ((t3, Go.IntKind.i64.wrap (t10 + 1), ()), r0a, (), r1a, (), r2, r3, r4 ++ [Go.Proofs.Ythgpgnijbajlgaa.Face.mk Bool.false (Go.Proofs.Ythgpgnijbajlgaa.Dec.mk 0 0) vde2 vde4 (Go.Proofs.Ythgpgnijbajlgaa.Dec.mk 0 0) (Go.Proofs.Ythgpgnijbajlgaa.Dec.mk 0 0) (Go.Proofs.Ythgpgnijbajlgaa.Dec.mk 0 0) vt7.name], r5, ())))
                                             (
                                              .fail)))))
                                     (
                                      .fail)))
                                 (
                                  .fail))
                               (
                                .fail))
                             (
                              .br (Go.Proofs.Ythgpgnijbajlgaa.pickOk vt0.r 7)
                               (
                                .bind (Go.Proofs.Ythgpgnijbajlgaa.pick vt0.r 7) fun vn41 =>
                                .br (Decidable.decide (vn41 > 0))
                                 (
                                  .br (Go.Proofs.Ythgpgnijbajlgaa.pickOk vt0.r 900)
                                   (
                                    .bind (Go.Proofs.Ythgpgnijbajlgaa.pick vt0.r 900) fun vn42 =>
                                    .br (Go.Proofs.Ythgpgnijbajlgaa.scaleOk (Go.IntKind.i64.wrap (150 + vn42)) 1)
                                     (
                                      .bind (Go.Proofs.Ythgpgnijbajlgaa.decOf (Go.IntKind.i64.wrap (150 + vn42)) 1) fun vde43 =>
                                      .br (Go.Proofs.Ythgpgnijbajlgaa.pickOk (Go.IntKind.i64.wrap (vt0.r.tdiv 7)) 2)
                                       (
                                        .bind (Go.Proofs.Ythgpgnijbajlgaa.pick (Go.IntKind.i64.wrap (vt0.r.tdiv 7)) 2) fun vn44 =>
                                        .br (vn44 == 0)
                                         (
                                          .br (Go.Proofs.Ythgpgnijbajlgaa.pickOk vt0.r 900)
                                           (
                                            .bind (Go.Proofs.Ythgpgnijbajlgaa.pick vt0.r 900) fun vn45 =>
                                            .br (Go.Proofs.Ythgpgnijbajlgaa.scaleOk (Go.IntKind.i64.wrap (-150 - vn45)) 1)
                                             (
                                              .bind (Go.Proofs.Ythgpgnijbajlgaa.decOf (Go.IntKind.i64.wrap (-150 - vn45)) 1) fun vde46 =>
                                              .br (Go.Proofs.Ythgpgnijbajlgaa.pickOk vt0.k 6)
                                               (
                                                .bind (Go.Proofs.Ythgpgnijbajlgaa.pick vt0.k 6) fun vn47 =>
                                                .br (vn47 == 3)
                                                 (
                                                  .br (Go.Proofs.Ythgpgnijbajlgaa.pickOk (Go.IntKind.i64.wrap (vt0.k.tdiv 6)) 30)
                                                   (
                                                    .bind (Go.Proofs.Ythgpgnijbajlgaa.pick (Go.IntKind.i64.wrap (vt0.k.tdiv 6)) 30) fun vn48 =>
                                                    .br (Go.Proofs.Ythgpgnijbajlgaa.scaleOk (Go.IntKind.i64.wrap (vn48 - 15)) 1)
                                                     (
                                                      .bind (Go.Proofs.Ythgpgnijbajlgaa.decOf (Go.IntKind.i64.wrap (vn48 - 15)) 1) fun vde49 =>
                                                      .br (Go.Proofs.Ythgpgnijbajlgaa.Ev.lenOk (r4 ++ [Go.Proofs.Ythgpgnijbajlgaa.Face.mk Bool.false vde46 vde2 vde4 vde49 (Go.Proofs.Ythgpgnijbajlgaa.Dec.mk 0 0) (Go.Proofs.Ythgpgnijbajlgaa.Dec.mk 0 0) (ByteArray.mk #[97, 105, 114])]))
                                                       (
                                                        .ret (Sum.inl ((t3, Go.IntKind.i64.wrap (t10 + 1), ()), r0a, (), r1a, (), r2, r3, r4 ++ [Go.Proofs.Ythgpgnijbajlgaa.Face.mk Bool.false vde46 vde2 vde4 vde49 (Go.Proofs.Ythgpgnijbajlgaa.Dec.mk 0 0) (Go.Proofs.Ythgpgnijbajlgaa.Dec.mk 0 0) (ByteArray.mk #[97, 105, 114])], r5, ())))
                                                       (
                                                        .fail))
                                                     (
                                                      .fail))
                                                   (
                                                    .fail))
                                                 (
                                                  .br (vn47 == 4)
                                                   (
                                                    .br (Go.Proofs.Ythgpgnijbajlgaa.pickOk (Go.IntKind.i64.wrap (vt0.k.tdiv 6)) 400)
                                                     (
                                                      .bind (Go.Proofs.Ythgpgnijbajlgaa.pick (Go.IntKind.i64.wrap (vt0.k.tdiv 6)) 400) fun vn50 =>
                                                      .br (Go.Proofs.Ythgpgnijbajlgaa.scaleOk (Go.IntKind.i64.wrap (vn50 - 200)) 2)
                                                       (
                                                        .bind (Go.Proofs.Ythgpgnijbajlgaa.decOf (Go.IntKind.i64.wrap (vn50 - 200)) 2) fun vde51 =>
                                                        .br (Go.Proofs.Ythgpgnijbajlgaa.Ev.lenOk (r4 ++ [Go.Proofs.Ythgpgnijbajlgaa.Face.mk Bool.false vde46 vde2 vde4 (Go.Proofs.Ythgpgnijbajlgaa.Dec.mk 0 0) vde51 (Go.Proofs.Ythgpgnijbajlgaa.Dec.mk 0 0) (ByteArray.mk #[97, 105, 114])]))
                                                         (
                                                          .ret (Sum.inl ((t3, Go.IntKind.i64.wrap (t10 + 1), ()), r0a, (), r1a, (), r2, r3, r4 ++ [Go.Proofs.Ythgpgnijbajlgaa.Face.mk Bool.false vde46 vde2 vde4 (Go.Proofs.Ythgpgnijbajlgaa.Dec.mk 0 0) vde51 (Go.Proofs.Ythgpgnijbajlgaa.Dec.mk 0 0) (ByteArray.mk #[97, 105, 114])], r5, ())))
                                                         (
                                                          .fail))
                                                       (
                                                        .fail))
                                                     (
                                                      .fail))
                                                   (
                                                    .br (vn47 == 5)
                                                     (
                                                      .br (Go.Proofs.Ythgpgnijbajlgaa.pickOk (Go.IntKind.i64.wrap (vt0.k.tdiv 6)) 400)
                                                       (
                                                        .bind (Go.Proofs.Ythgpgnijbajlgaa.pick (Go.IntKind.i64.wrap (vt0.k.tdiv 6)) 400) fun vn52 =>
                                                        .br (Go.Proofs.Ythgpgnijbajlgaa.scaleOk (Go.IntKind.i64.wrap (vn52 - 200)) 2)
                                                         (
                                                          .bind (Go.Proofs.Ythgpgnijbajlgaa.decOf (Go.IntKind.i64.wrap (vn52 - 200)) 2) fun vde53 =>
                                                          .br (Go.Proofs.Ythgpgnijbajlgaa.pickOk (Go.IntKind.i64.wrap (vt0.k.tdiv 12)) 400)
                                                           (
                                                            .bind (Go.Proofs.Ythgpgnijbajlgaa.pick (Go.IntKind.i64.wrap (vt0.k.tdiv 12)) 400) fun vn54 =>
                                                            .br (Go.Proofs.Ythgpgnijbajlgaa.scaleOk (Go.IntKind.i64.wrap (vn54 - 200)) 1)
                                                             (
                                                              .bind (Go.Proofs.Ythgpgnijbajlgaa.decOf (Go.IntKind.i64.wrap (vn54 - 200)) 1) fun vde55 =>
                                                              .br (Go.Proofs.Ythgpgnijbajlgaa.Ev.lenOk (r4 ++ [Go.Proofs.Ythgpgnijbajlgaa.Face.mk Bool.false vde46 vde2 vde4 (Go.Proofs.Ythgpgnijbajlgaa.Dec.mk 0 0) vde53 vde55 (ByteArray.mk #[97, 105, 114])]))
                                                               (
                                                                .ret (Sum.inl ((t3, Go.IntKind.i64.wrap (t10 + 1), ()), r0a, (), r1a, (), r2, r3, r4 ++ [Go.Proofs.Ythgpgnijbajlgaa.Face.mk Bool.false vde46 vde2 vde4 (Go.Proofs.Ythgpgnijbajlgaa.Dec.mk 0 0) vde53 vde55 (ByteArray.mk #[97, 105, 114])], r5, ())))
                                                               (
                                                                .fail))
                                                             (
                                                              .fail))
                                                           (
                                                            .fail))
                                                         (
                                                          .fail))
                                                       (
                                                        .fail))
                                                     (
                                                      .br (Go.Proofs.Ythgpgnijbajlgaa.Ev.lenOk (r4 ++ [Go.Proofs.Ythgpgnijbajlgaa.Face.mk Bool.false vde46 vde2 vde4 (Go.Proofs.Ythgpgnijbajlgaa.Dec.mk 0 0) (Go.Proofs.Ythgpgnijbajlgaa.Dec.mk 0 0) (Go.Proofs.Ythgpgnijbajlgaa.Dec.mk 0 0) (ByteArray.mk #[97, 105, 114])]))
                                                       (
                                                        .ret (Sum.inl ((t3, Go.IntKind.i64.wrap (t10 + 1), ()), r0a, (), r1a, (), r2, r3, r4 ++ [Go.Proofs.Ythgpgnijbajlgaa.Face.mk Bool.false vde46 vde2 vde4 (Go.Proofs.Ythgpgnijbajlgaa.Dec.mk 0 0) (Go.Proofs.Ythgpgnijbajlgaa.Dec.mk 0 0) (Go.Proofs.Ythgpgnijbajlgaa.Dec.mk 0 0) (ByteArray.mk #[97, 105, 114])], r5, ())))
                                                       (
                                                        .fail)))))
                                               (
                                                .fail))
                                             (
                                              .fail))
                                           (
                                            .fail))
                                         (
                                          .br (Go.Proofs.Ythgpgnijbajlgaa.pickOk vt0.k 6)
                                           (
                                            .bind (Go.Proofs.Ythgpgnijbajlgaa.pick vt0.k 6) fun vn56 =>
                                            .br (vn56 == 3)
                                             (
                                              .br (Go.Proofs.Ythgpgnijbajlgaa.pickOk (Go.IntKind.i64.wrap (vt0.k.tdiv 6)) 30)
                                               (
                                                .bind (Go.Proofs.Ythgpgnijbajlgaa.pick (Go.IntKind.i64.wrap (vt0.k.tdiv 6)) 30) fun vn57 =>
                                                .br (Go.Proofs.Ythgpgnijbajlgaa.scaleOk (Go.IntKind.i64.wrap (vn57 - 15)) 1)
                                                 (
                                                  .bind (Go.Proofs.Ythgpgnijbajlgaa.decOf (Go.IntKind.i64.wrap (vn57 - 15)) 1) fun vde58 =>
                                                  .br (Go.Proofs.Ythgpgnijbajlgaa.Ev.lenOk (r4 ++ [Go.Proofs.Ythgpgnijbajlgaa.Face.mk Bool.false vde43 vde2 vde4 vde58 (Go.Proofs.Ythgpgnijbajlgaa.Dec.mk 0 0) (Go.Proofs.Ythgpgnijbajlgaa.Dec.mk 0 0) (ByteArray.mk #[97, 105, 114])]))
                                                   (
                                                    .ret (Sum.inl ((t3, Go.IntKind.i64.wrap (t10 + 1), ()), r0a, (), r1a, (), r2, r3, r4 ++ [Go.Proofs.Ythgpgnijbajlgaa.Face.mk Bool.false vde43 vde2 vde4 vde58 (Go.Proofs.Ythgpgnijbajlgaa.Dec.mk 0 0) (Go.Proofs.Ythgpgnijbajlgaa.Dec.mk 0 0) (ByteArray.mk #[97, 105, 114])], r5, ())))
                                                   (
                                                    .fail))
                                                 (
                                                  .fail))
                                               (
                                                .fail))
                                             (
                                              .br (vn56 == 4)
                                               (
                                                .br (Go.Proofs.Ythgpgnijbajlgaa.pickOk (Go.IntKind.i64.wrap (vt0.k.tdiv 6)) 400)
                                                 (
                                                  .bind (Go.Proofs.Ythgpgnijbajlgaa.pick (Go.IntKind.i64.wrap (vt0.k.tdiv 6)) 400) fun vn59 =>
                                                  .br (Go.Proofs.Ythgpgnijbajlgaa.scaleOk (Go.IntKind.i64.wrap (vn59 - 200)) 2)
                                                   (
                                                    .bind (Go.Proofs.Ythgpgnijbajlgaa.decOf (Go.IntKind.i64.wrap (vn59 - 200)) 2) fun vde60 =>
                                                    .br (Go.Proofs.Ythgpgnijbajlgaa.Ev.lenOk (r4 ++ [Go.Proofs.Ythgpgnijbajlgaa.Face.mk Bool.false vde43 vde2 vde4 (Go.Proofs.Ythgpgnijbajlgaa.Dec.mk 0 0) vde60 (Go.Proofs.Ythgpgnijbajlgaa.Dec.mk 0 0) (ByteArray.mk #[97, 105, 114])]))
                                                     (
                                                      .ret (Sum.inl ((t3, Go.IntKind.i64.wrap (t10 + 1), ()), r0a, (), r1a, (), r2, r3, r4 ++ [Go.Proofs.Ythgpgnijbajlgaa.Face.mk Bool.false vde43 vde2 vde4 (Go.Proofs.Ythgpgnijbajlgaa.Dec.mk 0 0) vde60 (Go.Proofs.Ythgpgnijbajlgaa.Dec.mk 0 0) (ByteArray.mk #[97, 105, 114])], r5, ())))
                                                     (
                                                      .fail))
                                                   (
                                                    .fail))
                                                 (
                                                  .fail))
                                               (
                                                .br (vn56 == 5)
                                                 (
                                                  .br (Go.Proofs.Ythgpgnijbajlgaa.pickOk (Go.IntKind.i64.wrap (vt0.k.tdiv 6)) 400)
                                                   (
                                                    .bind (Go.Proofs.Ythgpgnijbajlgaa.pick (Go.IntKind.i64.wrap (vt0.k.tdiv 6)) 400) fun vn61 =>
                                                    .br (Go.Proofs.Ythgpgnijbajlgaa.scaleOk (Go.IntKind.i64.wrap (vn61 - 200)) 2)
                                                     (
                                                      .bind (Go.Proofs.Ythgpgnijbajlgaa.decOf (Go.IntKind.i64.wrap (vn61 - 200)) 2) fun vde62 =>
                                                      .br (Go.Proofs.Ythgpgnijbajlgaa.pickOk (Go.IntKind.i64.wrap (vt0.k.tdiv 12)) 400)
                                                       (
                                                        .bind (Go.Proofs.Ythgpgnijbajlgaa.pick (Go.IntKind.i64.wrap (vt0.k.tdiv 12)) 400) fun vn63 =>
                                                        .br (Go.Proofs.Ythgpgnijbajlgaa.scaleOk (Go.IntKind.i64.wrap (vn63 - 200)) 1)
                                                         (
                                                          .bind (Go.Proofs.Ythgpgnijbajlgaa.decOf (Go.IntKind.i64.wrap (vn63 - 200)) 1) fun vde64 =>
                                                          .br (Go.Proofs.Ythgpgnijbajlgaa.Ev.lenOk (r4 ++ [Go.Proofs.Ythgpgnijbajlgaa.Face.mk Bool.false vde43 vde2 vde4 (Go.Proofs.Ythgpgnijbajlgaa.Dec.mk 0 0) vde62 vde64 (ByteArray.mk #[97, 105, 114])]))
                                                           (
                                                            .ret (Sum.inl ((t3, Go.IntKind.i64.wrap (t10 + 1), ()), r0a, (), r1a, (), r2, r3, r4 ++ [Go.Proofs.Ythgpgnijbajlgaa.Face.mk Bool.false vde43 vde2 vde4 (Go.Proofs.Ythgpgnijbajlgaa.Dec.mk 0 0) vde62 vde64 (ByteArray.mk #[97, 105, 114])], r5, ())))
                                                           (
                                                            .fail))
                                                         (
                                                          .fail))
                                                       (
                                                        .fail))
                                                     (
                                                      .fail))
                                                   (
                                                    .fail))
                                                 (
                                                  .br (Go.Proofs.Ythgpgnijbajlgaa.Ev.lenOk (r4 ++ [Go.Proofs.Ythgpgnijbajlgaa.Face.mk Bool.false vde43 vde2 vde4 (Go.Proofs.Ythgpgnijbajlgaa.Dec.mk 0 0) (Go.Proofs.Ythgpgnijbajlgaa.Dec.mk 0 0) (Go.Proofs.Ythgpgnijbajlgaa.Dec.mk 0 0) (ByteArray.mk #[97, 105, 114])]))
                                                   (
                                                    .ret (Sum.inl ((t3, Go.IntKind.i64.wrap (t10 + 1), ()), r0a, (), r1a, (), r2, r3, r4 ++ [Go.Proofs.Ythgpgnijbajlgaa.Face.mk Bool.false vde43 vde2 vde4 (Go.Proofs.Ythgpgnijbajlgaa.Dec.mk 0 0) (Go.Proofs.Ythgpgnijbajlgaa.Dec.mk 0 0) (Go.Proofs.Ythgpgnijbajlgaa.Dec.mk 0 0) (ByteArray.mk #[97, 105, 114])], r5, ())))
                                                   (
                                                    .fail)))))
                                           (
                                            .fail)))
                                       (
                                        .fail))
                                     (
                                      .fail))
                                   (
                                    .fail))
                                 (
                                  .br (Go.Proofs.Ythgpgnijbajlgaa.pickOk vt0.k 6)
                                   (
                                    .bind (Go.Proofs.Ythgpgnijbajlgaa.pick vt0.k 6) fun vn65 =>
                                    .br (vn65 == 3)
                                     (
                                      .br (Go.Proofs.Ythgpgnijbajlgaa.pickOk (Go.IntKind.i64.wrap (vt0.k.tdiv 6)) 30)
                                       (
                                        .bind (Go.Proofs.Ythgpgnijbajlgaa.pick (Go.IntKind.i64.wrap (vt0.k.tdiv 6)) 30) fun vn66 =>
                                        .br (Go.Proofs.Ythgpgnijbajlgaa.scaleOk (Go.IntKind.i64.wrap (vn66 - 15)) 1)
                                         (
                                          .bind (Go.Proofs.Ythgpgnijbajlgaa.decOf (Go.IntKind.i64.wrap (vn66 - 15)) 1) fun vde67 =>
                                          .br (Go.Proofs.Ythgpgnijbajlgaa.Ev.lenOk (r4 ++ [Go.Proofs.Ythgpgnijbajlgaa.Face.mk Bool.false (Go.Proofs.Ythgpgnijbajlgaa.Dec.mk 0 0) vde2 vde4 vde67 (Go.Proofs.Ythgpgnijbajlgaa.Dec.mk 0 0) (Go.Proofs.Ythgpgnijbajlgaa.Dec.mk 0 0) (ByteArray.mk #[97, 105, 114])]))
                                           (
                                            .ret (Sum.inl ((t3, Go.IntKind.i64.wrap (t10 + 1), ()), r0a, (), r1a, (), r2, r3, r4 ++ [Go.Proofs.Ythgpgnijbajlgaa.Face.mk Bool.false (Go.Proofs.Ythgpgnijbajlgaa.Dec.mk 0 0) vde2 vde4 vde67 (Go.Proofs.Ythgpgnijbajlgaa.Dec.mk 0 0) (Go.Proofs.Ythgpgnijbajlgaa.Dec.mk 0 0) (ByteArray.mk #[97, 105, 114])], r5, ())))
                                           (
                                            .fail))
                                         (
                                          .fail))
                                       (
                                        .fail))
                                     (
                                      .br (vn65 == 4)
                                       (
                                        .br (Go.Proofs.Ythgpgnijbajlgaa.pickOk (Go.IntKind.i64.wrap (vt0.k.tdiv 6)) 400)
                                         (
                                          .bind (Go.Proofs.Ythgpgnijbajlgaa.pick (Go.IntKind.i64.wrap (vt0.k.tdiv 6)) 400) fun vn68 =>
                                          .br (Go.Proofs.Ythgpgnijbajlgaa.scaleOk (Go.IntKind.i64.wrap (vn68 - 200)) 2)
                                           (
                                            .bind (Go.Proofs.Ythgpgnijbajlgaa.decOf (Go.IntKind.i64.wrap (vn68 - 200)) 2) fun vde69 =>
                                            .br (Go.Proofs.Ythgpgnijbajlgaa.Ev.lenOk (r4 ++ [Go.Proofs.Ythgpgnijbajlgaa.Face.mk Bool.false (Go.Proofs.Ythgpgnijbajlgaa.Dec.mk 0 0) vde2 vde4 (Go.Proofs.Ythgpgnijbajlgaa.Dec.mk 0 0) vde69 (Go.Proofs.Ythgpgnijbajlgaa.Dec.mk 0 0) (ByteArray.mk #[97, 105, 114])]))
                                             (
                                              .ret (Sum.inl ((t3, Go.IntKind.i64.wrap (t10 + 1), ()), r0a, (), r1a, (), r2, r3, r4 ++ [Go.Proofs.Ythgpgnijbajlgaa.Face.mk Bool.false (Go.Proofs.Ythgpgnijbajlgaa.Dec.mk 0 0) vde2 vde4 (Go.Proofs.Ythgpgnijbajlgaa.Dec.mk 0 0) vde69 (Go.Proofs.Ythgpgnijbajlgaa.Dec.mk 0 0) (ByteArray.mk #[97, 105, 114])], r5, ())))
                                             (
                                              .fail))
                                           (
                                            .fail))
                                         (
                                          .fail))
                                       (
                                        .br (vn65 == 5)
                                         (
                                          .br (Go.Proofs.Ythgpgnijbajlgaa.pickOk (Go.IntKind.i64.wrap (vt0.k.tdiv 6)) 400)
                                           (
                                            .bind (Go.Proofs.Ythgpgnijbajlgaa.pick (Go.IntKind.i64.wrap (vt0.k.tdiv 6)) 400) fun vn70 =>
                                            .br (Go.Proofs.Ythgpgnijbajlgaa.scaleOk (Go.IntKind.i64.wrap (vn70 - 200)) 2)
                                             (
                                              .bind (Go.Proofs.Ythgpgnijbajlgaa.decOf (Go.IntKind.i64.wrap (vn70 - 200)) 2) fun vde71 =>
                                              .br (Go.Proofs.Ythgpgnijbajlgaa.pickOk (Go.IntKind.i64.wrap (vt0.k.tdiv 12)) 400)
                                               (
                                                .bind (Go.Proofs.Ythgpgnijbajlgaa.pick (Go.IntKind.i64.wrap (vt0.k.tdiv 12)) 400) fun vn72 =>
                                                .br (Go.Proofs.Ythgpgnijbajlgaa.scaleOk (Go.IntKind.i64.wrap (vn72 - 200)) 1)
                                                 (
                                                  .bind (Go.Proofs.Ythgpgnijbajlgaa.decOf (Go.IntKind.i64.wrap (vn72 - 200)) 1) fun vde73 =>
                                                  .br (Go.Proofs.Ythgpgnijbajlgaa.Ev.lenOk (r4 ++ [Go.Proofs.Ythgpgnijbajlgaa.Face.mk Bool.false (Go.Proofs.Ythgpgnijbajlgaa.Dec.mk 0 0) vde2 vde4 (Go.Proofs.Ythgpgnijbajlgaa.Dec.mk 0 0) vde71 vde73 (ByteArray.mk #[97, 105, 114])]))
                                                   (
                                                    .ret (Sum.inl ((t3, Go.IntKind.i64.wrap (t10 + 1), ()), r0a, (), r1a, (), r2, r3, r4 ++ [Go.Proofs.Ythgpgnijbajlgaa.Face.mk Bool.false (Go.Proofs.Ythgpgnijbajlgaa.Dec.mk 0 0) vde2 vde4 (Go.Proofs.Ythgpgnijbajlgaa.Dec.mk 0 0) vde71 vde73 (ByteArray.mk #[97, 105, 114])], r5, ())))
                                                   (
                                                    .fail))
                                                 (
                                                  .fail))
                                               (
                                                .fail))
                                             (
                                              .fail))
                                           (
                                            .fail))
                                         (
                                          .br (Go.Proofs.Ythgpgnijbajlgaa.Ev.lenOk (r4 ++ [Go.Proofs.Ythgpgnijbajlgaa.Face.mk Bool.false (Go.Proofs.Ythgpgnijbajlgaa.Dec.mk 0 0) vde2 vde4 (Go.Proofs.Ythgpgnijbajlgaa.Dec.mk 0 0) (Go.Proofs.Ythgpgnijbajlgaa.Dec.mk 0 0) (Go.Proofs.Ythgpgnijbajlgaa.Dec.mk 0 0) (ByteArray.mk #[97, 105, 114])]))
                                           (
                                            .ret (Sum.inl ((t3, Go.IntKind.i64.wrap (t10 + 1), ()), r0a, (), r1a, (), r2, r3, r4 ++ [Go.Proofs.Ythgpgnijbajlgaa.Face.mk Bool.false (Go.Proofs.Ythgpgnijbajlgaa.Dec.mk 0 0) vde2 vde4 (Go.Proofs.Ythgpgnijbajlgaa.Dec.mk 0 0) (Go.Proofs.Ythgpgnijbajlgaa.Dec.mk 0 0) (Go.Proofs.Ythgpgnijbajlgaa.Dec.mk 0 0) (ByteArray.mk #[97, 105, 114])], r5, ())))
                                           (
                                            .fail)))))
                                   (
                                    .fail)))
                               (
                                .fail)))
                           (
                            .fail)))
                       (
                        .br (Go.Proofs.Ythgpgnijbajlgaa.pickOk vt0.g (Go.IntKind.i64.wrap ((@Nat.cast Int _ r3.length) + 2)))
                         (
                          .bind (Go.Proofs.Ythgpgnijbajlgaa.pick vt0.g (Go.IntKind.i64.wrap ((@Nat.cast Int _ r3.length) + 2))) fun vn74 =>
                          .br (Decidable.decide (vn74 < (@Nat.cast Int _ r3.length)))
                           (
                            .br (Decidable.decide (0 ≤ vn74 ∧ vn74 < (@Nat.cast Int _ r3.length)))
                             (
                              .get (r3[vn74.toNat]?) fun vt75 =>
                              .br (Go.Proofs.Ythgpgnijbajlgaa.pickOk vt0.r 7)
                               (
                                .bind (Go.Proofs.Ythgpgnijbajlgaa.pick vt0.r 7) fun vn76 =>
                                .br (Decidable.decide (vn76 > 0))
                                 (
                                  .br (Go.Proofs.Ythgpgnijbajlgaa.pickOk vt0.r 900)
                                   (
                                    .bind (Go.Proofs.Ythgpgnijbajlgaa.pick vt0.r 900) fun vn77 =>
                                    .br (Go.Proofs.Ythgpgnijbajlgaa.scaleOk (Go.IntKind.i64.wrap (150 + vn77)) 1)
                                     (
                                      .bind (Go.Proofs.Ythgpgnijbajlgaa.decOf (Go.IntKind.i64.wrap (150 + vn77)) 1) fun vde78 =>
                                      .br (Go.Proofs.Ythgpgnijbajlgaa.pickOk (Go.IntKind.i64.wrap (vt0.r.tdiv 7)) 2)
                                       (
                                        .bind (Go.Proofs.Ythgpgnijbajlgaa.pick (Go.IntKind.i64.wrap (vt0.r.tdiv 7)) 2) fun vn79 =>
                                        .br (vn79 == 0)
                                         (
                                          .br (Go.Proofs.Ythgpgnijbajlgaa.pickOk vt0.r 900)
                                           (
                                            .bind (Go.Proofs.Ythgpgnijbajlgaa.pick vt0.r 900) fun vn80 =>
                                            .br (Go.Proofs.Ythgpgnijbajlgaa.scaleOk (Go.IntKind.i64.wrap (-150 - vn80)) 1)
                                             (
                                              .bind (Go.Proofs.Ythgpgnijbajlgaa.decOf (Go.IntKind.i64.wrap (-150 - vn80)) 1) fun vde81 =>
                                              .br (Go.Proofs.Ythgpgnijbajlgaa.pickOk vt0.k 6)
                                               (
                                                .bind (Go.Proofs.Ythgpgnijbajlgaa.pick vt0.k 6) fun vn82 =>
                                                .br (vn82 == 3)
                                                 (
                                                  .br (Go.Proofs.Ythgpgnijbajlgaa.pickOk (Go.IntKind.i64.wrap (vt0.k.tdiv 6)) 30)
                                                   (
                                                    .bind (Go.Proofs.Ythgpgnijbajlgaa.pick (Go.IntKind.i64.wrap (vt0.k.tdiv 6)) 30) fun vn83 =>
                                                    .br (Go.Proofs.Ythgpgnijbajlgaa.scaleOk (Go.IntKind.i64.wrap (vn83 - 15)) 1)
                                                     (
                                                      .bind (Go.Proofs.Ythgpgnijbajlgaa.decOf (Go.IntKind.i64.wrap (vn83 - 15)) 1) fun vde84 =>
                                                      .br (Go.Proofs.Ythgpgnijbajlgaa.Ev.lenOk (r4 ++ [Go.Proofs.Ythgpgnijbajlgaa.Face.mk Bool.false vde81 vde2 vde4 vde84 (Go.Proofs.Ythgpgnijbajlgaa.Dec.mk 0 0) (Go.Proofs.Ythgpgnijbajlgaa.Dec.mk 0 0) vt75.name]))
                                                       (
                                                        .ret (Sum.inl ((t3, Go.IntKind.i64.wrap (t10 + 1), ()), r0a, (), r1a, (), r2, r3, r4 ++ [Go.Proofs.Ythgpgnijbajlgaa.Face.mk Bool.false vde81 vde2 vde4 vde84 (Go.Proofs.Ythgpgnijbajlgaa.Dec.mk 0 0) (Go.Proofs.Ythgpgnijbajlgaa.Dec.mk 0 0) vt75.name], r5, ())))
                                                       (
                                                        .fail))
                                                     (
                                                      .fail))
                                                   (
                                                    .fail))
                                                 (
                                                  .br (vn82 == 4)
                                                   (
                                                    .br (Go.Proofs.Ythgpgnijbajlgaa.pickOk (Go.IntKind.i64.wrap (vt0.k.tdiv 6)) 400)
                                                     (
                                                      .bind (Go.Proofs.Ythgpgnijbajlgaa.pick (Go.IntKind.i64.wrap (vt0.k.tdiv 6)) 400) fun vn85 =>
                                                      .br (Go.Proofs.Ythgpgnijbajlgaa.scaleOk (Go.IntKind.i64.wrap (vn85 - 200)) 2)
                                                       (
                                                        .bind (Go.Proofs.Ythgpgnijbajlgaa.decOf (Go.IntKind.i64.wrap (vn85 - 200)) 2) fun vde86 =>
                                                        .br (Go.Proofs.Ythgpgnijbajlgaa.Ev.lenOk (r4 ++ [Go.Proofs.Ythgpgnijbajlgaa.Face.mk Bool.false vde81 vde2 vde4 (Go.Proofs.Ythgpgnijbajlgaa.Dec.mk 0 0) vde86 (Go.Proofs.Ythgpgnijbajlgaa.Dec.mk 0 0) vt75.name]))
                                                         (
                                                          .ret (Sum.inl ((t3, Go.IntKind.i64.wrap (t10 + 1), ()), r0a, (), r1a, (), r2, r3, r4 ++ [Go.Proofs.Ythgpgnijbajlgaa.Face.mk Bool.false vde81 vde2 vde4 (Go.Proofs.Ythgpgnijbajlgaa.Dec.mk 0 0) vde86 (Go.Proofs.Ythgpgnijbajlgaa.Dec.mk 0 0) vt75.name], r5, ())))
                                                         (
                                                          .fail))
                                                       (
                                                        .fail))
                                                     (
                                                      .fail))
                                                   (
                                                    .br (vn82 == 5)
                                                     (
                                                      .br (Go.Proofs.Ythgpgnijbajlgaa.pickOk (Go.IntKind.i64.wrap (vt0.k.tdiv 6)) 400)
                                                       (
                                                        .bind (Go.Proofs.Ythgpgnijbajlgaa.pick (Go.IntKind.i64.wrap (vt0.k.tdiv 6)) 400) fun vn87 =>
                                                        .br (Go.Proofs.Ythgpgnijbajlgaa.scaleOk (Go.IntKind.i64.wrap (vn87 - 200)) 2)
                                                         (
                                                          .bind (Go.Proofs.Ythgpgnijbajlgaa.decOf (Go.IntKind.i64.wrap (vn87 - 200)) 2) fun vde88 =>
                                                          .br (Go.Proofs.Ythgpgnijbajlgaa.pickOk (Go.IntKind.i64.wrap (vt0.k.tdiv 12)) 400)
                                                           (
                                                            .bind (Go.Proofs.Ythgpgnijbajlgaa.pick (Go.IntKind.i64.wrap (vt0.k.tdiv 12)) 400) fun vn89 =>
                                                            .br (Go.Proofs.Ythgpgnijbajlgaa.scaleOk (Go.IntKind.i64.wrap (vn89 - 200)) 1)
                                                             (
                                                              .bind (Go.Proofs.Ythgpgnijbajlgaa.decOf (Go.IntKind.i64.wrap (vn89 - 200)) 1) fun vde90 =>
                                                              .br (Go.Proofs.Ythgpgnijbajlgaa.Ev.lenOk (r4 ++ [Go.Proofs.Ythgpgnijbajlgaa.Face.mk Bool.false vde81 vde2 vde4 (Go.Proofs.Ythgpgnijbajlgaa.Dec.mk 0 0) vde88 vde90 vt75.name]))
                                                               (
                                                                .ret (Sum.inl ((t3, Go.IntKind.i64.wrap (t10 + 1), ()), r0a, (), r1a, (), r2, r3, r4 ++ [Go.Proofs.Ythgpgnijbajlgaa.Face.mk Bool.false vde81 vde2 vde4 (Go.Proofs.Ythgpgnijbajlgaa.Dec.mk 0 0) vde88 vde90 vt75.name], r5, ())))
                                                               (
                                                                .fail))
                                                             (
                                                              .fail))
                                                           (
                                                            .fail))
                                                         (
                                                          .fail))
                                                       (
                                                        .fail))
                                                     (
                                                      .br (Go.Proofs.Ythgpgnijbajlgaa.Ev.lenOk (r4 ++ [Go.Proofs.Ythgpgnijbajlgaa.Face.mk Bool.false vde81 vde2 vde4 (Go.Proofs.Ythgpgnijbajlgaa.Dec.mk 0 0) (Go.Proofs.Ythgpgnijbajlgaa.Dec.mk 0 0) (Go.Proofs.Ythgpgnijbajlgaa.Dec.mk 0 0) vt75.name]))
                                                       (
                                                        .ret (Sum.inl ((t3, Go.IntKind.i64.wrap (t10 + 1), ()), r0a, (), r1a, (), r2, r3, r4 ++ [Go.Proofs.Ythgpgnijbajlgaa.Face.mk Bool.false vde81 vde2 vde4 (Go.Proofs.Ythgpgnijbajlgaa.Dec.mk 0 0) (Go.Proofs.Ythgpgnijbajlgaa.Dec.mk 0 0) (Go.Proofs.Ythgpgnijbajlgaa.Dec.mk 0 0) vt75.name], r5, ())))
                                                       (
                                                        .fail)))))
                                               (
                                                .fail))
                                             (
                                              .fail))
                                           (
                                            .fail))
                                         (
                                          .br (Go.Proofs.Ythgpgnijbajlgaa.pickOk vt0.k 6)
                                           (
                                            .bind (Go.Proofs.Ythgpgnijbajlgaa.pick vt0.k 6) fun vn91 =>
                                            .br (vn91 == 3)
                                             (
                                              .br (Go.Proofs.Ythgpgnijbajlgaa.pickOk (Go.IntKind.i64.wrap (vt0.k.tdiv 6)) 30)
                                               (
                                                .bind (Go.Proofs.Ythgpgnijbajlgaa.pick (Go.IntKind.i64.wrap (vt0.k.tdiv 6)) 30) fun vn92 =>
                                                .br (Go.Proofs.Ythgpgnijbajlgaa.scaleOk (Go.IntKind.i64.wrap (vn92 - 15)) 1)
                                                 (
                                                  .bind (Go.Proofs.Ythgpgnijbajlgaa.decOf (Go.IntKind.i64.wrap (vn92 - 15)) 1) fun vde93 =>
                                                  .br (Go.Proofs.Ythgpgnijbajlgaa.Ev.lenOk (r4 ++ [Go.Proofs.Ythgpgnijbajlgaa.Face.mk Bool.false vde78 vde2 vde4 vde93 (Go.Proofs.Ythgpgnijbajlgaa.Dec.mk 0 0) (Go.Proofs.Ythgpgnijbajlgaa.Dec.mk 0 0) vt75.name]))
                                                   (
                                                    .ret (Sum.inl ((t3, Go.IntKind.i64.wrap (t10 + 1), ()), r0a, (), r1a, (), r2, r3, r4 ++ [Go.Proofs.Ythgpgnijbajlgaa.Face.mk Bool.false vde78 vde2 vde4 vde93 (Go.Proofs.Ythgpgnijbajlgaa.Dec.mk 0 0) (Go.Proofs.Ythgpgnijbajlgaa.Dec.mk 0 0) vt75.name], r5, ())))
                                                   (
                                                    .fail))
                                                 (
                                                  .fail))
                                               (
                                                .fail))
                                             (
                                              .br (vn91 == 4)
                                               (
                                                .br (Go.Proofs.Ythgpgnijbajlgaa.pickOk (Go.IntKind.i64.wrap (vt0.k.tdiv 6)) 400)
                                                 (
                                                  .bind (Go.Proofs.Ythgpgnijbajlgaa.pick (Go.IntKind.i64.wrap (vt0.k.tdiv 6)) 400) fun vn94 =>
                                                  .br (Go.Proofs.Ythgpgnijbajlgaa.scaleOk (Go.IntKind.i64.wrap (vn94 - 200)) 2)
                                                   (
                                                    .bind (Go.Proofs.Ythgpgnijbajlgaa.decOf (Go.IntKind.i64.wrap (vn94 - 200)) 2) fun vde95 =>
                                                    .br (Go.Proofs.Ythgpgnijbajlgaa.Ev.lenOk (r4 ++ [Go.Proofs.Ythgpgnijbajlgaa.Face.mk Bool.false vde78 vde2 vde4 (Go.Proofs.Ythgpgnijbajlgaa.Dec.mk 0 0) vde95 (Go.Proofs.Ythgpgnijbajlgaa.Dec.mk 0 0) vt75.name]))
                                                     (
                                                      .ret (Sum.inl ((t3, Go.IntKind.i64.wrap (t10 + 1), ()), r0a, (), r1a, (), r2, r3, r4 ++ [Go.Proofs.Ythgpgnijbajlgaa.Face.mk Bool.false vde78 vde2 vde4 (Go.Proofs.Ythgpgnijbajlgaa.Dec.mk 0 0) vde95 (Go.Proofs.Ythgpgnijbajlgaa.Dec.mk 0 0) vt75.name], r5, ())))
                                                     (
                                                      .fail))
                                                   (
                                                    .fail))
                                                 (
                                                  .fail))
                                               (
                                                .br (vn91 == 5)
                                                 (
                                                  .br (Go.Proofs.Ythgpgnijbajlgaa.pickOk (Go.IntKind.i64.wrap (vt0.k.tdiv 6)) 400)
                                                   (
                                                    .bind (Go.Proofs.Ythgpgnijbajlgaa.pick (Go.IntKind.i64.wrap (vt0.k.tdiv 6)) 400) fun vn96 =>
                                                    .br (Go.Proofs.Ythgpgnijbajlgaa.scaleOk (Go.IntKind.i64.wrap (vn96 - 200)) 2)
                                                     (
                                                      .bind (Go.Proofs.Ythgpgnijbajlgaa.decOf (Go.IntKind.i64.wrap (vn96 - 200)) 2) fun vde97 =>
                                                      .br (Go.Proofs.Ythgpgnijbajlgaa.pickOk (Go.IntKind.i64.wrap (vt0.k.tdiv 12)) 400)
                                                       (
                                                        .bind (Go.Proofs.Ythgpgnijbajlgaa.pick (Go.IntKind.i64.wrap (vt0.k.tdiv 12)) 400) fun vn98 =>
                                                        .br (Go.Proofs.Ythgpgnijbajlgaa.scaleOk (Go.IntKind.i64.wrap (vn98 - 200)) 1)
                                                         (
                                                          .bind (Go.Proofs.Ythgpgnijbajlgaa.decOf (Go.IntKind.i64.wrap (vn98 - 200)) 1) fun vde99 =>
                                                          .br (Go.Proofs.Ythgpgnijbajlgaa.Ev.lenOk (r4 ++ [Go.Proofs.Ythgpgnijbajlgaa.Face.mk Bool.false vde78 vde2 vde4 (Go.Proofs.Ythgpgnijbajlgaa.Dec.mk 0 0) vde97 vde99 vt75.name]))
                                                           (
                                                            .ret (Sum.inl ((t3, Go.IntKind.i64.wrap (t10 + 1), ()), r0a, (), r1a, (), r2, r3, r4 ++ [Go.Proofs.Ythgpgnijbajlgaa.Face.mk Bool.false vde78 vde2 vde4 (Go.Proofs.Ythgpgnijbajlgaa.Dec.mk 0 0) vde97 vde99 vt75.name], r5, ())))
                                                           (
                                                            .fail))
                                                         (
                                                          .fail))
                                                       (
                                                        .fail))
                                                     (
                                                      .fail))
                                                   (
                                                    .fail))
                                                 (
                                                  .br (Go.Proofs.Ythgpgnijbajlgaa.Ev.lenOk (r4 ++ [Go.Proofs.Ythgpgnijbajlgaa.Face.mk Bool.false vde78 vde2 vde4 (Go.Proofs.Ythgpgnijbajlgaa.Dec.mk 0 0) (Go.Proofs.Ythgpgnijbajlgaa.Dec.mk 0 0) (Go.Proofs.Ythgpgnijbajlgaa.Dec.mk 0 0) vt75.name]))
                                                   (
                                                    .ret (Sum.inl ((t3, Go.IntKind.i64.wrap (t10 + 1), ()), r0a, (), r1a, (), r2, r3, r4 ++ [Go.Proofs.Ythgpgnijbajlgaa.Face.mk Bool.false vde78 vde2 vde4 (Go.Proofs.Ythgpgnijbajlgaa.Dec.mk 0 0) (Go.Proofs.Ythgpgnijbajlgaa.Dec.mk 0 0) (Go.Proofs.Ythgpgnijbajlgaa.Dec.mk 0 0) vt75.name], r5, ())))
                                                   (
                                                    .fail)))))
                                           (
                                            .fail)))
                                       (
                                        .fail))
                                     (
                                      .fail))
                                   (
                                    .fail))
                                 (
                                  .br (Go.Proofs.Ythgpgnijbajlgaa.pickOk vt0.k 6)
                                   (
                                    .bind (Go.Proofs.Ythgpgnijbajlgaa.pick vt0.k 6) fun vn100 =>
                                    .br (vn100 == 3)
                                     (
                                      .br (Go.Proofs.Ythgpgnijbajlgaa.pickOk (Go.IntKind.i64.wrap (vt0.k.tdiv 6)) 30)
                                       (
                                        .bind (Go.Proofs.Ythgpgnijbajlgaa.pick (Go.IntKind.i64.wrap (vt0.k.tdiv 6)) 30) fun vn101 =>
                                        .br (Go.Proofs.Ythgpgnijbajlgaa.scaleOk (Go.IntKind.i64.wrap (vn101 - 15)) 1)
                                         (
                                          .bind (Go.Proofs.Ythgpgnijbajlgaa.decOf (Go.IntKind.i64.wrap (vn101 - 15)) 1) fun vde102 =>
                                          .br (Go.Proofs.Ythgpgnijbajlgaa.Ev.lenOk (r4 ++ [Go.Proofs.Ythgpgnijbajlgaa.Face.mk Bool.false (Go.Proofs.Ythgpgnijbajlgaa.Dec.mk 0 0) vde2 vde4 vde102 (Go.Proofs.Ythgpgnijbajlgaa.Dec.mk 0 0) (Go.Proofs.Ythgpgnijbajlgaa.Dec.mk 0 0) vt75.name]))
                                           (
                                            .ret (Sum.inl ((t3, Go.IntKind.i64.wrap (t10 + 1), ()), r0a, (), r1a, (), r2, r3, r4 ++ [Go.Proofs.Ythgpgnijbajlgaa.Face.mk Bool.false (Go.Proofs.Ythgpgnijbajlgaa.Dec.mk 0 0) vde2 vde4 vde102 (Go.Proofs.Ythgpgnijbajlgaa.Dec.mk 0 0) (Go.Proofs.Ythgpgnijbajlgaa.Dec.mk 0 0) vt75.name], r5, ())))
                                           (
                                            .fail))
                                         (
                                          .fail))
                                       (
                                        .fail))
                                     (
                                      .br (vn100 == 4)
                                       (
                                        .br (Go.Proofs.Ythgpgnijbajlgaa.pickOk (Go.IntKind.i64.wrap (vt0.k.tdiv 6)) 400)
                                         (
                                          .bind (Go.Proofs.Ythgpgnijbajlgaa.pick (Go.IntKind.i64.wrap (vt0.k.tdiv 6)) 400) fun vn103 =>
                                          .br (Go.Proofs.Ythgpgnijbajlgaa.scaleOk (Go.IntKind.i64.wrap (vn103 - 200)) 2)
                                           (
                                            .bind (Go.Proofs.Ythgpgnijbajlgaa.decOf (Go.IntKind.i64.wrap (vn103 - 200)) 2) fun vde104 =>
                                            .br (Go.Proofs.Ythgpgnijbajlgaa.Ev.lenOk (r4 ++ [Go.Proofs.Ythgpgnijbajlgaa.Face.mk Bool.false (Go.Proofs.Ythgpgnijbajlgaa.Dec.mk 0 0) vde2 vde4 (Go.Proofs.Ythgpgnijbajlgaa.Dec.mk 0 0) vde104 (Go.Proofs.Ythgpgnijbajlgaa.Dec.mk 0 0) vt75.name]))
                                             (
                                              .ret (Sum.inl ((t3, Go.IntKind.i64.wrap (t10 + 1), ()), r0a, (), r1a, (), r2, r3, r4 ++ [Go.Proofs.Ythgpgnijbajlgaa.Face.mk Bool.false (Go.Proofs.Ythgpgnijbajlgaa.Dec.mk 0 0) vde2 vde4 (Go.Proofs.Ythgpgnijbajlgaa.Dec.mk 0 0) vde104 (Go.Proofs.Ythgpgnijbajlgaa.Dec.mk 0 0) vt75.name], r5, ())))
                                             (
                                              .fail))
                                           (
                                            .fail))
                                         (
                                          .fail))
                                       (
                                        .br (vn100 == 5)
                                         (
                                          .br (Go.Proofs.Ythgpgnijbajlgaa.pickOk (Go.IntKind.i64.wrap (vt0.k.tdiv 6)) 400)
                                           (
                                            .bind (Go.Proofs.Ythgpgnijbajlgaa.pick (Go.IntKind.i64.wrap (vt0.k.tdiv 6)) 400) fun vn105 =>
                                            .br (Go.Proofs.Ythgpgnijbajlgaa.scaleOk (Go.IntKind.i64.wrap (vn105 - 200)) 2)
                                             (
                                              .bind (Go.Proofs.Ythgpgnijbajlgaa.decOf (Go.IntKind.i64.wrap (vn105 - 200)) 2) fun vde106 =>
                                              .br (Go.Proofs.Ythgpgnijbajlgaa.pickOk (Go.IntKind.i64.wrap (vt0.k.tdiv 12)) 400)
                                               (
                                                .bind (Go.Proofs.Ythgpgnijbajlgaa.pick (Go.IntKind.i64.wrap (vt0.k.tdiv 12)) 400) fun vn107 =>
                                                .br (Go.Proofs.Ythgpgnijbajlgaa.scaleOk (Go.IntKind.i64.wrap (vn107 - 200)) 1)
                                                 (
                                                  .bind (Go.Proofs.Ythgpgnijbajlgaa.decOf (Go.IntKind.i64.wrap (vn107 - 200)) 1) fun vde108 =>
                                                  .br (Go.Proofs.Ythgpgnijbajlgaa.Ev.lenOk (r4 ++ [Go.Proofs.Ythgpgnijbajlgaa.Face.mk Bool.false (Go.Proofs.Ythgpgnijbajlgaa.Dec.mk 0 0) vde2 vde4 (Go.Proofs.Ythgpgnijbajlgaa.Dec.mk 0 0) vde106 vde108 vt75.name]))
                                                   (
                                                    .ret (Sum.inl ((t3, Go.IntKind.i64.wrap (t10 + 1), ()), r0a, (), r1a, (), r2, r3, r4 ++ [Go.Proofs.Ythgpgnijbajlgaa.Face.mk Bool.false (Go.Proofs.Ythgpgnijbajlgaa.Dec.mk 0 0) vde2 vde4 (Go.Proofs.Ythgpgnijbajlgaa.Dec.mk 0 0) vde106 vde108 vt75.name], r5, ())))
                                                   (
                                                    .fail))
                                                 (
                                                  .fail))
                                               (
                                                .fail))
                                             (
                                              .fail))
                                           (
                                            .fail))
                                         (
                                          .br (Go.Proofs.Ythgpgnijbajlgaa.Ev.lenOk (r4 ++ [Go.Proofs.Ythgpgnijbajlgaa.Face.mk Bool.false (Go.Proofs.Ythgpgnijbajlgaa.Dec.mk 0 0) vde2 vde4 (Go.Proofs.Ythgpgnijbajlgaa.Dec.mk 0 0) (Go.Proofs.Ythgpgnijbajlgaa.Dec.mk 0 0) (Go.Proofs.Ythgpgnijbajlgaa.Dec.mk 0 0) vt75.name]))
                                           (
                                            .ret (Sum.inl ((t3, Go.IntKind.i64.wrap (t10 + 1), ()), r0a, (), r1a, (), r2, r3, r4 ++ [Go.Proofs.Ythgpgnijbajlgaa.Face.mk Bool.false (Go.Proofs.Ythgpgnijbajlgaa.Dec.mk 0 0) vde2 vde4 (Go.Proofs.Ythgpgnijbajlgaa.Dec.mk 0 0) (Go.Proofs.Ythgpgnijbajlgaa.Dec.mk 0 0) (Go.Proofs.Ythgpgnijbajlgaa.Dec.mk 0 0) vt75.name], r5, ())))
                                           (
                                            .fail)))))
                                   (
                                    .fail)))
                               (
                                .fail))
                             (
                              .fail))
                           (
                            .br (Go.Proofs.Ythgpgnijbajlgaa.pickOk vt0.r 7)
                             (
                              .bind (Go.Proofs.Ythgpgnijbajlgaa.pick vt0.r 7) fun vn109 =>
                              .br (Decidable.decide (vn109 > 0))
                               (
                                .br (Go.Proofs.Ythgpgnijbajlgaa.pickOk vt0.r 900)
                                 (
                                  .bind (Go.Proofs.Ythgpgnijbajlgaa.pick vt0.r 900) fun vn110 =>
                                  .br (Go.Proofs.Ythgpgnijbajlgaa.scaleOk (Go.IntKind.i64.wrap (150 + vn110)) 1)
                                   (
                                    .bind (Go.Proofs.Ythgpgnijbajlgaa.decOf (Go.IntKind.i64.wrap (150 + vn110)) 1) fun vde111 =>
                                    .br (Go.Proofs.Ythgpgnijbajlgaa.pickOk (Go.IntKind.i64.wrap (vt0.r.tdiv 7)) 2)
                                     (
                                      .bind (Go.Proofs.Ythgpgnijbajlgaa.pick (Go.IntKind.i64.wrap (vt0.r.tdiv 7)) 2) fun vn112 =>
                                      .br (vn112 == 0)
                                       (
                                        .br (Go.Proofs.Ythgpgnijbajlgaa.pickOk vt0.r 900)
                                         (
                                          .bind (Go.Proofs.Ythgpgnijbajlgaa.pick vt0.r 900) fun vn113 =>
                                          .br (Go.Proofs.Ythgpgnijbajlgaa.scaleOk (Go.IntKind.i64.wrap (-150 - vn113)) 1)
                                           (
                                            .bind (Go.Proofs.Ythgpgnijbajlgaa.decOf (Go.IntKind.i64.wrap (-150 - vn113)) 1) fun vde114 =>
                                            .br (Go.Proofs.Ythgpgnijbajlgaa.pickOk vt0.k 6)
                                             (
                                              .bind (Go.Proofs.Ythgpgnijbajlgaa.pick vt0.k 6) fun vn115 =>
                                              .br (vn115 == 3)
                                               (
                                                .br (Go.Proofs.Ythgpgnijbajlgaa.pickOk (Go.IntKind.i64.wrap (vt0.k.tdiv 6)) 30)
                                                 (
                                                  .bind (Go.Proofs.Ythgpgnijbajlgaa.pick (Go.IntKind.i64.wrap (vt0.k.tdiv 6)) 30) fun vn116 =>
                                                  .br (Go.Proofs.Ythgpgnijbajlgaa.scaleOk (Go.IntKind.i64.wrap (vn116 - 15)) 1)
                                                   (
                                                    .bind (Go.Proofs.Ythgpgnijbajlgaa.decOf (Go.IntKind.i64.wrap (vn116 - 15)) 1) fun vde117 =>
                                                    .br (Go.Proofs.Ythgpgnijbajlgaa.Ev.lenOk (r4 ++ [Go.Proofs.Ythgpgnijbajlgaa.Face.mk Bool.false vde114 vde2 vde4 vde117 (Go.Proofs.Ythgpgnijbajlgaa.Dec.mk 0 0) (Go.Proofs.Ythgpgnijbajlgaa.Dec.mk 0 0) (ByteArray.mk #[97, 105, 114])]))
                                                     (
                                                      .ret (Sum.inl ((t3, Go.IntKind.i64.wrap (t10 + 1), ()), r0a, (), r1a, (), r2, r3, r4 ++ [Go.Proofs.Ythgpgnijbajlgaa.Face.mk Bool.false vde114 vde2 vde4 vde117 (Go.Proofs.Ythgpgnijbajlgaa.Dec.mk 0 0) (Go.Proofs.Ythgpgnijbajlgaa.Dec.mk 0 0) (ByteArray.mk #[97, 105, 114])], r5, ())))
                                                     (
                                                      .fail))
                                                   (
                                                    .fail))
                                                 (
                                                  .fail))
                                               (
                                                .br (vn115 == 4)
                                                 (
                                                  .br (Go.Proofs.Ythgpgnijbajlgaa.pickOk (Go.IntKind.i64.wrap (vt0.k.tdiv 6)) 400)
                                                   (
                                                    .bind (Go.Proofs.Ythgpgnijbajlgaa.pick (Go.IntKind.i64.wrap (vt0.k.tdiv 6)) 400) fun vn118 =>
                                                    .br (Go.Proofs.Ythgpgnijbajlgaa.scaleOk (Go.IntKind.i64.wrap (vn118 - 200)) 2)
                                                     (
                                                      .bind (Go.Proofs.Ythgpgnijbajlgaa.decOf (Go.IntKind.i64.wrap (vn118 - 200)) 2) fun vde119 =>
                                                      .br (Go.Proofs.Ythgpgnijbajlgaa.Ev.lenOk (r4 ++ [Go.Proofs.Ythgpgnijbajlgaa.Face.mk Bool.false vde114 vde2 vde4 (Go.Proofs.Ythgpgnijbajlgaa.Dec.mk 0 0) vde119 (Go.Proofs.Ythgpgnijbajlgaa.Dec.mk 0 0) (ByteArray.mk #[97, 105, 114])]))
                                                       (
                                                        .ret (Sum.inl ((t3, Go.IntKind.i64.wrap (t10 + 1), ()), r0a, (), r1a, (), r2, r3, r4 ++ [Go.Proofs.Ythgpgnijbajlgaa.Face.mk Bool.false vde114 vde2 vde4 (Go.Proofs.Ythgpgnijbajlgaa.Dec.mk 0 0) vde119 (Go.Proofs.Ythgpgnijbajlgaa.Dec.mk 0 0) (ByteArray.mk #[97, 105, 114])], r5, ())))
                                                       (
                                                        .fail))
                                                     (
                                                      .fail))
                                                   (
                                                    .fail))
                                                 (
                                                  .br (vn115 == 5)
                                                   (
                                                    .br (Go.Proofs.Ythgpgnijbajlgaa.pickOk (Go.IntKind.i64.wrap (vt0.k.tdiv 6)) 400)
                                                     (
                                                      .bind (Go.Proofs.Ythgpgnijbajlgaa.pick (Go.IntKind.i64.wrap (vt0.k.tdiv 6)) 400) fun vn120 =>
                                                      .br (Go.Proofs.Ythgpgnijbajlgaa.scaleOk (Go.IntKind.i64.wrap (vn120 - 200)) 2)
                                                       (
                                                        .bind (Go.Proofs.Ythgpgnijbajlgaa.decOf (Go.IntKind.i64.wrap (vn120 - 200)) 2) fun vde121 =>
                                                        .br (Go.Proofs.Ythgpgnijbajlgaa.pickOk (Go.IntKind.i64.wrap (vt0.k.tdiv 12)) 400)
                                                         (
                                                          .bind (Go.Proofs.Ythgpgnijbajlgaa.pick (Go.IntKind.i64.wrap (vt0.k.tdiv 12)) 400) fun vn122 =>
                                                          .br (Go.Proofs.Ythgpgnijbajlgaa.scaleOk (Go.IntKind.i64.wrap (vn122 - 200)) 1)
                                                           (
                                                            .bind (Go.Proofs.Ythgpgnijbajlgaa.decOf (Go.IntKind.i64.wrap (vn122 - 200)) 1) fun vde123 =>
                                                            .br (Go.Proofs.Ythgpgnijbajlgaa.Ev.lenOk (r4 ++ [Go.Proofs.Ythgpgnijbajlgaa.Face.mk Bool.false vde114 vde2 vde4 (Go.Proofs.Ythgpgnijbajlgaa.Dec.mk 0 0) vde121 vde123 (ByteArray.mk #[97, 105, 114])]))
                                                             (
                                                              .ret (Sum.inl ((t3, Go.IntKind.i64.wrap (t10 + 1), ()), r0a, (), r1a, (), r2, r3, r4 ++ [Go.Proofs.Ythgpgnijbajlgaa.Face.mk Bool.false vde114 vde2 vde4 (Go.Proofs.Ythgpgnijbajlgaa.Dec.mk 0 0) vde121 vde123 (ByteArray.mk #[97, 105, 114])], r5, ())))
                                                             (
                                                              .fail))
                                                           (
                                                            .fail))
                                                         (
                                                          .fail))
                                                       (
                                                        .fail))
                                                     (
                                                      .fail))
                                                   (
                                                    .br (Go.Proofs.Ythgpgnijbajlgaa.Ev.lenOk (r4 ++ [Go.Proofs.Ythgpgnijbajlgaa.Face.mk Bool.false vde114 vde2 vde4 (Go.Proofs.Ythgpgnijbajlgaa.Dec.mk 0 0) (Go.Proofs.Ythgpgnijbajlgaa.Dec.mk 0 0) (Go.Proofs.Ythgpgnijbajlgaa.Dec.mk 0 0) (ByteArray.mk #[97, 105, 114])]))
                                                     (
                                                      .ret (Sum.inl ((t3, Go.IntKind.i64.wrap (t10 + 1), ()), r0a, (), r1a, (), r2, r3, r4 ++ [Go.Proofs.Ythgpgnijbajlgaa.Face.mk Bool.false vde114 vde2 vde4 (Go.Proofs.Ythgpgnijbajlgaa.Dec.mk 0 0) (Go.Proofs.Ythgpgnijbajlgaa.Dec.mk 0 0) (Go.Proofs.Ythgpgnijbajlgaa.Dec.mk 0 0) (ByteArray.mk #[97, 105, 114])], r5, ())))
                                                     (
                                                      .fail)))))
                                             (
                                              .fail))
                                           (
                                            .fail))
                                         (
                                          .fail))
                                       (
                                        .br (Go.Proofs.Ythgpgnijbajlgaa.pickOk vt0.k 6)
                                         (
                                          .bind (Go.Proofs.Ythgpgnijbajlgaa.pick vt0.k 6) fun vn124 =>
                                          .br (vn124 == 3)
                                           (
                                            .br (Go.Proofs.Ythgpgnijbajlgaa.pickOk (Go.IntKind.i64.wrap (vt0.k.tdiv 6)) 30)
                                             (
                                              .bind (Go.Proofs.Ythgpgnijbajlgaa.pick (Go.IntKind.i64.wrap (vt0.k.tdiv 6)) 30) fun vn125 =>
                                              .br (Go.Proofs.Ythgpgnijbajlgaa.scaleOk (Go.IntKind.i64.wrap (vn125 - 15)) 1)
                                               (
                                                .bind (Go.Proofs.Ythgpgnijbajlgaa.decOf (Go.IntKind.i64.wrap (vn125 - 15)) 1) fun vde126 =>
                                                .br (Go.Proofs.Ythgpgnijbajlgaa.Ev.lenOk (r4 ++ [Go.Proofs.Ythgpgnijbajlgaa.Face.mk Bool.false vde111 vde2 vde4 vde126 (Go.Proofs.Ythgpgnijbajlgaa.Dec.mk 0 0) (Go.Proofs.Ythgpgnijbajlgaa.Dec.mk 0 0) (ByteArray.mk #[97, 105, 114])]))
                                                 (
                                                  .ret (Sum.inl ((t3, Go.IntKind.i64.wrap (t10 + 1), ()), r0a, (), r1a, (), r2, r3, r4 ++ [Go.Proofs.Ythgpgnijbajlgaa.Face.mk Bool.false vde111 vde2 vde4 vde126 (Go.Proofs.Ythgpgnijbajlgaa.Dec.mk 0 0) (Go.Proofs.Ythgpgnijbajlgaa.Dec.mk 0 0) (ByteArray.mk #[97, 105, 114])], r5, ())))
                                                 (
                                                  .fail))
                                               (
                                                .fail))
                                             (
                                              .fail))
                                           (
                                            .br (vn124 == 4)
                                             (
                                              .br (Go.Proofs.Ythgpgnijbajlgaa.pickOk (Go.IntKind.i64.wrap (vt0.k.tdiv 6)) 400)
                                               (
                                                .bind (Go.Proofs.Ythgpgnijbajlgaa.pick (Go.IntKind.i64.wrap (vt0.k.tdiv 6)) 400) fun vn127 =>
                                                .br (Go.Proofs.Ythgpgnijbajlgaa.scaleOk (Go.IntKind.i64.wrap (vn127 - 200)) 2)
                                                 (
                                                  .bind (Go.Proofs.Ythgpgnijbajlgaa.decOf (Go.IntKind.i64.wrap (vn127 - 200)) 2) fun vde128 =>
                                                  .br (Go.Proofs.Ythgpgnijbajlgaa.Ev.lenOk (r4 ++ [Go.Proofs.Ythgpgnijbajlgaa.Face.mk Bool.false vde111 vde2 vde4 (Go.Proofs.Ythgpgnijbajlgaa.Dec.mk 0 0) vde128 (Go.Proofs.Ythgpgnijbajlgaa.Dec.mk 0 0) (ByteArray.mk #[97, 105, 114])]))
                                                   (
                                                    .ret (Sum.inl ((t3, Go.IntKind.i64.wrap (t10 + 1), ()), r0a, (), r1a, (), r2, r3, r4 ++ [Go.Proofs.Ythgpgnijbajlgaa.Face.mk Bool.false vde111 vde2 vde4 (Go.Proofs.Ythgpgnijbajlgaa.Dec.mk 0 0) vde128 (Go.Proofs.Ythgpgnijbajlgaa.Dec.mk 0 0) (ByteArray.mk #[97, 105, 114])], r5, ())))
                                                   (
                                                    .fail))
                                                 (
                                                  .fail))
                                               (
                                                .fail))
                                             (
                                              .br (vn124 == 5)
                                               (
                                                .br (Go.Proofs.Ythgpgnijbajlgaa.pickOk (Go.IntKind.i64.wrap (vt0.k.tdiv 6)) 400)
                                                 (
                                                  .bind (Go.Proofs.Ythgpgnijbajlgaa.pick (Go.IntKind.i64.wrap (vt0.k.tdiv 6)) 400) fun vn129 =>
                                                  .br (Go.Proofs.Ythgpgnijbajlgaa.scaleOk (Go.IntKind.i64.wrap (vn129 - 200)) 2)
                                                   (
                                                    .bind (Go.Proofs.Ythgpgnijbajlgaa.decOf (Go.IntKind.i64.wrap (vn129 - 200)) 2) fun vde130 =>
                                                    .br (Go.Proofs.Ythgpgnijbajlgaa.pickOk (Go.IntKind.i64.wrap (vt0.k.tdiv 12)) 400)
                                                     (
                                                      .bind (Go.Proofs.Ythgpgnijbajlgaa.pick (Go.IntKind.i64.wrap (vt0.k.tdiv 12)) 400) fun vn131 =>
                                                      .br (Go.Proofs.Ythgpgnijbajlgaa.scaleOk (Go.IntKind.i64.wrap (vn131 - 200)) 1)
                                                       (
                                                        .bind (Go.Proofs.Ythgpgnijbajlgaa.decOf (Go.IntKind.i64.wrap (vn131 - 200)) 1) fun vde132 =>
                                                        .br (Go.Proofs.Ythgpgnijbajlgaa.Ev.lenOk (r4 ++ [Go.Proofs.Ythgpgnijbajlgaa.Face.mk Bool.false vde111 vde2 vde4 (Go.Proofs.Ythgpgnijbajlgaa.Dec.mk 0 0) vde130 vde132 (ByteArray.mk #[97, 105, 114])]))
                                                         (
                                                          .ret (Sum.inl ((t3, Go.IntKind.i64.wrap (t10 + 1), ()), r0a, (), r1a, (), r2, r3, r4 ++ [Go.Proofs.Ythgpgnijbajlgaa.Face.mk Bool.false vde111 vde2 vde4 (Go.Proofs.Ythgpgnijbajlgaa.Dec.mk 0 0) vde130 vde132 (ByteArray.mk #[97, 105, 114])], r5, ())))
                                                         (
                                                          .fail))
                                                       (
                                                        .fail))
                                                     (
                                                      .fail))
                                                   (
                                                    .fail))
                                                 (
                                                  .fail))
                                               (
                                                .br (Go.Proofs.Ythgpgnijbajlgaa.Ev.lenOk (r4 ++ [Go.Proofs.Ythgpgnijbajlgaa.Face.mk Bool.false vde111 vde2 vde4 (Go.Proofs.Ythgpgnijbajlgaa.Dec.mk 0 0) (Go.Proofs.Ythgpgnijbajlgaa.Dec.mk 0 0) (Go.Proofs.Ythgpgnijbajlgaa.Dec.mk 0 0) (ByteArray.mk #[97, 105, 114])]))
                                                 (
                                                  .ret (Sum.inl ((t3, Go.IntKind.i64.wrap (t10 + 1), ()), r0a, (), r1a, (), r2, r3, r4 ++ [Go.Proofs.Ythgpgnijbajlgaa.Face.mk Bool.false vde111 vde2 vde4 (Go.Proofs.Ythgpgnijbajlgaa.Dec.mk 0 0) (Go.Proofs.Ythgpgnijbajlgaa.Dec.mk 0 0) (Go.Proofs.Ythgpgnijbajlgaa.Dec.mk 0 0) (ByteArray.mk #[97, 105, 114])], r5, ())))
                                                 (
                                                  .fail)))))
                                         (
                                          .fail)))
                                     (
                                      .fail))
                                   (
                                    .fail))
                                 (
                                  .fail))
                               (
                                .br (Go.Proofs.Ythgpgnijbajlgaa.pickOk vt0.k 6)
                                 (
                                  .bind (Go.Proofs.Ythgpgnijbajlgaa.pick vt0.k 6) fun vn133 =>
                                  .br (vn133 == 3)
                                   (
                                    .br (Go.Proofs.Ythgpgnijbajlgaa.pickOk (Go.IntKind.i64.wrap (vt0.k.tdiv 6)) 30)
                                     (
                                      .bind (Go.Proofs.Ythgpgnijbajlgaa.pick (Go.IntKind.i64.wrap (vt0.k.tdiv 6)) 30) fun vn134 =>
                                      .br (Go.Proofs.Ythgpgnijbajlgaa.scaleOk (Go.IntKind.i64.wrap (vn134 - 15)) 1)
                                       (
                                        .bind (Go.Proofs.Ythgpgnijbajlgaa.decOf (Go.IntKind.i64.wrap (vn134 - 15)) 1) fun vde135 =>
                                        .br (Go.Proofs.Ythgpgnijbajlgaa.Ev.lenOk (r4 ++ [Go.Proofs.Ythgpgnijbajlgaa.Face.mk Bool.false (Go.Proofs.Ythgpgnijbajlgaa.Dec.mk 0 0) vde2 vde4 vde135 (Go.Proofs.Ythgpgnijbajlgaa.Dec.mk 0 0) (Go.Proofs.Ythgpgnijbajlgaa.Dec.mk 0 0) (ByteArray.mk #[97, 105, 114])]))
                                         (
                                          .ret (Sum.inl ((t3, Go.IntKind.i64.wrap (t10 + 1), ()), r0a, (), r1a, (), r2, r3, r4 ++ [Go.Proofs.Ythgpgnijbajlgaa.Face.mk Bool.false (Go.Proofs.Ythgpgnijbajlgaa.Dec.mk 0 0) vde2 vde4 vde135 (Go.Proofs.Ythgpgnijbajlgaa.Dec.mk 0 0) (Go.Proofs.Ythgpgnijbajlgaa.Dec.mk 0 0) (ByteArray.mk #[97, 105, 114])], r5, ())))
                                         (
                                          .fail))
                                       (
                                        .fail))
                                     (
                                      .fail))
                                   (
                                    .br (vn133 == 4)
                                     (
                                      .br (Go.Proofs.Ythgpgnijbajlgaa.pickOk (Go.IntKind.i64.wrap (vt0.k.tdiv 6)) 400)
                                       (
                                        .bind (Go.Proofs.Ythgpgnijbajlgaa.pick (Go.IntKind.i64.wrap (vt0.k.tdiv 6)) 400) fun vn136 =>
                                        .br (Go.Proofs.Ythgpgnijbajlgaa.scaleOk (Go.IntKind.i64.wrap (vn136 - 200)) 2)
                                         (
                                          .bind (Go.Proofs.Ythgpgnijbajlgaa.decOf (Go.IntKind.i64.wrap (vn136 - 200)) 2) fun vde137 =>
                                          .br (Go.Proofs.Ythgpgnijbajlgaa.Ev.lenOk (r4 ++ [Go.Proofs.Ythgpgnijbajlgaa.Face.mk Bool.false (Go.Proofs.Ythgpgnijbajlgaa.Dec.mk 0 0) vde2 vde4 (Go.Proofs.Ythgpgnijbajlgaa.Dec.mk 0 0) vde137 (Go.Proofs.Ythgpgnijbajlgaa.Dec.mk 0 0) (ByteArray.mk #[97, 105, 114])]))
                                           (
                                            .ret (Sum.inl ((t3, Go.IntKind.i64.wrap (t10 + 1), ()), r0a, (), r1a, (), r2, r3, r4 ++ [Go.Proofs.Ythgpgnijbajlgaa.Face.mk Bool.false (Go.Proofs.Ythgpgnijbajlgaa.Dec.mk 0 0) vde2 vde4 (Go.Proofs.Ythgpgnijbajlgaa.Dec.mk 0 0) vde137 (Go.Proofs.Ythgpgnijbajlgaa.Dec.mk 0 0) (ByteArray.mk #[97, 105, 114])], r5, ())))
                                           (
                                            .fail))
                                         (
                                          .fail))
                                       (
                                        .fail))
                                     (
                                      .br (vn133 == 5)
                                       (
                                        .br (Go.Proofs.Ythgpgnijbajlgaa.pickOk (Go.IntKind.i64.wrap (vt0.k.tdiv 6)) 400)
                                         (
                                          .bind (Go.Proofs.Ythgpgnijbajlgaa.pick (Go.IntKind.i64.wrap (vt0.k.tdiv 6)) 400) fun vn138 =>
                                          .br (Go.Proofs.Ythgpgnijbajlgaa.scaleOk (Go.IntKind.i64.wrap (vn138 - 200)) 2)
                                           (
                                            .bind (Go.Proofs.Ythgpgnijbajlgaa.decOf (Go.IntKind.i64.wrap (vn138 - 200)) 2) fun vde139 =>
                                            .br (Go.Proofs.Ythgpgnijbajlgaa.pickOk (Go.IntKind.i64.wrap (vt0.k.tdiv 12)) 400)
                                             (
                                              .bind (Go.Proofs.Ythgpgnijbajlgaa.pick (Go.IntKind.i64.wrap (vt0.k.tdiv 12)) 400) fun vn140 =>
                                              .br (Go.Proofs.Ythgpgnijbajlgaa.scaleOk (Go.IntKind.i64.wrap (vn140 - 200)) 1)
                                               (
                                                .bind (Go.Proofs.Ythgpgnijbajlgaa.decOf (Go.IntKind.i64.wrap (vn140 - 200)) 1) fun vde141 =>
                                                .br (Go.Proofs.Ythgpgnijbajlgaa.Ev.lenOk (r4 ++ [Go.Proofs.Ythgpgnijbajlgaa.Face.mk Bool.false (Go.Proofs.Ythgpgnijbajlgaa.Dec.mk 0 0) vde2 vde4 (Go.Proofs.Ythgpgnijbajlgaa.Dec.mk 0 0) vde139 vde141 (ByteArray.mk #[97, 105, 114])]))
                                                 (
                                                  .ret (Sum.inl ((t3, Go.IntKind.i64.wrap (t10 + 1), ()), r0a, (), r1a, (), r2, r3, r4 ++ [Go.Proofs.Ythgpgnijbajlgaa.Face.mk Bool.false (Go.Proofs.Ythgpgnijbajlgaa.Dec.mk 0 0) vde2 vde4 (Go.Proofs.Ythgpgnijbajlgaa.Dec.mk 0 0) vde139 vde141 (ByteArray.mk #[97, 105, 114])], r5, ())))
                                                 (
                                                  .fail))
                                               (
                                                .fail))
                                             (
                                              .fail))
                                           (
                                            .fail))
                                         (
                                          .fail))
                                       (
                                        .br (Go.Proofs.Ythgpgnijbajlgaa.Ev.lenOk (r4 ++ [Go.Proofs.Ythgpgnijbajlgaa.Face.mk Bool.false (Go.Proofs.Ythgpgnijbajlgaa.Dec.mk 0 0) vde2 vde4 (Go.Proofs.Ythgpgnijbajlgaa.Dec.mk 0 0) (Go.Proofs.Ythgpgnijbajlgaa.Dec.mk 0 0) (Go.Proofs.Ythgpgnijbajlgaa.Dec.mk 0 0) (ByteArray.mk #[97, 105, 114])]))
                                         (
                                          .ret (Sum.inl ((t3, Go.IntKind.i64.wrap (t10 + 1), ()), r0a, (), r1a, (), r2, r3, r4 ++ [Go.Proofs.Ythgpgnijbajlgaa.Face.mk Bool.false (Go.Proofs.Ythgpgnijbajlgaa.Dec.mk 0 0) vde2 vde4 (Go.Proofs.Ythgpgnijbajlgaa.Dec.mk 0 0) (Go.Proofs.Ythgpgnijbajlgaa.Dec.mk 0 0) (Go.Proofs.Ythgpgnijbajlgaa.Dec.mk 0 0) (ByteArray.mk #[97, 105, 114])], r5, ())))
                                         (
                                          .fail)))))
                                 (
                                  .fail)))
                             (
                              .fail)))
                         (
                          .fail)))
                     (
                      .fail))
                   (
                    .fail))
                 (
                  .fail))
               (
                .fail))
             (
              .fail))
           (
            .fail))
         (
          .ret (Sum.inr ((), r0a, (), r1a, (), r4, r5, ()))))
       (
        .ret (Sum.inr ((), r0a, (), r1a, (), r4, r5, ()))) := by kernel_rfl
theorem ok_meniscushand_Lens_3 : LOK Try.prog (LoopR.of (sc 166 [3, 10, 9, 8, 1, 2] (tCod 3 cInt (tCod 10 cInt (tOwn 9 0 (tOwn 8 1 (tSl 1 2 (tSl 2 3 tNil)))))) (rBoxA 4 (ccTwo ccStr ccDec) (ccTwo_ok ccStr_ok ccDec_ok) ccNil ccNil_ok (rBoxA 5 (ccTwo ccStr ccDec) (ccTwo_ok ccStr_ok ccDec_ok) ccNil ccNil_ok (rL_rface (rL_glass (rG_face 146 (rL_face rNil))))))) (ocExit 0 (sc 166 [9, 8] (tOwn 9 0 (tOwn 8 1 tNil)) (rBoxA 2 (ccTwo ccStr ccDec) (ccTwo_ok ccStr_ok ccDec_ok) ccNil ccNil_ok (rBoxA 3 (ccTwo ccStr ccDec) (ccTwo_ok ccStr_ok ccDec_ok) ccNil ccNil_ok (rG_face 146 (rL_face rNil)))))) (runBy lensStep lensM)) (loopAt Try.f85 3) := by
  refine loop_ok (EnvOK.add s_meniscushand_Pick (EnvOK.add s_meniscushand_Dec (EnvOK.add s_meniscusref8_Digits_6 (EnvOK.add s_meniscushand_some EnvOK.nil)))) (LFn.at (fn := Try.f85) LFn.nil 3) lensStep (n := 200) (fun x z h => ?_) (runBy_ok _ _)
  obtain ⟨⟨t3, t10, ⟨⟩⟩, ⟨r0a, r0b, r1a, r1b, r2, r3, r4, r5, ⟨⟩⟩⟩ := x
  rw [tl_meniscushand_Lens_3]
  by_cases h0 : t10 < (r2.length : Int) ∧ (r4.length : Int) < t3
  case neg =>
    rw [← h]
    simp only [lensStep, h0, if_false, den_br]
    by_cases c : t10 < (r2.length : Int)
    case neg => simp only [c, decide_false, Bool.false_eq_true, if_false, den_ret]
    by_cases d : (r4.length : Int) < t3
    case pos => exact absurd ⟨c, d⟩ h0
    simp only [c, d, decide_true, decide_false, Bool.false_eq_true, if_true, if_false, den_ret, den_br]
  by_cases h1 : 0 ≤ t10
  case neg => simp [lensStep, h0, h1] at h
  obtain ⟨f, hg⟩ : ∃ f, r2[t10.toNat]? = some f := ⟨_, List.getElem?_eq_getElem (by omega)⟩
  by_cases hgl : glassesOk r3 = true
  case neg => exact absurd h (by simp only [lensStep, if_pos h0, if_pos (And.intro h1 h0.1), hg, if_neg hgl]; intro e; cases e)
  have hgn := hgl
  simp only [glassesOk, Bool.and_eq_true, decide_eq_true_eq] at hgn
  rw [← h]
  have sc : ∀ c : Int, scaleOk c 0 = true ∧ scaleOk c 1 = true ∧ scaleOk c 2 = true ∧ scaleOk c 3 = true ∧ scaleOk c 4 = true ∧ scaleOk c 5 = true := fun _ => by simp [scaleOk]
  have sc0 := fun c => (sc c).1
  have sc1 := fun c => (sc c).2.1
  have sc2 := fun c => (sc c).2.2.1
  have sc3 := fun c => (sc c).2.2.2.1
  have sc4 := fun c => (sc c).2.2.2.2.1
  have sc5 := fun c => (sc c).2.2.2.2.2
  have pk70 : ∀ n : Int, pickOk n 70 = true := fun _ => by simp [pickOk]
  have pk80 : ∀ n : Int, pickOk n 80 = true := fun _ => by simp [pickOk]
  have pk6 : ∀ n : Int, pickOk n 6 = true := fun _ => by simp [pickOk]
  have pk7 : ∀ n : Int, pickOk n 7 = true := fun _ => by simp [pickOk]
  have pk900 : ∀ n : Int, pickOk n 900 = true := fun _ => by simp [pickOk]
  have pk2 : ∀ n : Int, pickOk n 2 = true := fun _ => by simp [pickOk]
  have pk30 : ∀ n : Int, pickOk n 30 = true := fun _ => by simp [pickOk]
  have pk400 : ∀ n : Int, pickOk n 400 = true := fun _ => by simp [pickOk]
  have wl : IntKind.i64.wrap ((r3.length : Int) + 2) = (r3.length : Int) + 2 := wr (by omega)
  have pkl : ∀ n : Int, pickOk n ((r3.length : Int) + 2) = true := fun _ => by simp [pickOk]; omega
  have bl := pick_bd f.g (m := (r3.length : Int) + 2) (by omega)
  have wa : ∀ n : Int, IntKind.i64.wrap (30 + pick n 70) = 30 + pick n 70 := fun n => wr (by have := pick_bd n (m := 70) (by decide); omega)
  have wb : ∀ n : Int, IntKind.i64.wrap (150 + pick n 900) = 150 + pick n 900 := fun n => wr (by have := pick_bd n (m := 900) (by decide); omega)
  have wc : ∀ n : Int, IntKind.i64.wrap (-150 - pick n 900) = -150 - pick n 900 := fun n => wr (by have := pick_bd n (m := 900) (by decide); omega)
  have wd' : ∀ n : Int, IntKind.i64.wrap (pick n 30 - 15) = pick n 30 - 15 := fun n => wr (by have := pick_bd n (m := 30) (by decide); omega)
  have we : ∀ n : Int, IntKind.i64.wrap (pick n 400 - 200) = pick n 400 - 200 := fun n => wr (by have := pick_bd n (m := 400) (by decide); omega)
  simp only [lensStep, h0, h1, hg, hgl, and_self, if_true]
  simp only [den_br, den_bind, den_ret, den_get, den_fail, h0.1, h0.2, h1, hg, and_self, true_and, decide_true, if_true, dv_eq, sc1, sc2, pk70, pk80, pk6, pk7, pk900, pk2, pk30, pk400, pkl, wl, wa, wb, wc, wd', we, gt_iff_lt, decide_eq_true_eq, beq_iff_eq]
  by_cases c5 : pick f.kind 6 = 5 ∧ 0 < t10
  · simp only [c5.1, c5.2, if_true, faceOf, and_self]
  have hface : faceOf f t10 r3 = ⟨false, radiusOf f.r, decOf (30 + pick f.a 70) 1, decOf (pick f.t 80) 1, conicOf f.k, a4Of f.k, a6Of f.k, glassName r3 (pick f.g ((r3.length : Int) + 2))⟩ := by rw [faceOf, if_neg c5]
  rw [hface]
  have key : ∀ {A B : Option (LensX ⊕ (Unit × ((Str × Dec) × Unit × (Str × Dec) × Unit × List Face × List Face × Unit)))}, (if pick f.kind 6 = 5 then (if 0 < t10 then A else B) else B) = B := by
    intro A B
    by_cases c : pick f.kind 6 = 5
    · rw [if_pos c, if_neg (fun d => c5 ⟨c, d⟩)]
    · rw [if_neg c]
  rw [key]
  have q3 : ∀ {k : Int}, pick f.k 6 = k → (k = 3 → conicOf f.k = decOf (pick (dv f.k 6) 30 - 15) 1) ∧ (k ≠ 3 → conicOf f.k = ⟨0, 0⟩) ∧ ((k = 4 ∨ k = 5) → a4Of f.k = decOf (pick (dv f.k 6) 400 - 200) 2) ∧ (¬ (k = 4 ∨ k = 5) → a4Of f.k = ⟨0, 0⟩) ∧ (k = 5 → a6Of f.k = decOf (pick (dv f.k 12) 400 - 200) 1) ∧ (k ≠ 5 → a6Of f.k = ⟨0, 0⟩) := by
    rintro k rfl
    exact ⟨fun e => if_pos e, fun e => if_neg e, fun e => if_pos e, fun e => if_neg e, fun e => if_pos e, fun e => if_neg e⟩
  have done : ∀ (R : Dec) (S : Str), (if pick f.k 6 = 3 then (if lenOk (r4 ++ [⟨false, R, decOf (30 + pick f.a 70) 1, decOf (pick f.t 80) 1, decOf (pick (dv f.k 6) 30 - 15) 1, ⟨0, 0⟩, ⟨0, 0⟩, S⟩]) = true then some (Sum.inl ((t3, IntKind.i64.wrap (t10 + 1), ()), r0a, (), r1a, (), r2, r3, r4 ++ [(⟨false, R, decOf (30 + pick f.a 70) 1, decOf (pick f.t 80) 1, decOf (pick (dv f.k 6) 30 - 15) 1, ⟨0, 0⟩, ⟨0, 0⟩, S⟩ : Face)], r5, ())) else none)
      else if pick f.k 6 = 4 then (if lenOk (r4 ++ [⟨false, R, decOf (30 + pick f.a 70) 1, decOf (pick f.t 80) 1, ⟨0, 0⟩, decOf (pick (dv f.k 6) 400 - 200) 2, ⟨0, 0⟩, S⟩]) = true then some (Sum.inl ((t3, IntKind.i64.wrap (t10 + 1), ()), r0a, (), r1a, (), r2, r3, r4 ++ [(⟨false, R, decOf (30 + pick f.a 70) 1, decOf (pick f.t 80) 1, ⟨0, 0⟩, decOf (pick (dv f.k 6) 400 - 200) 2, ⟨0, 0⟩, S⟩ : Face)], r5, ())) else none)
      else if pick f.k 6 = 5 then (if lenOk (r4 ++ [⟨false, R, decOf (30 + pick f.a 70) 1, decOf (pick f.t 80) 1, ⟨0, 0⟩, decOf (pick (dv f.k 6) 400 - 200) 2, decOf (pick (dv f.k 12) 400 - 200) 1, S⟩]) = true then some (Sum.inl ((t3, IntKind.i64.wrap (t10 + 1), ()), r0a, (), r1a, (), r2, r3, r4 ++ [(⟨false, R, decOf (30 + pick f.a 70) 1, decOf (pick f.t 80) 1, ⟨0, 0⟩, decOf (pick (dv f.k 6) 400 - 200) 2, decOf (pick (dv f.k 12) 400 - 200) 1, S⟩ : Face)], r5, ())) else none)
      else (if lenOk (r4 ++ [⟨false, R, decOf (30 + pick f.a 70) 1, decOf (pick f.t 80) 1, ⟨0, 0⟩, ⟨0, 0⟩, ⟨0, 0⟩, S⟩]) = true then some (Sum.inl ((t3, IntKind.i64.wrap (t10 + 1), ()), r0a, (), r1a, (), r2, r3, r4 ++ [(⟨false, R, decOf (30 + pick f.a 70) 1, decOf (pick f.t 80) 1, ⟨0, 0⟩, ⟨0, 0⟩, ⟨0, 0⟩, S⟩ : Face)], r5, ())) else none)) =
      (if lenOk (r4 ++ [⟨false, R, decOf (30 + pick f.a 70) 1, decOf (pick f.t 80) 1, conicOf f.k, a4Of f.k, a6Of f.k, S⟩]) = true then some (Sum.inl ((t3, IntKind.i64.wrap (t10 + 1), ()), r0a, (), r1a, (), r2, r3, r4 ++ [(⟨false, R, decOf (30 + pick f.a 70) 1, decOf (pick f.t 80) 1, conicOf f.k, a4Of f.k, a6Of f.k, S⟩ : Face)], r5, ())) else (none : Option (LensX ⊕ (Unit × ((Str × Dec) × Unit × (Str × Dec) × Unit × List Face × List Face × Unit))))) := by
    intro R S
    obtain ⟨k, hk⟩ : ∃ k, pick f.k 6 = k := ⟨_, rfl⟩
    obtain ⟨e1, e2, e3, e4, e5, e6⟩ := q3 hk
    rw [hk]
    by_cases k3 : k = 3
    · subst k3; rw [e1 rfl, e4 (by decide), e6 (by decide)]; rfl
    by_cases k4 : k = 4
    · subst k4; rw [e2 (by decide), e3 (by decide), e6 (by decide)]; rfl
    by_cases k5 : k = 5
    · subst k5; rw [e2 (by decide), e3 (by decide), e5 rfl]; rfl
    · rw [if_neg k3, if_neg k4, if_neg k5, e2 k3, e4 (by omega), e6 k5]
  have rad : ∀ {A B C : Option (LensX ⊕ (Unit × ((Str × Dec) × Unit × (Str × Dec) × Unit × List Face × List Face × Unit)))} {G : Dec → Option (LensX ⊕ (Unit × ((Str × Dec) × Unit × (Str × Dec) × Unit × List Face × List Face × Unit)))},
      A = G (decOf (-150 - pick f.r 900) 1) → B = G (decOf (150 + pick f.r 900) 1) → C = G ⟨0, 0⟩ → (if 0 < pick f.r 7 then (if pick (dv f.r 7) 2 = 0 then A else B) else C) = G (radiusOf f.r) := by
    intro A B C G hA hB hC
    unfold radiusOf
    by_cases c1 : 0 < pick f.r 7
    · by_cases c2 : pick (dv f.r 7) 2 = 0
      · simp only [c1, c2, if_true, hA]
      · simp only [c1, c2, if_true, if_false, hB]
    · simp only [c1, if_false, hC]
  by_cases cg : pick f.g ((r3.length : Int) + 2) < (r3.length : Int)
  · obtain ⟨gx, hgx⟩ : ∃ gx, r3[(pick f.g ((r3.length : Int) + 2)).toNat]? = some gx := ⟨_, List.getElem?_eq_getElem (by omega)⟩
    have hn : glassName r3 (pick f.g ((r3.length : Int) + 2)) = gx.name := by rw [glassName, if_pos cg, hgx]; rfl
    simp only [cg, bl.1, hgx, and_self, hn, den_br, den_bind, den_ret, den_get, den_fail, decide_true, if_true, dv_eq, sc1, sc2, pk70, pk80, pk6, pk7, pk900, pk2, pk30, pk400, pkl, wl, wa, wb, wc, wd', we, gt_iff_lt, decide_eq_true_eq, beq_iff_eq]
    simp only [done]
    exact rad (G := fun R => if lenOk (r4 ++ [⟨false, R, decOf (30 + pick f.a 70) 1, decOf (pick f.t 80) 1, conicOf f.k, a4Of f.k, a6Of f.k, gx.name⟩]) = true then some (Sum.inl ((t3, IntKind.i64.wrap (t10 + 1), ()), r0a, (), r1a, (), r2, r3, r4 ++ [(⟨false, R, decOf (30 + pick f.a 70) 1, decOf (pick f.t 80) 1, conicOf f.k, a4Of f.k, a6Of f.k, gx.name⟩ : Face)], r5, ())) else none) rfl rfl rfl
  · have hn : glassName r3 (pick f.g ((r3.length : Int) + 2)) = sAir := by rw [glassName, if_neg cg]
    simp only [cg, if_false, hn, done]
    rw [show (⟨#[97, 105, 114]⟩ : ByteArray) = sAir from rfl]
    exact rad (G := fun R => if lenOk (r4 ++ [⟨false, R, decOf (30 + pick f.a 70) 1, decOf (pick f.t 80) 1, conicOf f.k, a4Of f.k, a6Of f.k, sAir⟩]) = true then some (Sum.inl ((t3, IntKind.i64.wrap (t10 + 1), ()), r0a, (), r1a, (), r2, r3, r4 ++ [(⟨false, R, decOf (30 + pick f.a 70) 1, decOf (pick f.t 80) 1, conicOf f.k, a4Of f.k, a6Of f.k, sAir⟩ : Face)], r5, ())) else none) rfl rfl rfl
theorem t_meniscushand_Lens (t0 : Int) (t3 : Int) (r0 : List RawFace) (r1 : List Glass) :
    evFnR Try.prog (Env.add 22 (F2p cInt cInt cInt pickOk pick) (Env.add 120 (F2p cInt cInt cDec scaleOk decOf) (Env.add 121 (F1p cInt cStr ((digOk 6)) ((dig 6))) (Env.add 122 (FS (sc 1 [0] (tSl 0 0 tNil) (rL_face rNil)) cBool ((fun x => lenOk x.2.1)) ((fun x => someFace x.2.1))) Env.nil)))) (Laws.add 3 (LoopR.of (sc 166 [3, 10, 9, 8, 1, 2] (tCod 3 cInt (tCod 10 cInt (tOwn 9 0 (tOwn 8 1 (tSl 1 2 (tSl 2 3 tNil)))))) (rBoxA 4 (ccTwo ccStr ccDec) (ccTwo_ok ccStr_ok ccDec_ok) ccNil ccNil_ok (rBoxA 5 (ccTwo ccStr ccDec) (ccTwo_ok ccStr_ok ccDec_ok) ccNil ccNil_ok (rL_rface (rL_glass (rG_face 146 (rL_face rNil))))))) (ocExit 0 (sc 166 [9, 8] (tOwn 9 0 (tOwn 8 1 tNil)) (rBoxA 2 (ccTwo ccStr ccDec) (ccTwo_ok ccStr_ok ccDec_ok) ccNil ccNil_ok (rBoxA 3 (ccTwo ccStr ccDec) (ccTwo_ok ccStr_ok ccDec_ok) ccNil ccNil_ok (rG_face 146 (rL_face rNil)))))) (runBy lensStep lensM)) Laws.nil) 200 Try.f85 (((sc 4 [0, 1, 2, 3] (tCod 0 cInt (tSl 1 0 (tSl 2 1 (tCod 3 cInt tNil)))) (rL_rface (rL_glass rNil))).enc ((t0, t3, ()), (r0, r1, ()))).tmps.map Prod.snd) ((sc 4 [0, 1, 2, 3] (tCod 0 cInt (tSl 1 0 (tSl 2 1 (tCod 3 cInt tNil)))) (rL_rface (rL_glass rNil))).enc ((t0, t3, ()), (r0, r1, ()))).mem (sc 1 [0] (tAgg 0 0 (ccTwo ccStr ccDec) (ccTwo_ok ccStr_ok ccDec_ok) ccNil ccNil_ok tNil) (rG_face 146 rNil)).ts (sc 1 [0] (tAgg 0 0 (ccTwo ccStr ccDec) (ccTwo_ok ccStr_ok ccDec_ok) ccNil ccNil_ok tNil) (rG_face 146 rNil)).dec =
      .br (Go.Proofs.Ythgpgnijbajlgaa.pickOk t0 100)
       (
        .bind (Go.Proofs.Ythgpgnijbajlgaa.pick t0 100) fun vn0 =>
        .br (Go.Proofs.Ythgpgnijbajlgaa.digOk 6 vn0)
         (
          .bind (Go.Proofs.Ythgpgnijbajlgaa.dig 6 vn0) fun vby1 =>
          .br (Go.Proofs.Ythgpgnijbajlgaa.Ev.strOk (ByteArray.mk #[120]) vby1)
           (
            .br (Go.Proofs.Ythgpgnijbajlgaa.pickOk t0 600)
             (
              .bind (Go.Proofs.Ythgpgnijbajlgaa.pick t0 600) fun vn2 =>
              .br (Go.Proofs.Ythgpgnijbajlgaa.scaleOk (Go.IntKind.i64.wrap (200 + vn2)) 1)
               (
                .bind (Go.Proofs.Ythgpgnijbajlgaa.decOf (Go.IntKind.i64.wrap (200 + vn2)) 1) fun vde3 =>
                .get (Go.Proofs.Ythgpgnijbajlgaa.runBy Go.Proofs.Ythgpgnijbajlgaa.lensStep Go.Proofs.Ythgpgnijbajlgaa.lensM ((t3, 0, ()), (ByteArray.mk #[120] ++ vby1, vde3), (), (ByteArray.mk #[], Go.Proofs.Ythgpgnijbajlgaa.Dec.mk 0 0), (), r0, r1, [], [], ())) fun vy4 =>
                .br ((@Nat.cast Int _ vy4.snd.snd.snd.snd.snd.fst.length) == 0)
                 (
                  .br (Go.Proofs.Ythgpgnijbajlgaa.scaleOk 40 0)
                   (
                    .bind (Go.Proofs.Ythgpgnijbajlgaa.decOf 40 0) fun vde5 =>
                    .br (Go.Proofs.Ythgpgnijbajlgaa.scaleOk 8 0)
                     (
                      .bind (Go.Proofs.Ythgpgnijbajlgaa.decOf 8 0) fun vde6 =>
                      .br (Go.Proofs.Ythgpgnijbajlgaa.scaleOk 3 0)
                       (
                        .bind (Go.Proofs.Ythgpgnijbajlgaa.decOf 3 0) fun vde7 =>
                        .br (Go.Proofs.Ythgpgnijbajlgaa.Ev.lenOk (vy4.snd.snd.snd.snd.snd.fst ++ [Go.Proofs.Ythgpgnijbajlgaa.Face.mk Bool.false vde5 vde6 vde7 (Go.Proofs.Ythgpgnijbajlgaa.Dec.mk 0 0) (Go.Proofs.Ythgpgnijbajlgaa.Dec.mk 0 0) (Go.Proofs.Ythgpgnijbajlgaa.Dec.mk 0 0) (ByteArray.mk #[99, 114, 111, 119, 110])]))
                         (
                          .ret (((vy4.snd.fst, (), ()), vy4.snd.snd.snd.snd.snd.fst ++ [Go.Proofs.Ythgpgnijbajlgaa.Face.mk Bool.false vde5 vde6 vde7 (Go.Proofs.Ythgpgnijbajlgaa.Dec.mk 0 0) (Go.Proofs.Ythgpgnijbajlgaa.Dec.mk 0 0) (Go.Proofs.Ythgpgnijbajlgaa.Dec.mk 0 0) (ByteArray.mk #[99, 114, 111, 119, 110])], ())))
                         (
                          .fail))
                       (
                        .fail))
                     (
                      .fail))
                   (
                    .fail))
                 (
                  .br (Go.Proofs.Ythgpgnijbajlgaa.Ev.lenOk vy4.snd.snd.snd.snd.snd.fst)
                   (
                    .bind (Go.Proofs.Ythgpgnijbajlgaa.someFace vy4.snd.snd.snd.snd.snd.fst) fun vb8 =>
                    .br (!vb8)
                     (
                      .br (Go.Proofs.Ythgpgnijbajlgaa.scaleOk 40 0)
                       (
                        .bind (Go.Proofs.Ythgpgnijbajlgaa.decOf 40 0) fun vde9 =>
                        .br (Go.Proofs.Ythgpgnijbajlgaa.scaleOk 8 0)
                         (
                          .bind (Go.Proofs.Ythgpgnijbajlgaa.decOf 8 0) fun vde10 =>
                          .br (Go.Proofs.Ythgpgnijbajlgaa.scaleOk 3 0)
                           (
                            .bind (Go.Proofs.Ythgpgnijbajlgaa.decOf 3 0) fun vde11 =>
                            .br (Go.Proofs.Ythgpgnijbajlgaa.Ev.lenOk (vy4.snd.snd.snd.snd.snd.fst ++ [Go.Proofs.Ythgpgnijbajlgaa.Face.mk Bool.false vde9 vde10 vde11 (Go.Proofs.Ythgpgnijbajlgaa.Dec.mk 0 0) (Go.Proofs.Ythgpgnijbajlgaa.Dec.mk 0 0) (Go.Proofs.Ythgpgnijbajlgaa.Dec.mk 0 0) (ByteArray.mk #[99, 114, 111, 119, 110])]))
                             (
                              .ret (((vy4.snd.fst, (), ()), vy4.snd.snd.snd.snd.snd.fst ++ [Go.Proofs.Ythgpgnijbajlgaa.Face.mk Bool.false vde9 vde10 vde11 (Go.Proofs.Ythgpgnijbajlgaa.Dec.mk 0 0) (Go.Proofs.Ythgpgnijbajlgaa.Dec.mk 0 0) (Go.Proofs.Ythgpgnijbajlgaa.Dec.mk 0 0) (ByteArray.mk #[99, 114, 111, 119, 110])], ())))
                             (
                              .fail))
                           (
                            .fail))
                         (
                          .fail))
                       (
                        .fail))
                     (
                      .ret (((vy4.snd.fst, (), ()), vy4.snd.snd.snd.snd.snd.fst, ()))))
                   (
                    .fail)))
               (
                .fail))
             (
              .fail))
           (
            .fail))
         (
          .fail))
       (
        .fail) := by kernel_rfl
theorem c_meniscushand_Lens : PlainR Try.prog 85 (sc 4 [0, 1, 2, 3] (tCod 0 cInt (tSl 1 0 (tSl 2 1 (tCod 3 cInt tNil)))) (rL_rface (rL_glass rNil))) (sc 1 [0] (tAgg 0 0 (ccTwo ccStr ccDec) (ccTwo_ok ccStr_ok ccDec_ok) ccNil ccNil_ok tNil) (rG_face 146 rNil)) ((fun x => lensPre x.1.2.1 x.2.2.1)) ((fun x => (fun r : LensV => ((r.1, (), ()), (r.2, ()))) (lensOf x.1.1 x.2.1 x.2.2.1 x.1.2.1))) := by
  intro x h N w vs hM hv
  obtain ⟨⟨t0, t3, ⟨⟩⟩, ⟨r0, r1, ⟨⟩⟩⟩ := x
  refine calls_of_treeR (n := 200) (EnvOK.add s_meniscushand_Pick (EnvOK.add s_meniscushand_Dec (EnvOK.add s_meniscusref8_Digits_6 (EnvOK.add s_meniscushand_some EnvOK.nil)))) Try.func85 hv (Nat.le_of_ble_eq_true (by kernel_rfl)) (LFn.add (fn := Try.f85) (i := 3) (by kernel_rfl) ok_meniscushand_Lens_3 LFn.nil) hM (sc 1 [0] (tAgg 0 0 (ccTwo ccStr ccDec) (ccTwo_ok ccStr_ok ccDec_ok) ccNil ccNil_ok tNil) (rG_face 146 rNil)) rfl ?_
  rw [t_meniscushand_Lens]
  have hp := lensRaw_ok (back := t0) (l := r0) h
  simp only [lensPre, Bool.and_eq_true, decide_eq_true_eq] at h
  obtain ⟨y, hy, y1, y2, y3⟩ := lens_total t3 (lensHead t0) (sEmpty, ⟨0, 0⟩) r0 r1 [] h.1 h.2
  have hraw : lensRaw t0 r0 r1 t3 = y.2.2.2.2.2.1 := by simp only [lensRaw, hy]
  have sc : ∀ c : Int, scaleOk c 0 = true ∧ scaleOk c 1 = true ∧ scaleOk c 2 = true ∧ scaleOk c 3 = true ∧ scaleOk c 4 = true ∧ scaleOk c 5 = true := fun _ => by simp [scaleOk]
  have sc0 := fun c => (sc c).1
  have sc1 := fun c => (sc c).2.1
  have sc2 := fun c => (sc c).2.2.1
  have sc3 := fun c => (sc c).2.2.2.1
  have sc4 := fun c => (sc c).2.2.2.2.1
  have sc5 := fun c => (sc c).2.2.2.2.2
  have pk100 : ∀ n : Int, pickOk n 100 = true := fun _ => by simp [pickOk]
  have pk600 : ∀ n : Int, pickOk n 600 = true := fun _ => by simp [pickOk]
  have b1 := pick_bd t0 (m := 100) (by decide)
  have b2 := pick_bd t0 (m := 600) (by decide)
  have d6 := digOk6 b1.1 (by omega : pick t0 100 < 10000000)
  have z6 := dig_size 6 (pick t0 100)
  have so := strOk_of (a := sX) (b := dig 6 (pick t0 100)) (by decide) (by omega)
  have w1 : IntKind.i64.wrap (200 + pick t0 600) = 200 + pick t0 600 := wr (by omega)
  have l1 : lenOk (y.2.2.2.2.2.1) = true := lenOk_iff.2 (by omega)
  have l2 : lenOk (y.2.2.2.2.2.1 ++ [crownFace]) = true := lenOk_iff.2 (by simp; omega)
  rw [show (⟨#[120]⟩ : ByteArray) = sX from rfl, show (⟨#[]⟩ : ByteArray) = sEmpty from rfl]
  simp only [den_br, den_bind, den_ret, den_fail, den_inl, den_inr, decide_eq_true_eq, gt_iff_lt, ge_iff_le, beq_iff_eq]
  simp only [sc0, sc1, pk100, pk600, d6, so, w1, if_true]
  rw [show (sX ++ dig 6 (pick t0 100), decOf (200 + pick t0 600) 1) = lensHead t0 from rfl, hy]
  simp only [den_get, den_br, den_bind, den_ret, den_fail, sc0, if_true, beq_iff_eq]
  rw [show (⟨false, decOf 40 0, decOf 8 0, decOf 3 0, ⟨0, 0⟩, ⟨0, 0⟩, ⟨0, 0⟩, ⟨#[99, 114, 111, 119, 110]⟩⟩ : Face) = crownFace from rfl]
  simp only [l1, l2, if_true, lensOf, hraw, y1]
  by_cases c : y.2.2.2.2.2.1.length = 0
  · have c' : (y.2.2.2.2.2.1.length : Int) = 0 := by omega
    rw [if_pos c', if_pos c]
  · have c' : ¬ (y.2.2.2.2.2.1.length : Int) = 0 := by omega
    rw [if_neg c', if_neg c]
    cases someFace y.2.2.2.2.2.1 <;> simp
theorem s_meniscushand_Lens : Ev.Spec Try.prog 85 (FR (sc 4 [0, 1, 2, 3] (tCod 0 cInt (tSl 1 0 (tSl 2 1 (tCod 3 cInt tNil)))) (rL_rface (rL_glass rNil))) (sc 1 [0] (tAgg 0 0 (ccTwo ccStr ccDec) (ccTwo_ok ccStr_ok ccDec_ok) ccNil ccNil_ok tNil) (rG_face 146 rNil)) ((fun x => lensPre x.1.2.1 x.2.2.1)) ((fun x => (fun r : LensV => ((r.1, (), ()), (r.2, ()))) (lensOf x.1.1 x.2.1 x.2.2.1 x.1.2.1)))) := specR rfl (fun _ => rfl) (fun vs w => Try.call85 vs w) c_meniscushand_Lens
end Go.Proofs.Ythgpgnijbajlgaa
