/-
  Contracts of calls, written by a small program of this session out of the evaluator's trees.
-/
import Derived.Test.YthgpgnijbajlgaaCore
import Derived.Test.YthgpgnijbajlgaaCoreLoops
import Derived.Test.YthgpgnijbajlgaaCore2
import Derived.Test.YthgpgnijbajlgaaCore3
import Derived.Test.YthgpgnijbajlgaaCore4
import Derived.Test.YthgpgnijbajlgaaCore5
import Derived.Test.YthgpgnijbajlgaaCore6
import Derived.Test.YthgpgnijbajlgaaCore7
import Derived.Test.YthgpgnijbajlgaaCore8
import Derived.Test.YthgpgnijbajlgaaCore9
import Derived.Test.YthgpgnijbajlgaaEvMore
import Derived.Test.YthgpgnijbajlgaaFloCod
import Derived.Test.YthgpgnijbajlgaaMat
import Derived.Test.YthgpgnijbajlgaaP0
import Derived.Test.YthgpgnijbajlgaaG0
import Derived.Test.YthgpgnijbajlgaaMatB
import Derived.Test.YthgpgnijbajlgaaJ0
import Derived.Test.YthgpgnijbajlgaaEvCod
import Derived.Test.YthgpgnijbajlgaaEvRet
import Derived.Test.YthgpgnijbajlgaaProg
namespace Go.Proofs.Ythgpgnijbajlgaa
open Go Go.RowKit Ev
set_option maxRecDepth 100000
set_option linter.unusedVariables false
set_option linter.unusedSimpArgs false

/-! meniscuslaw20.ParaxTells -/
theorem tl_meniscuslaw20_ParaxTells_6 (t13 : Int) (r0 : List Int) (r1 : List Quad) (r2 : Iv) (r3 : Card) (r4 : Card) (r5 : List Surf) :
    ev Try.prog (Env.add 22 (F2p cInt cInt cInt pickOk pick) (Env.add 36 (FR (sc 5 [0, 1, 2, 3, 4] (tCod 0 cInt (tSl 1 0 (tSl 2 1 (tCod 3 cInt (tCod 4 cBool tNil))))) (rL_rface (rL_int rNil))) (sc 1 [0] (tAgg 0 0 ccNil ccNil_ok ccIv ccIv_ok tNil) (rG_surf 68 rNil)) ((fun x => mostOk x.1.2.1)) ((fun x => (fun r : SysV => (((), r.1, ()), (r.2, ()))) (systemOf x.1.1 x.2.1 x.2.2.1 x.1.2.1 x.1.2.2.1)))) (Env.add 41 (FS (sc 1 [0] (tAgg 0 0 ccNil ccNil_ok ccIv ccIv_ok tNil) (rL_surf rNil)) cCard ((fun x => lenOk x.2.1)) ((fun x => paraxOf x.1.2.1 x.2.1))) (Env.add 42 (F0 cBool true) (Env.add 47 (FS (sc 1 [0] (tSl 0 0 tNil) (rL_quad rNil)) (cTwo cQuad cBool) ((fun x => lenOk x.2.1)) ((fun x => matOf x.2.1))) (Env.add 48 (FS (sc 1 [0] (tAgg 0 0 ccNil ccNil_ok ccIv ccIv_ok tNil) (rL_surf rNil)) cCard ((fun x => lenOk x.2.1)) ((fun x => paraxOf x.1.2.1 x.2.1))) (Env.add 49 (FS (sc 1 [0] (tSl 0 0 tNil) (rL_quad rNil)) (cTwo cQuad cBool) ((fun x => lenOk x.2.1)) ((fun x => matOf x.2.1))) Env.nil))))))) Laws.nil 200 none (loopAt Try.f10 6) ((sc 122 [13, 3, 12, 9, 10, 11] (tCod 13 cInt (tSl 3 0 (tSl 12 1 (tOwn 9 2 (tOwn 10 3 (tOwn 11 4 tNil)))))) (rL_int (rG_quad 39 (rBoxSl 5 ccIv ccIv_ok (rBox ccCard ccCard_ok (rBox ccCard ccCard_ok (rG_surf 68 rNil))))))).enc ((t13, ()), (r0, r1, r2, r3, r4, r5, ()))) (backK (sc 122 [13, 3, 12, 9, 10, 11] (tCod 13 cInt (tSl 3 0 (tSl 12 1 (tOwn 9 2 (tOwn 10 3 (tOwn 11 4 tNil)))))) (rL_int (rG_quad 39 (rBoxSl 5 ccIv ccIv_ok (rBox ccCard ccCard_ok (rBox ccCard ccCard_ok (rG_surf 68 rNil))))))) (ocExit 0 (sc 122 [12, 10, 11] (tSl 12 0 (tOwn 10 1 (tOwn 11 2 tNil))) (rG_quad 39 (rBox ccCard ccCard_ok (rBox ccCard ccCard_ok rNil)))))) =
      .br (Decidable.decide (Go.IntKind.i64.wrap (t13 + 3) < (@Nat.cast Int _ r0.length)))
       (
        .br (Decidable.decide (t13 < 24))
         (
          .br (Decidable.decide (0 ≤ Go.IntKind.i64.wrap (t13 + 0) ∧ Go.IntKind.i64.wrap (t13 + 0) < (@Nat.cast Int _ r0.length)))
           (
            .get (r0[(Go.IntKind.i64.wrap (t13 + 0)).toNat]?) fun vt0 =>
            .br (Go.Proofs.Ythgpgnijbajlgaa.pickOk vt0 13)
             (
              .bind (Go.Proofs.Ythgpgnijbajlgaa.pick vt0 13) fun vn1 =>
              .br (Decidable.decide (0 ≤ Go.IntKind.i64.wrap (t13 + 0) ∧ Go.IntKind.i64.wrap (t13 + 0) < (@Nat.cast Int _ r0.length)))
               (
                .get (r0[(Go.IntKind.i64.wrap (t13 + 0)).toNat]?) fun vt2 =>
                .br (Int.tmod vt2 29 == 28)
                 (
                  .br (Decidable.decide (0 ≤ Go.IntKind.i64.wrap (t13 + 0) ∧ Go.IntKind.i64.wrap (t13 + 0) < (@Nat.cast Int _ r0.length)))
                   (
                    .get (r0[(Go.IntKind.i64.wrap (t13 + 0)).toNat]?) fun vt3 =>
                    .br (Decidable.decide (0 ≤ Go.IntKind.i64.wrap (t13 + Go.IntKind.i64.wrap (0 + 1)) ∧ Go.IntKind.i64.wrap (t13 + Go.IntKind.i64.wrap (0 + 1)) < (@Nat.cast Int _ r0.length)))
                     (
                      .get (r0[(Go.IntKind.i64.wrap (t13 + Go.IntKind.i64.wrap (0 + 1))).toNat]?) fun vt4 =>
                      .br (Go.Proofs.Ythgpgnijbajlgaa.pickOk vt4 13)
                       (
                        .bind (Go.Proofs.Ythgpgnijbajlgaa.pick vt4 13) fun vn5 =>
                        .br (Decidable.decide (0 ≤ Go.IntKind.i64.wrap (t13 + Go.IntKind.i64.wrap (0 + 1)) ∧ Go.IntKind.i64.wrap (t13 + Go.IntKind.i64.wrap (0 + 1)) < (@Nat.cast Int _ r0.length)))
                         (
                          .get (r0[(Go.IntKind.i64.wrap (t13 + Go.IntKind.i64.wrap (0 + 1))).toNat]?) fun vt6 =>
                          .br (Int.tmod vt6 29 == 28)
                           (
                            .br (Decidable.decide (0 ≤ Go.IntKind.i64.wrap (t13 + Go.IntKind.i64.wrap (0 + 1)) ∧ Go.IntKind.i64.wrap (t13 + Go.IntKind.i64.wrap (0 + 1)) < (@Nat.cast Int _ r0.length)))
                             (
                              .get (r0[(Go.IntKind.i64.wrap (t13 + Go.IntKind.i64.wrap (0 + 1))).toNat]?) fun vt7 =>
                              .br (Decidable.decide (0 ≤ Go.IntKind.i64.wrap (t13 + Go.IntKind.i64.wrap (Go.IntKind.i64.wrap (0 + 1) + 1)) ∧ Go.IntKind.i64.wrap (t13 + Go.IntKind.i64.wrap (Go.IntKind.i64.wrap (0 + 1) + 1)) < (@Nat.cast Int _ r0.length)))
                               (
                                .get (r0[(Go.IntKind.i64.wrap (t13 + Go.IntKind.i64.wrap (Go.IntKind.i64.wrap (0 + 1) + 1))).toNat]?) fun vt8 =>
                                .br (Go.Proofs.Ythgpgnijbajlgaa.pickOk vt8 13)
                                 (
                                  .bind (Go.Proofs.Ythgpgnijbajlgaa.pick vt8 13) fun vn9 =>
                                  .br (Decidable.decide (0 ≤ Go.IntKind.i64.wrap (t13 + Go.IntKind.i64.wrap (Go.IntKind.i64.wrap (0 + 1) + 1)) ∧ Go.IntKind.i64.wrap (t13 + Go.IntKind.i64.wrap (Go.IntKind.i64.wrap (0 + 1) + 1)) < (@Nat.cast Int _ r0.length)))
                                   (
                                    .get (r0[(Go.IntKind.i64.wrap (t13 + Go.IntKind.i64.wrap (Go.IntKind.i64.wrap (0 + 1) + 1))).toNat]?) fun vt10 =>
                                    .br (Int.tmod vt10 29 == 28)
                                     (
                                      .br (Decidable.decide (0 ≤ Go.IntKind.i64.wrap (t13 + Go.IntKind.i64.wrap (Go.IntKind.i64.wrap (0 + 1) + 1)) ∧ Go.IntKind.i64.wrap (t13 + Go.IntKind.i64.wrap (Go.IntKind.i64.wrap (0 + 1) + 1)) < (@Nat.cast Int _ r0.length)))
                                       (
                                        .get (r0[(Go.IntKind.i64.wrap (t13 + Go.IntKind.i64.wrap (Go.IntKind.i64.wrap (0 + 1) + 1))).toNat]?) fun vt11 =>
                                        .br (Decidable.decide (0 ≤ Go.IntKind.i64.wrap (t13 + Go.IntKind.i64.wrap (Go.IntKind.i64.wrap (Go.IntKind.i64.wrap (0 + 1) + 1) + 1)) ∧ Go.IntKind.i64.wrap (t13 + Go.IntKind.i64.wrap (Go.IntKind.i64.wrap (Go.IntKind.i64.wrap (0 + 1) + 1) + 1)) < (@Nat.cast Int _ r0.length)))
                                         (
                                          .get (r0[(Go.IntKind.i64.wrap (t13 + Go.IntKind.i64.wrap (Go.IntKind.i64.wrap (Go.IntKind.i64.wrap (0 + 1) + 1) + 1))).toNat]?) fun vt12 =>
                                          .br (Go.Proofs.Ythgpgnijbajlgaa.pickOk vt12 13)
                                           (
                                            .bind (Go.Proofs.Ythgpgnijbajlgaa.pick vt12 13) fun vn13 =>
                                            .br (Decidable.decide (0 ≤ Go.IntKind.i64.wrap (t13 + Go.IntKind.i64.wrap (Go.IntKind.i64.wrap (Go.IntKind.i64.wrap (0 + 1) + 1) + 1)) ∧ Go.IntKind.i64.wrap (t13 + Go.IntKind.i64.wrap (Go.IntKind.i64.wrap (Go.IntKind.i64.wrap (0 + 1) + 1) + 1)) < (@Nat.cast Int _ r0.length)))
                                             (
                                              .get (r0[(Go.IntKind.i64.wrap (t13 + Go.IntKind.i64.wrap (Go.IntKind.i64.wrap (Go.IntKind.i64.wrap (0 + 1) + 1) + 1))).toNat]?) fun vt14 =>
                                              .br (Int.tmod vt14 29 == 28)
                                               (
                                                .br (Decidable.decide (0 ≤ Go.IntKind.i64.wrap (t13 + Go.IntKind.i64.wrap (Go.IntKind.i64.wrap (Go.IntKind.i64.wrap (0 + 1) + 1) + 1)) ∧ Go.IntKind.i64.wrap (t13 + Go.IntKind.i64.wrap (Go.IntKind.i64.wrap (Go.IntKind.i64.wrap (0 + 1) + 1) + 1)) < (@Nat.cast Int _ r0.length)))
                                                 (
                                                  .get (r0[(Go.IntKind.i64.wrap (t13 + Go.IntKind.i64.wrap (Go.IntKind.i64.wrap (Go.IntKind.i64.wrap (0 + 1) + 1) + 1))).toNat]?) fun vt15 =>
                                                  .br (Go.Proofs.Ythgpgnijbajlgaa.Ev.lenOk (r1 ++ [(vt3, vt7, vt11, vt15)]))
                                                   (
                                                    .ret (Sum.inl ((Go.IntKind.i64.wrap (t13 + 4), ()), r0, r1 ++ [(vt3, vt7, vt11, vt15)], r2, r3, r4, r5, ())))
                                                   (
                                                    .fail))
                                                 (
                                                  .fail))
                                               (
                                                .br (Go.Proofs.Ythgpgnijbajlgaa.Ev.lenOk (r1 ++ [(vt3, vt7, vt11, Go.IntKind.i64.wrap (vn13 - 6))]))
                                                 (
                                                  .ret (Sum.inl ((Go.IntKind.i64.wrap (t13 + 4), ()), r0, r1 ++ [(vt3, vt7, vt11, Go.IntKind.i64.wrap (vn13 - 6))], r2, r3, r4, r5, ())))
                                                 (
                                                  .fail)))
                                             (
                                              .fail))
                                           (
                                            .fail))
                                         (
                                          .fail))
                                       (
                                        .fail))
                                     (
                                      .br (Decidable.decide (0 ≤ Go.IntKind.i64.wrap (t13 + Go.IntKind.i64.wrap (Go.IntKind.i64.wrap (Go.IntKind.i64.wrap (0 + 1) + 1) + 1)) ∧ Go.IntKind.i64.wrap (t13 + Go.IntKind.i64.wrap (Go.IntKind.i64.wrap (Go.IntKind.i64.wrap (0 + 1) + 1) + 1)) < (@Nat.cast Int _ r0.length)))
                                       (
                                        .get (r0[(Go.IntKind.i64.wrap (t13 + Go.IntKind.i64.wrap (Go.IntKind.i64.wrap (Go.IntKind.i64.wrap (0 + 1) + 1) + 1))).toNat]?) fun vt16 =>
                                        .br (Go.Proofs.Ythgpgnijbajlgaa.pickOk vt16 13)
                                         (
                                          .bind (Go.Proofs.Ythgpgnijbajlgaa.pick vt16 13) fun vn17 =>
                                          .br (Decidable.decide (0 ≤ Go.IntKind.i64.wrap (t13 + Go.IntKind.i64.wrap (Go.IntKind.i64.wrap (Go.IntKind.i64.wrap (0 + 1) + 1) + 1)) ∧ Go.IntKind.i64.wrap (t13 + Go.IntKind.i64.wrap (Go.IntKind.i64.wrap (Go.IntKind.i64.wrap (0 + 1) + 1) + 1)) < (@Nat.cast Int _ r0.length)))
                                           (
                                            .get (r0[(Go.IntKind.i64.wrap (t13 + Go.IntKind.i64.wrap (Go.IntKind.i64.wrap (Go.IntKind.i64.wrap (0 + 1) + 1) + 1))).toNat]?) fun vt18 =>
                                            .br (Int.tmod vt18 29 == 28)
                                             (
                                              .br (Decidable.decide (0 ≤ Go.IntKind.i64.wrap (t13 + Go.IntKind.i64.wrap (Go.IntKind.i64.wrap (Go.IntKind.i64.wrap (0 + 1) + 1) + 1)) ∧ Go.IntKind.i64.wrap (t13 + Go.IntKind.i64.wrap (Go.IntKind.i64.wrap (Go.IntKind.i64.wrap (0 + 1) + 1) + 1)) < (@Nat.cast Int _ r0.length)))
                                               (
                                                .get (r0[(Go.IntKind.i64.wrap (t13 + Go.IntKind.i64.wrap (Go.IntKind.i64.wrap (Go.IntKind.i64.wrap (0 + 1) + 1) + 1))).toNat]?) fun vt19 =>
                                                .br (Go.Proofs.Ythgpgnijbajlgaa.Ev.lenOk (r1 ++ [(vt3, vt7, Go.IntKind.i64.wrap (vn9 - 6), vt19)]))
                                                 (
                                                  .ret (Sum.inl ((Go.IntKind.i64.wrap (t13 + 4), ()), r0, r1 ++ [(vt3, vt7, Go.IntKind.i64.wrap (vn9 - 6), vt19)], r2, r3, r4, r5, ())))
                                                 (
                                                  .fail))
                                               (
                                                .fail))
                                             (
                                              .br (Go.Proofs.Ythgpgnijbajlgaa.Ev.lenOk (r1 ++ [(vt3, vt7, Go.IntKind.i64.wrap (vn9 - 6), Go.IntKind.i64.wrap (vn17 - 6))]))
                                               (
                                                .ret (Sum.inl ((Go.IntKind.i64.wrap (t13 + 4), ()), r0, r1 ++ [(vt3, vt7, Go.IntKind.i64.wrap (vn9 - 6), Go.IntKind.i64.wrap (vn17 - 6))], r2, r3, r4, r5, ())))
                                               (
                                                .fail)))
                                           (
                                            .fail))
                                         (
                                          .fail))
                                       (
                                        .fail)))
                                   (
                                    .fail))
                                 (
                                  .fail))
                               (
                                .fail))
                             (
                              .fail))
                           (
                            .br (Decidable.decide (0 ≤ Go.IntKind.i64.wrap (t13 + Go.IntKind.i64.wrap (Go.IntKind.i64.wrap (0 + 1) + 1)) ∧ Go.IntKind.i64.wrap (t13 + Go.IntKind.i64.wrap (Go.IntKind.i64.wrap (0 + 1) + 1)) < (@Nat.cast Int _ r0.length)))
                             (
                              .get (r0[(Go.IntKind.i64.wrap (t13 + Go.IntKind.i64.wrap (Go.IntKind.i64.wrap (0 + 1) + 1))).toNat]?) fun vt20 =>
                              .br (Go.Proofs.Ythgpgnijbajlgaa.pickOk vt20 13)
                               (
                                .bind (Go.Proofs.Ythgpgnijbajlgaa.pick vt20 13) fun vn21 =>
                                .br (Decidable.decide (0 ≤ Go.IntKind.i64.wrap (t13 + Go.IntKind.i64.wrap (Go.IntKind.i64.wrap (0 + 1) + 1)) ∧ Go.IntKind.i64.wrap (t13 + Go.IntKind.i64.wrap (Go.IntKind.i64.wrap (0 + 1) + 1)) < (@Nat.cast Int _ r0.length)))
                                 (
                                  .get (r0[(Go.IntKind.i64.wrap (t13 + Go.IntKind.i64.wrap (Go.IntKind.i64.wrap (0 + 1) + 1))).toNat]?) fun vt22 =>
                                  .br (Int.tmod vt22 29 == 28)
                                   (
                                    .br (Decidable.decide (0 ≤ Go.IntKind.i64.wrap (t13 + Go.IntKind.i64.wrap (Go.IntKind.i64.wrap (0 + 1) + 1)) ∧ Go.IntKind.i64.wrap (t13 + Go.IntKind.i64.wrap (Go.IntKind.i64.wrap (0 + 1) + 1)) < (@Nat.cast Int _ r0.length)))
                                     (
                                      .get (r0[(Go.IntKind.i64.wrap (t13 + Go.IntKind.i64.wrap (Go.IntKind.i64.wrap (0 + 1) + 1))).toNat]?) fun vt23 =>
                                      .br (Decidable.decide (0 ≤ Go.IntKind.i64.wrap (t13 + Go.IntKind.i64.wrap (Go.IntKind.i64.wrap (Go.IntKind.i64.wrap (0 + 1) + 1) + 1)) ∧ Go.IntKind.i64.wrap (t13 + Go.IntKind.i64.wrap (Go.IntKind.i64.wrap (Go.IntKind.i64.wrap (0 + 1) + 1) + 1)) < (@Nat.cast Int _ r0.length)))
                                       (
                                        .get (r0[(Go.IntKind.i64.wrap (t13 + Go.IntKind.i64.wrap (Go.IntKind.i64.wrap (Go.IntKind.i64.wrap (0 + 1) + 1) + 1))).toNat]?) fun vt24 =>
                                        .br (Go.Proofs.Ythgpgnijbajlgaa.pickOk vt24 13)
                                         (
                                          .bind (Go.Proofs.Ythgpgnijbajlgaa.pick vt24 13) fun vn25 =>
                                          .br (Decidable.decide (0 ≤ Go.IntKind.i64.wrap (t13 + Go.IntKind.i64.wrap (Go.IntKind.i64.wrap (Go.IntKind.i64.wrap (0 + 1) + 1) + 1)) ∧ Go.IntKind.i64.wrap (t13 + Go.IntKind.i64.wrap (Go.IntKind.i64.wrap (Go.IntKind.i64.wrap (0 + 1) + 1) + 1)) < (@Nat.cast Int _ r0.length)))
                                           (
                                            .get (r0[(Go.IntKind.i64.wrap (t13 + Go.IntKind.i64.wrap (Go.IntKind.i64.wrap (Go.IntKind.i64.wrap (0 + 1) + 1) + 1))).toNat]?) fun vt26 =>
                                            .br (Int.tmod vt26 29 == 28)
                                             (
                                              .br (Decidable.decide (0 ≤ Go.IntKind.i64.wrap (t13 + Go.IntKind.i64.wrap (Go.IntKind.i64.wrap (Go.IntKind.i64.wrap (0 + 1) + 1) + 1)) ∧ Go.IntKind.i64.wrap (t13 + Go.IntKind.i64.wrap (Go.IntKind.i64.wrap (Go.IntKind.i64.wrap (0 + 1) + 1) + 1)) < (@Nat.cast Int _ r0.length)))
                                               (
                                                .get (r0[(Go.IntKind.i64.wrap (t13 + Go.IntKind.i64.wrap (Go.IntKind.i64.wrap (Go.IntKind.i64.wrap (0 + 1) + 1) + 1))).toNat]?) fun vt27 =>
                                                .br (Go.Proofs.Ythgpgnijbajlgaa.Ev.lenOk (r1 ++ [(vt3, Go.IntKind.i64.wrap (vn5 - 6), vt23, vt27)]))
                                                 (
                                                  .ret (Sum.inl ((Go.IntKind.i64.wrap (t13 + 4), ()), r0, r1 ++ [(vt3, Go.IntKind.i64.wrap (vn5 - 6), vt23, vt27)], r2, r3, r4, r5, ())))
                                                 (
                                                  .fail))
                                               (
                                                .fail))
                                             (
                                              .br (Go.Proofs.Ythgpgnijbajlgaa.Ev.lenOk (r1 ++ [(vt3, Go.IntKind.i64.wrap (vn5 - 6), vt23, Go.IntKind.i64.wrap (vn25 - 6))]))
                                               (
                                                .ret (Sum.inl ((Go.IntKind.i64.wrap (t13 + 4), ()), r0, r1 ++ [(vt3, Go.IntKind.i64.wrap (vn5 - 6), vt23, Go.IntKind.i64.wrap (vn25 - 6))], r2, r3, r4, r5, ())))
                                               (
                                                .fail)))
                                           (
                                            .fail))
                                         (
                                          .fail))
                                       (
                                        .fail))
                                     (
                                      .fail))
                                   (
                                    .br (Decidable.decide (0 ≤ Go.IntKind.i64.wrap (t13 + Go.IntKind.i64.wrap (Go.IntKind.i64.wrap (Go.IntKind.i64.wrap (0 + 1) + 1) + 1)) ∧ Go.IntKind.i64.wrap (t13 + Go.IntKind.i64.wrap (Go.IntKind.i64.wrap (Go.IntKind.i64.wrap (0 + 1) + 1) + 1)) < (@Nat.cast Int _ r0.length)))
                                     (
                                      .get (r0[(Go.IntKind.i64.wrap (t13 + Go.IntKind.i64.wrap (Go.IntKind.i64.wrap (Go.IntKind.i64.wrap (0 + 1) + 1) + 1))).toNat]?) fun vt28 =>
                                      .br (Go.Proofs.Ythgpgnijbajlgaa.pickOk vt28 13)
                                       (
                                        .bind (Go.Proofs.Ythgpgnijbajlgaa.pick vt28 13) fun vn29 =>
                                        .br (Decidable.decide (0 ≤ Go.IntKind.i64.wrap (t13 + Go.IntKind.i64.wrap (Go.IntKind.i64.wrap (Go.IntKind.i64.wrap (0 + 1) + 1) + 1)) ∧ Go.IntKind.i64.wrap (t13 + Go.IntKind.i64.wrap (Go.IntKind.i64.wrap (Go.IntKind.i64.wrap (0 + 1) + 1) + 1)) < (@Nat.cast Int _ r0.length)))
                                         (
                                          .get (r0[(Go.IntKind.i64.wrap (t13 + Go.IntKind.i64.wrap (Go.IntKind.i64.wrap (Go.IntKind.i64.wrap (0 + 1) + 1) + 1))).toNat]?) fun vt30 =>
                                          .br (Int.tmod vt30 29 == 28)
                                           (
                                            .br (Decidable.decide (0 ≤ Go.IntKind.i64.wrap (t13 + Go.IntKind.i64.wrap (Go.IntKind.i64.wrap (Go.IntKind.i64.wrap (0 + 1) + 1) + 1)) ∧ Go.IntKind.i64.wrap (t13 + Go.IntKind.i64.wrap (Go.IntKind.i64.wrap (Go.IntKind.i64.wrap (0 + 1) + 1) + 1)) < (@Nat.cast Int _ r0.length)))
                                             (
                                              .get (r0[(Go.IntKind.i64.wrap (t13 + Go.IntKind.i64.wrap (Go.IntKind.i64.wrap (Go.IntKind.i64.wrap (0 + 1) + 1) + 1))).toNat]?) fun vt31 =>
                                              .br (Go.Proofs.Ythgpgnijbajlgaa.Ev.lenOk (r1 ++ [(vt3, Go.IntKind.i64.wrap (vn5 - 6), Go.IntKind.i64.wrap (vn21 - 6), vt31)]))
                                               (
                                                .ret (Sum.inl ((Go.IntKind.i64.wrap (t13 + 4), ()), r0, r1 ++ [(vt3, Go.IntKind.i64.wrap (vn5 - 6), Go.IntKind.i64.wrap (vn21 - 6), vt31)], r2, r3, r4, r5, ())))
                                               (
                                                .fail))
                                             (
                                              .fail))
                                           (
                                            .br (Go.Proofs.Ythgpgnijbajlgaa.Ev.lenOk (r1 ++ [(vt3, Go.IntKind.i64.wrap (vn5 - 6), Go.IntKind.i64.wrap (vn21 - 6), Go.IntKind.i64.wrap (vn29 - 6))]))
                                             (
                                              .ret (Sum.inl ((Go.IntKind.i64.wrap (t13 + 4), ()), r0, r1 ++ [(vt3, Go.IntKind.i64.wrap (vn5 - 6), Go.IntKind.i64.wrap (vn21 - 6), Go.IntKind.i64.wrap (vn29 - 6))], r2, r3, r4, r5, ())))
                                             (
                                              .fail)))
                                         (
                                          .fail))
                                       (
                                        .fail))
                                     (
                                      .fail)))
                                 (
                                  .fail))
                               (
                                .fail))
                             (
                              .fail)))
                         (
                          .fail))
                       (
                        .fail))
                     (
                      .fail))
                   (
                    .fail))
                 (
                  .br (Decidable.decide (0 ≤ Go.IntKind.i64.wrap (t13 + Go.IntKind.i64.wrap (0 + 1)) ∧ Go.IntKind.i64.wrap (t13 + Go.IntKind.i64.wrap (0 + 1)) < (@Nat.cast Int _ r0.length)))
                   (
                    .get (r0[(Go.IntKind.i64.wrap (t13 + Go.IntKind.i64.wrap (0 + 1))).toNat]?) fun vt32 =>
                    .br (Go.Proofs.Ythgpgnijbajlgaa.pickOk vt32 13)
                     (
                      .bind (Go.Proofs.Ythgpgnijbajlgaa.pick vt32 13) fun vn33 =>
                      .br (Decidable.decide (0 ≤ Go.IntKind.i64.wrap (t13 + Go.IntKind.i64.wrap (0 + 1)) ∧ Go.IntKind.i64.wrap (t13 + Go.IntKind.i64.wrap (0 + 1)) < (@Nat.cast Int _ r0.length)))
                       (
                        .get (r0[(Go.IntKind.i64.wrap (t13 + Go.IntKind.i64.wrap (0 + 1))).toNat]?) fun vt34 =>
                        .br (Int.tmod vt34 29 == 28)
                         (
                          .br (Decidable.decide (0 ≤ Go.IntKind.i64.wrap (t13 + Go.IntKind.i64.wrap (0 + 1)) ∧ Go.IntKind.i64.wrap (t13 + Go.IntKind.i64.wrap (0 + 1)) < (@Nat.cast Int _ r0.length)))
                           (
                            .get (r0[(Go.IntKind.i64.wrap (t13 + Go.IntKind.i64.wrap (0 + 1))).toNat]?) fun vt35 =>
                            .br (Decidable.decide (0 ≤ Go.IntKind.i64.wrap (t13 + Go.IntKind.i64.wrap (Go.IntKind.i64.wrap (0 + 1) + 1)) ∧ Go.IntKind.i64.wrap (t13 + Go.IntKind.i64.wrap (Go.IntKind.i64.wrap (0 + 1) + 1)) < (@Nat.cast Int _ r0.length)))
                             (
                              .get (r0[(Go.IntKind.i64.wrap (t13 + Go.IntKind.i64.wrap (Go.IntKind.i64.wrap (0 + 1) + 1))).toNat]?) fun vt36 =>
                              .br (Go.Proofs.Ythgpgnijbajlgaa.pickOk vt36 13)
                               (
                                .bind (Go.Proofs.Ythgpgnijbajlgaa.pick vt36 13) fun vn37 =>
                                .br (Decidable.decide (0 ≤ Go.IntKind.i64.wrap (t13 + Go.IntKind.i64.wrap (Go.IntKind.i64.wrap (0 + 1) + 1)) ∧ Go.IntKind.i64.wrap (t13 + Go.IntKind.i64.wrap (Go.IntKind.i64.wrap (0 + 1) + 1)) < (@Nat.cast Int _ r0.length)))
                                 (
                                  .get (r0[(Go.IntKind.i64.wrap (t13 + Go.IntKind.i64.wrap (Go.IntKind.i64.wrap (0 + 1) + 1))).toNat]?) fun vt38 =>
                                  .br (Int.tmod vt38 29 == 28)
                                   (
                                    .br (Decidable.decide (0 ≤ Go.IntKind.i64.wrap (t13 + Go.IntKind.i64.wrap (Go.IntKind.i64.wrap (0 + 1) + 1)) ∧ Go.IntKind.i64.wrap (t13 + Go.IntKind.i64.wrap (Go.IntKind.i64.wrap (0 + 1) + 1)) < (@Nat.cast Int _ r0.length)))
                                     (
                                      .get (r0[(Go.IntKind.i64.wrap (t13 + Go.IntKind.i64.wrap (Go.IntKind.i64.wrap (0 + 1) + 1))).toNat]?) fun vt39 =>
                                      .br (Decidable.decide (0 ≤ Go.IntKind.i64.wrap (t13 + Go.IntKind.i64.wrap (Go.IntKind.i64.wrap (Go.IntKind.i64.wrap (0 + 1) + 1) + 1)) ∧ Go.IntKind.i64.wrap (t13 + Go.IntKind.i64.wrap (Go.IntKind.i64.wrap (Go.IntKind.i64.wrap (0 + 1) + 1) + 1)) < (@Nat.cast Int _ r0.length)))
                                       (
                                        .get (r0[(Go.IntKind.i64.wrap (t13 + Go.IntKind.i64.wrap (Go.IntKind.i64.wrap (Go.IntKind.i64.wrap (0 + 1) + 1) + 1))).toNat]?) fun vt40 =>
                                        .br (Go.Proofs.Ythgpgnijbajlgaa.pickOk vt40 13)
                                         (
                                          .bind (Go.Proofs.Ythgpgnijbajlgaa.pick vt40 13) fun vn41 =>
                                          .br (Decidable.decide (0 ≤ Go.IntKind.i64.wrap (t13 + Go.IntKind.i64.wrap (Go.IntKind.i64.wrap (Go.IntKind.i64.wrap (0 + 1) + 1) + 1)) ∧ Go.IntKind.i64.wrap (t13 + Go.IntKind.i64.wrap (Go.IntKind.i64.wrap (Go.IntKind.i64.wrap (0 + 1) + 1) + 1)) < (@Nat.cast Int _ r0.length)))
                                           (
                                            .get (r0[(Go.IntKind.i64.wrap (t13 + Go.IntKind.i64.wrap (Go.IntKind.i64.wrap (Go.IntKind.i64.wrap (0 + 1) + 1) + 1))).toNat]?) fun vt42 =>
                                            .br (Int.tmod vt42 29 == 28)
                                             (
                                              .br (Decidable.decide (0 ≤ Go.IntKind.i64.wrap (t13 + Go.IntKind.i64.wrap (Go.IntKind.i64.wrap (Go.IntKind.i64.wrap (0 + 1) + 1) + 1)) ∧ Go.IntKind.i64.wrap (t13 + Go.IntKind.i64.wrap (Go.IntKind.i64.wrap (Go.IntKind.i64.wrap (0 + 1) + 1) + 1)) < (@Nat.cast Int _ r0.length)))
                                               (
                                                .get (r0[(Go.IntKind.i64.wrap (t13 + Go.IntKind.i64.wrap (Go.IntKind.i64.wrap (Go.IntKind.i64.wrap (0 + 1) + 1) + 1))).toNat]?) fun vt43 =>
                                                .br (Go.Proofs.Ythgpgnijbajlgaa.Ev.lenOk (r1 ++ [(Go.IntKind.i64.wrap (vn1 - 6), vt35, vt39, vt43)]))
                                                 (
                                                  .ret (Sum.inl ((Go.IntKind.i64.wrap (t13 + 4), ()), r0, r1 ++ [(Go.IntKind.i64.wrap (vn1 - 6), vt35, vt39, vt43)], r2, r3, r4, r5, ())))
                                                 (
                                                  .fail))
                                               (
                                                .fail))
                                             (
                                              .br (Go.Proofs.Ythgpgnijbajlgaa.Ev.lenOk (r1 ++ [(Go.IntKind.i64.wrap (vn1 - 6), vt35, vt39, Go.IntKind.i64.wrap (vn41 - 6))]))
                                               (
                                                .ret (Sum.inl ((Go.IntKind.i64.wrap (t13 + 4), ()), r0, r1 ++ [(Go.IntKind.i64.wrap (vn1 - 6), vt35, vt39, Go.IntKind.i64.wrap (vn41 - 6))], r2, r3, r4, r5, ())))
                                               (
                                                .fail)))
                                           (
                                            .fail))
                                         (
                                          .fail))
                                       (
                                        .fail))
                                     (
                                      .fail))
                                   (
                                    .br (Decidable.decide (0 ≤ Go.IntKind.i64.wrap (t13 + Go.IntKind.i64.wrap (Go.IntKind.i64.wrap (Go.IntKind.i64.wrap (0 + 1) + 1) + 1)) ∧ Go.IntKind.i64.wrap (t13 + Go.IntKind.i64.wrap (Go.IntKind.i64.wrap (Go.IntKind.i64.wrap (0 + 1) + 1) + 1)) < (@Nat.cast Int _ r0.length)))
                                     (
                                      .get (r0[(Go.IntKind.i64.wrap (t13 + Go.IntKind.i64.wrap (Go.IntKind.i64.wrap (Go.IntKind.i64.wrap (0 + 1) + 1) + 1))).toNat]?) fun vt44 =>
                                      .br (Go.Proofs.Ythgpgnijbajlgaa.pickOk vt44 13)
                                       (
                                        .bind (Go.Proofs.Ythgpgnijbajlgaa.pick vt44 13) fun vn45 =>
                                        .br (Decidable.decide (0 ≤ Go.IntKind.i64.wrap (t13 + Go.IntKind.i64.wrap (Go.IntKind.i64.wrap (Go.IntKind.i64.wrap (0 + 1) + 1) + 1)) ∧ Go.IntKind.i64.wrap (t13 + Go.IntKind.i64.wrap (Go.IntKind.i64.wrap (Go.IntKind.i64.wrap (0 + 1) + 1) + 1)) < (@Nat.cast Int _ r0.length)))
                                         (
                                          .get (r0[(Go.IntKind.i64.wrap (t13 + Go.IntKind.i64.wrap (Go.IntKind.i64.wrap (Go.IntKind.i64.wrap (0 + 1) + 1) + 1))).toNat]?) fun vt46 =>
                                          .br (Int.tmod vt46 29 == 28)
                                           (
                                            .br (Decidable.decide (0 ≤ Go.IntKind.i64.wrap (t13 + Go.IntKind.i64.wrap (Go.IntKind.i64.wrap (Go.IntKind.i64.wrap (0 + 1) + 1) + 1)) ∧ Go.IntKind.i64.wrap (t13 + Go.IntKind.i64.wrap (Go.IntKind.i64.wrap (Go.IntKind.i64.wrap (0 + 1) + 1) + 1)) < (@Nat.cast Int _ r0.length)))
                                             (
                                              .get (r0[(Go.IntKind.i64.wrap (t13 + Go.IntKind.i64.wrap (Go.IntKind.i64.wrap (Go.IntKind.i64.wrap (0 + 1) + 1) + 1))).toNat]?) fun vt47 =>
                                              .br (Go.Proofs.Ythgpgnijbajlgaa.Ev.lenOk (r1 ++ [(Go.IntKind.i64.wrap (vn1 - 6), vt35, Go.IntKind.i64.wrap (vn37 - 6), vt47)]))
                                               (
                                                .ret (Sum.inl ((Go.IntKind.i64.wrap (t13 + 4), ()), r0, r1 ++ [(Go.IntKind.i64.wrap (vn1 - 6), vt35, Go.IntKind.i64.wrap (vn37 - 6), vt47)], r2, r3, r4, r5, ())))
                                               (
                                                .fail))
                                             (
                                              .fail))
                                           (
                                            .br (Go.Proofs.Ythgpgnijbajlgaa.Ev.lenOk (r1 ++ [(Go.IntKind.i64.wrap (vn1 - 6), vt35, Go.IntKind.i64.wrap (vn37 - 6), Go.IntKind.i64.wrap (vn45 - 6))]))
                                             (
                                              .ret (Sum.inl ((Go.IntKind.i64.wrap (t13 + 4), ()), r0, r1 ++ [(Go.IntKind.i64.wrap (vn1 - 6), vt35, Go.IntKind.i64.wrap (vn37 - 6), Go.IntKind.i64.wrap (vn45 - 6))], r2, r3, r4, r5, ())))
                                             (
                                              .fail)))
                                         (
                                          .fail))
                                       (
                                        .fail))
                                     (
                                      .fail)))
                                 (
                                  .fail))
                               (
                                .fail))
                             (
                              .fail))
                           (
                            .fail))
                         (
                          .br (Decidable.decide (0 ≤ Go.IntKind.i64.wrap (t13 + Go.IntKind.i64.wrap (Go.IntKind.i64.wrap (0 + 1) + 1)) ∧ Go.IntKind.i64.wrap (t13 + Go.IntKind.i64.wrap (Go.IntKind.i64.wrap (0 + 1) + 1)) < (@Nat.cast Int _ r0.length)))
                           (
                            .get (r0[(Go.IntKind.i64.wrap (t13 + Go.IntKind.i64.wrap (Go.IntKind.i64.wrap (0 + 1) + 1))).toNat]?) fun vt48 =>
                            .br (Go.Proofs.Ythgpgnijbajlgaa.pickOk vt48 13)
                             (
                              .bind (Go.Proofs.Ythgpgnijbajlgaa.pick vt48 13) fun vn49 =>
                              .br (Decidable.decide (0 ≤ Go.IntKind.i64.wrap (t13 + Go.IntKind.i64.wrap (Go.IntKind.i64.wrap (0 + 1) + 1)) ∧ Go.IntKind.i64.wrap (t13 + Go.IntKind.i64.wrap (Go.IntKind.i64.wrap (0 + 1) + 1)) < (@Nat.cast Int _ r0.length)))
                               (
                                .get (r0[(Go.IntKind.i64.wrap (t13 + Go.IntKind.i64.wrap (Go.IntKind.i64.wrap (0 + 1) + 1))).toNat]?) fun vt50 =>
                                .br (Int.tmod vt50 29 == 28)
                                 (
                                  .br (Decidable.decide (0 ≤ Go.IntKind.i64.wrap (t13 + Go.IntKind.i64.wrap (Go.IntKind.i64.wrap (0 + 1) + 1)) ∧ Go.IntKind.i64.wrap (t13 + Go.IntKind.i64.wrap (Go.IntKind.i64.wrap (0 + 1) + 1)) < (@Nat.cast Int _ r0.length)))
                                   (
                                    .get (r0[(Go.IntKind.i64.wrap (t13 + Go.IntKind.i64.wrap (Go.IntKind.i64.wrap (0 + 1) + 1))).toNat]?) fun vt51 =>
                                    .br (Decidable.decide (0 ≤ Go.IntKind.i64.wrap (t13 + Go.IntKind.i64.wrap (Go.IntKind.i64.wrap (Go.IntKind.i64.wrap (0 + 1) + 1) + 1)) ∧ Go.IntKind.i64.wrap (t13 + Go.IntKind.i64.wrap (Go.IntKind.i64.wrap (Go.IntKind.i64.wrap (0 + 1) + 1) + 1)) < (@Nat.cast Int _ r0.length)))
                                     (
                                      .get (r0[(Go.IntKind.i64.wrap (t13 + Go.IntKind.i64.wrap (Go.IntKind.i64.wrap (Go.IntKind.i64.wrap (0 + 1) + 1) + 1))).toNat]?) fun vt52 =>
                                      .br (Go.Proofs.Ythgpgnijbajlgaa.pickOk vt52 13)
                                       (
                                        .bind (Go.Proofs.Ythgpgnijbajlgaa.pick vt52 13) fun vn53 =>
                                        .br (Decidable.decide (0 ≤ Go.IntKind.i64.wrap (t13 + Go.IntKind.i64.wrap (Go.IntKind.i64.wrap (Go.IntKind.i64.wrap (0 + 1) + 1) + 1)) ∧ Go.IntKind.i64.wrap (t13 + Go.IntKind.i64.wrap (Go.IntKind.i64.wrap (Go.IntKind.i64.wrap (0 + 1) + 1) + 1)) < (@Nat.cast Int _ r0.length)))
                                         (
                                          .get (r0[(Go.IntKind.i64.wrap (t13 + Go.IntKind.i64.wrap (Go.IntKind.i64.wrap (Go.IntKind.i64.wrap (0 + 1) + 1) + 1))).toNat]?) fun vt54 =>
                                          .br (Int.tmod vt54 29 == 28)
                                           (
                                            .br (Decidable.decide (0 ≤ Go.IntKind.i64.wrap (t13 + Go.IntKind.i64.wrap (Go.IntKind.i64.wrap (Go.IntKind.i64.wrap (0 + 1) + 1) + 1)) ∧ Go.IntKind.i64.wrap (t13 + Go.IntKind.i64.wrap (Go.IntKind.i64.wrap (Go.IntKind.i64.wrap (0 + 1) + 1) + 1)) < (@Nat.cast Int _ r0.length)))
                                             (
                                              .get (r0[(Go.IntKind.i64.wrap (t13 + Go.IntKind.i64.wrap (Go.IntKind.i64.wrap (Go.IntKind.i64.wrap (0 + 1) + 1) + 1))).toNat]?) fun vt55 =>
                                              .br (Go.Proofs.Ythgpgnijbajlgaa.Ev.lenOk (r1 ++ [(Go.IntKind.i64.wrap (vn1 - 6), Go.IntKind.i64.wrap (vn33 - 6), vt51, vt55)]))
                                               (
                                                .ret (Sum.inl ((Go.IntKind.i64.wrap (t13 + 4), ()), r0, r1 ++ [(Go.IntKind.i64.wrap (vn1 - 6), Go.IntKind.i64.wrap (vn33 - 6), vt51, vt55)], r2, r3, r4, r5, ())))
                                               (
                                                .fail))
                                             (
                                              .fail))
                                           (
                                            .br (Go.Proofs.Ythgpgnijbajlgaa.Ev.lenOk (r1 ++ [(Go.IntKind.i64.wrap (vn1 - 6), Go.IntKind.i64.wrap (vn33 - 6), vt51, Go.IntKind.i64.wrap (vn53 - 6))]))
                                             (
                                              .ret (Sum.inl ((Go.IntKind.i64.wrap (t13 + 4), ()), r0, r1 ++ [(Go.IntKind.i64.wrap (vn1 - 6), Go.IntKind.i64.wrap (vn33 - 6), vt51, Go.IntKind.i64.wrap (vn53 - 6))], r2, r3, r4, r5, ())))
                                             (
                                              .fail)))
                                         (
                                          .fail))
                                       (
                                        .fail))
                                     (
                                      .fail))
                                   (
                                    .fail))
                                 (
                                  .br (Decidable.decide (0 ≤ Go.IntKind.i64.wrap (t13 + Go.IntKind.i64.wrap (Go.IntKind.i64.wrap (Go.IntKind.i64.wrap (0 + 1) + 1) + 1)) ∧ Go.IntKind.i64.wrap (t13 + Go.IntKind.i64.wrap (Go.IntKind.i64.wrap (Go.IntKind.i64.wrap (0 + 1) + 1) + 1)) < (@Nat.cast Int _ r0.length)))
                                   (
                                    .get (r0[(Go.IntKind.i64.wrap (t13 + Go.IntKind.i64.wrap (Go.IntKind.i64.wrap (Go.IntKind.i64.wrap (0 + 1) + 1) + 1))).toNat]?) fun vt56 =>
                                    .br (Go.Proofs.Ythgpgnijbajlgaa.pickOk vt56 13)
                                     (
                                      .bind (Go.Proofs.Ythgpgnijbajlgaa.pick vt56 13) fun vn57 =>
                                      .br (Decidable.decide (0 ≤ Go.IntKind.i64.wrap (t13 + Go.IntKind.i64.wrap (Go.IntKind.i64.wrap (Go.IntKind.i64.wrap (0 + 1) + 1) + 1)) ∧ Go.IntKind.i64.wrap (t13 + Go.IntKind.i64.wrap (Go.IntKind.i64.wrap (Go.IntKind.i64.wrap (0 + 1) + 1) + 1)) < (@Nat.cast Int _ r0.length)))
                                       (
                                        .get (r0[(Go.IntKind.i64.wrap (t13 + Go.IntKind.i64.wrap (Go.IntKind.i64.wrap (Go.IntKind.i64.wrap (0 + 1) + 1) + 1))).toNat]?) fun vt58 =>
                                        .br (Int.tmod vt58 29 == 28)
                                         (
                                          .br (Decidable.decide (0 ≤ Go.IntKind.i64.wrap (t13 + Go.IntKind.i64.wrap (Go.IntKind.i64.wrap (Go.IntKind.i64.wrap (0 + 1) + 1) + 1)) ∧ Go.IntKind.i64.wrap (t13 + Go.IntKind.i64.wrap (Go.IntKind.i64.wrap (Go.IntKind.i64.wrap (0 + 1) + 1) + 1)) < (@Nat.cast Int _ r0.length)))
                                           (
                                            .get (r0[(Go.IntKind.i64.wrap (t13 + Go.IntKind.i64.wrap (Go.IntKind.i64.wrap (Go.IntKind.i64.wrap (0 + 1) + 1) + 1))).toNat]?) fun vt59 =>
                                            .br (Go.Proofs.Ythgpgnijbajlgaa.Ev.lenOk (r1 ++ [(Go.IntKind.i64.wrap (vn1 - 6), Go.IntKind.i64.wrap (vn33 - 6), Go.IntKind.i64.wrap (vn49 - 6), vt59)]))
                                             (
                                              .ret (Sum.inl ((Go.IntKind.i64.wrap (t13 + 4), ()), r0, r1 ++ [(Go.IntKind.i64.wrap (vn1 - 6), Go.IntKind.i64.wrap (vn33 - 6), Go.IntKind.i64.wrap (vn49 - 6), vt59)], r2, r3, r4, r5, ())))
                                             (
                                              .fail))
                                           (
                                            .fail))
                                         (
                                          .br (Go.Proofs.Ythgpgnijbajlgaa.Ev.lenOk (r1 ++ [(Go.IntKind.i64.wrap (vn1 - 6), Go.IntKind.i64.wrap (vn33 - 6), Go.IntKind.i64.wrap (vn49 - 6), Go.IntKind.i64.wrap (vn57 - 6))]))
                                           (
                                            .ret (Sum.inl ((Go.IntKind.i64.wrap (t13 + 4), ()), r0, r1 ++ [(Go.IntKind.i64.wrap (vn1 - 6), Go.IntKind.i64.wrap (vn33 - 6), Go.IntKind.i64.wrap (vn49 - 6), Go.IntKind.i64.wrap (vn57 - 6))], r2, r3, r4, r5, ())))
                                           (
                                            .fail)))
                                       (
                                        .fail))
                                     (
                                      .fail))
                                   (
                                    .fail)))
                               (
                                .fail))
                             (
                              .fail))
                           (
                            .fail)))
                       (
                        .fail))
                     (
                      .fail))
                   (
                    .fail)))
               (
                .fail))
             (
              .fail))
           (
            .fail))
         (
          .ret (Sum.inr ((), r1, r3, r4, ()))))
       (
        .ret (Sum.inr ((), r1, r3, r4, ()))) := by kernel_rfl
theorem ok_meniscuslaw20_ParaxTells_6 : LOK Try.prog (LoopR.of (sc 122 [13, 3, 12, 9, 10, 11] (tCod 13 cInt (tSl 3 0 (tSl 12 1 (tOwn 9 2 (tOwn 10 3 (tOwn 11 4 tNil)))))) (rL_int (rG_quad 39 (rBoxSl 5 ccIv ccIv_ok (rBox ccCard ccCard_ok (rBox ccCard ccCard_ok (rG_surf 68 rNil))))))) (ocExit 0 (sc 122 [12, 10, 11] (tSl 12 0 (tOwn 10 1 (tOwn 11 2 tNil))) (rG_quad 39 (rBox ccCard ccCard_ok (rBox ccCard ccCard_ok rNil))))) (runBy qoutStep qoutM)) (loopAt Try.f10 6) := by
  refine loop_ok (EnvOK.add s_meniscushand_Pick (EnvOK.add s_meniscushand_System (EnvOK.add s_parax_Of (EnvOK.add s_meniscuslaw20_known (EnvOK.add s_parax_Matrix (EnvOK.add s_meniscusref20_Parax (EnvOK.add s_meniscusref20_Matrix EnvOK.nil))))))) (LFn.at (fn := Try.f10) LFn.nil 6) qoutStep (n := 200) (fun x z h => ?_) (runBy_ok _ _)
  obtain ⟨⟨t13, ⟨⟩⟩, ⟨r0, r1, r2, r3, r4, r5, ⟨⟩⟩⟩ := x
  rw [tl_meniscuslaw20_ParaxTells_6]
  by_cases g : 0 ≤ t13 ∧ t13 ≤ 1000
  case neg => simp only [qoutStep, if_neg g] at h; cases h
  have a0 : IntKind.i64.wrap (t13 + 0) = t13 := by rw [wr (by omega)]; omega
  have a1 : IntKind.i64.wrap (0 + 1 : Int) = 1 := by decide +kernel
  have a2 : IntKind.i64.wrap (1 + 1 : Int) = 2 := by decide +kernel
  have a3 : IntKind.i64.wrap (2 + 1 : Int) = 3 := by decide +kernel
  have b1 : IntKind.i64.wrap (t13 + 1) = t13 + 1 := wr (by omega)
  have b2 : IntKind.i64.wrap (t13 + 2) = t13 + 2 := wr (by omega)
  have b3 : IntKind.i64.wrap (t13 + 3) = t13 + 3 := wr (by omega)
  have b4 : IntKind.i64.wrap (t13 + 4) = t13 + 4 := wr (by omega)
  have p13 : ∀ n : Int, pickOk n 13 = true := fun _ => by simp [pickOk]
  simp only [a0, a1, a2, a3, b1, b2, b3, b4]
  by_cases c : t13 + 3 < (r0.length : Int) ∧ t13 < 24
  case neg =>
    rw [← h]
    simp only [qoutStep, if_pos g, if_neg c]
    simp only [den_br, den_bind, den_ret, den_fail, den_inl, den_inr, decide_eq_true_eq, gt_iff_lt, ge_iff_le, beq_iff_eq]
    by_cases c1 : t13 + 3 < (r0.length : Int) <;> by_cases c2 : t13 < 24 <;> simp only [c1, c2, if_true, if_false]
    exact absurd ⟨c1, c2⟩ c
  obtain ⟨v0, g0⟩ : ∃ v, r0[t13.toNat]? = some v := ⟨_, List.getElem?_eq_getElem (by omega)⟩
  obtain ⟨v1, g1⟩ : ∃ v, r0[(t13 + 1).toNat]? = some v := ⟨_, List.getElem?_eq_getElem (by omega)⟩
  obtain ⟨v2, g2⟩ : ∃ v, r0[(t13 + 2).toNat]? = some v := ⟨_, List.getElem?_eq_getElem (by omega)⟩
  obtain ⟨v3, g3⟩ : ∃ v, r0[(t13 + 3).toNat]? = some v := ⟨_, List.getElem?_eq_getElem (by omega)⟩
  rw [← h]
  have i0 : (0 ≤ t13 ∧ t13 < (r0.length : Int)) = True := eq_true (by omega)
  have i1 : (0 ≤ t13 + 1 ∧ t13 + 1 < (r0.length : Int)) = True := eq_true (by omega)
  have i2 : (0 ≤ t13 + 2 ∧ t13 + 2 < (r0.length : Int)) = True := eq_true (by omega)
  have i3 : (0 ≤ t13 + 3 ∧ t13 + 3 < (r0.length : Int)) = True := eq_true (by omega)
  have nn : (0 ≤ t13 + 3) = True := eq_true (by omega)
  simp only [nn, and_self, qoutStep, if_pos g, if_pos c, g0, g1, g2, g3, i0, i1, i2, i3, p13, c.1, c.2, decide_true, if_true, den_br, den_bind, den_ret, den_fail, den_get, decide_eq_true_eq, beq_iff_eq, ent]
  by_cases e0 : v0.tmod 29 = 28 <;> by_cases e1 : v1.tmod 29 = 28 <;> by_cases e2 : v2.tmod 29 = 28 <;> by_cases e3 : v3.tmod 29 = 28 <;> simp only [e0, e1, e2, e3, if_true, if_false] <;> rfl
theorem t_meniscuslaw20_ParaxTells (t0 : Int) (r0 : List RawFace) (r1 : List Int) (r2 : List Int) :
    evFn Try.prog (Env.add 22 (F2p cInt cInt cInt pickOk pick) (Env.add 36 (FR (sc 5 [0, 1, 2, 3, 4] (tCod 0 cInt (tSl 1 0 (tSl 2 1 (tCod 3 cInt (tCod 4 cBool tNil))))) (rL_rface (rL_int rNil))) (sc 1 [0] (tAgg 0 0 ccNil ccNil_ok ccIv ccIv_ok tNil) (rG_surf 68 rNil)) ((fun x => mostOk x.1.2.1)) ((fun x => (fun r : SysV => (((), r.1, ()), (r.2, ()))) (systemOf x.1.1 x.2.1 x.2.2.1 x.1.2.1 x.1.2.2.1)))) (Env.add 41 (FS (sc 1 [0] (tAgg 0 0 ccNil ccNil_ok ccIv ccIv_ok tNil) (rL_surf rNil)) cCard ((fun x => lenOk x.2.1)) ((fun x => paraxOf x.1.2.1 x.2.1))) (Env.add 42 (F0 cBool true) (Env.add 47 (FS (sc 1 [0] (tSl 0 0 tNil) (rL_quad rNil)) (cTwo cQuad cBool) ((fun x => lenOk x.2.1)) ((fun x => matOf x.2.1))) (Env.add 48 (FS (sc 1 [0] (tAgg 0 0 ccNil ccNil_ok ccIv ccIv_ok tNil) (rL_surf rNil)) cCard ((fun x => lenOk x.2.1)) ((fun x => paraxOf x.1.2.1 x.2.1))) (Env.add 49 (FS (sc 1 [0] (tSl 0 0 tNil) (rL_quad rNil)) (cTwo cQuad cBool) ((fun x => lenOk x.2.1)) ((fun x => matOf x.2.1))) Env.nil))))))) (Laws.add 6 (LoopR.of (sc 122 [13, 3, 12, 9, 10, 11] (tCod 13 cInt (tSl 3 0 (tSl 12 1 (tOwn 9 2 (tOwn 10 3 (tOwn 11 4 tNil)))))) (rL_int (rG_quad 39 (rBoxSl 5 ccIv ccIv_ok (rBox ccCard ccCard_ok (rBox ccCard ccCard_ok (rG_surf 68 rNil))))))) (ocExit 0 (sc 122 [12, 10, 11] (tSl 12 0 (tOwn 10 1 (tOwn 11 2 tNil))) (rG_quad 39 (rBox ccCard ccCard_ok (rBox ccCard ccCard_ok rNil))))) (runBy qoutStep qoutM)) Laws.nil) 200 Try.f10 (((sc 4 [0, 1, 2, 3] (tCod 0 cInt (tSl 1 0 (tSl 2 1 (tSl 3 2 tNil)))) (rL_rface (rL_int (rL_int rNil)))).enc ((t0, ()), (r0, r1, r2, ()))).tmps.map Prod.snd) ((sc 4 [0, 1, 2, 3] (tCod 0 cInt (tSl 1 0 (tSl 2 1 (tSl 3 2 tNil)))) (rL_rface (rL_int (rL_int rNil)))).enc ((t0, ()), (r0, r1, r2, ()))).mem cBool.dec =
      .br (Go.Proofs.Ythgpgnijbajlgaa.mostOk 8)
       (
        .bind ((((), (Go.Proofs.Ythgpgnijbajlgaa.systemOf t0 r0 r1 8 Bool.false).fst, ()), (Go.Proofs.Ythgpgnijbajlgaa.systemOf t0 r0 r1 8 Bool.false).snd, ())) fun vy0 =>
        .br (Go.Proofs.Ythgpgnijbajlgaa.Ev.lenOk vy0.snd.fst)
         (
          .bind (Go.Proofs.Ythgpgnijbajlgaa.paraxOf vy0.fst.snd.fst vy0.snd.fst) fun vca1 =>
          .br (Go.Proofs.Ythgpgnijbajlgaa.Ev.lenOk vy0.snd.fst)
           (
            .bind (Go.Proofs.Ythgpgnijbajlgaa.paraxOf vy0.fst.snd.fst vy0.snd.fst) fun vca2 =>
            .get (Go.Proofs.Ythgpgnijbajlgaa.runBy Go.Proofs.Ythgpgnijbajlgaa.qoutStep Go.Proofs.Ythgpgnijbajlgaa.qoutM ((0, ()), r2, [], vy0.fst.snd.fst, vca1, vca2, vy0.snd.fst, ())) fun vy3 =>
            .br (Go.Proofs.Ythgpgnijbajlgaa.Ev.lenOk vy3.snd.fst)
             (
              .bind (Go.Proofs.Ythgpgnijbajlgaa.matOf vy3.snd.fst) fun vy4 =>
              .br (Go.Proofs.Ythgpgnijbajlgaa.Ev.lenOk vy3.snd.fst)
               (
                .bind (Go.Proofs.Ythgpgnijbajlgaa.matOf vy3.snd.fst) fun vy5 =>
                .bind (Bool.true) fun vb6 =>
                .br (vb6)
                 (
                  .br (vy3.snd.snd.fst.fst.lo == vy3.snd.snd.snd.fst.fst.lo && (vy3.snd.snd.fst.fst.hi == vy3.snd.snd.snd.fst.fst.hi && vy3.snd.snd.fst.fst.no == vy3.snd.snd.snd.fst.fst.no))
                   (
                    .br (vy3.snd.snd.fst.snd.fst.lo == vy3.snd.snd.snd.fst.snd.fst.lo && (vy3.snd.snd.fst.snd.fst.hi == vy3.snd.snd.snd.fst.snd.fst.hi && vy3.snd.snd.fst.snd.fst.no == vy3.snd.snd.snd.fst.snd.fst.no))
                     (
                      .br (vy3.snd.snd.fst.snd.snd.fst.lo == vy3.snd.snd.snd.fst.snd.snd.fst.lo && (vy3.snd.snd.fst.snd.snd.fst.hi == vy3.snd.snd.snd.fst.snd.snd.fst.hi && vy3.snd.snd.fst.snd.snd.fst.no == vy3.snd.snd.snd.fst.snd.snd.fst.no))
                       (
                        .br (vy3.snd.snd.fst.snd.snd.snd.lo == vy3.snd.snd.snd.fst.snd.snd.snd.lo && (vy3.snd.snd.fst.snd.snd.snd.hi == vy3.snd.snd.snd.fst.snd.snd.snd.hi && vy3.snd.snd.fst.snd.snd.snd.no == vy3.snd.snd.snd.fst.snd.snd.snd.no))
                         (
                          .br (vy4.fst.fst == vy5.fst.fst && (vy4.fst.snd.fst == vy5.fst.snd.fst && (vy4.fst.snd.snd.fst == vy5.fst.snd.snd.fst && (vy4.fst.snd.snd.snd == vy5.fst.snd.snd.snd && Bool.true))))
                           (
                            .ret (vy4.snd == vy5.snd))
                           (
                            .ret (Bool.false)))
                         (
                          .ret (Bool.false)))
                       (
                        .ret (Bool.false)))
                     (
                      .ret (Bool.false)))
                   (
                    .ret (Bool.false)))
                 (
                  .ret (Bool.false)))
               (
                .fail))
             (
              .fail))
           (
            .fail))
         (
          .fail))
       (
        .fail) := by kernel_rfl
theorem c_meniscuslaw20_ParaxTells : PlainS Try.prog 10 (sc 4 [0, 1, 2, 3] (tCod 0 cInt (tSl 1 0 (tSl 2 1 (tSl 3 2 tNil)))) (rL_rface (rL_int (rL_int rNil)))) cBool (fun _ => true) ((fun _ => true)) := by
  intro x h N w vs hM hv
  obtain ⟨⟨t0, ⟨⟩⟩, ⟨r0, r1, r2, ⟨⟩⟩⟩ := x
  refine calls_of_tree (n := 200) (EnvOK.add s_meniscushand_Pick (EnvOK.add s_meniscushand_System (EnvOK.add s_parax_Of (EnvOK.add s_meniscuslaw20_known (EnvOK.add s_parax_Matrix (EnvOK.add s_meniscusref20_Parax (EnvOK.add s_meniscusref20_Matrix EnvOK.nil))))))) Try.func10 hv (Nat.le_of_ble_eq_true (by kernel_rfl)) (LFn.add (fn := Try.f10) (i := 6) (by kernel_rfl) ok_meniscuslaw20_ParaxTells_6 LFn.nil) hM cBool ?_
  rw [t_meniscuslaw20_ParaxTells]
  have hR := systemOf_R t0 r0 r1 false (most := 8) rfl
  have hlo : Ev.lenOk (systemOf t0 r0 r1 8 false).2 = true := lenOk_iff.2 (by have := hR.len; omega)
  obtain ⟨m', hm, hl⟩ := qout_run r2 (systemOf t0 r0 r1 8 false).1 (paraxOf (systemOf t0 r0 r1 8 false).1 (systemOf t0 r0 r1 8 false).2) (paraxOf (systemOf t0 r0 r1 8 false).1 (systemOf t0 r0 r1 8 false).2) (systemOf t0 r0 r1 8 false).2
  have hl' : Ev.lenOk m' = true := lenOk_iff.2 (by omega)
  simp only [show mostOk 8 = true from rfl, hlo, hm, hl', if_true, den_br, den_bind, den_get, den_ret, den_fail, BEq.rfl, Bool.and_self, Bool.and_true]
theorem s_meniscuslaw20_ParaxTells : Ev.Spec Try.prog 10 (FS (sc 4 [0, 1, 2, 3] (tCod 0 cInt (tSl 1 0 (tSl 2 1 (tSl 3 2 tNil)))) (rL_rface (rL_int (rL_int rNil)))) cBool (fun _ => true) ((fun _ => true))) := specS rfl (fun vs w => Try.call10 vs w) c_meniscuslaw20_ParaxTells
end Go.Proofs.Ythgpgnijbajlgaa
