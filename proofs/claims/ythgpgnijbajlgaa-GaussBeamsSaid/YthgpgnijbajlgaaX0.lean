/-
  Contracts of calls, written by a small program of this session out of the evaluator's trees.
-/
import Derived.Test.YthgpgnijbajlgaaCore
import Derived.Test.YthgpgnijbajlgaaCoreLoops
import Derived.Test.YthgpgnijbajlgaaCore2
import Derived.Test.YthgpgnijbajlgaaCore3
import Derived.Test.YthgpgnijbajlgaaCore4
import Derived.Test.YthgpgnijbajlgaaCore5
import Derived.Test.YthgpgnijbajlgaaFloCod
import Derived.Test.YthgpgnijbajlgaaGs
import Derived.Test.YthgpgnijbajlgaaGB
import Derived.Test.YthgpgnijbajlgaaK1
import Derived.Test.YthgpgnijbajlgaaG0
import Derived.Test.YthgpgnijbajlgaaGsL
import Derived.Test.YthgpgnijbajlgaaGsD
import Derived.Test.YthgpgnijbajlgaaGsE
import Derived.Test.YthgpgnijbajlgaaGC
import Derived.Test.YthgpgnijbajlgaaT0
import Derived.Test.YthgpgnijbajlgaaH0
import Derived.Test.YthgpgnijbajlgaaEvCod
import Derived.Test.YthgpgnijbajlgaaEvRet
import Derived.Test.YthgpgnijbajlgaaProg
namespace Go.Proofs.Ythgpgnijbajlgaa
open Go Go.RowKit Ev
set_option maxRecDepth 100000
set_option linter.unusedVariables false
set_option linter.unusedSimpArgs false

/-! meniscuslaw8.GaussBeams -/
theorem tl_meniscuslaw8_GaussBeams_9 (t17 : Int) (r0 : List Int) (r1 : Beam) (r2 : DBeam) (r3 : Beam) :
    ev Try.prog (Env.add 17 (F3p cInt cInt cInt cCx ((fun _ _ b => decide (b = 0))) ((fun x y _ => numC x y))) (Env.add 18 (F0 cBool true) (Env.add 22 (F2p cInt cInt cInt pickOk pick) (Env.add 23 (F2 cBeam cBeam cBool cSame) (Env.add 24 (F1 cDBeam cBool rightD) (Env.add 25 (F2 cBeam cQuad (cTwo cBeam cBool) cCarry) (Env.add 26 (F2 cDBeam cQuad (cTwo cDBeam cBool) carryD) (Env.add 27 (F3p cCx cPair cBool cBool ((fun z _ _ => canon z)) samePz) Env.nil)))))))) Laws.nil 200 none (loopAt Try.f4 9) ((sc 163 [17, 4, 13, 14, 16] (tCod 17 cInt (tSl 4 0 (tOwn 13 1 (tOwn 14 2 (tOwn 16 3 tNil))))) (rL_int (rBox ccBeam ccBeam_ok (rBox ccDBeam ccDBeam_ok (rBox ccBeam ccBeam_ok rNil))))).enc ((t17, ()), (r0, r1, r2, r3, ()))) (backK (sc 163 [17, 4, 13, 14, 16] (tCod 17 cInt (tSl 4 0 (tOwn 13 1 (tOwn 14 2 (tOwn 16 3 tNil))))) (rL_int (rBox ccBeam ccBeam_ok (rBox ccDBeam ccDBeam_ok (rBox ccBeam ccBeam_ok rNil))))) (ocOr (ocExit 0 (sc 163 [] tNil rNil)) (ocRet (sc 163 [12] (tCod 12 cBool tNil) rNil)))) =
      .br (Decidable.decide (Go.IntKind.i64.wrap (t17 + 3) < (@Nat.cast Int _ r0.length)))
       (
        .br (Decidable.decide (t17 < 24))
         (
          .br (Decidable.decide (0 ≤ Go.IntKind.i64.wrap (t17 + 0) ∧ Go.IntKind.i64.wrap (t17 + 0) < (@Nat.cast Int _ r0.length)))
           (
            .get (r0[(Go.IntKind.i64.wrap (t17 + 0)).toNat]?) fun vt0 =>
            .br (Go.Proofs.Ythgpgnijbajlgaa.pickOk vt0 13)
             (
              .bind (Go.Proofs.Ythgpgnijbajlgaa.pick vt0 13) fun vn1 =>
              .br (Decidable.decide (0 ≤ Go.IntKind.i64.wrap (t17 + 0) ∧ Go.IntKind.i64.wrap (t17 + 0) < (@Nat.cast Int _ r0.length)))
               (
                .get (r0[(Go.IntKind.i64.wrap (t17 + 0)).toNat]?) fun vt2 =>
                .br (Int.tmod vt2 23 == 22)
                 (
                  .br (Decidable.decide (0 ≤ Go.IntKind.i64.wrap (t17 + 0) ∧ Go.IntKind.i64.wrap (t17 + 0) < (@Nat.cast Int _ r0.length)))
                   (
                    .get (r0[(Go.IntKind.i64.wrap (t17 + 0)).toNat]?) fun vt3 =>
                    .br (Decidable.decide (0 ≤ Go.IntKind.i64.wrap (t17 + Go.IntKind.i64.wrap (0 + 1)) ∧ Go.IntKind.i64.wrap (t17 + Go.IntKind.i64.wrap (0 + 1)) < (@Nat.cast Int _ r0.length)))
                     (
                      .get (r0[(Go.IntKind.i64.wrap (t17 + Go.IntKind.i64.wrap (0 + 1))).toNat]?) fun vt4 =>
                      .br (Go.Proofs.Ythgpgnijbajlgaa.pickOk vt4 13)
                       (
                        .bind (Go.Proofs.Ythgpgnijbajlgaa.pick vt4 13) fun vn5 =>
                        .br (Decidable.decide (0 ≤ Go.IntKind.i64.wrap (t17 + Go.IntKind.i64.wrap (0 + 1)) ∧ Go.IntKind.i64.wrap (t17 + Go.IntKind.i64.wrap (0 + 1)) < (@Nat.cast Int _ r0.length)))
                         (
                          .get (r0[(Go.IntKind.i64.wrap (t17 + Go.IntKind.i64.wrap (0 + 1))).toNat]?) fun vt6 =>
                          .br (Int.tmod vt6 23 == 22)
                           (
                            .br (Decidable.decide (0 ≤ Go.IntKind.i64.wrap (t17 + Go.IntKind.i64.wrap (0 + 1)) ∧ Go.IntKind.i64.wrap (t17 + Go.IntKind.i64.wrap (0 + 1)) < (@Nat.cast Int _ r0.length)))
                             (
                              .get (r0[(Go.IntKind.i64.wrap (t17 + Go.IntKind.i64.wrap (0 + 1))).toNat]?) fun vt7 =>
                              .br (Decidable.decide (0 ≤ Go.IntKind.i64.wrap (t17 + Go.IntKind.i64.wrap (Go.IntKind.i64.wrap (0 + 1) + 1)) ∧ Go.IntKind.i64.wrap (t17 + Go.IntKind.i64.wrap (Go.IntKind.i64.wrap (0 + 1) + 1)) < (@Nat.cast Int _ r0.length)))
                               (
                                .get (r0[(Go.IntKind.i64.wrap (t17 + Go.IntKind.i64.wrap (Go.IntKind.i64.wrap (0 + 1) + 1))).toNat]?) fun vt8 =>
                                .br (Go.Proofs.Ythgpgnijbajlgaa.pickOk vt8 13)
                                 (
                                  .bind (Go.Proofs.Ythgpgnijbajlgaa.pick vt8 13) fun vn9 =>
                                  .br (Decidable.decide (0 ≤ Go.IntKind.i64.wrap (t17 + Go.IntKind.i64.wrap (Go.IntKind.i64.wrap (0 + 1) + 1)) ∧ Go.IntKind.i64.wrap (t17 + Go.IntKind.i64.wrap (Go.IntKind.i64.wrap (0 + 1) + 1)) < (@Nat.cast Int _ r0.length)))
                                   (
                                    .get (r0[(Go.IntKind.i64.wrap (t17 + Go.IntKind.i64.wrap (Go.IntKind.i64.wrap (0 + 1) + 1))).toNat]?) fun vt10 =>
                                    .br (Int.tmod vt10 23 == 22)
                                     (
                                      .br (Decidable.decide (0 ≤ Go.IntKind.i64.wrap (t17 + Go.IntKind.i64.wrap (Go.IntKind.i64.wrap (0 + 1) + 1)) ∧ Go.IntKind.i64.wrap (t17 + Go.IntKind.i64.wrap (Go.IntKind.i64.wrap (0 + 1) + 1)) < (@Nat.cast Int _ r0.length)))
                                       (
                                        .get (r0[(Go.IntKind.i64.wrap (t17 + Go.IntKind.i64.wrap (Go.IntKind.i64.wrap (0 + 1) + 1))).toNat]?) fun vt11 =>
                                        .br (Decidable.decide (0 ≤ Go.IntKind.i64.wrap (t17 + Go.IntKind.i64.wrap (Go.IntKind.i64.wrap (Go.IntKind.i64.wrap (0 + 1) + 1) + 1)) ∧ Go.IntKind.i64.wrap (t17 + Go.IntKind.i64.wrap (Go.IntKind.i64.wrap (Go.IntKind.i64.wrap (0 + 1) + 1) + 1)) < (@Nat.cast Int _ r0.length)))
                                         (
                                          .get (r0[(Go.IntKind.i64.wrap (t17 + Go.IntKind.i64.wrap (Go.IntKind.i64.wrap (Go.IntKind.i64.wrap (0 + 1) + 1) + 1))).toNat]?) fun vt12 =>
                                          .br (Go.Proofs.Ythgpgnijbajlgaa.pickOk vt12 13)
                                           (
                                            .bind (Go.Proofs.Ythgpgnijbajlgaa.pick vt12 13) fun vn13 =>
                                            .br (Decidable.decide (0 ≤ Go.IntKind.i64.wrap (t17 + Go.IntKind.i64.wrap (Go.IntKind.i64.wrap (Go.IntKind.i64.wrap (0 + 1) + 1) + 1)) ∧ Go.IntKind.i64.wrap (t17 + Go.IntKind.i64.wrap (Go.IntKind.i64.wrap (Go.IntKind.i64.wrap (0 + 1) + 1) + 1)) < (@Nat.cast Int _ r0.length)))
                                             (
                                              .get (r0[(Go.IntKind.i64.wrap (t17 + Go.IntKind.i64.wrap (Go.IntKind.i64.wrap (Go.IntKind.i64.wrap (0 + 1) + 1) + 1))).toNat]?) fun vt14 =>
                                              .br (Int.tmod vt14 23 == 22)
                                               (
                                                .br (Decidable.decide (0 ≤ Go.IntKind.i64.wrap (t17 + Go.IntKind.i64.wrap (Go.IntKind.i64.wrap (Go.IntKind.i64.wrap (0 + 1) + 1) + 1)) ∧ Go.IntKind.i64.wrap (t17 + Go.IntKind.i64.wrap (Go.IntKind.i64.wrap (Go.IntKind.i64.wrap (0 + 1) + 1) + 1)) < (@Nat.cast Int _ r0.length)))
                                                 (
                                                  .get (r0[(Go.IntKind.i64.wrap (t17 + Go.IntKind.i64.wrap (Go.IntKind.i64.wrap (Go.IntKind.i64.wrap (0 + 1) + 1) + 1))).toNat]?) fun vt15 =>
                                                  .bind (Go.Proofs.Ythgpgnijbajlgaa.cCarry r1 (vt3, vt7, vt11, vt15)) fun vy16 =>
                                                  .bind (Go.Proofs.Ythgpgnijbajlgaa.carryD r2 (vt3, vt7, vt11, vt15)) fun vy17 =>
                                                  .br (!vy16.snd == vy17.snd)
                                                   (
                                                    .ret (Sum.inr (Sum.inr ((Bool.false, ()), ()))))
                                                   (
                                                    .br (Go.Proofs.Ythgpgnijbajlgaa.canon vy16.fst.fst)
                                                     (
                                                      .bind (Go.Proofs.Ythgpgnijbajlgaa.samePz vy16.fst.fst vy17.fst.fst Bool.true) fun vb18 =>
                                                      .br (!vb18)
                                                       (
                                                        .ret (Sum.inr (Sum.inr ((Bool.false, ()), ()))))
                                                       (
                                                        .br (Go.Proofs.Ythgpgnijbajlgaa.canon vy16.fst.snd)
                                                         (
                                                          .bind (Go.Proofs.Ythgpgnijbajlgaa.samePz vy16.fst.snd vy17.fst.snd Bool.true) fun vb19 =>
                                                          .br (!vb19)
                                                           (
                                                            .ret (Sum.inr (Sum.inr ((Bool.false, ()), ()))))
                                                           (
                                                            .br (!vy16.snd)
                                                             (
                                                              .ret (Sum.inr (Sum.inr ((Bool.true, ()), ()))))
                                                             (
                                                              .bind (Go.Proofs.Ythgpgnijbajlgaa.cCarry r3 (vt3, vt7, vt11, vt15)) fun vy20 =>
                                                              .br (vy20.snd)
                                                               (
                                                                .bind (Go.Proofs.Ythgpgnijbajlgaa.cSame vy16.fst vy20.fst) fun vb21 =>
                                                                .br (!vb21)
                                                                 (
                                                                  .ret (Sum.inr (Sum.inr ((Bool.false, ()), ()))))
                                                                 (
                                                                  .ret (Sum.inl ((Go.IntKind.i64.wrap (t17 + 4), ()), r0, vy16.fst, vy17.fst, vy16.fst, ()))))
                                                               (
                                                                .ret (Sum.inl ((Go.IntKind.i64.wrap (t17 + 4), ()), r0, vy16.fst, vy17.fst, vy16.fst, ()))))))
                                                         (
                                                          .fail)))
                                                     (
                                                      .fail)))
                                                 (
                                                  .fail))
                                               (
                                                .bind (Go.Proofs.Ythgpgnijbajlgaa.cCarry r1 (vt3, vt7, vt11, Go.IntKind.i64.wrap (vn13 - 6))) fun vy22 =>
                                                .bind (Go.Proofs.Ythgpgnijbajlgaa.carryD r2 (vt3, vt7, vt11, Go.IntKind.i64.wrap (vn13 - 6))) fun vy23 =>
                                                .br (!vy22.snd == vy23.snd)
                                                 (
                                                  .ret (Sum.inr (Sum.inr ((Bool.false, ()), ()))))
                                                 (
                                                  .br (Go.Proofs.Ythgpgnijbajlgaa.canon vy22.fst.fst)
                                                   (
                                                    .bind (Go.Proofs.Ythgpgnijbajlgaa.samePz vy22.fst.fst vy23.fst.fst Bool.true) fun vb24 =>
                                                    .br (!vb24)
                                                     (
                                                      .ret (Sum.inr (Sum.inr ((Bool.false, ()), ()))))
                                                     (
                                                      .br (Go.Proofs.Ythgpgnijbajlgaa.canon vy22.fst.snd)
                                                       (
                                                        .bind (Go.Proofs.Ythgpgnijbajlgaa.samePz vy22.fst.snd vy23.fst.snd Bool.true) fun vb25 =>
                                                        .br (!vb25)
                                                         (
                                                          .ret (Sum.inr (Sum.inr ((Bool.false, ()), ()))))
                                                         (
                                                          .br (!vy22.snd)
                                                           (
                                                            .ret (Sum.inr (Sum.inr ((Bool.true, ()), ()))))
                                                           (
                                                            .bind (Go.Proofs.Ythgpgnijbajlgaa.cCarry r3 (vt3, vt7, vt11, Go.IntKind.i64.wrap (vn13 - 6))) fun vy26 =>
                                                            .br (vy26.snd)
                                                             (
                                                              .bind (Go.Proofs.Ythgpgnijbajlgaa.cSame vy22.fst vy26.fst) fun vb27 =>
                                                              .br (!vb27)
                                                               (
                                                                .ret (Sum.inr (Sum.inr ((Bool.false, ()), ()))))
                                                               (
                                                                .ret (Sum.inl ((Go.IntKind.i64.wrap (t17 + 4), ()), r0, vy22.fst, vy23.fst, vy22.fst, ()))))
                                                             (
                                                              .ret (Sum.inl ((Go.IntKind.i64.wrap (t17 + 4), ()), r0, vy22.fst, vy23.fst, vy22.fst, ()))))))
                                                       (
                                                        .fail)))
                                                   (
                                                    .fail))))
                                             (
                                              .fail))
                                           (
                                            .fail))
                                         (
                                          .fail))
                                       (
                                        .fail))
                                     (
                                      .br (Decidable.decide (0 ≤ Go.IntKind.i64.wrap (t17 + Go.IntKind.i64.wrap (Go.IntKind.i64.wrap (Go.IntKind.i64.wrap (0 + 1) + 1) + 1)) ∧ Go.IntKind.i64.wrap (t17 + Go.IntKind.i64.wrap (Go.IntKind.i64.wrap (Go.IntKind.i64.wrap (0 + 1) + 1) + 1)) < (@Nat.cast Int _ r0.length)))
                                       (
                                        .get (r0[(Go.IntKind.i64.wrap (t17 + Go.IntKind.i64.wrap (Go.IntKind.i64.wrap (Go.IntKind.i64.wrap (0 + 1) + 1) + 1))).toNat]?) fun vt28 =>
                                        .br (Go.Proofs.Ythgpgnijbajlgaa.pickOk vt28 13)
                                         (
                                          .bind (Go.Proofs.Ythgpgnijbajlgaa.pick vt28 13) fun vn29 =>
                                          .br (Decidable.decide (0 ≤ Go.IntKind.i64.wrap (t17 + Go.IntKind.i64.wrap (Go.IntKind.i64.wrap (Go.IntKind.i64.wrap (0 + 1) + 1) + 1)) ∧ Go.IntKind.i64.wrap (t17 + Go.IntKind.i64.wrap (Go.IntKind.i64.wrap (Go.IntKind.i64.wrap (0 + 1) + 1) + 1)) < (@Nat.cast Int _ r0.length)))
                                           (
                                            .get (r0[(Go.IntKind.i64.wrap (t17 + Go.IntKind.i64.wrap (Go.IntKind.i64.wrap (Go.IntKind.i64.wrap (0 + 1) + 1) + 1))).toNat]?) fun vt30 =>
                                            .br (Int.tmod vt30 23 == 22)
                                             (
                                              .br (Decidable.decide (0 ≤ Go.IntKind.i64.wrap (t17 + Go.IntKind.i64.wrap (Go.IntKind.i64.wrap (Go.IntKind.i64.wrap (0 + 1) + 1) + 1)) ∧ Go.IntKind.i64.wrap (t17 + Go.IntKind.i64.wrap (Go.IntKind.i64.wrap (Go.IntKind.i64.wrap (0 + 1) + 1) + 1)) < (@Nat.cast Int _ r0.length)))
                                               (
                                                .get (r0[(Go.IntKind.i64.wrap (t17 + Go.IntKind.i64.wrap (Go.IntKind.i64.wrap (Go.IntKind.i64.wrap (0 + 1) + 1) + 1))).toNat]?) fun vt31 =>
                                                .bind (Go.Proofs.Ythgpgnijbajlgaa.cCarry r1 (vt3, vt7, Go.IntKind.i64.wrap (vn9 - 6), vt31)) fun vy32 =>
                                                .bind (Go.Proofs.Ythgpgnijbajlgaa.carryD r2 (vt3, vt7, Go.IntKind.i64.wrap (vn9 - 6), vt31)) fun vy33 =>
                                                .br (!vy32.snd == vy33.snd)
                                                 (
                                                  .ret (Sum.inr (Sum.inr ((Bool.false, ()), ()))))
                                                 (
                                                  .br (Go.Proofs.Ythgpgnijbajlgaa.canon vy32.fst.fst)
                                                   (
                                                    .bind (Go.Proofs.Ythgpgnijbajlgaa.samePz vy32.fst.fst vy33.fst.fst Bool.true) fun vb34 =>
                                                    .br (!vb34)
                                                     (
                                                      .ret (Sum.inr (Sum.inr ((Bool.false, ()), ()))))
                                                     (
                                                      .br (Go.Proofs.Ythgpgnijbajlgaa.canon vy32.fst.snd)
                                                       (
                                                        .bind (Go.Proofs.Ythgpgnijbajlgaa.samePz vy32.fst.snd vy33.fst.snd Bool.true) fun vb35 =>
                                                        .br (!vb35)
                                                         (
                                                          .ret (Sum.inr (Sum.inr ((Bool.false, ()), ()))))
                                                         (
                                                          .br (!vy32.snd)
                                                           (
                                                            .ret (Sum.inr (Sum.inr ((Bool.true, ()), ()))))
                                                           (
                                                            .bind (Go.Proofs.Ythgpgnijbajlgaa.cCarry r3 (vt3, vt7, Go.IntKind.i64.wrap (vn9 - 6), vt31)) fun vy36 =>
                                                            .br (vy36.snd)
                                                             (
                                                              .bind (Go.Proofs.Ythgpgnijbajlgaa.cSame vy32.fst vy36.fst) fun vb37 =>
                                                              .br (!vb37)
                                                               (
                                                                .ret (Sum.inr (Sum.inr ((Bool.false, ()), ()))))
                                                               (
                                                                .ret (Sum.inl ((Go.IntKind.i64.wrap (t17 + 4), ()), r0, vy32.fst, vy33.fst, vy32.fst, ()))))
                                                             (
                                                              .ret (Sum.inl ((Go.IntKind.i64.wrap (t17 + 4), ()), r0, vy32.fst, vy33.fst, vy32.fst, ()))))))
                                                       (
                                                        .fail)))
                                                   (
                                                    .fail)))
                                               (
                                                .fail))
                                             (
                                              .bind (Go.Proofs.Ythgpgnijbajlgaa.cCarry r1 (vt3, vt7, Go.IntKind.i64.wrap (vn9 - 6), Go.IntKind.i64.wrap (vn29 - 6))) fun vy38 =>
                                              .bind (Go.Proofs.Ythgpgnijbajlgaa.carryD r2 (vt3, vt7, Go.IntKind.i64.wrap (vn9 - 6), Go.IntKind.i64.wrap (vn29 - 6))) fun vy39 =>
                                              .br (!vy38.snd == vy39.snd)
                                               (
                                                .ret (Sum.inr (Sum.inr ((Bool.false, ()), ()))))
                                               (
                                                .br (Go.Proofs.Ythgpgnijbajlgaa.canon vy38.fst.fst)
                                                 (
                                                  .bind (Go.Proofs.Ythgpgnijbajlgaa.samePz vy38.fst.fst vy39.fst.fst Bool.true) fun vb40 =>
                                                  .br (!vb40)
                                                   (
                                                    .ret (Sum.inr (Sum.inr ((Bool.false, ()), ()))))
                                                   (
                                                    .br (Go.Proofs.Ythgpgnijbajlgaa.canon vy38.fst.snd)
                                                     (
                                                      .bind (Go.Proofs.Ythgpgnijbajlgaa.samePz vy38.fst.snd vy39.fst.snd Bool.true) fun vb41 =>
                                                      .br (!vb41)
                                                       (
                                                        .ret (Sum.inr (Sum.inr ((Bool.false, ()), ()))))
                                                       (
                                                        .br (!vy38.snd)
                                                         (
                                                          .ret (Sum.inr (Sum.inr ((Bool.true, ()), ()))))
                                                         (
                                                          .bind (Go.Proofs.Ythgpgnijbajlgaa.cCarry r3 (vt3, vt7, Go.IntKind.i64.wrap (vn9 - 6), Go.IntKind.i64.wrap (vn29 - 6))) fun vy42 =>
                                                          .br (vy42.snd)
                                                           (
                                                            .bind (Go.Proofs.Ythgpgnijbajlgaa.cSame vy38.fst vy42.fst) fun vb43 =>
                                                            .br (!vb43)
                                                             (
                                                              .ret (Sum.inr (Sum.inr ((Bool.false, ()), ()))))
                                                             (
                                                              .ret (Sum.inl ((Go.IntKind.i64.wrap (t17 + 4), ()), r0, vy38.fst, vy39.fst, vy38.fst, ()))))
                                                           (
                                                            .ret (Sum.inl ((Go.IntKind.i64.wrap (t17 + 4), ()), r0, vy38.fst, vy39.fst, vy38.fst, ()))))))
                                                     (
                                                      .fail)))
                                                 (
                                                  .fail))))
                                           (
                                            .fail))
                                         (
                                          .fail))
                                       (
                                        .fail)))
                                   (
                                    .fail))
                                 (
                                  .fail))
                               (
                                .fail))
                             (
                              .fail))
                           (
                            .br (Decidable.decide (0 ≤ Go.IntKind.i64.wrap (t17 + Go.IntKind.i64.wrap (Go.IntKind.i64.wrap (0 + 1) + 1)) ∧ Go.IntKind.i64.wrap (t17 + Go.IntKind.i64.wrap (Go.IntKind.i64.wrap (0 + 1) + 1)) < (@Nat.cast Int _ r0.length)))
                             (
                              .get (r0[(Go.IntKind.i64.wrap (t17 + Go.IntKind.i64.wrap (Go.IntKind.i64.wrap (0 + 1) + 1))).toNat]?) fun vt44 =>
                              .br (Go.Proofs.Ythgpgnijbajlgaa.pickOk vt44 13)
                               (
                                .bind (Go.Proofs.Ythgpgnijbajlgaa.pick vt44 13) fun vn45 =>
                                .br (Decidable.decide (0 ≤ Go.IntKind.i64.wrap (t17 + Go.IntKind.i64.wrap (Go.IntKind.i64.wrap (0 + 1) + 1)) ∧ Go.IntKind.i64.wrap (t17 + Go.IntKind.i64.wrap (Go.IntKind.i64.wrap (0 + 1) + 1)) < (@Nat.cast Int _ r0.length)))
                                 (
                                  .get (r0[(Go.IntKind.i64.wrap (t17 + Go.IntKind.i64.wrap (Go.IntKind.i64.wrap (0 + 1) + 1))).toNat]?) fun vt46 =>
                                  .br (Int.tmod vt46 23 == 22)
                                   (
                                    .br (Decidable.decide (0 ≤ Go.IntKind.i64.wrap (t17 + Go.IntKind.i64.wrap (Go.IntKind.i64.wrap (0 + 1) + 1)) ∧ Go.IntKind.i64.wrap (t17 + Go.IntKind.i64.wrap (Go.IntKind.i64.wrap (0 + 1) + 1)) < (@Nat.cast Int _ r0.length)))
                                     (
                                      .get (r0[(Go.IntKind.i64.wrap (t17 + Go.IntKind.i64.wrap (Go.IntKind.i64.wrap (0 + 1) + 1))).toNat]?) fun vt47 =>
                                      .br (Decidable.decide (0 ≤ Go.IntKind.i64.wrap (t17 + Go.IntKind.i64.wrap (Go.IntKind.i64.wrap (Go.IntKind.i64.wrap (0 + 1) + 1) + 1)) ∧ Go.IntKind.i64.wrap (t17 + Go.IntKind.i64.wrap (Go.IntKind.i64.wrap (Go.IntKind.i64.wrap (0 + 1) + 1) + 1)) < (@Nat.cast Int _ r0.length)))
                                       (
                                        .get (r0[(Go.IntKind.i64.wrap (t17 + Go.IntKind.i64.wrap (Go.IntKind.i64.wrap (Go.IntKind.i64.wrap (0 + 1) + 1) + 1))).toNat]?) fun vt48 =>
                                        .br (Go.Proofs.Ythgpgnijbajlgaa.pickOk vt48 13)
                                         (
                                          .bind (Go.Proofs.Ythgpgnijbajlgaa.pick vt48 13) fun vn49 =>
                                          .br (Decidable.decide (0 ≤ Go.IntKind.i64.wrap (t17 + Go.IntKind.i64.wrap (Go.IntKind.i64.wrap (Go.IntKind.i64.wrap (0 + 1) + 1) + 1)) ∧ Go.IntKind.i64.wrap (t17 + Go.IntKind.i64.wrap (Go.IntKind.i64.wrap (Go.IntKind.i64.wrap (0 + 1) + 1) + 1)) < (@Nat.cast Int _ r0.length)))
                                           (
                                            .get (r0[(Go.IntKind.i64.wrap (t17 + Go.IntKind.i64.wrap (Go.IntKind.i64.wrap (Go.IntKind.i64.wrap (0 + 1) + 1) + 1))).toNat]?) fun vt50 =>
                                            .br (Int.tmod vt50 23 == 22)
                                             (
                                              .br (Decidable.decide (0 ≤ Go.IntKind.i64.wrap (t17 + Go.IntKind.i64.wrap (Go.IntKind.i64.wrap (Go.IntKind.i64.wrap (0 + 1) + 1) + 1)) ∧ Go.IntKind.i64.wrap (t17 + Go.IntKind.i64.wrap (Go.IntKind.i64.wrap (Go.IntKind.i64.wrap (0 + 1) + 1) + 1)) < (@Nat.cast Int _ r0.length)))
                                               (
                                                .get (r0[(Go.IntKind.i64.wrap (t17 + Go.IntKind.i64.wrap (Go.IntKind.i64.wrap (Go.IntKind.i64.wrap (0 + 1) + 1) + 1))).toNat]?) fun vt51 =>
                                                .bind (Go.Proofs.Ythgpgnijbajlgaa.cCarry r1 (vt3, Go.IntKind.i64.wrap (vn5 - 6), vt47, vt51)) fun vy52 =>
                                                .bind (Go.Proofs.Ythgpgnijbajlgaa.carryD r2 (vt3, Go.IntKind.i64.wrap (vn5 - 6), vt47, vt51)) fun vy53 =>
                                                .br (!vy52.snd == vy53.snd)
                                                 (
                                                  .ret (Sum.inr (Sum.inr ((Bool.false, ()), ()))))
                                                 (
                                                  .br (Go.Proofs.Ythgpgnijbajlgaa.canon vy52.fst.fst)
                                                   (
                                                    .bind (Go.Proofs.Ythgpgnijbajlgaa.samePz vy52.fst.fst vy53.fst.fst Bool.true) fun vb54 =>
                                                    .br (!vb54)
                                                     (
                                                      .ret (Sum.inr (Sum.inr ((Bool.false, ()), ()))))
                                                     (
                                                      .br (Go.Proofs.Ythgpgnijbajlgaa.canon vy52.fst.snd)
                                                       (
                                                        .bind (Go.Proofs.Ythgpgnijbajlgaa.samePz vy52.fst.snd vy53.fst.snd Bool.true) fun vb55 =>
                                                        .br (!vb55)
                                                         (
                                                          .ret (Sum.inr (Sum.inr ((Bool.false, ()), ()))))
                                                         (
                                                          .br (!vy52.snd)
                                                           (
                                                            .ret (Sum.inr (Sum.inr ((Bool.true, ()), ()))))
                                                           (
                                                            .bind (Go.Proofs.Ythgpgnijbajlgaa.cCarry r3 (vt3, Go.IntKind.i64.wrap (vn5 - 6), vt47, vt51)) fun vy56 =>
                                                            .br (vy56.snd)
                                                             (
                                                              .bind (Go.Proofs.Ythgpgnijbajlgaa.cSame vy52.fst vy56.fst) fun vb57 =>
                                                              .br (!vb57)
                                                               (
                                                                .ret (Sum.inr (Sum.inr ((Bool.false, ()), ()))))
                                                               (
                                                                .ret (Sum.inl ((Go.IntKind.i64.wrap (t17 + 4), ()), r0, vy52.fst, vy53.fst, vy52.fst, ()))))
                                                             (
                                                              .ret (Sum.inl ((Go.IntKind.i64.wrap (t17 + 4), ()), r0, vy52.fst, vy53.fst, vy52.fst, ()))))))
                                                       (
                                                        .fail)))
                                                   (
                                                    .fail)))
                                               (
                                                .fail))
                                             (
                                              .bind (Go.Proofs.Ythgpgnijbajlgaa.cCarry r1 (vt3, Go.IntKind.i64.wrap (vn5 - 6), vt47, Go.IntKind.i64.wrap (vn49 - 6))) fun vy58 =>
                                              .bind (Go.Proofs.Ythgpgnijbajlgaa.carryD r2 (vt3, Go.IntKind.i64.wrap (vn5 - 6), vt47, Go.IntKind.i64.wrap (vn49 - 6))) fun vy59 =>
                                              .br (!vy58.snd == vy59.snd)
                                               (
                                                .ret (Sum.inr (Sum.inr ((Bool.false, ()), ()))))
                                               (
                                                .br (Go.Proofs.Ythgpgnijbajlgaa.canon vy58.fst.fst)
                                                 (
                                                  .bind (Go.Proofs.Ythgpgnijbajlgaa.samePz vy58.fst.fst vy59.fst.fst Bool.true) fun vb60 =>
                                                  .br (!vb60)
                                                   (
                                                    .ret (Sum.inr (Sum.inr ((Bool.false, ()), ()))))
                                                   (
                                                    .br (Go.Proofs.Ythgpgnijbajlgaa.canon vy58.fst.snd)
                                                     (
                                                      .bind (Go.Proofs.Ythgpgnijbajlgaa.samePz vy58.fst.snd vy59.fst.snd Bool.true) fun vb61 =>
                                                      .br (!vb61)
                                                       (
                                                        .ret (Sum.inr (Sum.inr ((Bool.false, ()), ()))))
                                                       (
                                                        .br (!vy58.snd)
                                                         (
                                                          .ret (Sum.inr (Sum.inr ((Bool.true, ()), ()))))
                                                         (
                                                          .bind (Go.Proofs.Ythgpgnijbajlgaa.cCarry r3 (vt3, Go.IntKind.i64.wrap (vn5 - 6), vt47, Go.IntKind.i64.wrap (vn49 - 6))) fun vy62 =>
                                                          .br (vy62.snd)
                                                           (
                                                            .bind (Go.Proofs.Ythgpgnijbajlgaa.cSame vy58.fst vy62.fst) fun vb63 =>
                                                            .br (!vb63)
                                                             (
                                                              .ret (Sum.inr (Sum.inr ((Bool.false, ()), ()))))
                                                             (
                                                              .ret (Sum.inl ((Go.IntKind.i64.wrap (t17 + 4), ()), r0, vy58.fst, vy59.fst, vy58.fst, ()))))
                                                           (
                                                            .ret (Sum.inl ((Go.IntKind.i64.wrap (t17 + 4), ()), r0, vy58.fst, vy59.fst, vy58.fst, ()))))))
                                                     (
                                                      .fail)))
                                                 (
                                                  .fail))))
                                           (
                                            .fail))
                                         (
                                          .fail))
                                       (
                                        .fail))
                                     (
                                      .fail))
                                   (
                                    .br (Decidable.decide (0 ≤ Go.IntKind.i64.wrap (t17 + Go.IntKind.i64.wrap (Go.IntKind.i64.wrap (Go.IntKind.i64.wrap (0 + 1) + 1) + 1)) ∧ Go.IntKind.i64.wrap (t17 + Go.IntKind.i64.wrap (Go.IntKind.i64.wrap (Go.IntKind.i64.wrap (0 + 1) + 1) + 1)) < (@Nat.cast Int _ r0.length)))
                                     (
                                      .get (r0[(Go.IntKind.i64.wrap (t17 + Go.IntKind.i64.wrap (Go.IntKind.i64.wrap (Go.IntKind.i64.wrap (0 + 1) + 1) + 1))).toNat]?) fun vt64 =>
                                      .br (Go.Proofs.Ythgpgnijbajlgaa.pickOk vt64 13)
                                       (
                                        .bind (Go.Proofs.Ythgpgnijbajlgaa.pick vt64 13) fun vn65 =>
                                        .br (Decidable.decide (0 ≤ Go.IntKind.i64.wrap (t17 + Go.IntKind.i64.wrap (Go.IntKind.i64.wrap (Go.IntKind.i64.wrap (0 + 1) + 1) + 1)) ∧ Go.IntKind.i64.wrap (t17 + Go.IntKind.i64.wrap (Go.IntKind.i64.wrap (Go.IntKind.i64.wrap (0 + 1) + 1) + 1)) < (@Nat.cast Int _ r0.length)))
                                         (
                                          .get (r0[(Go.IntKind.i64.wrap (t17 + Go.IntKind.i64.wrap (Go.IntKind.i64.wrap (Go.IntKind.i64.wrap (0 + 1) + 1) + 1))).toNat]?) fun vt66 =>
                                          .br (Int.tmod vt66 23 == 22)
                                           (
                                            .br (Decidable.decide (0 ≤ Go.IntKind.i64.wrap (t17 + Go.IntKind.i64.wrap (Go.IntKind.i64.wrap (Go.IntKind.i64.wrap (0 + 1) + 1) + 1)) ∧ Go.IntKind.i64.wrap (t17 + Go.IntKind.i64.wrap (Go.IntKind.i64.wrap (Go.IntKind.i64.wrap (0 + 1) + 1) + 1)) < (@Nat.cast Int _ r0.length)))
                                             (
                                              .get (r0[(Go.IntKind.i64.wrap (t17 + Go.IntKind.i64.wrap (Go.IntKind.i64.wrap (Go.IntKind.i64.wrap (0 + 1) + 1) + 1))).toNat]?) fun vt67 =>
                                              .bind (Go.Proofs.Ythgpgnijbajlgaa.cCarry r1 (vt3, Go.IntKind.i64.wrap (vn5 - 6), Go.IntKind.i64.wrap (vn45 - 6), vt67)) fun vy68 =>
                                              .bind (Go.Proofs.Ythgpgnijbajlgaa.carryD r2 (vt3, Go.IntKind.i64.wrap (vn5 - 6), Go.IntKind.i64.wrap (vn45 - 6), vt67)) fun vy69 =>
                                              .br (!vy68.snd == vy69.snd)
                                               (
                                                .ret (Sum.inr (Sum.inr ((Bool.false, ()), ()))))
                                               (
                                                .br (Go.Proofs.Ythgpgnijbajlgaa.canon vy68.fst.fst)
                                                 (
                                                  .bind (Go.Proofs.Ythgpgnijbajlgaa.samePz vy68.fst.fst vy69.fst.fst Bool.true) fun vb70 =>
                                                  .br (!vb70)
                                                   (
                                                    .ret (Sum.inr (Sum.inr ((Bool.false, ()), ()))))
                                                   (
                                                    .br (Go.Proofs.Ythgpgnijbajlgaa.canon vy68.fst.snd)
                                                     (
                                                      .bind (Go.Proofs.Ythgpgnijbajlgaa.samePz vy68.fst.snd vy69.fst.snd Bool.true) fun vb71 =>
                                                      .br (!vb71)
                                                       (
                                                        .ret (Sum.inr (Sum.inr ((Bool.false, ()), ()))))
                                                       (
                                                        .br (!vy68.snd)
                                                         (
                                                          .ret (Sum.inr (Sum.inr ((Bool.true, ()), ()))))
                                                         (
                                                          .bind (Go.Proofs.Ythgpgnijbajlgaa.cCarry r3 (vt3, Go.IntKind.i64.wrap (vn5 - 6), Go.IntKind.i64.wrap (vn45 - 6), vt67)) fun vy72 =>
                                                          .br (vy72.snd)
                                                           (
                                                            .bind (Go.Proofs.Ythgpgnijbajlgaa.cSame vy68.fst vy72.fst) fun vb73 =>
                                                            .br (!vb73)
                                                             (
                                                              .ret (Sum.inr (Sum.inr ((Bool.false, ()), ()))))
                                                             (
                                                              .ret (Sum.inl ((Go.IntKind.i64.wrap (t17 + 4), ()), r0, vy68.fst, vy69.fst, vy68.fst, ()))))
                                                           (
                                                            .ret (Sum.inl ((Go.IntKind.i64.wrap (t17 + 4), ()), r0, vy68.fst, vy69.fst, vy68.fst, ()))))))
                                                     (
                                                      .fail)))
                                                 (
                                                  .fail)))
                                             (
                                              .fail))
                                           (
                                            .bind (Go.Proofs.Ythgpgnijbajlgaa.cCarry r1 (vt3, Go.IntKind.i64.wrap (vn5 - 6), Go.IntKind.i64.wrap (vn45 - 6), Go.IntKind.i64.wrap (vn65 - 6))) fun vy74 =>
                                            .bind (Go.Proofs.Ythgpgnijbajlgaa.carryD r2 (vt3, Go.IntKind.i64.wrap (vn5 - 6), Go.IntKind.i64.wrap (vn45 - 6), Go.IntKind.i64.wrap (vn65 - 6))) fun vy75 =>
                                            .br (!vy74.snd == vy75.snd)
                                             (
                                              .ret (Sum.inr (Sum.inr ((Bool.false, ()), ()))))
                                             (
                                              .br (Go.Proofs.Ythgpgnijbajlgaa.canon vy74.fst.fst)
                                               (
                                                .bind (Go.Proofs.Ythgpgnijbajlgaa.samePz vy74.fst.fst vy75.fst.fst Bool.true) fun vb76 =>
                                                .br (!vb76)
                                                 (
                                                  .ret (Sum.inr (Sum.inr ((Bool.false, ()), ()))))
                                                 (
                                                  .br (Go.Proofs.Ythgpgnijbajlgaa.canon vy74.fst.snd)
                                                   (
                                                    .bind (Go.Proofs.Ythgpgnijbajlgaa.samePz vy74.fst.snd vy75.fst.snd Bool.true) fun vb77 =>
                                                    .br (!vb77)
                                                     (
                                                      .ret (Sum.inr (Sum.inr ((Bool.false, ()), ()))))
                                                     (
                                                      .br (!vy74.snd)
                                                       (
                                                        .ret (Sum.inr (Sum.inr ((Bool.true, ()), ()))))
                                                       (
                                                        .bind (Go.Proofs.Ythgpgnijbajlgaa.cCarry r3 (vt3, Go.IntKind.i64.wrap (vn5 - 6), Go.IntKind.i64.wrap (vn45 - 6), Go.IntKind.i64.wrap (vn65 - 6))) fun vy78 =>
                                                        .br (vy78.snd)
                                                         (
                                                          .bind (Go.Proofs.Ythgpgnijbajlgaa.cSame vy74.fst vy78.fst) fun vb79 =>
                                                          .br (!vb79)
                                                           (
                                                            .ret (Sum.inr (Sum.inr ((Bool.false, ()), ()))))
                                                           (
                                                            .ret (Sum.inl ((Go.IntKind.i64.wrap (t17 + 4), ()), r0, vy74.fst, vy75.fst, vy74.fst, ()))))
                                                         (
                                                          .ret (Sum.inl ((Go.IntKind.i64.wrap (t17 + 4), ()), r0, vy74.fst, vy75.fst, vy74.fst, ()))))))
                                                   (
                                                    .fail)))
                                               (
                                                .fail))))
                                         (
                                          .fail))
                                       (
                                        .fail))
                                     (
                                      .fail)))
                                 (
                                  .fail))
                               (
                                .fail))
                             (
                              .fail)))
                         (
                          .fail))
                       (
                        .fail))
                     (
                      .fail))
                   (
                    .fail))
                 (
                  .br (Decidable.decide (0 ≤ Go.IntKind.i64.wrap (t17 + Go.IntKind.i64.wrap (0 + 1)) ∧ Go.IntKind.i64.wrap (t17 + Go.IntKind.i64.wrap (0 + 1)) < (@Nat.cast Int _ r0.length)))
                   (
                    .get (r0[(Go.IntKind.i64.wrap (t17 + Go.IntKind.i64.wrap (0 + 1))).toNat]?) fun vt80 =>
                    .br (Go.Proofs.Ythgpgnijbajlgaa.pickOk vt80 13)
                     (
                      .bind (Go.Proofs.Ythgpgnijbajlgaa.pick vt80 13) fun vn81 =>
                      .br (Decidable.decide (0 ≤ Go.IntKind.i64.wrap (t17 + Go.IntKind.i64.wrap (0 + 1)) ∧ Go.IntKind.i64.wrap (t17 + Go.IntKind.i64.wrap (0 + 1)) < (@Nat.cast Int _ r0.length)))
                       (
                        .get (r0[(Go.IntKind.i64.wrap (t17 + Go.IntKind.i64.wrap (0 + 1))).toNat]?) fun vt82 =>
                        .br (Int.tmod vt82 23 == 22)
                         (
                          .br (Decidable.decide (0 ≤ Go.IntKind.i64.wrap (t17 + Go.IntKind.i64.wrap (0 + 1)) ∧ Go.IntKind.i64.wrap (t17 + Go.IntKind.i64.wrap (0 + 1)) < (@Nat.cast Int _ r0.length)))
                           (
                            .get (r0[(Go.IntKind.i64.wrap (t17 + Go.IntKind.i64.wrap (0 + 1))).toNat]?) fun vt83 =>
                            .br (Decidable.decide (0 ≤ Go.IntKind.i64.wrap (t17 + Go.IntKind.i64.wrap (Go.IntKind.i64.wrap (0 + 1) + 1)) ∧ Go.IntKind.i64.wrap (t17 + Go.IntKind.i64.wrap (Go.IntKind.i64.wrap (0 + 1) + 1)) < (@Nat.cast Int _ r0.length)))
                             (
                              .get (r0[(Go.IntKind.i64.wrap (t17 + Go.IntKind.i64.wrap (Go.IntKind.i64.wrap (0 + 1) + 1))).toNat]?) fun vt84 =>
                              .br (Go.Proofs.Ythgpgnijbajlgaa.pickOk vt84 13)
                               (
                                .bind (Go.Proofs.Ythgpgnijbajlgaa.pick vt84 13) fun vn85 =>
                                .br (Decidable.decide (0 ≤ Go.IntKind.i64.wrap (t17 + Go.IntKind.i64.wrap (Go.IntKind.i64.wrap (0 + 1) + 1)) ∧ Go.IntKind.i64.wrap (t17 + Go.IntKind.i64.wrap (Go.IntKind.i64.wrap (0 + 1) + 1)) < (@Nat.cast Int _ r0.length)))
                                 (
                                  .get (r0[(Go.IntKind.i64.wrap (t17 + Go.IntKind.i64.wrap (Go.IntKind.i64.wrap (0 + 1) + 1))).toNat]?) fun vt86 =>
                                  .br (Int.tmod vt86 23 == 22)
                                   (
                                    .br (Decidable.decide (0 ≤ Go.IntKind.i64.wrap (t17 + Go.IntKind.i64.wrap (Go.IntKind.i64.wrap (0 + 1) + 1)) ∧ Go.IntKind.i64.wrap (t17 + Go.IntKind.i64.wrap (Go.IntKind.i64.wrap (0 + 1) + 1)) < (@Nat.cast Int _ r0.length)))
                                     (
                                      .get (r0[(Go.IntKind.i64.wrap (t17 + Go.IntKind.i64.wrap (Go.IntKind.i64.wrap (0 + 1) + 1))).toNat]?) fun vt87 =>
                                      .br (Decidable.decide (0 ≤ Go.IntKind.i64.wrap (t17 + Go.IntKind.i64.wrap (Go.IntKind.i64.wrap (Go.IntKind.i64.wrap (0 + 1) + 1) + 1)) ∧ Go.IntKind.i64.wrap (t17 + Go.IntKind.i64.wrap (Go.IntKind.i64.wrap (Go.IntKind.i64.wrap (0 + 1) + 1) + 1)) < (@Nat.cast Int _ r0.length)))
                                       (
                                        .get (r0[(Go.IntKind.i64.wrap (t17 + Go.IntKind.i64.wrap (Go.IntKind.i64.wrap (Go.IntKind.i64.wrap (0 + 1) + 1) + 1))).toNat]?) fun vt88 =>
                                        .br (Go.Proofs.Ythgpgnijbajlgaa.pickOk vt88 13)
                                         (
                                          .bind (Go.Proofs.Ythgpgnijbajlgaa.pick vt88 13) fun vn89 =>
                                          .br (Decidable.decide (0 ≤ Go.IntKind.i64.wrap (t17 + Go.IntKind.i64.wrap (Go.IntKind.i64.wrap (Go.IntKind.i64.wrap (0 + 1) + 1) + 1)) ∧ Go.IntKind.i64.wrap (t17 + Go.IntKind.i64.wrap (Go.IntKind.i64.wrap (Go.IntKind.i64.wrap (0 + 1) + 1) + 1)) < (@Nat.cast Int _ r0.length)))
                                           (
                                            .get (r0[(Go.IntKind.i64.wrap (t17 + Go.IntKind.i64.wrap (Go.IntKind.i64.wrap (Go.IntKind.i64.wrap (0 + 1) + 1) + 1))).toNat]?) fun vt90 =>
                                            .br (Int.tmod vt90 23 == 22)
                                             (
                                              .br (Decidable.decide (0 ≤ Go.IntKind.i64.wrap (t17 + Go.IntKind.i64.wrap (Go.IntKind.i64.wrap (Go.IntKind.i64.wrap (0 + 1) + 1) + 1)) ∧ Go.IntKind.i64.wrap (t17 + Go.IntKind.i64.wrap (Go.IntKind.i64.wrap (Go.IntKind.i64.wrap (0 + 1) + 1) + 1)) < (@Nat.cast Int _ r0.length)))
                                               (
                                                .get (r0[(Go.IntKind.i64.wrap (t17 + Go.IntKind.i64.wrap (Go.IntKind.i64.wrap (Go.IntKind.i64.wrap (0 + 1) + 1) + 1))).toNat]?) fun vt91 =>
                                                .bind (Go.Proofs.Ythgpgnijbajlgaa.cCarry r1 (Go.IntKind.i64.wrap (vn1 - 6), vt83, vt87, vt91)) fun vy92 =>
                                                .bind (Go.Proofs.Ythgpgnijbajlgaa.carryD r2 (Go.IntKind.i64.wrap (vn1 - 6), vt83, vt87, vt91)) fun vy93 =>
                                                .br (!vy92.snd == vy93.snd)
                                                 (
                                                  .ret (Sum.inr (Sum.inr ((Bool.false, ()), ()))))
                                                 (
                                                  .br (Go.Proofs.Ythgpgnijbajlgaa.canon vy92.fst.fst)
                                                   (
                                                    .bind (Go.Proofs.Ythgpgnijbajlgaa.samePz vy92.fst.fst vy93.fst.fst Bool.true) fun vb94 =>
                                                    .br (!vb94)
                                                     (
                                                      .ret (Sum.inr (Sum.inr ((Bool.false, ()), ()))))
                                                     (
                                                      .br (Go.Proofs.Ythgpgnijbajlgaa.canon vy92.fst.snd)
                                                       (
                                                        .bind (Go.Proofs.Ythgpgnijbajlgaa.samePz vy92.fst.snd vy93.fst.snd Bool.true) fun vb95 =>
                                                        .br (!vb95)
                                                         (
                                                          .ret (Sum.inr (Sum.inr ((Bool.false, ()), ()))))
                                                         (
                                                          .br (!vy92.snd)
                                                           (
                                                            .ret (Sum.inr (Sum.inr ((Bool.true, ()), ()))))
                                                           (
                                                            .bind (Go.Proofs.Ythgpgnijbajlgaa.cCarry r3 (Go.IntKind.i64.wrap (vn1 - 6), vt83, vt87, vt91)) fun vy96 =>
                                                            .br (vy96.snd)
                                                             (
                                                              .bind (Go.Proofs.Ythgpgnijbajlgaa.cSame vy92.fst vy96.fst) fun vb97 =>
                                                              .br (!vb97)
                                                               (
                                                                .ret (Sum.inr (Sum.inr ((Bool.false, ()), ()))))
                                                               (
                                                                .ret (Sum.inl ((Go.IntKind.i64.wrap (t17 + 4), ()), r0, vy92.fst, vy93.fst, vy92.fst, ()))))
                                                             (
                                                              .ret (Sum.inl ((Go.IntKind.i64.wrap (t17 + 4), ()), r0, vy92.fst, vy93.fst, vy92.fst, ()))))))
                                                       (
                                                        .fail)))
                                                   (
                                                    .fail)))
                                               (
                                                .fail))
                                             (
                                              .bind (Go.Proofs.Ythgpgnijbajlgaa.cCarry r1 (Go.IntKind.i64.wrap (vn1 - 6), vt83, vt87, Go.IntKind.i64.wrap (vn89 - 6))) fun vy98 =>
                                              .bind (Go.Proofs.Ythgpgnijbajlgaa.carryD r2 (Go.IntKind.i64.wrap (vn1 - 6), vt83, vt87, Go.IntKind.i64.wrap (vn89 - 6))) fun vy99 =>
                                              .br (!vy98.snd == vy99.snd)
                                               (
                                                .ret (Sum.inr (Sum.inr ((Bool.false, ()), ()))))
                                               (
                                                .br (Go.Proofs.Ythgpgnijbajlgaa.canon vy98.fst.fst)
                                                 (
                                                  .bind (Go.Proofs.Ythgpgnijbajlgaa.samePz vy98.fst.fst vy99.fst.fst Bool.true) fun vb100 =>
                                                  .br (!vb100)
                                                   (
                                                    .ret (Sum.inr (Sum.inr ((Bool.false, ()), ()))))
                                                   (
                                                    .br (Go.Proofs.Ythgpgnijbajlgaa.canon vy98.fst.snd)
                                                     (
                                                      .bind (Go.Proofs.Ythgpgnijbajlgaa.samePz vy98.fst.snd vy99.fst.snd Bool.true) fun vb101 =>
                                                      .br (!vb101)
                                                       (
                                                        .ret (Sum.inr (Sum.inr ((Bool.false, ()), ()))))
                                                       (
                                                        .br (!vy98.snd)
                                                         (
                                                          .ret (Sum.inr (Sum.inr ((Bool.true, ()), ()))))
                                                         (
                                                          .bind (Go.Proofs.Ythgpgnijbajlgaa.cCarry r3 (Go.IntKind.i64.wrap (vn1 - 6), vt83, vt87, Go.IntKind.i64.wrap (vn89 - 6))) fun vy102 =>
                                                          .br (vy102.snd)
                                                           (
                                                            .bind (Go.Proofs.Ythgpgnijbajlgaa.cSame vy98.fst vy102.fst) fun vb103 =>
                                                            .br (!vb103)
                                                             (
                                                              .ret (Sum.inr (Sum.inr ((Bool.false, ()), ()))))
                                                             (
                                                              .ret (Sum.inl ((Go.IntKind.i64.wrap (t17 + 4), ()), r0, vy98.fst, vy99.fst, vy98.fst, ()))))
                                                           (
                                                            .ret (Sum.inl ((Go.IntKind.i64.wrap (t17 + 4), ()), r0, vy98.fst, vy99.fst, vy98.fst, ()))))))
                                                     (
                                                      .fail)))
                                                 (
                                                  .fail))))
                                           (
                                            .fail))
                                         (
                                          .fail))
                                       (
                                        .fail))
                                     (
                                      .fail))
                                   (
                                    .br (Decidable.decide (0 ≤ Go.IntKind.i64.wrap (t17 + Go.IntKind.i64.wrap (Go.IntKind.i64.wrap (Go.IntKind.i64.wrap (0 + 1) + 1) + 1)) ∧ Go.IntKind.i64.wrap (t17 + Go.IntKind.i64.wrap (Go.IntKind.i64.wrap (Go.IntKind.i64.wrap (0 + 1) + 1) + 1)) < (@Nat.cast Int _ r0.length)))
                                     (
                                      .get (r0[(Go.IntKind.i64.wrap (t17 + Go.IntKind.i64.wrap (Go.IntKind.i64.wrap (Go.IntKind.i64.wrap (0 + 1) + 1) + 1))).toNat]?) fun vt104 =>
                                      .br (Go.Proofs.Ythgpgnijbajlgaa.pickOk vt104 13)
                                       (
                                        .bind (Go.Proofs.Ythgpgnijbajlgaa.pick vt104 13) fun vn105 =>
                                        .br (Decidable.decide (0 ≤ Go.IntKind.i64.wrap (t17 + Go.IntKind.i64.wrap (Go.IntKind.i64.wrap (Go.IntKind.i64.wrap (0 + 1) + 1) + 1)) ∧ Go.IntKind.i64.wrap (t17 + Go.IntKind.i64.wrap (Go.IntKind.i64.wrap (Go.IntKind.i64.wrap (0 + 1) + 1) + 1)) < (@Nat.cast Int _ r0.length)))
                                         (
                                          .get (r0[(Go.IntKind.i64.wrap (t17 + Go.IntKind.i64.wrap (Go.IntKind.i64.wrap (Go.IntKind.i64.wrap (0 + 1) + 1) + 1))).toNat]?) fun vt106 =>
                                          .br (Int.tmod vt106 23 == 22)
                                           (
                                            .br (Decidable.decide (0 ≤ Go.IntKind.i64.wrap (t17 + Go.IntKind.i64.wrap (Go.IntKind.i64.wrap (Go.IntKind.i64.wrap (0 + 1) + 1) + 1)) ∧ Go.IntKind.i64.wrap (t17 + Go.IntKind.i64.wrap (Go.IntKind.i64.wrap (Go.IntKind.i64.wrap (0 + 1) + 1) + 1)) < (@Nat.cast Int _ r0.length)))
                                             (
                                              .get (r0[(Go.IntKind.i64.wrap (t17 + Go.IntKind.i64.wrap (Go.IntKind.i64.wrap (Go.IntKind.i64.wrap (0 + 1) + 1) + 1))).toNat]?) fun vt107 =>
                                              .bind (Go.Proofs.Ythgpgnijbajlgaa.cCarry r1 (Go.IntKind.i64.wrap (vn1 - 6), vt83, Go.IntKind.i64.wrap (vn85 - 6), vt107)) fun vy108 =>
                                              .bind (Go.Proofs.Ythgpgnijbajlgaa.carryD r2 (Go.IntKind.i64.wrap (vn1 - 6), vt83, Go.IntKind.i64.wrap (vn85 - 6), vt107)) fun vy109 =>
                                              .br (!vy108.snd == vy109.snd)
                                               (
                                                .ret (Sum.inr (Sum.inr ((Bool.false, ()), ()))))
                                               (
                                                .br (Go.Proofs.Ythgpgnijbajlgaa.canon vy108.fst.fst)
                                                 (
                                                  .bind (Go.Proofs.Ythgpgnijbajlgaa.samePz vy108.fst.fst vy109.fst.fst Bool.true) fun vb110 =>
                                                  .br (!vb110)
                                                   (
                                                    .ret (Sum.inr (Sum.inr ((Bool.false, ()), ()))))
                                                   (
                                                    .br (Go.Proofs.Ythgpgnijbajlgaa.canon vy108.fst.snd)
                                                     (
                                                      .bind (Go.Proofs.Ythgpgnijbajlgaa.samePz vy108.fst.snd vy109.fst.snd Bool.true) fun vb111 =>
                                                      .br (!vb111)
                                                       (
                                                        .ret (Sum.inr (Sum.inr ((Bool.false, ()), ()))))
                                                       (
                                                        .br (!vy108.snd)
                                                         (
                                                          .ret (Sum.inr (Sum.inr ((Bool.true, ()), ()))))
                                                         (
                                                          .bind (Go.Proofs.Ythgpgnijbajlgaa.cCarry r3 (Go.IntKind.i64.wrap (vn1 - 6), vt83, Go.IntKind.i64.wrap (vn85 - 6), vt107)) fun vy112 =>
                                                          .br (vy112.snd)
                                                           (
                                                            .bind (Go.Proofs.Ythgpgnijbajlgaa.cSame vy108.fst vy112.fst) fun vb113 =>
                                                            .br (!vb113)
                                                             (
                                                              .ret (Sum.inr (Sum.inr ((Bool.false, ()), ()))))
                                                             (
                                                              .ret (Sum.inl ((Go.IntKind.i64.wrap (t17 + 4), ()), r0, vy108.fst, vy109.fst, vy108.fst, ()))))
                                                           (
                                                            .ret (Sum.inl ((Go.IntKind.i64.wrap (t17 + 4), ()), r0, vy108.fst, vy109.fst, vy108.fst, ()))))))
                                                     (
                                                      .fail)))
                                                 (
                                                  .fail)))
                                             (
                                              .fail))
                                           (
                                            .bind (Go.Proofs.Ythgpgnijbajlgaa.cCarry r1 (Go.IntKind.i64.wrap (vn1 - 6), vt83, Go.IntKind.i64.wrap (vn85 - 6), Go.IntKind.i64.wrap (vn105 - 6))) fun vy114 =>
                                            .bind (Go.Proofs.Ythgpgnijbajlgaa.carryD r2 (Go.IntKind.i64.wrap (vn1 - 6), vt83, Go.IntKind.i64.wrap (vn85 - 6), Go.IntKind.i64.wrap (vn105 - 6))) fun vy115 =>
                                            .br (!vy114.snd == vy115.snd)
                                             (
                                              .ret (Sum.inr (Sum.inr ((Bool.false, ()), ()))))
                                             (
                                              .br (Go.Proofs.Ythgpgnijbajlgaa.canon vy114.fst.fst)
                                               (
                                                .bind (Go.Proofs.Ythgpgnijbajlgaa.samePz vy114.fst.fst vy115.fst.fst Bool.true) fun vb116 =>
                                                .br (!vb116)
                                                 (
                                                  .ret (Sum.inr (Sum.inr ((Bool.false, ()), ()))))
                                                 (
                                                  .br (Go.Proofs.Ythgpgnijbajlgaa.canon vy114.fst.snd)
                                                   (
                                                    .bind (Go.Proofs.Ythgpgnijbajlgaa.samePz vy114.fst.snd vy115.fst.snd Bool.true) fun vb117 =>
                                                    .br (!vb117)
                                                     (
                                                      .ret (Sum.inr (Sum.inr ((Bool.false, ()), ()))))
                                                     (
                                                      .br (!vy114.snd)
                                                       (
                                                        .ret (Sum.inr (Sum.inr ((Bool.true, ()), ()))))
                                                       (
                                                        .bind (Go.Proofs.Ythgpgnijbajlgaa.cCarry r3 (Go.IntKind.i64.wrap (vn1 - 6), vt83, Go.IntKind.i64.wrap (vn85 - 6), Go.IntKind.i64.wrap (vn105 - 6))) fun vy118 =>
                                                        .br (vy118.snd)
                                                         (
                                                          .bind (Go.Proofs.Ythgpgnijbajlgaa.cSame vy114.fst vy118.fst) fun vb119 =>
                                                          .br (!vb119)
                                                           (
                                                            .ret (Sum.inr (Sum.inr ((Bool.false, ()), ()))))
                                                           (
                                                            .ret (Sum.inl ((Go.IntKind.i64.wrap (t17 + 4), ()), r0, vy114.fst, vy115.fst, vy114.fst, ()))))
                                                         (
                                                          .ret (Sum.inl ((Go.IntKind.i64.wrap (t17 + 4), ()), r0, vy114.fst, vy115.fst, vy114.fst, ()))))))
                                                   (
                                                    .fail)))
                                               (
                                                .fail))))
                                         (
                                          .fail))
                                       (
                                        .fail))
                                     (
                                      .fail)))
                                 (
                                  .fail))
                               (
                                .fail))
                             (
                              .fail))
                           (
                            .fail))
                         (
                          .br (Decidable.decide (0 ≤ Go.IntKind.i64.wrap (t17 + Go.IntKind.i64.wrap (Go.IntKind.i64.wrap (0 + 1) + 1)) ∧ Go.IntKind.i64.wrap (t17 + Go.IntKind.i64.wrap (Go.IntKind.i64.wrap (0 + 1) + 1)) < (@Nat.cast Int _ r0.length)))
                           (
                            .get (r0[(Go.IntKind.i64.wrap (t17 + Go.IntKind.i64.wrap (Go.IntKind.i64.wrap (0 + 1) + 1))).toNat]?) fun vt120 =>
                            .br (Go.Proofs.Ythgpgnijbajlgaa.pickOk vt120 13)
                             (
                              .bind (Go.Proofs.Ythgpgnijbajlgaa.pick vt120 13) fun vn121 =>
                              .br (Decidable.decide (0 ≤ Go.IntKind.i64.wrap (t17 + Go.IntKind.i64.wrap (Go.IntKind.i64.wrap (0 + 1) + 1)) ∧ Go.IntKind.i64.wrap (t17 + Go.IntKind.i64.wrap (Go.IntKind.i64.wrap (0 + 1) + 1)) < (@Nat.cast Int _ r0.length)))
                               (
                                .get (r0[(Go.IntKind.i64.wrap (t17 + Go.IntKind.i64.wrap (Go.IntKind.i64.wrap (0 + 1) + 1))).toNat]?) fun vt122 =>
                                .br (Int.tmod vt122 23 == 22)
                                 (
                                  .br (Decidable.decide (0 ≤ Go.IntKind.i64.wrap (t17 + Go.IntKind.i64.wrap (Go.IntKind.i64.wrap (0 + 1) + 1)) ∧ Go.IntKind.i64.wrap (t17 + Go.IntKind.i64.wrap (Go.IntKind.i64.wrap (0 + 1) + 1)) < (@Nat.cast Int _ r0.length)))
                                   (
                                    .get (r0[(Go.IntKind.i64.wrap (t17 + Go.IntKind.i64.wrap (Go.IntKind.i64.wrap (0 + 1) + 1))).toNat]?) fun vt123 =>
                                    .br (Decidable.decide (0 ≤ Go.IntKind.i64.wrap (t17 + Go.IntKind.i64.wrap (Go.IntKind.i64.wrap (Go.IntKind.i64.wrap (0 + 1) + 1) + 1)) ∧ Go.IntKind.i64.wrap (t17 + Go.IntKind.i64.wrap (Go.IntKind.i64.wrap (Go.IntKind.i64.wrap (0 + 1) + 1) + 1)) < (@Nat.cast Int _ r0.length)))
                                     (
                                      .get (r0[(Go.IntKind.i64.wrap (t17 + Go.IntKind.i64.wrap (Go.IntKind.i64.wrap (Go.IntKind.i64.wrap (0 + 1) + 1) + 1))).toNat]?) fun vt124 =>
                                      .br (Go.Proofs.Ythgpgnijbajlgaa.pickOk vt124 13)
                                       (
                                        .bind (Go.Proofs.Ythgpgnijbajlgaa.pick vt124 13) fun vn125 =>
                                        .br (Decidable.decide (0 ≤ Go.IntKind.i64.wrap (t17 + Go.IntKind.i64.wrap (Go.IntKind.i64.wrap (Go.IntKind.i64.wrap (0 + 1) + 1) + 1)) ∧ Go.IntKind.i64.wrap (t17 + Go.IntKind.i64.wrap (Go.IntKind.i64.wrap (Go.IntKind.i64.wrap (0 + 1) + 1) + 1)) < (@Nat.cast Int _ r0.length)))
                                         (
                                          .get (r0[(Go.IntKind.i64.wrap (t17 + Go.IntKind.i64.wrap (Go.IntKind.i64.wrap (Go.IntKind.i64.wrap (0 + 1) + 1) + 1))).toNat]?) fun vt126 =>
                                          .br (Int.tmod vt126 23 == 22)
                                           (
                                            .br (Decidable.decide (0 ≤ Go.IntKind.i64.wrap (t17 + Go.IntKind.i64.wrap (Go.IntKind.i64.wrap (Go.IntKind.i64.wrap (0 + 1) + 1) + 1)) ∧ Go.IntKind.i64.wrap (t17 + Go.IntKind.i64.wrap (Go.IntKind.i64.wrap (Go.IntKind.i64.wrap (0 + 1) + 1) + 1)) < (@Nat.cast Int _ r0.length)))
                                             (
                                              .get (r0[(Go.IntKind.i64.wrap (t17 + Go.IntKind.i64.wrap (Go.IntKind.i64.wrap (Go.IntKind.i64.wrap (0 + 1) + 1) + 1))).toNat]?) fun vt127 =>
                                              .bind (Go.Proofs.Ythgpgnijbajlgaa.cCarry r1 (Go.IntKind.i64.wrap (vn1 - 6), Go.IntKind.i64.wrap (vn81 - 6), vt123, vt127)) fun vy128 =>
                                              .bind (Go.Proofs.Ythgpgnijbajlgaa.carryD r2 (Go.IntKind.i64.wrap (vn1 - 6), Go.IntKind.i64.wrap (vn81 - 6), vt123, vt127)) fun vy129 =>
                                              .br (!vy128.snd == vy129.snd)
                                               (
                                                .ret (Sum.inr (Sum.inr ((Bool.false, ()), ()))))
                                               (
                                                .br (Go.Proofs.Ythgpgnijbajlgaa.canon vy128.fst.fst)
                                                 (
                                                  .bind (Go.Proofs.Ythgpgnijbajlgaa.samePz vy128.fst.fst vy129.fst.fst Bool.true) fun vb130 =>
                                                  .br (!vb130)
                                                   (
                                                    .ret (Sum.inr (Sum.inr ((Bool.false, ()), ()))))
                                                   (
                                                    .br (Go.Proofs.Ythgpgnijbajlgaa.canon vy128.fst.snd)
                                                     (
                                                      .bind (Go.Proofs.Ythgpgnijbajlgaa.samePz vy128.fst.snd vy129.fst.snd Bool.true) fun vb131 =>
                                                      .br (!vb131)
                                                       (
                                                        .ret (Sum.inr (Sum.inr ((Bool.false, ()), ()))))
                                                       (
                                                        .br (!vy128.snd)
                                                         (
                                                          .ret (Sum.inr (Sum.inr ((Bool.true, ()), ()))))
                                                         (
                                                          .bind (Go.Proofs.Ythgpgnijbajlgaa.cCarry r3 (Go.IntKind.i64.wrap (vn1 - 6), Go.IntKind.i64.wrap (vn81 - 6), vt123, vt127)) fun vy132 =>
                                                          .br (vy132.snd)
                                                           (
                                                            .bind (Go.Proofs.Ythgpgnijbajlgaa.cSame vy128.fst vy132.fst) fun vb133 =>
                                                            .br (!vb133)
                                                             (
                                                              .ret (Sum.inr (Sum.inr ((Bool.false, ()), ()))))
                                                             (
                                                              .ret (Sum.inl ((Go.IntKind.i64.wrap (t17 + 4), ()), r0, vy128.fst, vy129.fst, vy128.fst, ()))))
                                                           (
                                                            .ret (Sum.inl ((Go.IntKind.i64.wrap (t17 + 4), ()), r0, vy128.fst, vy129.fst, vy128.fst, ()))))))
                                                     (
                                                      .fail)))
                                                 (
                                                  .fail)))
                                             (
                                              .fail))
                                           (
                                            .bind (Go.Proofs.Ythgpgnijbajlgaa.cCarry r1 (Go.IntKind.i64.wrap (vn1 - 6), Go.IntKind.i64.wrap (vn81 - 6), vt123, Go.IntKind.i64.wrap (vn125 - 6))) fun vy134 =>
                                            .bind (Go.Proofs.Ythgpgnijbajlgaa.carryD r2 (Go.IntKind.i64.wrap (vn1 - 6), Go.IntKind.i64.wrap (vn81 - 6), vt123, Go.IntKind.i64.wrap (vn125 - 6))) fun vy135 =>
                                            .br (!vy134.snd == vy135.snd)
                                             (
                                              .ret (Sum.inr (Sum.inr ((Bool.false, ()), ()))))
                                             (
                                              .br (Go.Proofs.Ythgpgnijbajlgaa.canon vy134.fst.fst)
                                               (
                                                .bind (Go.Proofs.Ythgpgnijbajlgaa.samePz vy134.fst.fst vy135.fst.fst Bool.true) fun vb136 =>
                                                .br (!vb136)
                                                 (
                                                  .ret (Sum.inr (Sum.inr ((Bool.false, ()), ()))))
                                                 (
                                                  .br (Go.Proofs.Ythgpgnijbajlgaa.canon vy134.fst.snd)
                                                   (
                                                    .bind (Go.Proofs.Ythgpgnijbajlgaa.samePz vy134.fst.snd vy135.fst.snd Bool.true) fun vb137 =>
                                                    .br (!vb137)
                                                     (
                                                      .ret (Sum.inr (Sum.inr ((Bool.false, ()), ()))))
                                                     (
                                                      .br (!vy134.snd)
                                                       (
                                                        .ret (Sum.inr (Sum.inr ((Bool.true, ()), ()))))
                                                       (
                                                        .bind (Go.Proofs.Ythgpgnijbajlgaa.cCarry r3 (Go.IntKind.i64.wrap (vn1 - 6), Go.IntKind.i64.wrap (vn81 - 6), vt123, Go.IntKind.i64.wrap (vn125 - 6))) fun vy138 =>
                                                        .br (vy138.snd)
                                                         (
                                                          .bind (Go.Proofs.Ythgpgnijbajlgaa.cSame vy134.fst vy138.fst) fun vb139 =>
                                                          .br (!vb139)
                                                           (
                                                            .ret (Sum.inr (Sum.inr ((Bool.false, ()), ()))))
                                                           (
                                                            .ret (Sum.inl ((Go.IntKind.i64.wrap (t17 + 4), ()), r0, vy134.fst, vy135.fst, vy134.fst, ()))))
                                                         (
                                                          .ret (Sum.inl ((Go.IntKind.i64.wrap (t17 + 4), ()), r0, vy134.fst, vy135.fst, vy134.fst, ()))))))
                                                   (
                                                    .fail)))
                                               (
                                                .fail))))
                                         (
                                          .fail))
                                       (
                                        .fail))
                                     (
                                      .fail))
                                   (
                                    .fail))
                                 (
                                  .br (Decidable.decide (0 ≤ Go.IntKind.i64.wrap (t17 + Go.IntKind.i64.wrap (Go.IntKind.i64.wrap (Go.IntKind.i64.wrap (0 + 1) + 1) + 1)) ∧ Go.IntKind.i64.wrap (t17 + Go.IntKind.i64.wrap (Go.IntKind.i64.wrap (Go.IntKind.i64.wrap (0 + 1) + 1) + 1)) < (@Nat.cast Int _ r0.length)))
                                   (
                                    .get (r0[(Go.IntKind.i64.wrap (t17 + Go.IntKind.i64.wrap (Go.IntKind.i64.wrap (Go.IntKind.i64.wrap (0 + 1) + 1) + 1))).toNat]?) fun vt140 =>
                                    .br (Go.Proofs.Ythgpgnijbajlgaa.pickOk vt140 13)
                                     (
                                      .bind (Go.Proofs.Ythgpgnijbajlgaa.pick vt140 13) fun vn141 =>
                                      .br (Decidable.decide (0 ≤ Go.IntKind.i64.wrap (t17 + Go.IntKind.i64.wrap (Go.IntKind.i64.wrap (Go.IntKind.i64.wrap (0 + 1) + 1) + 1)) ∧ Go.IntKind.i64.wrap (t17 + Go.IntKind.i64.wrap (Go.IntKind.i64.wrap (Go.IntKind.i64.wrap (0 + 1) + 1) + 1)) < (@Nat.cast Int _ r0.length)))
                                       (
                                        .get (r0[(Go.IntKind.i64.wrap (t17 + Go.IntKind.i64.wrap (Go.IntKind.i64.wrap (Go.IntKind.i64.wrap (0 + 1) + 1) + 1))).toNat]?) fun vt142 =>
                                        .br (Int.tmod vt142 23 == 22)
                                         (
                                          .br (Decidable.decide (0 ≤ Go.IntKind.i64.wrap (t17 + Go.IntKind.i64.wrap (Go.IntKind.i64.wrap (Go.IntKind.i64.wrap (0 + 1) + 1) + 1)) ∧ Go.IntKind.i64.wrap (t17 + Go.IntKind.i64.wrap (Go.IntKind.i64.wrap (Go.IntKind.i64.wrap (0 + 1) + 1) + 1)) < (@Nat.cast Int _ r0.length)))
                                           (
                                            .get (r0[(Go.IntKind.i64.wrap (t17 + Go.IntKind.i64.wrap (Go.IntKind.i64.wrap (Go.IntKind.i64.wrap (0 + 1) + 1) + 1))).toNat]?) fun vt143 =>
                                            .bind (Go.Proofs.Ythgpgnijbajlgaa.cCarry r1 (Go.IntKind.i64.wrap (vn1 - 6), Go.IntKind.i64.wrap (vn81 - 6), Go.IntKind.i64.wrap (vn121 - 6), vt143)) fun vy144 =>
                                            .bind (Go.Proofs.Ythgpgnijbajlgaa.carryD r2 (Go.IntKind.i64.wrap (vn1 - 6), Go.IntKind.i64.wrap (vn81 - 6), Go.IntKind.i64.wrap (vn121 - 6), vt143)) fun vy145 =>
                                            .br (!vy144.snd == vy145.snd)
                                             (
                                              .ret (Sum.inr (Sum.inr ((Bool.false, ()), ()))))
                                             (
                                              .br (Go.Proofs.Ythgpgnijbajlgaa.canon vy144.fst.fst)
                                               (
                                                .bind (Go.Proofs.Ythgpgnijbajlgaa.samePz vy144.fst.fst vy145.fst.fst Bool.true) fun vb146 =>
                                                .br (!vb146)
                                                 (
                                                  .ret (Sum.inr (Sum.inr ((Bool.false, ()), ()))))
                                                 (
                                                  .br (Go.Proofs.Ythgpgnijbajlgaa.canon vy144.fst.snd)
                                                   (
                                                    .bind (Go.Proofs.Ythgpgnijbajlgaa.samePz vy144.fst.snd vy145.fst.snd Bool.true) fun vb147 =>
                                                    .br (!vb147)
                                                     (
                                                      .ret (Sum.inr (Sum.inr ((Bool.false, ()), ()))))
                                                     (
                                                      .br (!vy144.snd)
                                                       (
                                                        .ret (Sum.inr (Sum.inr ((Bool.true, ()), ()))))
                                                       (
                                                        .bind (Go.Proofs.Ythgpgnijbajlgaa.cCarry r3 (Go.IntKind.i64.wrap (vn1 - 6), Go.IntKind.i64.wrap (vn81 - 6), Go.IntKind.i64.wrap (vn121 - 6), vt143)) fun vy148 =>
                                                        .br (vy148.snd)
                                                         (
                                                          .bind (Go.Proofs.Ythgpgnijbajlgaa.cSame vy144.fst vy148.fst) fun vb149 =>
                                                          .br (!vb149)
                                                           (
                                                            .ret (Sum.inr (Sum.inr ((Bool.false, ()), ()))))
                                                           (
                                                            .ret (Sum.inl ((Go.IntKind.i64.wrap (t17 + 4), ()), r0, vy144.fst, vy145.fst, vy144.fst, ()))))
                                                         (
                                                          .ret (Sum.inl ((Go.IntKind.i64.wrap (t17 + 4), ()), r0, vy144.fst, vy145.fst, vy144.fst, ()))))))
                                                   (
                                                    .fail)))
                                               (
                                                .fail)))
                                           (
                                            .fail))
                                         (
                                          .bind (Go.Proofs.Ythgpgnijbajlgaa.cCarry r1 (Go.IntKind.i64.wrap (vn1 - 6), Go.IntKind.i64.wrap (vn81 - 6), Go.IntKind.i64.wrap (vn121 - 6), Go.IntKind.i64.wrap (vn141 - 6))) fun vy150 =>
                                          .bind (Go.Proofs.Ythgpgnijbajlgaa.carryD r2 (Go.IntKind.i64.wrap (vn1 - 6), Go.IntKind.i64.wrap (vn81 - 6), Go.IntKind.i64.wrap (vn121 - 6), Go.IntKind.i64.wrap (vn141 - 6))) fun vy151 =>
                                          .br (!vy150.snd == vy151.snd)
                                           (
                                            .ret (Sum.inr (Sum.inr ((Bool.false, ()), ()))))
                                           (
                                            .br (Go.Proofs.Ythgpgnijbajlgaa.canon vy150.fst.fst)
                                             (
                                              .bind (Go.Proofs.Ythgpgnijbajlgaa.samePz vy150.fst.fst vy151.fst.fst Bool.true) fun vb152 =>
                                              .br (!vb152)
                                               (
                                                .ret (Sum.inr (Sum.inr ((Bool.false, ()), ()))))
                                               (
                                                .br (Go.Proofs.Ythgpgnijbajlgaa.canon vy150.fst.snd)
                                                 (
                                                  .bind (Go.Proofs.Ythgpgnijbajlgaa.samePz vy150.fst.snd vy151.fst.snd Bool.true) fun vb153 =>
                                                  .br (!vb153)
                                                   (
                                                    .ret (Sum.inr (Sum.inr ((Bool.false, ()), ()))))
                                                   (
                                                    .br (!vy150.snd)
                                                     (
                                                      .ret (Sum.inr (Sum.inr ((Bool.true, ()), ()))))
                                                     (
                                                      .bind (Go.Proofs.Ythgpgnijbajlgaa.cCarry r3 (Go.IntKind.i64.wrap (vn1 - 6), Go.IntKind.i64.wrap (vn81 - 6), Go.IntKind.i64.wrap (vn121 - 6), Go.IntKind.i64.wrap (vn141 - 6))) fun vy154 =>
                                                      .br (vy154.snd)
                                                       (
                                                        .bind (Go.Proofs.Ythgpgnijbajlgaa.cSame vy150.fst vy154.fst) fun vb155 =>
                                                        .br (!vb155)
                                                         (
                                                          .ret (Sum.inr (Sum.inr ((Bool.false, ()), ()))))
                                                         (
                                                          .ret (Sum.inl ((Go.IntKind.i64.wrap (t17 + 4), ()), r0, vy150.fst, vy151.fst, vy150.fst, ()))))
                                                       (
                                                        .ret (Sum.inl ((Go.IntKind.i64.wrap (t17 + 4), ()), r0, vy150.fst, vy151.fst, vy150.fst, ()))))))
                                                 (
                                                  .fail)))
                                             (
                                              .fail))))
                                       (
                                        .fail))
                                     (
                                      .fail))
                                   (
                                    .fail)))
                               (
                                .fail))
                             (
                              .fail))
                           (
                            .fail)))
                       (
                        .fail))
                     (
                      .fail))
                   (
                    .fail)))
               (
                .fail))
             (
              .fail))
           (
            .fail))
         (
          .ret (Sum.inr (Sum.inl ((), ())))))
       (
        .ret (Sum.inr (Sum.inl ((), ())))) := by kernel_rfl
theorem ok_meniscuslaw8_GaussBeams_9 : LOK Try.prog (LoopR.of (sc 163 [17, 4, 13, 14, 16] (tCod 17 cInt (tSl 4 0 (tOwn 13 1 (tOwn 14 2 (tOwn 16 3 tNil))))) (rL_int (rBox ccBeam ccBeam_ok (rBox ccDBeam ccDBeam_ok (rBox ccBeam ccBeam_ok rNil))))) (ocOr (ocExit 0 (sc 163 [] tNil rNil)) (ocRet (sc 163 [12] (tCod 12 cBool tNil) rNil))) (runBy gbStep gbM)) (loopAt Try.f4 9) := by
  refine loop_ok (EnvOK.add s_meniscuslaw8_number (EnvOK.add s_meniscuslaw8_known (EnvOK.add s_meniscushand_Pick (EnvOK.add s_gauss_Same (EnvOK.add s_meniscusref8_Beam_Right (EnvOK.add s_gauss_Carry (EnvOK.add s_meniscusref8_Beam_Carry (EnvOK.add s_meniscuslaw8_same EnvOK.nil)))))))) (LFn.at (fn := Try.f4) LFn.nil 9) gbStep (n := 200) (fun x z h => ?_) (runBy_ok _ _)
  obtain ⟨⟨t17, ⟨⟩⟩, ⟨r0, r1, r2, r3, ⟨⟩⟩⟩ := x
  rw [tl_meniscuslaw8_GaussBeams_9]
  by_cases g : 0 ≤ t17 ∧ t17 ≤ 1000
  case neg => simp only [gbStep, if_neg g] at h; cases h
  have a0 : IntKind.i64.wrap (t17 + 0) = t17 := by rw [wr (by omega)]; omega
  have a1 : IntKind.i64.wrap (0 + 1 : Int) = 1 := by decide +kernel
  have a2 : IntKind.i64.wrap (1 + 1 : Int) = 2 := by decide +kernel
  have a3 : IntKind.i64.wrap (2 + 1 : Int) = 3 := by decide +kernel
  have b1 : IntKind.i64.wrap (t17 + 1) = t17 + 1 := wr (by omega)
  have b2 : IntKind.i64.wrap (t17 + 2) = t17 + 2 := wr (by omega)
  have b3 : IntKind.i64.wrap (t17 + 3) = t17 + 3 := wr (by omega)
  have p13 : ∀ n : Int, pickOk n 13 = true := fun _ => by simp [pickOk]
  simp only [a0, a1, a2, a3, b1, b2, b3]
  by_cases c : t17 + 3 < (r0.length : Int) ∧ t17 < 24
  case neg =>
    rw [← h]
    simp only [gbStep, if_pos g, if_neg c]
    simp only [den_br, den_bind, den_ret, den_fail, den_inl, den_inr, decide_eq_true_eq, gt_iff_lt, ge_iff_le, beq_iff_eq]
    by_cases c1 : t17 + 3 < (r0.length : Int) <;> by_cases c2 : t17 < 24 <;> simp only [c1, c2, if_true, if_false]
    exact absurd ⟨c1, c2⟩ c
  obtain ⟨v0, g0⟩ : ∃ v, r0[t17.toNat]? = some v := ⟨_, List.getElem?_eq_getElem (by omega)⟩
  obtain ⟨v1, g1⟩ : ∃ v, r0[(t17 + 1).toNat]? = some v := ⟨_, List.getElem?_eq_getElem (by omega)⟩
  obtain ⟨v2, g2⟩ : ∃ v, r0[(t17 + 2).toNat]? = some v := ⟨_, List.getElem?_eq_getElem (by omega)⟩
  obtain ⟨v3, g3⟩ : ∃ v, r0[(t17 + 3).toNat]? = some v := ⟨_, List.getElem?_eq_getElem (by omega)⟩
  rw [← h]
  have i0 : (0 ≤ t17 ∧ t17 < (r0.length : Int)) = True := eq_true (by omega)
  have i1 : (0 ≤ t17 + 1 ∧ t17 + 1 < (r0.length : Int)) = True := eq_true (by omega)
  have i2 : (0 ≤ t17 + 2 ∧ t17 + 2 < (r0.length : Int)) = True := eq_true (by omega)
  have i3 : (0 ≤ t17 + 3 ∧ t17 + 3 < (r0.length : Int)) = True := eq_true (by omega)
  have nn : (0 ≤ t17 + 3) = True := eq_true (by omega)
  simp only [nn, and_self, gbStep, if_pos g, if_pos c, g0, g1, g2, g3, i0, i1, i2, i3, p13, c.1, c.2, decide_true, if_true, den_br, den_bind, den_ret, den_fail, den_get, beq_iff_eq, ent23, gbMid, gbTr]
  by_cases e0 : v0.tmod 23 = 22 <;> by_cases e1 : v1.tmod 23 = 22 <;> by_cases e2 : v2.tmod 23 = 22 <;> by_cases e3 : v3.tmod 23 = 22 <;> simp only [e0, e1, e2, e3, if_true, if_false] <;> rfl
theorem t_meniscuslaw8_GaussBeams (t0 : Int) (t1 : Int) (t2 : Int) (t3 : Int) (t5 : Int) (r0 : List Int) :
    evFn Try.prog (Env.add 17 (F3p cInt cInt cInt cCx ((fun _ _ b => decide (b = 0))) ((fun x y _ => numC x y))) (Env.add 18 (F0 cBool true) (Env.add 22 (F2p cInt cInt cInt pickOk pick) (Env.add 23 (F2 cBeam cBeam cBool cSame) (Env.add 24 (F1 cDBeam cBool rightD) (Env.add 25 (F2 cBeam cQuad (cTwo cBeam cBool) cCarry) (Env.add 26 (F2 cDBeam cQuad (cTwo cDBeam cBool) carryD) (Env.add 27 (F3p cCx cPair cBool cBool ((fun z _ _ => canon z)) samePz) Env.nil)))))))) (Laws.add 9 (LoopR.of (sc 163 [17, 4, 13, 14, 16] (tCod 17 cInt (tSl 4 0 (tOwn 13 1 (tOwn 14 2 (tOwn 16 3 tNil))))) (rL_int (rBox ccBeam ccBeam_ok (rBox ccDBeam ccDBeam_ok (rBox ccBeam ccBeam_ok rNil))))) (ocOr (ocExit 0 (sc 163 [] tNil rNil)) (ocRet (sc 163 [12] (tCod 12 cBool tNil) rNil))) (runBy gbStep gbM)) Laws.nil) 200 Try.f4 (((sc 6 [0, 1, 2, 3, 4, 5] (tCod 0 cInt (tCod 1 cInt (tCod 2 cInt (tCod 3 cInt (tSl 4 0 (tCod 5 cInt tNil)))))) (rL_int rNil)).enc ((t0, t1, t2, t3, t5, ()), (r0, ()))).tmps.map Prod.snd) ((sc 6 [0, 1, 2, 3, 4, 5] (tCod 0 cInt (tCod 1 cInt (tCod 2 cInt (tCod 3 cInt (tSl 4 0 (tCod 5 cInt tNil)))))) (rL_int rNil)).enc ((t0, t1, t2, t3, t5, ()), (r0, ()))).mem cBool.dec =
      .br (Decidable.decide (0 = 0))
       (
        .bind (Go.Proofs.Ythgpgnijbajlgaa.numC t0 t1) fun vcx0 =>
        .br (Decidable.decide (0 = 0))
         (
          .bind (Go.Proofs.Ythgpgnijbajlgaa.numC t2 t3) fun vcx1 =>
          .br (Go.Proofs.Ythgpgnijbajlgaa.pickOk t0 81)
           (
            .bind (Go.Proofs.Ythgpgnijbajlgaa.pick t0 81) fun vn2 =>
            .br (Go.Proofs.Ythgpgnijbajlgaa.pickOk t1 81)
             (
              .bind (Go.Proofs.Ythgpgnijbajlgaa.pick t1 81) fun vn3 =>
              .br (Go.Proofs.Ythgpgnijbajlgaa.pickOk t2 81)
               (
                .bind (Go.Proofs.Ythgpgnijbajlgaa.pick t2 81) fun vn4 =>
                .br (Go.Proofs.Ythgpgnijbajlgaa.pickOk t3 81)
                 (
                  .bind (Go.Proofs.Ythgpgnijbajlgaa.pick t3 81) fun vn5 =>
                  .br (Go.Proofs.Ythgpgnijbajlgaa.pickOk t5 5)
                   (
                    .bind (Go.Proofs.Ythgpgnijbajlgaa.pick t5 5) fun vn6 =>
                    .get (Go.cMulBits vcx0.fst vcx0.snd (Go.Proofs.Ythgpgnijbajlgaa.Ev.fInt (Go.IntKind.i64.wrap (1 + vn6))) 0) fun vy7 =>
                    .get (Go.cMulBits vcx1.fst vcx1.snd (Go.Proofs.Ythgpgnijbajlgaa.Ev.fInt (Go.IntKind.i64.wrap (1 + vn6))) 0) fun vy8 =>
                    .bind (Bool.true) fun vb9 =>
                    .br (!vb9)
                     (
                      .ret (Bool.false))
                     (
                      .bind (Go.Proofs.Ythgpgnijbajlgaa.cSame (vcx0, vcx1) (vy7, vy8)) fun vb10 =>
                      .bind (Go.Proofs.Ythgpgnijbajlgaa.rightD (Go.Proofs.Ythgpgnijbajlgaa.Pair.mk (Go.IntKind.i64.wrap (vn2 - 40)) (Go.IntKind.i64.wrap (vn3 - 40)), Go.Proofs.Ythgpgnijbajlgaa.Pair.mk (Go.IntKind.i64.wrap (vn4 - 40)) (Go.IntKind.i64.wrap (vn5 - 40)))) fun vb11 =>
                      .br (!vb10 == vb11)
                       (
                        .ret (Bool.false))
                       (
                        .get (Go.Proofs.Ythgpgnijbajlgaa.runBy Go.Proofs.Ythgpgnijbajlgaa.gbStep Go.Proofs.Ythgpgnijbajlgaa.gbM ((0, ()), r0, (vcx0, vcx1), (Go.Proofs.Ythgpgnijbajlgaa.Pair.mk (Go.IntKind.i64.wrap (vn2 - 40)) (Go.IntKind.i64.wrap (vn3 - 40)), Go.Proofs.Ythgpgnijbajlgaa.Pair.mk (Go.IntKind.i64.wrap (vn4 - 40)) (Go.IntKind.i64.wrap (vn5 - 40))), (vy7, vy8), ())) fun vy12 =>
                        .sum (vy12)
                         (fun vs13 =>
                          .ret (Bool.true))
                         (fun vs14 =>
                          .ret (vs14.fst.fst)))))
                   (
                    .fail))
                 (
                  .fail))
               (
                .fail))
             (
              .fail))
           (
            .fail))
         (
          .fail))
       (
        .fail) := by kernel_rfl
theorem c_meniscuslaw8_GaussBeams : PlainS Try.prog 4 (sc 6 [0, 1, 2, 3, 4, 5] (tCod 0 cInt (tCod 1 cInt (tCod 2 cInt (tCod 3 cInt (tSl 4 0 (tCod 5 cInt tNil)))))) (rL_int rNil)) cBool (fun _ => true) ((fun _ => true)) := by
  intro x h N w vs hM hv
  obtain ⟨⟨t0, t1, t2, t3, t5, ⟨⟩⟩, ⟨r0, ⟨⟩⟩⟩ := x
  refine calls_of_tree (n := 200) (EnvOK.add s_meniscuslaw8_number (EnvOK.add s_meniscuslaw8_known (EnvOK.add s_meniscushand_Pick (EnvOK.add s_gauss_Same (EnvOK.add s_meniscusref8_Beam_Right (EnvOK.add s_gauss_Carry (EnvOK.add s_meniscusref8_Beam_Carry (EnvOK.add s_meniscuslaw8_same EnvOK.nil)))))))) Try.func4 hv (Nat.le_of_ble_eq_true (by kernel_rfl)) (LFn.add (fn := Try.f4) (i := 9) (by kernel_rfl) ok_meniscuslaw8_GaussBeams_9 LFn.nil) hM cBool ?_
  rw [t_meniscuslaw8_GaussBeams]
  have p81 : ∀ n : Int, pickOk n 81 = true := fun _ => by simp [pickOk]
  have p5 : ∀ n : Int, pickOk n 5 = true := fun _ => by simp [pickOk]
  have c0 := pick_bd t0 (m := 81) (by decide)
  have c1 := pick_bd t1 (m := 81) (by decide)
  have c2 := pick_bd t2 (m := 81) (by decide)
  have c3 := pick_bd t3 (m := 81) (by decide)
  have c5 := pick_bd t5 (m := 5) (by decide)
  have w0 : IntKind.i64.wrap (pick t0 81 - 40) = pick t0 81 - 40 := wr (by omega)
  have w1 : IntKind.i64.wrap (pick t1 81 - 40) = pick t1 81 - 40 := wr (by omega)
  have w2 : IntKind.i64.wrap (pick t2 81 - 40) = pick t2 81 - 40 := wr (by omega)
  have w3 : IntKind.i64.wrap (pick t3 81 - 40) = pick t3 81 - 40 := wr (by omega)
  have w5 : IntKind.i64.wrap (1 + pick t5 5) = 1 + pick t5 5 := wr (by omega)
  obtain ⟨s, es⟩ : ∃ s, 1 + pick t5 5 = s := ⟨_, rfl⟩
  have hs : 1 ≤ s ∧ s ≤ 5 := by omega
  have ws : IntKind.i64.wrap s = s := wr (by omega)
  have sP1 := numP_small t0 t1
  have sP2 := numP_small t2 t3
  have hP : bsmall (numP t0 t1, numP t2 t3) 1048576 := ⟨small_mono sP1 (by decide), small_mono sP2 (by decide)⟩
  have fs : CI (Ev.fInt s, 0) ⟨s, 0⟩ := ⟨FI_int (by show s.natAbs < _; omega), FI_zero⟩
  have ss : Pair.small ⟨s, 0⟩ 5 := ⟨by simp only; omega, by simp only; omega⟩
  obtain ⟨u, eu, fu⟩ := cMul_CI (numC_CI t0 t1) fs sP1 ss (by decide)
  obtain ⟨v, ev, fv⟩ := cMul_CI (numC_CI t2 t3) fs sP2 ss (by decide)
  have em : ∀ p : Pair, p.mul ⟨s, 0⟩ = timesP s p := fun p => by
    simp only [Pair.mul, timesP, Pair.mk.injEq]
    constructor <;> grind
  rw [em] at fu fv
  have ha : Along (numP t0 t1, numP t2 t3) (u, v) s := ⟨fu, fv⟩
  have st : ∀ p : Pair, p.small 40 → (timesP s p).small 1048576 := fun p hp => by
    have := mul_small hp ss (C := 1048576) (by decide) (by decide)
    rwa [em] at this
  have hc := sameCI (a := (numC t0 t1, numC t2 t3)) (b := (u, v)) (numC_CI t0 t1) (numC_CI t2 t3) fu fv hP ⟨st _ sP1, st _ sP2⟩
  have hx : (numP t0 t1).mul (timesP s (numP t2 t3)) = (numP t2 t3).mul (timesP s (numP t0 t1)) := mul_along s _ _
  have hzz : decide ((timesP s (numP t0 t1), timesP s (numP t2 t3)) ≠ zeroP) = decide ((numP t0 t1, numP t2 t3) ≠ zeroP) := by
    apply decide_eq_decide.2
    have k : ∀ x : Int, s * x = 0 ↔ x = 0 := fun x => ⟨fun h => (Int.mul_eq_zero.1 h).resolve_left (by omega), fun h => by rw [h, Int.mul_zero]⟩
    simp only [zeroP, timesP, ne_eq, Prod.mk.injEq, Pair.mk.injEq, k]
    exact Iff.of_eq (by cases numP t0 t1; cases numP t2 t3; simp)
  rw [decide_eq_true hx, hzz, Bool.and_true, Bool.and_self] at hc
  have hrd : rightD (numP t0 t1, numP t2 t3) = decide ((numP t0 t1, numP t2 t3) ≠ zeroP) := by rw [rightD_eq]; simp only [hP, true_and]
  have hcr : cSame (numC t0 t1, numC t2 t3) (u, v) = rightD (numP t0 t1, numP t2 t3) := hc.trans hrd.symm
  have eN : ((⟨pick t0 81 - 40, pick t1 81 - 40⟩, ⟨pick t2 81 - 40, pick t3 81 - 40⟩) : DBeam) = (numP t0 t1, numP t2 t3) := rfl
  simp only [den_br, den_bind, den_get, p81, p5, w0, w1, w2, w3, w5, es, ws, eu, ev, decide_true, if_true, eN, hcr, BEq.rfl, Bool.not_true, Bool.false_eq_true, if_false]
  rcases gb_run r0 hP ha with hr | hr
  · have hr' : runBy gbStep gbM ((0, ()), (r0, (numC t0 t1, numC t2 t3), (numP t0 t1, numP t2 t3), (u, v), ())) = some (.inl ((), ())) := hr
    simp only [hr', den_get, den_inl, den_ret]
  · have hr' : runBy gbStep gbM ((0, ()), (r0, (numC t0 t1, numC t2 t3), (numP t0 t1, numP t2 t3), (u, v), ())) = some (.inr ((true, ()), ())) := hr
    simp only [hr', den_get, den_inr, den_ret]
theorem s_meniscuslaw8_GaussBeams : Ev.Spec Try.prog 4 (FS (sc 6 [0, 1, 2, 3, 4, 5] (tCod 0 cInt (tCod 1 cInt (tCod 2 cInt (tCod 3 cInt (tSl 4 0 (tCod 5 cInt tNil)))))) (rL_int rNil)) cBool (fun _ => true) ((fun _ => true))) := specS rfl (fun vs w => Try.call4 vs w) c_meniscuslaw8_GaussBeams
end Go.Proofs.Ythgpgnijbajlgaa
