/-
  Contracts of calls, written by a small program of this session out of the evaluator's trees.
-/
import Derived.Test.YthgpgnijbajlgaaCore
import Derived.Test.YthgpgnijbajlgaaCoreLoops
import Derived.Test.YthgpgnijbajlgaaCore2
import Derived.Test.YthgpgnijbajlgaaCore3
import Derived.Test.YthgpgnijbajlgaaCore4
import Derived.Test.YthgpgnijbajlgaaCore5
import Derived.Test.YthgpgnijbajlgaaCore6
import Derived.Test.YthgpgnijbajlgaaCore7
import Derived.Test.YthgpgnijbajlgaaCore8
import Derived.Test.YthgpgnijbajlgaaCore9
import Derived.Test.YthgpgnijbajlgaaEvMore
import Derived.Test.YthgpgnijbajlgaaFloCod
import Derived.Test.YthgpgnijbajlgaaMat
import Derived.Test.YthgpgnijbajlgaaP0
import Derived.Test.YthgpgnijbajlgaaG0
import Derived.Test.YthgpgnijbajlgaaPB
import Derived.Test.YthgpgnijbajlgaaJ0
import Derived.Test.YthgpgnijbajlgaaEvCod
import Derived.Test.YthgpgnijbajlgaaEvRet
import Derived.Test.YthgpgnijbajlgaaProg
namespace Go.Proofs.Ythgpgnijbajlgaa
open Go Go.RowKit Ev
set_option maxRecDepth 100000
set_option linter.unusedVariables false
set_option linter.unusedSimpArgs false

/-! meniscuslaw20.ParaxBeams -/
theorem tl_meniscuslaw20_ParaxBeams_4 (t15 : Int) (t5 : Int) (r0 : List Int) (r1 : List Quad) (r2 : Beam) :
    ev Try.prog (Env.add 22 (F2p cInt cInt cInt pickOk pick) (Env.add 25 (F2 cBeam cQuad (cTwo cBeam cBool) cCarry) (Env.add 42 (F0 cBool true) (Env.add 47 (FS (sc 1 [0] (tSl 0 0 tNil) (rL_quad rNil)) (cTwo cQuad cBool) ((fun x => lenOk x.2.1)) ((fun x => matOf x.2.1))) Env.nil)))) Laws.nil 200 none (loopAt Try.f16 4) ((sc 170 [15, 4, 14, 5, 13] (tCod 15 cInt (tSl 4 0 (tSl 14 1 (tCod 5 cInt (tOwn 13 2 tNil))))) (rL_int (rG_quad 39 (rBox ccBeam ccBeam_ok rNil)))).enc ((t15, t5, ()), (r0, r1, r2, ()))) (backK (sc 170 [15, 4, 14, 5, 13] (tCod 15 cInt (tSl 4 0 (tSl 14 1 (tCod 5 cInt (tOwn 13 2 tNil))))) (rL_int (rG_quad 39 (rBox ccBeam ccBeam_ok rNil)))) (ocExit 0 (sc 170 [5, 14, 13] (tCod 5 cInt (tSl 14 0 (tOwn 13 1 tNil))) (rG_quad 39 (rBox ccBeam ccBeam_ok rNil))))) =
      .br (Decidable.decide (Go.IntKind.i64.wrap (t15 + 3) < (@Nat.cast Int _ r0.length)))
       (
        .br (Decidable.decide (t15 < 20))
         (
          .br (Decidable.decide (0 ≤ t15 ∧ t15 < (@Nat.cast Int _ r0.length)))
           (
            .get (r0[t15.toNat]?) fun vt0 =>
            .br (Go.Proofs.Ythgpgnijbajlgaa.pickOk vt0 7)
             (
              .bind (Go.Proofs.Ythgpgnijbajlgaa.pick vt0 7) fun vn1 =>
              .br (Decidable.decide (0 ≤ Go.IntKind.i64.wrap (t15 + 1) ∧ Go.IntKind.i64.wrap (t15 + 1) < (@Nat.cast Int _ r0.length)))
               (
                .get (r0[(Go.IntKind.i64.wrap (t15 + 1)).toNat]?) fun vt2 =>
                .br (Go.Proofs.Ythgpgnijbajlgaa.pickOk vt2 7)
                 (
                  .bind (Go.Proofs.Ythgpgnijbajlgaa.pick vt2 7) fun vn3 =>
                  .br (Decidable.decide (0 ≤ Go.IntKind.i64.wrap (t15 + 2) ∧ Go.IntKind.i64.wrap (t15 + 2) < (@Nat.cast Int _ r0.length)))
                   (
                    .get (r0[(Go.IntKind.i64.wrap (t15 + 2)).toNat]?) fun vt4 =>
                    .br (Go.Proofs.Ythgpgnijbajlgaa.pickOk vt4 7)
                     (
                      .bind (Go.Proofs.Ythgpgnijbajlgaa.pick vt4 7) fun vn5 =>
                      .br (Decidable.decide (0 ≤ Go.IntKind.i64.wrap (t15 + 3) ∧ Go.IntKind.i64.wrap (t15 + 3) < (@Nat.cast Int _ r0.length)))
                       (
                        .get (r0[(Go.IntKind.i64.wrap (t15 + 3)).toNat]?) fun vt6 =>
                        .br (Go.Proofs.Ythgpgnijbajlgaa.pickOk vt6 7)
                         (
                          .bind (Go.Proofs.Ythgpgnijbajlgaa.pick vt6 7) fun vn7 =>
                          .br (Go.Proofs.Ythgpgnijbajlgaa.Ev.lenOk (r1 ++ [(Go.IntKind.i64.wrap (vn1 - 3), Go.IntKind.i64.wrap (vn3 - 3), Go.IntKind.i64.wrap (vn5 - 3), Go.IntKind.i64.wrap (vn7 - 3))]))
                           (
                            .ret (Sum.inl ((Go.IntKind.i64.wrap (t15 + 4), t5, ()), r0, r1 ++ [(Go.IntKind.i64.wrap (vn1 - 3), Go.IntKind.i64.wrap (vn3 - 3), Go.IntKind.i64.wrap (vn5 - 3), Go.IntKind.i64.wrap (vn7 - 3))], r2, ())))
                           (
                            .fail))
                         (
                          .fail))
                       (
                        .fail))
                     (
                      .fail))
                   (
                    .fail))
                 (
                  .fail))
               (
                .fail))
             (
              .fail))
           (
            .fail))
         (
          .ret (Sum.inr ((t5, ()), r1, r2, ()))))
       (
        .ret (Sum.inr ((t5, ()), r1, r2, ()))) := by kernel_rfl
theorem ok_meniscuslaw20_ParaxBeams_4 : LOK Try.prog (LoopR.of (sc 170 [15, 4, 14, 5, 13] (tCod 15 cInt (tSl 4 0 (tSl 14 1 (tCod 5 cInt (tOwn 13 2 tNil))))) (rL_int (rG_quad 39 (rBox ccBeam ccBeam_ok rNil)))) (ocExit 0 (sc 170 [5, 14, 13] (tCod 5 cInt (tSl 14 0 (tOwn 13 1 tNil))) (rG_quad 39 (rBox ccBeam ccBeam_ok rNil)))) (runBy rbStep rbM)) (loopAt Try.f16 4) := by
  refine loop_ok (EnvOK.add s_meniscushand_Pick (EnvOK.add s_gauss_Carry (EnvOK.add s_meniscuslaw20_known (EnvOK.add s_parax_Matrix EnvOK.nil)))) (LFn.at (fn := Try.f16) LFn.nil 4) rbStep (n := 200) (fun x z h => ?_) (runBy_ok _ _)
  obtain ⟨⟨t15, t5, ⟨⟩⟩, ⟨r0, r1, r2, ⟨⟩⟩⟩ := x
  rw [tl_meniscuslaw20_ParaxBeams_4]
  by_cases g : 0 ≤ t15 ∧ t15 ≤ 1000
  case neg => simp only [rbStep, if_neg g] at h; cases h
  have b1 : IntKind.i64.wrap (t15 + 1) = t15 + 1 := wr (by omega)
  have b2 : IntKind.i64.wrap (t15 + 2) = t15 + 2 := wr (by omega)
  have b3 : IntKind.i64.wrap (t15 + 3) = t15 + 3 := wr (by omega)
  have b4 : IntKind.i64.wrap (t15 + 4) = t15 + 4 := wr (by omega)
  have p7 : ∀ n : Int, pickOk n 7 = true := fun _ => by simp [pickOk]
  simp only [b1, b2, b3, b4]
  by_cases c : t15 + 3 < (r0.length : Int) ∧ t15 < 20
  case neg =>
    rw [← h]
    simp only [rbStep, if_pos g, if_neg c]
    simp only [den_br, den_bind, den_ret, den_fail, den_inl, den_inr, decide_eq_true_eq, gt_iff_lt, ge_iff_le, beq_iff_eq]
    by_cases c1 : t15 + 3 < (r0.length : Int) <;> by_cases c2 : t15 < 20 <;> simp only [c1, c2, if_true, if_false]
    exact absurd ⟨c1, c2⟩ c
  obtain ⟨v0, g0⟩ : ∃ v, r0[t15.toNat]? = some v := ⟨_, List.getElem?_eq_getElem (by omega)⟩
  obtain ⟨v1, g1⟩ : ∃ v, r0[(t15 + 1).toNat]? = some v := ⟨_, List.getElem?_eq_getElem (by omega)⟩
  obtain ⟨v2, g2⟩ : ∃ v, r0[(t15 + 2).toNat]? = some v := ⟨_, List.getElem?_eq_getElem (by omega)⟩
  obtain ⟨v3, g3⟩ : ∃ v, r0[(t15 + 3).toNat]? = some v := ⟨_, List.getElem?_eq_getElem (by omega)⟩
  rw [← h]
  have i0 : (0 ≤ t15 ∧ t15 < (r0.length : Int)) = True := eq_true (by omega)
  have i1 : (0 ≤ t15 + 1 ∧ t15 + 1 < (r0.length : Int)) = True := eq_true (by omega)
  have i2 : (0 ≤ t15 + 2 ∧ t15 + 2 < (r0.length : Int)) = True := eq_true (by omega)
  have i3 : (0 ≤ t15 + 3 ∧ t15 + 3 < (r0.length : Int)) = True := eq_true (by omega)
  have nn : (0 ≤ t15 + 3) = True := eq_true (by omega)
  simp only [nn, and_self, rbStep, if_pos g, if_pos c, g0, g1, g2, g3, i0, i1, i2, i3, p7, c.1, c.2, decide_true, if_true, den_br, den_bind, den_ret, den_fail, den_get, decide_eq_true_eq, beq_iff_eq, ent3]
  try rfl
theorem tl_meniscuslaw20_ParaxBeams_13 (t113 : Int) (t112 : Int) (t19 : Bool) (t5 : Int) (r0 : List Quad) (r1 : Quad) (r2 : Beam) (r3 : Beam) :
    ev Try.prog (Env.add 22 (F2p cInt cInt cInt pickOk pick) (Env.add 25 (F2 cBeam cQuad (cTwo cBeam cBool) cCarry) (Env.add 42 (F0 cBool true) (Env.add 47 (FS (sc 1 [0] (tSl 0 0 tNil) (rL_quad rNil)) (cTwo cQuad cBool) ((fun x => lenOk x.2.1)) ((fun x => matOf x.2.1))) Env.nil)))) (Laws.add 4 (LoopR.of (sc 170 [15, 4, 14, 5, 13] (tCod 15 cInt (tSl 4 0 (tSl 14 1 (tCod 5 cInt (tOwn 13 2 tNil))))) (rL_int (rG_quad 39 (rBox ccBeam ccBeam_ok rNil)))) (ocExit 0 (sc 170 [5, 14, 13] (tCod 5 cInt (tSl 14 0 (tOwn 13 1 tNil))) (rG_quad 39 (rBox ccBeam ccBeam_ok rNil)))) (runBy rbStep rbM)) Laws.nil) 200 none (loopAt Try.f16 13) ((sc 170 [113, 112, 19, 5, 111, 14, 16, 18, 20] (tCod 113 cInt (tCod 112 cInt (tCod 19 cBool (tCod 5 cInt (tSl 111 0 (tSl 14 0 (tOwn 16 1 (tOwn 18 2 (tOwn 20 3 tNil))))))))) (rG_quad 39 (rBox ccQuad ccQuad_ok (rBox ccBeam ccBeam_ok (rBox ccBeam ccBeam_ok rNil))))).enc ((t113, t112, t19, t5, ()), (r0, r1, r2, r3, ()))) (backK (sc 170 [113, 112, 19, 5, 111, 14, 16, 18, 20] (tCod 113 cInt (tCod 112 cInt (tCod 19 cBool (tCod 5 cInt (tSl 111 0 (tSl 14 0 (tOwn 16 1 (tOwn 18 2 (tOwn 20 3 tNil))))))))) (rG_quad 39 (rBox ccQuad ccQuad_ok (rBox ccBeam ccBeam_ok (rBox ccBeam ccBeam_ok rNil))))) (ocOr (ocExit 2 (sc 170 [19, 5, 14, 16, 18, 20] (tCod 19 cBool (tCod 5 cInt (tSl 14 0 (tOwn 16 1 (tOwn 18 2 (tOwn 20 3 tNil)))))) (rG_quad 39 (rBox ccQuad ccQuad_ok (rBox ccBeam ccBeam_ok (rBox ccBeam ccBeam_ok rNil)))))) (ocRet (sc 170 [12] (tCod 12 cBool tNil) rNil)))) =
      .br (Decidable.decide (t113 < t112))
       (
        .br (Decidable.decide (0 ≤ t113 ∧ t113 < (@Nat.cast Int _ r0.length)))
         (
          .get (r0[t113.toNat]?) fun vt0 =>
          .bind (Go.Proofs.Ythgpgnijbajlgaa.cCarry r3 vt0) fun vy1 =>
          .br (!vy1.snd)
           (
            .ret (Sum.inr (Sum.inr ((!t19, ()), ()))))
           (
            .ret (Sum.inl ((Go.IntKind.i64.wrap (t113 + 1), t112, t19, t5, ()), r0, r1, r2, vy1.fst, ()))))
         (
          .fail))
       (
        .ret (Sum.inr (Sum.inl ((t19, t5, ()), r0, r1, r2, r3, ())))) := by kernel_rfl
theorem ok_meniscuslaw20_ParaxBeams_13 : LOK Try.prog (LoopR.of (sc 170 [113, 112, 19, 5, 111, 14, 16, 18, 20] (tCod 113 cInt (tCod 112 cInt (tCod 19 cBool (tCod 5 cInt (tSl 111 0 (tSl 14 0 (tOwn 16 1 (tOwn 18 2 (tOwn 20 3 tNil))))))))) (rG_quad 39 (rBox ccQuad ccQuad_ok (rBox ccBeam ccBeam_ok (rBox ccBeam ccBeam_ok rNil))))) (ocOr (ocExit 2 (sc 170 [19, 5, 14, 16, 18, 20] (tCod 19 cBool (tCod 5 cInt (tSl 14 0 (tOwn 16 1 (tOwn 18 2 (tOwn 20 3 tNil)))))) (rG_quad 39 (rBox ccQuad ccQuad_ok (rBox ccBeam ccBeam_ok (rBox ccBeam ccBeam_ok rNil)))))) (ocRet (sc 170 [12] (tCod 12 cBool tNil) rNil))) (runBy beamStep beamM)) (loopAt Try.f16 13) := by
  refine loop_ok (EnvOK.add s_meniscushand_Pick (EnvOK.add s_gauss_Carry (EnvOK.add s_meniscuslaw20_known (EnvOK.add s_parax_Matrix EnvOK.nil)))) (LFn.at (fn := Try.f16) (LFn.add (fn := Try.f16) (i := 4) (by kernel_rfl) ok_meniscuslaw20_ParaxBeams_4 LFn.nil) 13) beamStep (n := 200) (fun x z h => ?_) (runBy_ok _ _)
  obtain ⟨⟨t113, t112, t19, t5, ⟨⟩⟩, ⟨r0, r1, r2, r3, ⟨⟩⟩⟩ := x
  rw [tl_meniscuslaw20_ParaxBeams_13]
  rw [← h]
  simp only [beamStep]
  simp only [den_br, den_bind, den_ret, den_fail, den_inl, den_inr, decide_eq_true_eq, gt_iff_lt, ge_iff_le, beq_iff_eq]
  by_cases h0 : t113 < t112 <;> simp only [h0, if_true, if_false]
  by_cases h1 : 0 ≤ t113 ∧ t113 < (r0.length : Int) <;> simp only [h1, and_self, if_true, if_false]
  cases hg : r0[t113.toNat]? with
  | none => rfl
  | some q =>
    simp only [den_get, den_br, den_bind, den_ret, den_fail]
    rcases Bool.eq_false_or_eq_true (cCarry r3 q).2 with hc | hc <;> simp [hc]
theorem t_meniscuslaw20_ParaxBeams (t0 : Int) (t1 : Int) (t2 : Int) (t3 : Int) (t5 : Int) (r0 : List Int) :
    evFn Try.prog (Env.add 22 (F2p cInt cInt cInt pickOk pick) (Env.add 25 (F2 cBeam cQuad (cTwo cBeam cBool) cCarry) (Env.add 42 (F0 cBool true) (Env.add 47 (FS (sc 1 [0] (tSl 0 0 tNil) (rL_quad rNil)) (cTwo cQuad cBool) ((fun x => lenOk x.2.1)) ((fun x => matOf x.2.1))) Env.nil)))) (Laws.add 13 (LoopR.of (sc 170 [113, 112, 19, 5, 111, 14, 16, 18, 20] (tCod 113 cInt (tCod 112 cInt (tCod 19 cBool (tCod 5 cInt (tSl 111 0 (tSl 14 0 (tOwn 16 1 (tOwn 18 2 (tOwn 20 3 tNil))))))))) (rG_quad 39 (rBox ccQuad ccQuad_ok (rBox ccBeam ccBeam_ok (rBox ccBeam ccBeam_ok rNil))))) (ocOr (ocExit 2 (sc 170 [19, 5, 14, 16, 18, 20] (tCod 19 cBool (tCod 5 cInt (tSl 14 0 (tOwn 16 1 (tOwn 18 2 (tOwn 20 3 tNil)))))) (rG_quad 39 (rBox ccQuad ccQuad_ok (rBox ccBeam ccBeam_ok (rBox ccBeam ccBeam_ok rNil)))))) (ocRet (sc 170 [12] (tCod 12 cBool tNil) rNil))) (runBy beamStep beamM)) (Laws.add 4 (LoopR.of (sc 170 [15, 4, 14, 5, 13] (tCod 15 cInt (tSl 4 0 (tSl 14 1 (tCod 5 cInt (tOwn 13 2 tNil))))) (rL_int (rG_quad 39 (rBox ccBeam ccBeam_ok rNil)))) (ocExit 0 (sc 170 [5, 14, 13] (tCod 5 cInt (tSl 14 0 (tOwn 13 1 tNil))) (rG_quad 39 (rBox ccBeam ccBeam_ok rNil)))) (runBy rbStep rbM)) Laws.nil)) 200 Try.f16 (((sc 6 [0, 1, 2, 3, 4, 5] (tCod 0 cInt (tCod 1 cInt (tCod 2 cInt (tCod 3 cInt (tSl 4 0 (tCod 5 cInt tNil)))))) (rL_int rNil)).enc ((t0, t1, t2, t3, t5, ()), (r0, ()))).tmps.map Prod.snd) ((sc 6 [0, 1, 2, 3, 4, 5] (tCod 0 cInt (tCod 1 cInt (tCod 2 cInt (tCod 3 cInt (tSl 4 0 (tCod 5 cInt tNil)))))) (rL_int rNil)).enc ((t0, t1, t2, t3, t5, ()), (r0, ()))).mem cBool.dec =
      .br (Go.Proofs.Ythgpgnijbajlgaa.pickOk t0 9)
       (
        .bind (Go.Proofs.Ythgpgnijbajlgaa.pick t0 9) fun vn0 =>
        .br (Go.Proofs.Ythgpgnijbajlgaa.pickOk t1 9)
         (
          .bind (Go.Proofs.Ythgpgnijbajlgaa.pick t1 9) fun vn1 =>
          .br (Go.Proofs.Ythgpgnijbajlgaa.pickOk t2 9)
           (
            .bind (Go.Proofs.Ythgpgnijbajlgaa.pick t2 9) fun vn2 =>
            .br (Go.Proofs.Ythgpgnijbajlgaa.pickOk t3 9)
             (
              .bind (Go.Proofs.Ythgpgnijbajlgaa.pick t3 9) fun vn3 =>
              .get (Go.Proofs.Ythgpgnijbajlgaa.runBy Go.Proofs.Ythgpgnijbajlgaa.rbStep Go.Proofs.Ythgpgnijbajlgaa.rbM ((0, t5, ()), r0, [], ((Go.Proofs.Ythgpgnijbajlgaa.Ev.fInt (Go.IntKind.i64.wrap (vn0 - 4)), Go.Proofs.Ythgpgnijbajlgaa.Ev.fInt (Go.IntKind.i64.wrap (vn1 - 4))), Go.Proofs.Ythgpgnijbajlgaa.Ev.fInt (Go.IntKind.i64.wrap (vn2 - 4)), Go.Proofs.Ythgpgnijbajlgaa.Ev.fInt (Go.IntKind.i64.wrap (vn3 - 4))), ())) fun vy4 =>
              .br (Go.Proofs.Ythgpgnijbajlgaa.Ev.lenOk vy4.snd.fst)
               (
                .bind (Go.Proofs.Ythgpgnijbajlgaa.matOf vy4.snd.fst) fun vy5 =>
                .bind (Bool.true) fun vb6 =>
                .br (!vb6)
                 (
                  .ret (Bool.false))
                 (
                  .br (!vy5.snd)
                   (
                    .ret (Bool.false))
                   (
                    .bind (Go.Proofs.Ythgpgnijbajlgaa.cCarry vy4.snd.snd.fst vy5.fst) fun vy7 =>
                    .get (Go.Proofs.Ythgpgnijbajlgaa.runBy Go.Proofs.Ythgpgnijbajlgaa.beamStep Go.Proofs.Ythgpgnijbajlgaa.beamM ((0, (@Nat.cast Int _ vy4.snd.fst.length), vy7.snd, vy4.fst.fst, ()), vy4.snd.fst, vy5.fst, vy7.fst, vy4.snd.snd.fst, ())) fun vy8 =>
                    .sum (vy8)
                     (fun vs9 =>
                      .br (Decidable.decide ((@Nat.cast Int _ vs9.snd.fst.length) > 0))
                       (
                        .br (!vs9.fst.fst)
                         (
                          .ret (Bool.false))
                         (
                          .br (!(Go.Proofs.Ythgpgnijbajlgaa.Ev.cEq vs9.snd.snd.snd.fst.fst.fst vs9.snd.snd.snd.fst.fst.snd vs9.snd.snd.snd.snd.fst.fst.fst vs9.snd.snd.snd.snd.fst.fst.snd && Go.Proofs.Ythgpgnijbajlgaa.Ev.cEq vs9.snd.snd.snd.fst.snd.fst vs9.snd.snd.snd.fst.snd.snd vs9.snd.snd.snd.snd.fst.snd.fst vs9.snd.snd.snd.snd.fst.snd.snd))
                           (
                            .ret (Bool.false))
                           (
                            .br (Go.Proofs.Ythgpgnijbajlgaa.pickOk vs9.fst.snd.fst (Go.IntKind.i64.wrap ((@Nat.cast Int _ vs9.snd.fst.length) + 1)))
                             (
                              .bind (Go.Proofs.Ythgpgnijbajlgaa.pick vs9.fst.snd.fst (Go.IntKind.i64.wrap ((@Nat.cast Int _ vs9.snd.fst.length) + 1))) fun vn10 =>
                              .br (Decidable.decide ((0 : Int) ≤ 0 ∧ 0 ≤ vn10 ∧ vn10 ≤ (@Nat.cast Int _ vs9.snd.fst.length)))
                               (
                                .br (Go.Proofs.Ythgpgnijbajlgaa.Ev.lenOk (List.drop (Int.toNat 0) (List.take vn10.toNat vs9.snd.fst)))
                                 (
                                  .bind (Go.Proofs.Ythgpgnijbajlgaa.matOf (List.drop (Int.toNat 0) (List.take vn10.toNat vs9.snd.fst))) fun vy11 =>
                                  .br (Decidable.decide (0 ≤ vn10 ∧ vn10 ≤ (@Nat.cast Int _ vs9.snd.fst.length) ∧ (@Nat.cast Int _ vs9.snd.fst.length) ≤ (@Nat.cast Int _ vs9.snd.fst.length)))
                                   (
                                    .br (Go.Proofs.Ythgpgnijbajlgaa.Ev.lenOk (List.drop vn10.toNat (List.take ((@Nat.cast Int _ vs9.snd.fst.length)).toNat vs9.snd.fst)))
                                     (
                                      .bind (Go.Proofs.Ythgpgnijbajlgaa.matOf (List.drop vn10.toNat (List.take ((@Nat.cast Int _ vs9.snd.fst.length)).toNat vs9.snd.fst))) fun vy12 =>
                                      .br (Go.Proofs.Ythgpgnijbajlgaa.Ev.lenOk [vy11.fst, vy12.fst])
                                       (
                                        .bind (Go.Proofs.Ythgpgnijbajlgaa.matOf [vy11.fst, vy12.fst]) fun vy13 =>
                                        .ret (vy13.fst.fst == vs9.snd.snd.fst.fst && (vy13.fst.snd.fst == vs9.snd.snd.fst.snd.fst && (vy13.fst.snd.snd.fst == vs9.snd.snd.fst.snd.snd.fst && (vy13.fst.snd.snd.snd == vs9.snd.snd.fst.snd.snd.snd && Bool.true)))))
                                       (
                                        .fail))
                                     (
                                      .fail))
                                   (
                                    .fail))
                                 (
                                  .fail))
                               (
                                .fail))
                             (
                              .fail))))
                       (
                        .br (Go.Proofs.Ythgpgnijbajlgaa.pickOk vs9.fst.snd.fst (Go.IntKind.i64.wrap ((@Nat.cast Int _ vs9.snd.fst.length) + 1)))
                         (
                          .bind (Go.Proofs.Ythgpgnijbajlgaa.pick vs9.fst.snd.fst (Go.IntKind.i64.wrap ((@Nat.cast Int _ vs9.snd.fst.length) + 1))) fun vn14 =>
                          .br (Decidable.decide ((0 : Int) ≤ 0 ∧ 0 ≤ vn14 ∧ vn14 ≤ (@Nat.cast Int _ vs9.snd.fst.length)))
                           (
                            .br (Go.Proofs.Ythgpgnijbajlgaa.Ev.lenOk (List.drop (Int.toNat 0) (List.take vn14.toNat vs9.snd.fst)))
                             (
                              .bind (Go.Proofs.Ythgpgnijbajlgaa.matOf (List.drop (Int.toNat 0) (List.take vn14.toNat vs9.snd.fst))) fun vy15 =>
                              .br (Decidable.decide (0 ≤ vn14 ∧ vn14 ≤ (@Nat.cast Int _ vs9.snd.fst.length) ∧ (@Nat.cast Int _ vs9.snd.fst.length) ≤ (@Nat.cast Int _ vs9.snd.fst.length)))
                               (
                                .br (Go.Proofs.Ythgpgnijbajlgaa.Ev.lenOk (List.drop vn14.toNat (List.take ((@Nat.cast Int _ vs9.snd.fst.length)).toNat vs9.snd.fst)))
                                 (
                                  .bind (Go.Proofs.Ythgpgnijbajlgaa.matOf (List.drop vn14.toNat (List.take ((@Nat.cast Int _ vs9.snd.fst.length)).toNat vs9.snd.fst))) fun vy16 =>
                                  .br (Go.Proofs.Ythgpgnijbajlgaa.Ev.lenOk [vy15.fst, vy16.fst])
                                   (
                                    .bind (Go.Proofs.Ythgpgnijbajlgaa.matOf [vy15.fst, vy16.fst]) fun vy17 =>
                                    .ret (vy17.fst.fst == vs9.snd.snd.fst.fst && (vy17.fst.snd.fst == vs9.snd.snd.fst.snd.fst && (vy17.fst.snd.snd.fst == vs9.snd.snd.fst.snd.snd.fst && (vy17.fst.snd.snd.snd == vs9.snd.snd.fst.snd.snd.snd && Bool.true)))))
                                   (
                                    .fail))
                                 (
                                  .fail))
                               (
                                .fail))
                             (
                              .fail))
                           (
                            .fail))
                         (
                          .fail)))
                     (fun vs18 =>
                      .ret (vs18.fst.fst)))))
               (
                .fail))
             (
              .fail))
           (
            .fail))
         (
          .fail))
       (
        .fail) := by kernel_rfl
theorem c_meniscuslaw20_ParaxBeams : PlainS Try.prog 16 (sc 6 [0, 1, 2, 3, 4, 5] (tCod 0 cInt (tCod 1 cInt (tCod 2 cInt (tCod 3 cInt (tSl 4 0 (tCod 5 cInt tNil)))))) (rL_int rNil)) cBool (fun _ => true) ((fun _ => true)) := by
  intro x h N w vs hM hv
  obtain ⟨⟨t0, t1, t2, t3, t5, ⟨⟩⟩, ⟨r0, ⟨⟩⟩⟩ := x
  refine calls_of_tree (n := 200) (EnvOK.add s_meniscushand_Pick (EnvOK.add s_gauss_Carry (EnvOK.add s_meniscuslaw20_known (EnvOK.add s_parax_Matrix EnvOK.nil)))) Try.func16 hv (Nat.le_of_ble_eq_true (by kernel_rfl)) (LFn.add (fn := Try.f16) (i := 13) (by kernel_rfl) ok_meniscuslaw20_ParaxBeams_13 (LFn.add (fn := Try.f16) (i := 4) (by kernel_rfl) ok_meniscuslaw20_ParaxBeams_4 LFn.nil)) hM cBool ?_
  rw [t_meniscuslaw20_ParaxBeams]
  have p9 : ∀ n : Int, pickOk n 9 = true := fun _ => by simp [pickOk]
  have c0 := pick_bd t0 (m := 9) (by decide)
  have c1 := pick_bd t1 (m := 9) (by decide)
  have c2 := pick_bd t2 (m := 9) (by decide)
  have c3 := pick_bd t3 (m := 9) (by decide)
  have w0 : IntKind.i64.wrap (pick t0 9 - 4) = pick t0 9 - 4 := wr (by omega)
  have w1 : IntKind.i64.wrap (pick t1 9 - 4) = pick t1 9 - 4 := wr (by omega)
  have w2 : IntKind.i64.wrap (pick t2 9 - 4) = pick t2 9 - 4 := wr (by omega)
  have w3 : IntKind.i64.wrap (pick t3 9 - 4) = pick t3 9 - 4 := wr (by omega)
  simp only [den_br, den_bind, p9, w0, w1, w2, w3, if_true]
  obtain ⟨b, eb⟩ : ∃ b : PBeam, b = (⟨pick t0 9 - 4, pick t1 9 - 4⟩, ⟨pick t2 9 - 4, pick t3 9 - 4⟩) := ⟨_, rfl⟩
  have hb : bsmall b 4 := by
    rw [eb]
    exact ⟨⟨by simp only; omega, by simp only; omega⟩, ⟨by simp only; omega, by simp only; omega⟩⟩
  have eB : (((Ev.fInt (pick t0 9 - 4), Ev.fInt (pick t1 9 - 4)), (Ev.fInt (pick t2 9 - 4), Ev.fInt (pick t3 9 - 4))) : Beam) = pOf b := by rw [eb]; rfl
  rw [eB]
  obtain ⟨l, hm, hq, hl⟩ := rb_run r0 t5 (pOf b)
  have hlo : Ev.lenOk l = true := lenOk_iff.2 (by omega)
  obtain ⟨e3, b3⟩ := mat_of hq hl
  have ec := beam_all hl hq hb
  have wl : IntKind.i64.wrap ((l.length : Int) + 1) = (l.length : Int) + 1 := wr (by omega)
  have pk : pickOk t5 ((l.length : Int) + 1) = true := by simp [pickOk]; omega
  have vb := pick_bd t5 (m := (l.length : Int) + 1) (by omega)
  have v0 : (0 ≤ pick t5 ((l.length : Int) + 1)) = True := eq_true vb.1
  have v1 : (pick t5 ((l.length : Int) + 1) ≤ (l.length : Int)) = True := eq_true (by omega)
  have v2 : ((l.length : Int) ≤ (l.length : Int)) = True := eq_true (Int.le_refl _)
  have z0 : ((0 : Int) ≤ 0) = True := eq_true (Int.le_refl _)
  have l1 : Ev.lenOk (l.take (pick t5 ((l.length : Int) + 1)).toNat) = true := lenOk_iff.2 (by simp; omega)
  have l2 : Ev.lenOk (l.drop (pick t5 ((l.length : Int) + 1)).toNat) = true := lenOk_iff.2 (by simp; omega)
  have l3 : ∀ x y : Quad, Ev.lenOk [x, y] = true := fun _ _ => rfl
  have hp := (parts_law hq hl (pick t5 ((l.length : Int) + 1)).toNat).trans (show (matOf l).1 = prodQ l oneQ by rw [e3])
  have h6 := six5 hl
  have sF : bsmall (carryL l b) 1048576 := small_of (carryL_le l b 4 hq hb) (by omega)
  have tl : List.take ((l.length : Int)).toNat l = l := by rw [Int.toNat_natCast, List.take_length]
  have t0' : Int.toNat 0 = 0 := rfl
  by_cases hz : carryL l b = zeroP
  · rw [if_pos hz] at ec
    rcases beam_run hl hq false t5 (prodQ l oneQ) zeroBeam hb (by rw [hz]; simp) with ⟨hr, hx⟩ | hr
    · have hnil : l = [] := hx.resolve_right (fun h => h hz)
      have hlen : ¬ ((l.length : Int) > 0) := by rw [hnil]; decide
      simp only [hm, hlo, e3, ec, hr, hlen, wl, pk, v0, v1, v2, z0, l1, l2, l3, hp, tl, t0', List.drop_zero, den_br, den_bind, den_get, den_ret, den_inl, den_inr, if_true, if_false, and_self, true_and, decide_true, decide_false, Bool.not_true, Bool.not_false, Bool.false_eq_true, BEq.rfl, Bool.and_self, Bool.and_true]
    · simp only [hm, hlo, e3, ec, hr, den_br, den_bind, den_get, den_ret, den_inl, den_inr, if_true, if_false, Bool.not_true, Bool.not_false, Bool.false_eq_true]
  · rw [if_neg hz] at ec
    have hE := pOf_eq sF
    rcases beam_run hl hq true t5 (prodQ l oneQ) (pOf (carryL l b)) hb (by simp [hz]) with ⟨hr, hx⟩ | hr
    · by_cases hlen : (l.length : Int) > 0
      · simp only [hm, hlo, e3, ec, hr, hlen, hE, wl, pk, v0, v1, v2, z0, l1, l2, l3, hp, tl, t0', List.drop_zero, den_br, den_bind, den_get, den_ret, den_inl, den_inr, if_true, if_false, and_self, true_and, decide_true, decide_false, Bool.not_true, Bool.not_false, Bool.false_eq_true, BEq.rfl, Bool.and_self, Bool.and_true]
      · simp only [hm, hlo, e3, ec, hr, hlen, wl, pk, v0, v1, v2, z0, l1, l2, l3, hp, tl, t0', List.drop_zero, den_br, den_bind, den_get, den_ret, den_inl, den_inr, if_true, if_false, and_self, true_and, decide_true, decide_false, Bool.not_true, Bool.not_false, Bool.false_eq_true, BEq.rfl, Bool.and_self, Bool.and_true]
    · simp only [hm, hlo, e3, ec, hr, den_br, den_bind, den_get, den_ret, den_inl, den_inr, if_true, if_false, Bool.not_true, Bool.not_false, Bool.false_eq_true]
theorem s_meniscuslaw20_ParaxBeams : Ev.Spec Try.prog 16 (FS (sc 6 [0, 1, 2, 3, 4, 5] (tCod 0 cInt (tCod 1 cInt (tCod 2 cInt (tCod 3 cInt (tSl 4 0 (tCod 5 cInt tNil)))))) (rL_int rNil)) cBool (fun _ => true) ((fun _ => true))) := specS rfl (fun vs w => Try.call16 vs w) c_meniscuslaw20_ParaxBeams
end Go.Proofs.Ythgpgnijbajlgaa
