/-
  Contracts of calls, written by a small program of this session out of the evaluator's trees.
-/
import Derived.Test.YthgpgnijbajlgaaCore
import Derived.Test.YthgpgnijbajlgaaCoreLoops
import Derived.Test.YthgpgnijbajlgaaCore2
import Derived.Test.YthgpgnijbajlgaaCore3
import Derived.Test.YthgpgnijbajlgaaCore4
import Derived.Test.YthgpgnijbajlgaaCore5
import Derived.Test.YthgpgnijbajlgaaFloCod
import Derived.Test.YthgpgnijbajlgaaGs
import Derived.Test.YthgpgnijbajlgaaGsL
import Derived.Test.YthgpgnijbajlgaaGsD
import Derived.Test.YthgpgnijbajlgaaGsE
import Derived.Test.YthgpgnijbajlgaaK1
import Derived.Test.YthgpgnijbajlgaaG0
import Derived.Test.YthgpgnijbajlgaaEvCod
import Derived.Test.YthgpgnijbajlgaaEvRet
import Derived.Test.YthgpgnijbajlgaaProg
namespace Go.Proofs.Ythgpgnijbajlgaa
open Go Go.RowKit Ev
set_option maxRecDepth 100000
set_option linter.unusedVariables false
set_option linter.unusedSimpArgs false

/-! meniscuslaw8.number -/
theorem t_meniscuslaw8_number (x0 : Int) (x1 : Int) (x2 : Int) :
    evFn Try.prog (Env.add 22 (F2p cInt cInt cInt pickOk pick) Env.nil) Laws.nil 200 Try.f17 [cInt.av x0, cInt.av x1, cInt.av x2] [] cCx.dec =
      .br (Go.Proofs.Ythgpgnijbajlgaa.pickOk x0 81)
       (
        .bind (Go.Proofs.Ythgpgnijbajlgaa.pick x0 81) fun vn0 =>
        .br (Go.Proofs.Ythgpgnijbajlgaa.pickOk x1 81)
         (
          .bind (Go.Proofs.Ythgpgnijbajlgaa.pick x1 81) fun vn1 =>
          .br (Go.Proofs.Ythgpgnijbajlgaa.pickOk x2 9)
           (
            .bind (Go.Proofs.Ythgpgnijbajlgaa.pick x2 9) fun vn2 =>
            .br (vn2 == 5)
             (
              .ret ((Go.Proofs.Ythgpgnijbajlgaa.Ev.fInt x0, Go.Proofs.Ythgpgnijbajlgaa.Ev.fInt (Go.IntKind.i64.wrap (vn1 - 40)))))
             (
              .br (vn2 == 6)
               (
                .get (Go.floatBits Go.BinOp.add Go.FloatKind.f64 (Go.Proofs.Ythgpgnijbajlgaa.Ev.fInt (Go.IntKind.i64.wrap (vn1 - 40))) 4602678819172646912) fun vna3 =>
                .ret ((Go.Proofs.Ythgpgnijbajlgaa.Ev.fInt (Go.IntKind.i64.wrap (vn0 - 40)), vna3)))
               (
                .br (vn2 == 7)
                 (
                  .get (Go.floatBits Go.BinOp.mul Go.FloatKind.f64 (Go.Proofs.Ythgpgnijbajlgaa.Ev.fInt (Go.IntKind.i64.wrap (vn0 - 40))) 4673975551164153856) fun vna4 =>
                  .get (Go.floatBits Go.BinOp.mul Go.FloatKind.f64 (Go.Proofs.Ythgpgnijbajlgaa.Ev.fInt (Go.IntKind.i64.wrap (vn1 - 40))) 4673975551164153856) fun vna5 =>
                  .ret ((vna4, vna5)))
                 (
                  .br (vn2 == 8)
                   (
                    .get (Go.floatBits Go.BinOp.quo Go.FloatKind.f64 (Go.Proofs.Ythgpgnijbajlgaa.Ev.fInt x1) 4613937818241073152) fun vna6 =>
                    .ret ((Go.Proofs.Ythgpgnijbajlgaa.Ev.fInt (Go.IntKind.i64.wrap (vn0 - 40)), vna6)))
                   (
                    .ret ((Go.Proofs.Ythgpgnijbajlgaa.Ev.fInt (Go.IntKind.i64.wrap (vn0 - 40)), Go.Proofs.Ythgpgnijbajlgaa.Ev.fInt (Go.IntKind.i64.wrap (vn1 - 40)))))))))
           (
            .fail))
         (
          .fail))
       (
        .fail) := by kernel_rfl
theorem c_meniscuslaw8_number (x0 : Int) (x1 : Int) (x2 : Int) (h : ((fun _ _ b => decide (b = 0))) x0 x1 x2 = true) : Plain Try.prog 17 [cInt.enc x0, cInt.enc x1, cInt.enc x2] (cCx.enc (((fun x y _ => numC x y)) x0 x1 x2)) :=
  plain_of_tree (n := 200) (EnvOK.add s_meniscushand_Pick EnvOK.nil) Try.func17 (args := [cInt.av x0, cInt.av x1, cInt.av x2]) (by simp only [AV.vals, Cod.av_val]) (Nat.le_of_ble_eq_true (by kernel_rfl)) LFn.nil cCx (by
    rw [t_meniscuslaw8_number]
    have p81 : ∀ n : Int, pickOk n 81 = true := fun _ => by simp [pickOk]
    have p9 : ∀ n : Int, pickOk n 9 = true := fun _ => by simp [pickOk]
    have h0 := of_decide_eq_true h
    subst h0
    have b0 := pick_bd x0 (m := 81) (by decide)
    have b1 := pick_bd x1 (m := 81) (by decide)
    have w0 : IntKind.i64.wrap (pick x0 81 - 40) = pick x0 81 - 40 := wr (by omega)
    have w1 : IntKind.i64.wrap (pick x1 81 - 40) = pick x1 81 - 40 := wr (by omega)
    have p0 : pick 0 9 = 0 := by decide
    simp only [den_br, den_bind, den_ret, den_fail, p81, p9, p0, if_true, w0, w1]
    rfl)
theorem s_meniscuslaw8_number : Ev.Spec Try.prog 17 (F3p cInt cInt cInt cCx ((fun _ _ b => decide (b = 0))) ((fun x y _ => numC x y))) := spec3p (fun vs w => Try.call17 vs w) c_meniscuslaw8_number

/-! meniscuslaw8.known -/
theorem t_meniscuslaw8_known  :
    evFn Try.prog (Env.add 19 (F2 cCx cInt cCx cTurn) (Env.add 21 (F1 cCx cInt ((fun z => if cWhole z = true then cNorm z else 0))) (Env.add 29 (FR (sc 1 [0] (tCod 0 cInt tNil) rNil) (sc 1 [0] (tSl 0 0 tNil) (rG_cx 22 rNil)) (fun _ => true) ((fun x => ((), ((cellsP (cellsR x.1.1)).map cxOf, ()))))) (Env.add 33 (F1 cCx cBool cWhole) Env.nil)))) Laws.nil 200 Try.f18 [] [] cBool.dec =
      .bind (Go.Proofs.Ythgpgnijbajlgaa.cTurn (4613937818241073152, 4616189618054758400) 1) fun vcx0 =>
      .br (Go.Proofs.Ythgpgnijbajlgaa.Ev.cEq vcx0.fst vcx0.snd 13839561654909534208 4613937818241073152)
       (
        .bind (Go.Proofs.Ythgpgnijbajlgaa.cWhole (4613937818241073152, 4616189618054758400)) fun vb1 =>
        .br (vb1)
         (
          .bind (if Go.Proofs.Ythgpgnijbajlgaa.cWhole (4613937818241073152, 4616189618054758400) = Bool.true then Go.Proofs.Ythgpgnijbajlgaa.cNorm (4613937818241073152, 4616189618054758400) else 0) fun vn2 =>
          .br (vn2 == 25)
           (
            .br (Bool.true)
             (
              .bind (((), List.map Go.Proofs.Ythgpgnijbajlgaa.cxOf (Go.Proofs.Ythgpgnijbajlgaa.cellsP (Go.Proofs.Ythgpgnijbajlgaa.cellsR 1)), ())) fun vy3 =>
              .ret ((@Nat.cast Int _ vy3.snd.fst.length) == 4))
             (
              .fail))
           (
            .ret (Bool.false)))
         (
          .ret (Bool.false)))
       (
        .ret (Bool.false)) := by kernel_rfl
theorem c_meniscuslaw8_known  : Plain Try.prog 18 [] (cBool.enc (true)) :=
  plain_of_tree (n := 200) (EnvOK.add s_gauss_Turn (EnvOK.add s_gauss_Norm (EnvOK.add s_gauss_Cells (EnvOK.add s_gauss_Whole EnvOK.nil)))) Try.func18 (args := []) rfl (Nat.le_of_ble_eq_true (by kernel_rfl)) LFn.nil cBool (by
    rw [t_meniscuslaw8_known]
    decide +kernel)
theorem s_meniscuslaw8_known : Ev.Spec Try.prog 18 (F0 cBool true) := spec0 (fun vs w => Try.call18 vs w) c_meniscuslaw8_known

/-! meniscuslaw8.GaussTurns -/
theorem t_meniscuslaw8_GaussTurns (t0 : Int) (t1 : Int) (t2 : Int) (t3 : Int) (t4 : Int) (t5 : Int) :
    evFn Try.prog (Env.add 17 (F3p cInt cInt cInt cCx ((fun _ _ b => decide (b = 0))) ((fun x y _ => numC x y))) (Env.add 18 (F0 cBool true) (Env.add 19 (F2 cCx cInt cCx cTurn) (Env.add 20 (F1 cCx cCx cMirror) (Env.add 21 (F1 cCx cInt ((fun z => if cWhole z = true then cNorm z else 0))) Env.nil))))) Laws.nil 200 Try.f3 (((sc 6 [0, 1, 2, 3, 4, 5] (tCod 0 cInt (tCod 1 cInt (tCod 2 cInt (tCod 3 cInt (tCod 4 cInt (tCod 5 cInt tNil)))))) rNil).enc ((t0, t1, t2, t3, t4, t5, ()), (()))).tmps.map Prod.snd) ((sc 6 [0, 1, 2, 3, 4, 5] (tCod 0 cInt (tCod 1 cInt (tCod 2 cInt (tCod 3 cInt (tCod 4 cInt (tCod 5 cInt tNil)))))) rNil).enc ((t0, t1, t2, t3, t4, t5, ()), (()))).mem cBool.dec =
      .br (Decidable.decide (0 = 0))
       (
        .bind (Go.Proofs.Ythgpgnijbajlgaa.numC t0 t1) fun vcx0 =>
        .br (Decidable.decide (0 = 0))
         (
          .bind (Go.Proofs.Ythgpgnijbajlgaa.numC t2 t3) fun vcx1 =>
          .bind (Bool.true) fun vb2 =>
          .br (vb2)
           (
            .bind (Go.Proofs.Ythgpgnijbajlgaa.cTurn vcx0 (t4.tmod 1000)) fun vcx3 =>
            .bind (Go.Proofs.Ythgpgnijbajlgaa.cTurn vcx3 (t5.tmod 1000)) fun vcx4 =>
            .bind (Go.Proofs.Ythgpgnijbajlgaa.cTurn vcx0 (Go.IntKind.i64.wrap (t4.tmod 1000 + t5.tmod 1000))) fun vcx5 =>
            .br (Go.Proofs.Ythgpgnijbajlgaa.Ev.cEq vcx4.fst vcx4.snd vcx5.fst vcx5.snd)
             (
              .bind (Go.Proofs.Ythgpgnijbajlgaa.cTurn vcx0 (Go.IntKind.i64.wrap (4 * t4.tmod 1000))) fun vcx6 =>
              .br (Go.Proofs.Ythgpgnijbajlgaa.Ev.cEq vcx6.fst vcx6.snd vcx0.fst vcx0.snd)
               (
                .bind (Go.Proofs.Ythgpgnijbajlgaa.cTurn vcx0 (t4.tmod 1000)) fun vcx7 =>
                .bind (Go.Proofs.Ythgpgnijbajlgaa.cMirror vcx7) fun vcx8 =>
                .bind (Go.Proofs.Ythgpgnijbajlgaa.cMirror vcx0) fun vcx9 =>
                .bind (Go.Proofs.Ythgpgnijbajlgaa.cTurn vcx9 (Go.IntKind.i64.wrap (0 - t4.tmod 1000))) fun vcx10 =>
                .br (Go.Proofs.Ythgpgnijbajlgaa.Ev.cEq vcx8.fst vcx8.snd vcx10.fst vcx10.snd)
                 (
                  .bind (Go.Proofs.Ythgpgnijbajlgaa.cMirror vcx0) fun vcx11 =>
                  .bind (Go.Proofs.Ythgpgnijbajlgaa.cMirror vcx11) fun vcx12 =>
                  .br (Go.Proofs.Ythgpgnijbajlgaa.Ev.cEq vcx12.fst vcx12.snd vcx0.fst vcx0.snd)
                   (
                    .get (Go.cMulBits vcx0.fst vcx0.snd vcx1.fst vcx1.snd) fun vy13 =>
                    .bind (if Go.Proofs.Ythgpgnijbajlgaa.cWhole vy13 = Bool.true then Go.Proofs.Ythgpgnijbajlgaa.cNorm vy13 else 0) fun vn14 =>
                    .bind (if Go.Proofs.Ythgpgnijbajlgaa.cWhole vcx0 = Bool.true then Go.Proofs.Ythgpgnijbajlgaa.cNorm vcx0 else 0) fun vn15 =>
                    .bind (if Go.Proofs.Ythgpgnijbajlgaa.cWhole vcx1 = Bool.true then Go.Proofs.Ythgpgnijbajlgaa.cNorm vcx1 else 0) fun vn16 =>
                    .br (vn14 == Go.IntKind.i64.wrap (vn15 * vn16))
                     (
                      .bind (Go.Proofs.Ythgpgnijbajlgaa.cTurn vcx0 (t4.tmod 1000)) fun vcx17 =>
                      .bind (if Go.Proofs.Ythgpgnijbajlgaa.cWhole vcx17 = Bool.true then Go.Proofs.Ythgpgnijbajlgaa.cNorm vcx17 else 0) fun vn18 =>
                      .bind (if Go.Proofs.Ythgpgnijbajlgaa.cWhole vcx0 = Bool.true then Go.Proofs.Ythgpgnijbajlgaa.cNorm vcx0 else 0) fun vn19 =>
                      .br (vn18 == vn19)
                       (
                        .bind (Go.Proofs.Ythgpgnijbajlgaa.cMirror vcx0) fun vcx20 =>
                        .bind (if Go.Proofs.Ythgpgnijbajlgaa.cWhole vcx20 = Bool.true then Go.Proofs.Ythgpgnijbajlgaa.cNorm vcx20 else 0) fun vn21 =>
                        .bind (if Go.Proofs.Ythgpgnijbajlgaa.cWhole vcx0 = Bool.true then Go.Proofs.Ythgpgnijbajlgaa.cNorm vcx0 else 0) fun vn22 =>
                        .br (vn21 == vn22)
                         (
                          .bind (Go.Proofs.Ythgpgnijbajlgaa.cTurn vcx0 1) fun vcx23 =>
                          .get (Go.cMulBits vcx0.fst vcx0.snd 0 4607182418800017408) fun vy24 =>
                          .br (Go.Proofs.Ythgpgnijbajlgaa.Ev.cEq vcx23.fst vcx23.snd vy24.fst vy24.snd)
                           (
                            .bind (if Go.Proofs.Ythgpgnijbajlgaa.cWhole vcx0 = Bool.true then Go.Proofs.Ythgpgnijbajlgaa.cNorm vcx0 else 0) fun vn25 =>
                            .bind (Go.Proofs.Ythgpgnijbajlgaa.cMirror vcx0) fun vcx26 =>
                            .get (Go.cMulBits vcx0.fst vcx0.snd vcx26.fst vcx26.snd) fun vy27 =>
                            .ret (Go.Proofs.Ythgpgnijbajlgaa.Ev.cEq (Go.Proofs.Ythgpgnijbajlgaa.Ev.fInt vn25) 0 vy27.fst vy27.snd))
                           (
                            .ret (Bool.false)))
                         (
                          .ret (Bool.false)))
                       (
                        .ret (Bool.false)))
                     (
                      .ret (Bool.false)))
                   (
                    .ret (Bool.false)))
                 (
                  .ret (Bool.false)))
               (
                .ret (Bool.false)))
             (
              .ret (Bool.false)))
           (
            .ret (Bool.false)))
         (
          .fail))
       (
        .fail) := by kernel_rfl
theorem c_meniscuslaw8_GaussTurns : PlainS Try.prog 3 (sc 6 [0, 1, 2, 3, 4, 5] (tCod 0 cInt (tCod 1 cInt (tCod 2 cInt (tCod 3 cInt (tCod 4 cInt (tCod 5 cInt tNil)))))) rNil) cBool (fun _ => true) ((fun _ => true)) := by
  intro x h N w vs hM hv
  obtain ⟨⟨t0, t1, t2, t3, t4, t5, ⟨⟩⟩, ⟨⟩⟩ := x
  refine calls_of_tree (n := 200) (EnvOK.add s_meniscuslaw8_number (EnvOK.add s_meniscuslaw8_known (EnvOK.add s_gauss_Turn (EnvOK.add s_gauss_Mirror (EnvOK.add s_gauss_Norm EnvOK.nil))))) Try.func3 hv (Nat.le_of_ble_eq_true (by kernel_rfl)) LFn.nil hM cBool ?_
  rw [t_meniscuslaw8_GaussTurns]
  have k1 := (tmod_pick t4 (m := 1000) (by decide)).2.2
  have k2 := (tmod_pick t5 (m := 1000) (by decide)).2.2
  obtain ⟨⟨h1, h2, h3, h4⟩, ⟨r1, e1, f1⟩, h5, h6, ⟨r2, e2, f2⟩, ⟨r3, e3, f3⟩⟩ := turns_law (numC_CI t0 t1) (numC_CI t2 t3) (numP_small t0 t1) (numP_small t2 t3) (t4.tmod 1000) (t5.tmod 1000) k1 k2
  have en : ∀ z : Cx, (if cWhole z = true then cNorm z else 0) = cNormW z := fun _ => rfl
  simp only [den_br, den_bind, den_ret, den_fail, den_get, decide_true, if_true, h1, h2, h3, h4, e1, en, f1, h5, h6, e2, f2, e3, f3, BEq.rfl]
theorem s_meniscuslaw8_GaussTurns : Ev.Spec Try.prog 3 (FS (sc 6 [0, 1, 2, 3, 4, 5] (tCod 0 cInt (tCod 1 cInt (tCod 2 cInt (tCod 3 cInt (tCod 4 cInt (tCod 5 cInt tNil)))))) rNil) cBool (fun _ => true) ((fun _ => true))) := specS rfl (fun vs w => Try.call3 vs w) c_meniscuslaw8_GaussTurns

/-! meniscuslaw8.GaussDiscs -/
theorem tl_meniscuslaw8_GaussDiscs_9 (t11 : Int) (t7 : Int) (t8 : Int) (t10 : Int) (t2 : Int) (t9 : Int) :
    ev Try.prog (Env.add 18 (F0 cBool true) (Env.add 22 (F2p cInt cInt cInt pickOk pick) (Env.add 28 (F2 cCx cInt cInt cInDisc) (Env.add 29 (FR (sc 1 [0] (tCod 0 cInt tNil) rNil) (sc 1 [0] (tSl 0 0 tNil) (rG_cx 22 rNil)) (fun _ => true) ((fun x => ((), ((cellsP (cellsR x.1.1)).map cxOf, ()))))) Env.nil)))) Laws.nil 200 none (loopAt Try.f5 9) ((sc 146 [11, 7, 8, 10, 2, 9] (tCod 11 cInt (tCod 7 cInt (tCod 8 cInt (tCod 10 cInt (tCod 2 cInt (tCod 9 cInt tNil)))))) rNil).enc ((t11, t7, t8, t10, t2, t9, ()), (()))) (backK (sc 146 [11, 7, 8, 10, 2, 9] (tCod 11 cInt (tCod 7 cInt (tCod 8 cInt (tCod 10 cInt (tCod 2 cInt (tCod 9 cInt tNil)))))) rNil) (ocOr (ocExit 2 (sc 146 [7, 8, 10, 2, 9] (tCod 7 cInt (tCod 8 cInt (tCod 10 cInt (tCod 2 cInt (tCod 9 cInt tNil))))) rNil)) (ocRet (sc 146 [6] (tCod 6 cBool tNil) rNil)))) =
      .br (Decidable.decide (t11 ≤ 10))
       (
        .br (t9 == 1)
         (
          .br (!Decidable.decide (Go.IntKind.i64.wrap (Go.IntKind.i64.wrap (Go.IntKind.i64.wrap (Go.IntKind.i64.wrap (10 * t7) + t10) * Go.IntKind.i64.wrap (Go.IntKind.i64.wrap (10 * t7) + t10)) + Go.IntKind.i64.wrap (Go.IntKind.i64.wrap (Go.IntKind.i64.wrap (10 * t8) + t11) * Go.IntKind.i64.wrap (Go.IntKind.i64.wrap (10 * t8) + t11))) ≤ Go.IntKind.i64.wrap (Go.IntKind.i64.wrap (100 * t2) * t2)))
           (
            .ret (Sum.inr (Sum.inr ((Bool.false, ()), ()))))
           (
            .br (t9 == 2)
             (
              .br (Decidable.decide (Go.IntKind.i64.wrap (Go.IntKind.i64.wrap (Go.IntKind.i64.wrap (Go.IntKind.i64.wrap (10 * t7) + t10) * Go.IntKind.i64.wrap (Go.IntKind.i64.wrap (10 * t7) + t10)) + Go.IntKind.i64.wrap (Go.IntKind.i64.wrap (Go.IntKind.i64.wrap (10 * t8) + t11) * Go.IntKind.i64.wrap (Go.IntKind.i64.wrap (10 * t8) + t11))) ≤ Go.IntKind.i64.wrap (Go.IntKind.i64.wrap (100 * t2) * t2)))
               (
                .ret (Sum.inr (Sum.inr ((Bool.false, ()), ()))))
               (
                .ret (Sum.inl ((Go.IntKind.i64.wrap (t11 + 1), t7, t8, t10, t2, t9, ()), ()))))
             (
              .ret (Sum.inl ((Go.IntKind.i64.wrap (t11 + 1), t7, t8, t10, t2, t9, ()), ())))))
         (
          .br (t9 == 2)
           (
            .br (Decidable.decide (Go.IntKind.i64.wrap (Go.IntKind.i64.wrap (Go.IntKind.i64.wrap (Go.IntKind.i64.wrap (10 * t7) + t10) * Go.IntKind.i64.wrap (Go.IntKind.i64.wrap (10 * t7) + t10)) + Go.IntKind.i64.wrap (Go.IntKind.i64.wrap (Go.IntKind.i64.wrap (10 * t8) + t11) * Go.IntKind.i64.wrap (Go.IntKind.i64.wrap (10 * t8) + t11))) ≤ Go.IntKind.i64.wrap (Go.IntKind.i64.wrap (100 * t2) * t2)))
             (
              .ret (Sum.inr (Sum.inr ((Bool.false, ()), ()))))
             (
              .ret (Sum.inl ((Go.IntKind.i64.wrap (t11 + 1), t7, t8, t10, t2, t9, ()), ()))))
           (
            .ret (Sum.inl ((Go.IntKind.i64.wrap (t11 + 1), t7, t8, t10, t2, t9, ()), ())))))
       (
        .ret (Sum.inr (Sum.inl ((t7, t8, t10, t2, t9, ()), ())))) := by kernel_rfl
theorem ok_meniscuslaw8_GaussDiscs_9 : LOK Try.prog (LoopR.of (sc 146 [11, 7, 8, 10, 2, 9] (tCod 11 cInt (tCod 7 cInt (tCod 8 cInt (tCod 10 cInt (tCod 2 cInt (tCod 9 cInt tNil)))))) rNil) (ocOr (ocExit 2 (sc 146 [7, 8, 10, 2, 9] (tCod 7 cInt (tCod 8 cInt (tCod 10 cInt (tCod 2 cInt (tCod 9 cInt tNil))))) rNil)) (ocRet (sc 146 [6] (tCod 6 cBool tNil) rNil))) (runBy dinStep dinM)) (loopAt Try.f5 9) := by
  refine loop_ok (EnvOK.add s_meniscuslaw8_known (EnvOK.add s_meniscushand_Pick (EnvOK.add s_gauss_InDisc (EnvOK.add s_gauss_Cells EnvOK.nil)))) (LFn.at (fn := Try.f5) LFn.nil 9) dinStep (n := 200) (fun x z h => ?_) (runBy_ok _ _)
  obtain ⟨⟨t11, t7, t8, t10, t2, t9, ⟨⟩⟩, ⟨⟩⟩ := x
  rw [tl_meniscuslaw8_GaussDiscs_9]
  rw [← h]
  simp only [dinStep, dBad]
  have e : inDW t7 t8 t10 t11 t2 = decide (IntKind.i64.wrap (IntKind.i64.wrap (IntKind.i64.wrap (IntKind.i64.wrap (10 * t7) + t10) * IntKind.i64.wrap (IntKind.i64.wrap (10 * t7) + t10)) + IntKind.i64.wrap (IntKind.i64.wrap (IntKind.i64.wrap (10 * t8) + t11) * IntKind.i64.wrap (IntKind.i64.wrap (10 * t8) + t11))) ≤ IntKind.i64.wrap (IntKind.i64.wrap (100 * t2) * t2)) := rfl
  rw [← e]
  simp only [den_br, den_bind, den_ret, den_fail, den_inl, den_inr, decide_eq_true_eq, gt_iff_lt, ge_iff_le, beq_iff_eq]
  by_cases h0 : t11 ≤ 10 <;> simp only [h0, if_true, if_false]
  rcases Bool.eq_false_or_eq_true (inDW t7 t8 t10 t11 t2) with hq | hq <;> by_cases h1 : t9 = 1 <;> by_cases h2 : t9 = 2 <;> first | (exfalso; omega) | (simp [h1, h2, hq]; done) | (simp [h1, h2, hq]; rfl)
theorem tl_meniscuslaw8_GaussDiscs_6 (t10 : Int) (t7 : Int) (t8 : Int) (t2 : Int) (t9 : Int) :
    ev Try.prog (Env.add 18 (F0 cBool true) (Env.add 22 (F2p cInt cInt cInt pickOk pick) (Env.add 28 (F2 cCx cInt cInt cInDisc) (Env.add 29 (FR (sc 1 [0] (tCod 0 cInt tNil) rNil) (sc 1 [0] (tSl 0 0 tNil) (rG_cx 22 rNil)) (fun _ => true) ((fun x => ((), ((cellsP (cellsR x.1.1)).map cxOf, ()))))) Env.nil)))) (Laws.add 9 (LoopR.of (sc 146 [11, 7, 8, 10, 2, 9] (tCod 11 cInt (tCod 7 cInt (tCod 8 cInt (tCod 10 cInt (tCod 2 cInt (tCod 9 cInt tNil)))))) rNil) (ocOr (ocExit 2 (sc 146 [7, 8, 10, 2, 9] (tCod 7 cInt (tCod 8 cInt (tCod 10 cInt (tCod 2 cInt (tCod 9 cInt tNil))))) rNil)) (ocRet (sc 146 [6] (tCod 6 cBool tNil) rNil))) (runBy dinStep dinM)) Laws.nil) 200 none (loopAt Try.f5 6) ((sc 146 [10, 7, 8, 2, 9] (tCod 10 cInt (tCod 7 cInt (tCod 8 cInt (tCod 2 cInt (tCod 9 cInt tNil))))) rNil).enc ((t10, t7, t8, t2, t9, ()), (()))) (backK (sc 146 [10, 7, 8, 2, 9] (tCod 10 cInt (tCod 7 cInt (tCod 8 cInt (tCod 2 cInt (tCod 9 cInt tNil))))) rNil) (ocOr (ocExit 0 (sc 146 [7, 8, 2, 9] (tCod 7 cInt (tCod 8 cInt (tCod 2 cInt (tCod 9 cInt tNil)))) rNil)) (ocRet (sc 146 [6] (tCod 6 cBool tNil) rNil)))) =
      .br (Decidable.decide (t10 ≤ 10))
       (
        .get (Go.Proofs.Ythgpgnijbajlgaa.runBy Go.Proofs.Ythgpgnijbajlgaa.dinStep Go.Proofs.Ythgpgnijbajlgaa.dinM ((0, t7, t8, t10, t2, t9, ()), ())) fun vy0 =>
        .sum (vy0)
         (fun vs1 =>
          .ret (Sum.inl ((Go.IntKind.i64.wrap (vs1.fst.snd.snd.fst + 1), vs1.fst.fst, vs1.fst.snd.fst, vs1.fst.snd.snd.snd.fst, vs1.fst.snd.snd.snd.snd.fst, ()), ())))
         (fun vs2 =>
          .ret (Sum.inr (Sum.inr ((vs2.fst.fst, ()), ())))))
       (
        .ret (Sum.inr (Sum.inl ((t7, t8, t2, t9, ()), ())))) := by kernel_rfl
theorem ok_meniscuslaw8_GaussDiscs_6 : LOK Try.prog (LoopR.of (sc 146 [10, 7, 8, 2, 9] (tCod 10 cInt (tCod 7 cInt (tCod 8 cInt (tCod 2 cInt (tCod 9 cInt tNil))))) rNil) (ocOr (ocExit 0 (sc 146 [7, 8, 2, 9] (tCod 7 cInt (tCod 8 cInt (tCod 2 cInt (tCod 9 cInt tNil)))) rNil)) (ocRet (sc 146 [6] (tCod 6 cBool tNil) rNil))) (runBy doutStep doutM)) (loopAt Try.f5 6) := by
  refine loop_ok (EnvOK.add s_meniscuslaw8_known (EnvOK.add s_meniscushand_Pick (EnvOK.add s_gauss_InDisc (EnvOK.add s_gauss_Cells EnvOK.nil)))) (LFn.at (fn := Try.f5) (LFn.add (fn := Try.f5) (i := 9) (by kernel_rfl) ok_meniscuslaw8_GaussDiscs_9 LFn.nil) 6) doutStep (n := 200) (fun x z h => ?_) (runBy_ok _ _)
  obtain ⟨⟨t10, t7, t8, t2, t9, ⟨⟩⟩, ⟨⟩⟩ := x
  rw [tl_meniscuslaw8_GaussDiscs_6]
  rw [← h]
  simp only [doutStep]
  simp only [den_br, den_bind, den_ret, den_fail, den_inl, den_inr, decide_eq_true_eq, gt_iff_lt, ge_iff_le, beq_iff_eq]
  by_cases h0 : t10 ≤ 10 <;> simp only [h0, if_true, if_false]
  cases runBy dinStep dinM ((0, t7, t8, t10, t2, t9, ()), ()) with
  | none => rfl
  | some y => cases y <;> rfl
theorem tl_meniscuslaw8_GaussDiscs_17 (t15 : Int) (t7 : Int) (t8 : Int) (t2 : Int) (t9 : Int) :
    ev Try.prog (Env.add 18 (F0 cBool true) (Env.add 22 (F2p cInt cInt cInt pickOk pick) (Env.add 28 (F2 cCx cInt cInt cInDisc) (Env.add 29 (FR (sc 1 [0] (tCod 0 cInt tNil) rNil) (sc 1 [0] (tSl 0 0 tNil) (rG_cx 22 rNil)) (fun _ => true) ((fun x => ((), ((cellsP (cellsR x.1.1)).map cxOf, ()))))) Env.nil)))) (Laws.add 6 (LoopR.of (sc 146 [10, 7, 8, 2, 9] (tCod 10 cInt (tCod 7 cInt (tCod 8 cInt (tCod 2 cInt (tCod 9 cInt tNil))))) rNil) (ocOr (ocExit 0 (sc 146 [7, 8, 2, 9] (tCod 7 cInt (tCod 8 cInt (tCod 2 cInt (tCod 9 cInt tNil)))) rNil)) (ocRet (sc 146 [6] (tCod 6 cBool tNil) rNil))) (runBy doutStep doutM)) (Laws.add 9 (LoopR.of (sc 146 [11, 7, 8, 10, 2, 9] (tCod 11 cInt (tCod 7 cInt (tCod 8 cInt (tCod 10 cInt (tCod 2 cInt (tCod 9 cInt tNil)))))) rNil) (ocOr (ocExit 2 (sc 146 [7, 8, 10, 2, 9] (tCod 7 cInt (tCod 8 cInt (tCod 10 cInt (tCod 2 cInt (tCod 9 cInt tNil))))) rNil)) (ocRet (sc 146 [6] (tCod 6 cBool tNil) rNil))) (runBy dinStep dinM)) Laws.nil)) 200 none (loopAt Try.f5 17) ((sc 146 [15, 7, 8, 2, 9] (tCod 15 cInt (tCod 7 cInt (tCod 8 cInt (tCod 2 cInt (tCod 9 cInt tNil))))) rNil).enc ((t15, t7, t8, t2, t9, ()), (()))) (backK (sc 146 [15, 7, 8, 2, 9] (tCod 15 cInt (tCod 7 cInt (tCod 8 cInt (tCod 2 cInt (tCod 9 cInt tNil))))) rNil) (ocOr (ocExit 4 (sc 146 [2] (tCod 2 cInt tNil) rNil)) (ocRet (sc 146 [6] (tCod 6 cBool tNil) rNil)))) =
      .br (Decidable.decide (t15 < 4))
       (
        .bind (Go.Proofs.Ythgpgnijbajlgaa.cInDisc (Go.Proofs.Ythgpgnijbajlgaa.Ev.fInt (Go.IntKind.i64.wrap (Go.IntKind.i64.wrap (2 * t7) + t15.tmod 2)), Go.Proofs.Ythgpgnijbajlgaa.Ev.fInt (Go.IntKind.i64.wrap (Go.IntKind.i64.wrap (2 * t8) + Go.IntKind.i64.wrap (t15.tdiv 2)))) (Go.IntKind.i64.wrap (2 * t2))) fun vn0 =>
        .br (t9 != 0)
         (
          .br (vn0 != t9)
           (
            .ret (Sum.inr (Sum.inr ((Bool.false, ()), ()))))
           (
            .ret (Sum.inl ((Go.IntKind.i64.wrap (t15 + 1), t7, t8, t2, t9, ()), ()))))
         (
          .ret (Sum.inl ((Go.IntKind.i64.wrap (t15 + 1), t7, t8, t2, t9, ()), ()))))
       (
        .ret (Sum.inr (Sum.inl ((t2, ()), ())))) := by kernel_rfl
theorem ok_meniscuslaw8_GaussDiscs_17 : LOK Try.prog (LoopR.of (sc 146 [15, 7, 8, 2, 9] (tCod 15 cInt (tCod 7 cInt (tCod 8 cInt (tCod 2 cInt (tCod 9 cInt tNil))))) rNil) (ocOr (ocExit 4 (sc 146 [2] (tCod 2 cInt tNil) rNil)) (ocRet (sc 146 [6] (tCod 6 cBool tNil) rNil))) (runBy fineStep fineM)) (loopAt Try.f5 17) := by
  refine loop_ok (EnvOK.add s_meniscuslaw8_known (EnvOK.add s_meniscushand_Pick (EnvOK.add s_gauss_InDisc (EnvOK.add s_gauss_Cells EnvOK.nil)))) (LFn.at (fn := Try.f5) (LFn.add (fn := Try.f5) (i := 6) (by kernel_rfl) ok_meniscuslaw8_GaussDiscs_6 (LFn.add (fn := Try.f5) (i := 9) (by kernel_rfl) ok_meniscuslaw8_GaussDiscs_9 LFn.nil)) 17) fineStep (n := 200) (fun x z h => ?_) (runBy_ok _ _)
  obtain ⟨⟨t15, t7, t8, t2, t9, ⟨⟩⟩, ⟨⟩⟩ := x
  rw [tl_meniscuslaw8_GaussDiscs_17]
  rw [← h]
  simp only [fineStep]
  rw [show cInDisc (Ev.fInt (IntKind.i64.wrap (IntKind.i64.wrap (2 * t7) + t15.tmod 2)), Ev.fInt (IntKind.i64.wrap (IntKind.i64.wrap (2 * t8) + IntKind.i64.wrap (t15.tdiv 2)))) (IntKind.i64.wrap (2 * t2)) = fineD t15 t7 t8 t2 from rfl]
  generalize fineD t15 t7 t8 t2 = q
  simp only [den_br, den_bind, den_ret, den_fail, den_inl, den_inr, decide_eq_true_eq, gt_iff_lt, ge_iff_le, beq_iff_eq]
  by_cases h0 : t15 < 4 <;> simp only [h0, if_true, if_false]
  by_cases h1 : t9 = 0 <;> by_cases h2 : q = t9 <;> simp [h1, h2]
theorem tl_meniscuslaw8_GaussDiscs_27 (t123 : Int) (t122 : Int) (t17 : Int) (r0 : List Cx) :
    ev Try.prog (Env.add 18 (F0 cBool true) (Env.add 22 (F2p cInt cInt cInt pickOk pick) (Env.add 28 (F2 cCx cInt cInt cInDisc) (Env.add 29 (FR (sc 1 [0] (tCod 0 cInt tNil) rNil) (sc 1 [0] (tSl 0 0 tNil) (rG_cx 22 rNil)) (fun _ => true) ((fun x => ((), ((cellsP (cellsR x.1.1)).map cxOf, ()))))) Env.nil)))) (Laws.add 17 (LoopR.of (sc 146 [15, 7, 8, 2, 9] (tCod 15 cInt (tCod 7 cInt (tCod 8 cInt (tCod 2 cInt (tCod 9 cInt tNil))))) rNil) (ocOr (ocExit 4 (sc 146 [2] (tCod 2 cInt tNil) rNil)) (ocRet (sc 146 [6] (tCod 6 cBool tNil) rNil))) (runBy fineStep fineM)) (Laws.add 6 (LoopR.of (sc 146 [10, 7, 8, 2, 9] (tCod 10 cInt (tCod 7 cInt (tCod 8 cInt (tCod 2 cInt (tCod 9 cInt tNil))))) rNil) (ocOr (ocExit 0 (sc 146 [7, 8, 2, 9] (tCod 7 cInt (tCod 8 cInt (tCod 2 cInt (tCod 9 cInt tNil)))) rNil)) (ocRet (sc 146 [6] (tCod 6 cBool tNil) rNil))) (runBy doutStep doutM)) (Laws.add 9 (LoopR.of (sc 146 [11, 7, 8, 10, 2, 9] (tCod 11 cInt (tCod 7 cInt (tCod 8 cInt (tCod 10 cInt (tCod 2 cInt (tCod 9 cInt tNil)))))) rNil) (ocOr (ocExit 2 (sc 146 [7, 8, 10, 2, 9] (tCod 7 cInt (tCod 8 cInt (tCod 10 cInt (tCod 2 cInt (tCod 9 cInt tNil))))) rNil)) (ocRet (sc 146 [6] (tCod 6 cBool tNil) rNil))) (runBy dinStep dinM)) Laws.nil))) 200 none (loopAt Try.f5 27) ((sc 146 [123, 122, 17, 121] (tCod 123 cInt (tCod 122 cInt (tCod 17 cInt (tSl 121 0 tNil)))) (rG_cx 22 rNil)).enc ((t123, t122, t17, ()), (r0, ()))) (backK (sc 146 [123, 122, 17, 121] (tCod 123 cInt (tCod 122 cInt (tCod 17 cInt (tSl 121 0 tNil)))) (rG_cx 22 rNil)) (ocOr (ocExit 6 (sc 146 [] tNil rNil)) (ocRet (sc 146 [6] (tCod 6 cBool tNil) rNil)))) =
      .br (Decidable.decide (t123 < t122))
       (
        .br (Decidable.decide (0 ≤ t123 ∧ t123 < (@Nat.cast Int _ r0.length)))
         (
          .get (r0[t123.toNat]?) fun vt0 =>
          .br (Go.IntKind.i64.wrap (2 * t17) != 0)
           (
            .br (Go.IntKind.i64.wrap (2 * t17) != 0)
             (
              .br (!Go.Proofs.Ythgpgnijbajlgaa.Ev.cEq vt0.fst vt0.snd (Go.Proofs.Ythgpgnijbajlgaa.Ev.fInt (Go.IntKind.i64.wrap (t123.tmod (Go.IntKind.i64.wrap (2 * t17)) - t17))) (Go.Proofs.Ythgpgnijbajlgaa.Ev.fInt (Go.IntKind.i64.wrap (Go.IntKind.i64.wrap (t123.tdiv (Go.IntKind.i64.wrap (2 * t17))) - t17))))
               (
                .ret (Sum.inr (Sum.inr ((Bool.false, ()), ()))))
               (
                .ret (Sum.inl ((Go.IntKind.i64.wrap (t123 + 1), t122, t17, ()), r0, ()))))
             (
              .fail))
           (
            .fail))
         (
          .fail))
       (
        .ret (Sum.inr (Sum.inl ((), ())))) := by kernel_rfl
theorem ok_meniscuslaw8_GaussDiscs_27 : LOK Try.prog (LoopR.of (sc 146 [123, 122, 17, 121] (tCod 123 cInt (tCod 122 cInt (tCod 17 cInt (tSl 121 0 tNil)))) (rG_cx 22 rNil)) (ocOr (ocExit 6 (sc 146 [] tNil rNil)) (ocRet (sc 146 [6] (tCod 6 cBool tNil) rNil))) (runBy placeStep placeM)) (loopAt Try.f5 27) := by
  refine loop_ok (EnvOK.add s_meniscuslaw8_known (EnvOK.add s_meniscushand_Pick (EnvOK.add s_gauss_InDisc (EnvOK.add s_gauss_Cells EnvOK.nil)))) (LFn.at (fn := Try.f5) (LFn.add (fn := Try.f5) (i := 17) (by kernel_rfl) ok_meniscuslaw8_GaussDiscs_17 (LFn.add (fn := Try.f5) (i := 6) (by kernel_rfl) ok_meniscuslaw8_GaussDiscs_6 (LFn.add (fn := Try.f5) (i := 9) (by kernel_rfl) ok_meniscuslaw8_GaussDiscs_9 LFn.nil))) 27) placeStep (n := 200) (fun x z h => ?_) (runBy_ok _ _)
  obtain ⟨⟨t123, t122, t17, ⟨⟩⟩, ⟨r0, ⟨⟩⟩⟩ := x
  rw [tl_meniscuslaw8_GaussDiscs_27]
  rw [← h]
  simp only [placeStep]
  simp only [den_br, den_bind, den_ret, den_fail, den_inl, den_inr, decide_eq_true_eq, gt_iff_lt, ge_iff_le, beq_iff_eq]
  by_cases h0 : t123 < t122 <;> simp only [h0, if_true, if_false]
  by_cases h1 : 0 ≤ t123 ∧ t123 < (r0.length : Int) <;> simp only [h1, and_self, if_true, if_false]
  cases hg : r0[t123.toNat]? with
  | none => rfl
  | some z =>
    simp only [den_get, den_br, den_bind, den_ret, den_fail]
    rw [show (Ev.cEq z.1 z.2 (Ev.fInt (IntKind.i64.wrap (t123.tmod (IntKind.i64.wrap (2 * t17)) - t17))) (Ev.fInt (IntKind.i64.wrap (IntKind.i64.wrap (t123.tdiv (IntKind.i64.wrap (2 * t17))) - t17)))) = Ev.cEq z.1 z.2 (placeC t123 t17).1 (placeC t123 t17).2 from rfl]
    by_cases h2 : IntKind.i64.wrap (2 * t17) = 0 <;> cases Ev.cEq z.1 z.2 (placeC t123 t17).1 (placeC t123 t17).2 <;> simp [h2]
theorem t_meniscuslaw8_GaussDiscs (t0 : Int) (t1 : Int) (t2 : Int) :
    evFn Try.prog (Env.add 18 (F0 cBool true) (Env.add 22 (F2p cInt cInt cInt pickOk pick) (Env.add 28 (F2 cCx cInt cInt cInDisc) (Env.add 29 (FR (sc 1 [0] (tCod 0 cInt tNil) rNil) (sc 1 [0] (tSl 0 0 tNil) (rG_cx 22 rNil)) (fun _ => true) ((fun x => ((), ((cellsP (cellsR x.1.1)).map cxOf, ()))))) Env.nil)))) (Laws.add 27 (LoopR.of (sc 146 [123, 122, 17, 121] (tCod 123 cInt (tCod 122 cInt (tCod 17 cInt (tSl 121 0 tNil)))) (rG_cx 22 rNil)) (ocOr (ocExit 6 (sc 146 [] tNil rNil)) (ocRet (sc 146 [6] (tCod 6 cBool tNil) rNil))) (runBy placeStep placeM)) (Laws.add 17 (LoopR.of (sc 146 [15, 7, 8, 2, 9] (tCod 15 cInt (tCod 7 cInt (tCod 8 cInt (tCod 2 cInt (tCod 9 cInt tNil))))) rNil) (ocOr (ocExit 4 (sc 146 [2] (tCod 2 cInt tNil) rNil)) (ocRet (sc 146 [6] (tCod 6 cBool tNil) rNil))) (runBy fineStep fineM)) (Laws.add 6 (LoopR.of (sc 146 [10, 7, 8, 2, 9] (tCod 10 cInt (tCod 7 cInt (tCod 8 cInt (tCod 2 cInt (tCod 9 cInt tNil))))) rNil) (ocOr (ocExit 0 (sc 146 [7, 8, 2, 9] (tCod 7 cInt (tCod 8 cInt (tCod 2 cInt (tCod 9 cInt tNil)))) rNil)) (ocRet (sc 146 [6] (tCod 6 cBool tNil) rNil))) (runBy doutStep doutM)) (Laws.add 9 (LoopR.of (sc 146 [11, 7, 8, 10, 2, 9] (tCod 11 cInt (tCod 7 cInt (tCod 8 cInt (tCod 10 cInt (tCod 2 cInt (tCod 9 cInt tNil)))))) rNil) (ocOr (ocExit 2 (sc 146 [7, 8, 10, 2, 9] (tCod 7 cInt (tCod 8 cInt (tCod 10 cInt (tCod 2 cInt (tCod 9 cInt tNil))))) rNil)) (ocRet (sc 146 [6] (tCod 6 cBool tNil) rNil))) (runBy dinStep dinM)) Laws.nil)))) 200 Try.f5 (((sc 3 [0, 1, 2] (tCod 0 cInt (tCod 1 cInt (tCod 2 cInt tNil))) rNil).enc ((t0, t1, t2, ()), (()))).tmps.map Prod.snd) ((sc 3 [0, 1, 2] (tCod 0 cInt (tCod 1 cInt (tCod 2 cInt tNil))) rNil).enc ((t0, t1, t2, ()), (()))).mem cBool.dec =
      .br (Go.Proofs.Ythgpgnijbajlgaa.pickOk t2 20)
       (
        .bind (Go.Proofs.Ythgpgnijbajlgaa.pick t2 20) fun vn0 =>
        .br (Go.Proofs.Ythgpgnijbajlgaa.pickOk t0 50)
         (
          .bind (Go.Proofs.Ythgpgnijbajlgaa.pick t0 50) fun vn1 =>
          .br (Go.Proofs.Ythgpgnijbajlgaa.pickOk t1 50)
           (
            .bind (Go.Proofs.Ythgpgnijbajlgaa.pick t1 50) fun vn2 =>
            .bind (Go.Proofs.Ythgpgnijbajlgaa.cInDisc (Go.Proofs.Ythgpgnijbajlgaa.Ev.fInt (Go.IntKind.i64.wrap (vn1 - 25)), Go.Proofs.Ythgpgnijbajlgaa.Ev.fInt (Go.IntKind.i64.wrap (vn2 - 25))) (Go.IntKind.i64.wrap (1 + vn0))) fun vn3 =>
            .get (Go.Proofs.Ythgpgnijbajlgaa.runBy Go.Proofs.Ythgpgnijbajlgaa.doutStep Go.Proofs.Ythgpgnijbajlgaa.doutM ((0, Go.IntKind.i64.wrap (vn1 - 25), Go.IntKind.i64.wrap (vn2 - 25), Go.IntKind.i64.wrap (1 + vn0), vn3, ()), ())) fun vy4 =>
            .sum (vy4)
             (fun vs5 =>
              .get (Go.Proofs.Ythgpgnijbajlgaa.runBy Go.Proofs.Ythgpgnijbajlgaa.fineStep Go.Proofs.Ythgpgnijbajlgaa.fineM ((0, vs5.fst.fst, vs5.fst.snd.fst, vs5.fst.snd.snd.fst, vs5.fst.snd.snd.snd.fst, ()), ())) fun vy6 =>
              .sum (vy6)
               (fun vs7 =>
                .br (Bool.true)
                 (
                  .bind (((), List.map Go.Proofs.Ythgpgnijbajlgaa.cxOf (Go.Proofs.Ythgpgnijbajlgaa.cellsP (Go.Proofs.Ythgpgnijbajlgaa.cellsR (Go.IntKind.i64.wrap (1 + vs7.fst.fst.tmod 16)))), ())) fun vy8 =>
                  .bind (Bool.true) fun vb9 =>
                  .br (!vb9)
                   (
                    .ret (Bool.false))
                   (
                    .br ((@Nat.cast Int _ vy8.snd.fst.length) != Go.IntKind.i64.wrap (Go.IntKind.i64.wrap (4 * Go.IntKind.i64.wrap (1 + vs7.fst.fst.tmod 16)) * Go.IntKind.i64.wrap (1 + vs7.fst.fst.tmod 16)))
                     (
                      .ret (Bool.false))
                     (
                      .get (Go.Proofs.Ythgpgnijbajlgaa.runBy Go.Proofs.Ythgpgnijbajlgaa.placeStep Go.Proofs.Ythgpgnijbajlgaa.placeM ((0, (@Nat.cast Int _ vy8.snd.fst.length), Go.IntKind.i64.wrap (1 + vs7.fst.fst.tmod 16), ()), vy8.snd.fst, ())) fun vy10 =>
                      .sum (vy10)
                       (fun vs11 =>
                        .ret (Bool.true))
                       (fun vs12 =>
                        .ret (vs12.fst.fst)))))
                 (
                  .fail))
               (fun vs13 =>
                .ret (vs13.fst.fst)))
             (fun vs14 =>
              .ret (vs14.fst.fst)))
           (
            .fail))
         (
          .fail))
       (
        .fail) := by kernel_rfl
theorem c_meniscuslaw8_GaussDiscs : PlainS Try.prog 5 (sc 3 [0, 1, 2] (tCod 0 cInt (tCod 1 cInt (tCod 2 cInt tNil))) rNil) cBool (fun _ => true) ((fun _ => true)) := by
  intro x h N w vs hM hv
  obtain ⟨⟨t0, t1, t2, ⟨⟩⟩, ⟨⟩⟩ := x
  refine calls_of_tree (n := 200) (EnvOK.add s_meniscuslaw8_known (EnvOK.add s_meniscushand_Pick (EnvOK.add s_gauss_InDisc (EnvOK.add s_gauss_Cells EnvOK.nil)))) Try.func5 hv (Nat.le_of_ble_eq_true (by kernel_rfl)) (LFn.add (fn := Try.f5) (i := 27) (by kernel_rfl) ok_meniscuslaw8_GaussDiscs_27 (LFn.add (fn := Try.f5) (i := 17) (by kernel_rfl) ok_meniscuslaw8_GaussDiscs_17 (LFn.add (fn := Try.f5) (i := 6) (by kernel_rfl) ok_meniscuslaw8_GaussDiscs_6 (LFn.add (fn := Try.f5) (i := 9) (by kernel_rfl) ok_meniscuslaw8_GaussDiscs_9 LFn.nil)))) hM cBool ?_
  rw [t_meniscuslaw8_GaussDiscs]
  have b0 := pick_bd t0 (m := 50) (by decide)
  have b1 := pick_bd t1 (m := 50) (by decide)
  have b2 := pick_bd t2 (m := 20) (by decide)
  have p50 : ∀ n : Int, pickOk n 50 = true := fun _ => by simp [pickOk]
  have p20 : ∀ n : Int, pickOk n 20 = true := fun _ => by simp [pickOk]
  have w0 : IntKind.i64.wrap (pick t0 50 - 25) = pick t0 50 - 25 := wr (by omega)
  have w1 : IntKind.i64.wrap (pick t1 50 - 25) = pick t1 50 - 25 := wr (by omega)
  have w2 : IntKind.i64.wrap (1 + pick t2 20) = 1 + pick t2 20 := wr (by omega)
  simp only [den_br, den_bind, den_ret, den_fail, den_get, den_inl, den_inr, p50, p20, w0, w1, w2, if_true]
  obtain ⟨a, ea⟩ : ∃ a, pick t0 50 - 25 = a := ⟨_, rfl⟩
  obtain ⟨b, eb⟩ : ∃ b, pick t1 50 - 25 = b := ⟨_, rfl⟩
  obtain ⟨n, en⟩ : ∃ n, 1 + pick t2 20 = n := ⟨_, rfl⟩
  rw [ea, eb, en]
  have ha : -25 ≤ a ∧ a < 25 := by omega
  have hb : -25 ≤ b ∧ b < 25 := by omega
  have hn : 1 ≤ n ∧ n ≤ 20 := by omega
  have hd : cInDisc (Ev.fInt a, Ev.fInt b) n = discOf ⟨a, b⟩ n := inDisc_CI (p := ⟨a, b⟩) ⟨by simp only; omega, by simp only; omega⟩
  have r1 := dout_run (fun i j hi hj => disc_bad ha hb hn i j hi hj)
  have r2 := fine_run ha hb hn
  have em : n.tmod 16 = n % 16 := Int.tmod_eq_emod_of_nonneg (by omega)
  have bm : 0 ≤ n % 16 ∧ n % 16 < 16 := ⟨Int.emod_nonneg _ (by decide), Int.emod_lt_of_pos _ (by decide)⟩
  obtain ⟨m, hm⟩ : ∃ m : Nat, 1 + n % 16 = (m : Int) := ⟨(1 + n % 16).toNat, by omega⟩
  have hm1 : 1 ≤ m ∧ m ≤ 16 := by omega
  have w3 : IntKind.i64.wrap (1 + n % 16) = (m : Int) := by rw [wr (by omega), hm]
  have wc : cellsR (m : Int) = (m : Int) := by unfold cellsR; omega
  have r3 := place_run hm1
  rw [cells_len hm1] at r3
  have r4 := cells_len hm1
  have hmm : 4 * m * m ≤ 1024 := Nat.le_trans (Nat.mul_le_mul (show 4 * m ≤ 64 by omega) hm1.2) (by decide)
  have w4 : IntKind.i64.wrap (4 * (m : Int)) = 4 * (m : Int) := wr (by omega)
  have hc : 4 * (m : Int) * (m : Int) ≤ 1024 := by
    have := Int.ofNat_le.2 hmm
    simpa using this
  have hc0 : 0 ≤ 4 * (m : Int) * (m : Int) := Int.mul_nonneg (by omega) (by omega)
  have w5 : IntKind.i64.wrap (4 * (m : Int) * (m : Int)) = 4 * (m : Int) * (m : Int) := wr (by omega)
  simp only [hd, r1, r2, em, w3, wc, r3, r4, w4, w5, den_br, den_bind, den_ret, den_fail, den_get, den_inl, den_inr, if_true, bne_self_eq_false, Bool.not_true, Bool.false_eq_true, if_false]
theorem s_meniscuslaw8_GaussDiscs : Ev.Spec Try.prog 5 (FS (sc 3 [0, 1, 2] (tCod 0 cInt (tCod 1 cInt (tCod 2 cInt tNil))) rNil) cBool (fun _ => true) ((fun _ => true))) := specS rfl (fun vs w => Try.call5 vs w) c_meniscuslaw8_GaussDiscs
end Go.Proofs.Ythgpgnijbajlgaa
