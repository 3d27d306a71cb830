/-
  Contracts of calls, written by a small program of this session out of the evaluator's trees.
-/
import Derived.Test.YthgpgnijbajlgaaCore
import Derived.Test.YthgpgnijbajlgaaCoreLoops
import Derived.Test.YthgpgnijbajlgaaCore2
import Derived.Test.YthgpgnijbajlgaaCore3
import Derived.Test.YthgpgnijbajlgaaCore4
import Derived.Test.YthgpgnijbajlgaaCore5
import Derived.Test.YthgpgnijbajlgaaFloCod
import Derived.Test.YthgpgnijbajlgaaGs
import Derived.Test.YthgpgnijbajlgaaGsL
import Derived.Test.YthgpgnijbajlgaaK1
import Derived.Test.YthgpgnijbajlgaaG0
import Derived.Test.YthgpgnijbajlgaaEvCod
import Derived.Test.YthgpgnijbajlgaaEvRet
import Derived.Test.YthgpgnijbajlgaaProg
namespace Go.Proofs.Ythgpgnijbajlgaa
open Go Go.RowKit Ev
set_option maxRecDepth 100000
set_option linter.unusedVariables false
set_option linter.unusedSimpArgs false

/-! meniscuslaw8.number -/
theorem t_meniscuslaw8_number (x0 : Int) (x1 : Int) (x2 : Int) :
    evFn Try.prog (Env.add 22 (F2p cInt cInt cInt pickOk pick) Env.nil) Laws.nil 200 Try.f17 [cInt.av x0, cInt.av x1, cInt.av x2] [] cCx.dec =
      .br (Go.Proofs.Ythgpgnijbajlgaa.pickOk x0 81)
       (
        .bind (Go.Proofs.Ythgpgnijbajlgaa.pick x0 81) fun vn0 =>
        .br (Go.Proofs.Ythgpgnijbajlgaa.pickOk x1 81)
         (
          .bind (Go.Proofs.Ythgpgnijbajlgaa.pick x1 81) fun vn1 =>
          .br (Go.Proofs.Ythgpgnijbajlgaa.pickOk x2 9)
           (
            .bind (Go.Proofs.Ythgpgnijbajlgaa.pick x2 9) fun vn2 =>
            .br (vn2 == 5)
             (
              .ret ((Go.Proofs.Ythgpgnijbajlgaa.Ev.fInt x0, Go.Proofs.Ythgpgnijbajlgaa.Ev.fInt (Go.IntKind.i64.wrap (vn1 - 40)))))
             (
              .br (vn2 == 6)
               (
                .get (Go.floatBits Go.BinOp.add Go.FloatKind.f64 (Go.Proofs.Ythgpgnijbajlgaa.Ev.fInt (Go.IntKind.i64.wrap (vn1 - 40))) 4602678819172646912) fun vna3 =>
                .ret ((Go.Proofs.Ythgpgnijbajlgaa.Ev.fInt (Go.IntKind.i64.wrap (vn0 - 40)), vna3)))
               (
                .br (vn2 == 7)
                 (
                  .get (Go.floatBits Go.BinOp.mul Go.FloatKind.f64 (Go.Proofs.Ythgpgnijbajlgaa.Ev.fInt (Go.IntKind.i64.wrap (vn0 - 40))) 4673975551164153856) fun vna4 =>
                  .get (Go.floatBits Go.BinOp.mul Go.FloatKind.f64 (Go.Proofs.Ythgpgnijbajlgaa.Ev.fInt (Go.IntKind.i64.wrap (vn1 - 40))) 4673975551164153856) fun vna5 =>
                  .ret ((vna4, vna5)))
                 (
                  .br (vn2 == 8)
                   (
                    .get (Go.floatBits Go.BinOp.quo Go.FloatKind.f64 (Go.Proofs.Ythgpgnijbajlgaa.Ev.fInt x1) 4613937818241073152) fun vna6 =>
                    .ret ((Go.Proofs.Ythgpgnijbajlgaa.Ev.fInt (Go.IntKind.i64.wrap (vn0 - 40)), vna6)))
                   (
                    .ret ((Go.Proofs.Ythgpgnijbajlgaa.Ev.fInt (Go.IntKind.i64.wrap (vn0 - 40)), Go.Proofs.Ythgpgnijbajlgaa.Ev.fInt (Go.IntKind.i64.wrap (vn1 - 40)))))))))
           (
            .fail))
         (
          .fail))
       (
        .fail) := by kernel_rfl
theorem c_meniscuslaw8_number (x0 : Int) (x1 : Int) (x2 : Int) (h : ((fun _ _ b => decide (b = 0))) x0 x1 x2 = true) : Plain Try.prog 17 [cInt.enc x0, cInt.enc x1, cInt.enc x2] (cCx.enc (((fun x y _ => numC x y)) x0 x1 x2)) :=
  plain_of_tree (n := 200) (EnvOK.add s_meniscushand_Pick EnvOK.nil) Try.func17 (args := [cInt.av x0, cInt.av x1, cInt.av x2]) (by simp only [AV.vals, Cod.av_val]) (Nat.le_of_ble_eq_true (by kernel_rfl)) LFn.nil cCx (by
    rw [t_meniscuslaw8_number]
    have p81 : ∀ n : Int, pickOk n 81 = true := fun _ => by simp [pickOk]
    have p9 : ∀ n : Int, pickOk n 9 = true := fun _ => by simp [pickOk]
    have h0 := of_decide_eq_true h
    subst h0
    have b0 := pick_bd x0 (m := 81) (by decide)
    have b1 := pick_bd x1 (m := 81) (by decide)
    have w0 : IntKind.i64.wrap (pick x0 81 - 40) = pick x0 81 - 40 := wr (by omega)
    have w1 : IntKind.i64.wrap (pick x1 81 - 40) = pick x1 81 - 40 := wr (by omega)
    have p0 : pick 0 9 = 0 := by decide
    simp only [den_br, den_bind, den_ret, den_fail, p81, p9, p0, if_true, w0, w1]
    rfl)
theorem s_meniscuslaw8_number : Ev.Spec Try.prog 17 (F3p cInt cInt cInt cCx ((fun _ _ b => decide (b = 0))) ((fun x y _ => numC x y))) := spec3p (fun vs w => Try.call17 vs w) c_meniscuslaw8_number

/-! meniscuslaw8.known -/
theorem t_meniscuslaw8_known  :
    evFn Try.prog (Env.add 19 (F2 cCx cInt cCx cTurn) (Env.add 21 (F1 cCx cInt ((fun z => if cWhole z = true then cNorm z else 0))) (Env.add 29 (FR (sc 1 [0] (tCod 0 cInt tNil) rNil) (sc 1 [0] (tSl 0 0 tNil) (rG_cx 22 rNil)) (fun _ => true) ((fun x => ((), ((cellsP (cellsR x.1.1)).map cxOf, ()))))) (Env.add 33 (F1 cCx cBool cWhole) Env.nil)))) Laws.nil 200 Try.f18 [] [] cBool.dec =
      .bind (Go.Proofs.Ythgpgnijbajlgaa.cTurn (4613937818241073152, 4616189618054758400) 1) fun vcx0 =>
      .br (Go.Proofs.Ythgpgnijbajlgaa.Ev.cEq vcx0.fst vcx0.snd 13839561654909534208 4613937818241073152)
       (
        .bind (Go.Proofs.Ythgpgnijbajlgaa.cWhole (4613937818241073152, 4616189618054758400)) fun vb1 =>
        .br (vb1)
         (
          .bind (if Go.Proofs.Ythgpgnijbajlgaa.cWhole (4613937818241073152, 4616189618054758400) = Bool.true then Go.Proofs.Ythgpgnijbajlgaa.cNorm (4613937818241073152, 4616189618054758400) else 0) fun vn2 =>
          .br (vn2 == 25)
           (
            .br (Bool.true)
             (
              .bind (((), List.map Go.Proofs.Ythgpgnijbajlgaa.cxOf (Go.Proofs.Ythgpgnijbajlgaa.cellsP (Go.Proofs.Ythgpgnijbajlgaa.cellsR 1)), ())) fun vy3 =>
              .ret ((@Nat.cast Int _ vy3.snd.fst.length) == 4))
             (
              .fail))
           (
            .ret (Bool.false)))
         (
          .ret (Bool.false)))
       (
        .ret (Bool.false)) := by kernel_rfl
theorem c_meniscuslaw8_known  : Plain Try.prog 18 [] (cBool.enc (true)) :=
  plain_of_tree (n := 200) (EnvOK.add s_gauss_Turn (EnvOK.add s_gauss_Norm (EnvOK.add s_gauss_Cells (EnvOK.add s_gauss_Whole EnvOK.nil)))) Try.func18 (args := []) rfl (Nat.le_of_ble_eq_true (by kernel_rfl)) LFn.nil cBool (by
    rw [t_meniscuslaw8_known]
    decide +kernel)
theorem s_meniscuslaw8_known : Ev.Spec Try.prog 18 (F0 cBool true) := spec0 (fun vs w => Try.call18 vs w) c_meniscuslaw8_known

/-! meniscuslaw8.GaussTurns -/
theorem t_meniscuslaw8_GaussTurns (t0 : Int) (t1 : Int) (t2 : Int) (t3 : Int) (t4 : Int) (t5 : Int) :
    evFn Try.prog (Env.add 17 (F3p cInt cInt cInt cCx ((fun _ _ b => decide (b = 0))) ((fun x y _ => numC x y))) (Env.add 18 (F0 cBool true) (Env.add 19 (F2 cCx cInt cCx cTurn) (Env.add 20 (F1 cCx cCx cMirror) (Env.add 21 (F1 cCx cInt ((fun z => if cWhole z = true then cNorm z else 0))) Env.nil))))) Laws.nil 200 Try.f3 (((sc 6 [0, 1, 2, 3, 4, 5] (tCod 0 cInt (tCod 1 cInt (tCod 2 cInt (tCod 3 cInt (tCod 4 cInt (tCod 5 cInt tNil)))))) rNil).enc ((t0, t1, t2, t3, t4, t5, ()), (()))).tmps.map Prod.snd) ((sc 6 [0, 1, 2, 3, 4, 5] (tCod 0 cInt (tCod 1 cInt (tCod 2 cInt (tCod 3 cInt (tCod 4 cInt (tCod 5 cInt tNil)))))) rNil).enc ((t0, t1, t2, t3, t4, t5, ()), (()))).mem cBool.dec =
      .br (Decidable.decide (0 = 0))
       (
        .bind (Go.Proofs.Ythgpgnijbajlgaa.numC t0 t1) fun vcx0 =>
        .br (Decidable.decide (0 = 0))
         (
          .bind (Go.Proofs.Ythgpgnijbajlgaa.numC t2 t3) fun vcx1 =>
          .bind (Bool.true) fun vb2 =>
          .br (vb2)
           (
            .bind (Go.Proofs.Ythgpgnijbajlgaa.cTurn vcx0 (t4.tmod 1000)) fun vcx3 =>
            .bind (Go.Proofs.Ythgpgnijbajlgaa.cTurn vcx3 (t5.tmod 1000)) fun vcx4 =>
            .bind (Go.Proofs.Ythgpgnijbajlgaa.cTurn vcx0 (Go.IntKind.i64.wrap (t4.tmod 1000 + t5.tmod 1000))) fun vcx5 =>
            .br (Go.Proofs.Ythgpgnijbajlgaa.Ev.cEq vcx4.fst vcx4.snd vcx5.fst vcx5.snd)
             (
              .bind (Go.Proofs.Ythgpgnijbajlgaa.cTurn vcx0 (Go.IntKind.i64.wrap (4 * t4.tmod 1000))) fun vcx6 =>
              .br (Go.Proofs.Ythgpgnijbajlgaa.Ev.cEq vcx6.fst vcx6.snd vcx0.fst vcx0.snd)
               (
                .bind (Go.Proofs.Ythgpgnijbajlgaa.cTurn vcx0 (t4.tmod 1000)) fun vcx7 =>
                .bind (Go.Proofs.Ythgpgnijbajlgaa.cMirror vcx7) fun vcx8 =>
                .bind (Go.Proofs.Ythgpgnijbajlgaa.cMirror vcx0) fun vcx9 =>
                .bind (Go.Proofs.Ythgpgnijbajlgaa.cTurn vcx9 (Go.IntKind.i64.wrap (0 - t4.tmod 1000))) fun vcx10 =>
                .br (Go.Proofs.Ythgpgnijbajlgaa.Ev.cEq vcx8.fst vcx8.snd vcx10.fst vcx10.snd)
                 (
                  .bind (Go.Proofs.Ythgpgnijbajlgaa.cMirror vcx0) fun vcx11 =>
                  .bind (Go.Proofs.Ythgpgnijbajlgaa.cMirror vcx11) fun vcx12 =>
                  .br (Go.Proofs.Ythgpgnijbajlgaa.Ev.cEq vcx12.fst vcx12.snd vcx0.fst vcx0.snd)
                   (
                    .get (Go.cMulBits vcx0.fst vcx0.snd vcx1.fst vcx1.snd) fun vy13 =>
                    .bind (if Go.Proofs.Ythgpgnijbajlgaa.cWhole vy13 = Bool.true then Go.Proofs.Ythgpgnijbajlgaa.cNorm vy13 else 0) fun vn14 =>
                    .bind (if Go.Proofs.Ythgpgnijbajlgaa.cWhole vcx0 = Bool.true then Go.Proofs.Ythgpgnijbajlgaa.cNorm vcx0 else 0) fun vn15 =>
                    .bind (if Go.Proofs.Ythgpgnijbajlgaa.cWhole vcx1 = Bool.true then Go.Proofs.Ythgpgnijbajlgaa.cNorm vcx1 else 0) fun vn16 =>
                    .br (vn14 == Go.IntKind.i64.wrap (vn15 * vn16))
                     (
                      .bind (Go.Proofs.Ythgpgnijbajlgaa.cTurn vcx0 (t4.tmod 1000)) fun vcx17 =>
                      .bind (if Go.Proofs.Ythgpgnijbajlgaa.cWhole vcx17 = Bool.true then Go.Proofs.Ythgpgnijbajlgaa.cNorm vcx17 else 0) fun vn18 =>
                      .bind (if Go.Proofs.Ythgpgnijbajlgaa.cWhole vcx0 = Bool.true then Go.Proofs.Ythgpgnijbajlgaa.cNorm vcx0 else 0) fun vn19 =>
                      .br (vn18 == vn19)
                       (
                        .bind (Go.Proofs.Ythgpgnijbajlgaa.cMirror vcx0) fun vcx20 =>
                        .bind (if Go.Proofs.Ythgpgnijbajlgaa.cWhole vcx20 = Bool.true then Go.Proofs.Ythgpgnijbajlgaa.cNorm vcx20 else 0) fun vn21 =>
                        .bind (if Go.Proofs.Ythgpgnijbajlgaa.cWhole vcx0 = Bool.true then Go.Proofs.Ythgpgnijbajlgaa.cNorm vcx0 else 0) fun vn22 =>
                        .br (vn21 == vn22)
                         (
                          .bind (Go.Proofs.Ythgpgnijbajlgaa.cTurn vcx0 1) fun vcx23 =>
                          .get (Go.cMulBits vcx0.fst vcx0.snd 0 4607182418800017408) fun vy24 =>
                          .br (Go.Proofs.Ythgpgnijbajlgaa.Ev.cEq vcx23.fst vcx23.snd vy24.fst vy24.snd)
                           (
                            .bind (if Go.Proofs.Ythgpgnijbajlgaa.cWhole vcx0 = Bool.true then Go.Proofs.Ythgpgnijbajlgaa.cNorm vcx0 else 0) fun vn25 =>
                            .bind (Go.Proofs.Ythgpgnijbajlgaa.cMirror vcx0) fun vcx26 =>
                            .get (Go.cMulBits vcx0.fst vcx0.snd vcx26.fst vcx26.snd) fun vy27 =>
                            .ret (Go.Proofs.Ythgpgnijbajlgaa.Ev.cEq (Go.Proofs.Ythgpgnijbajlgaa.Ev.fInt vn25) 0 vy27.fst vy27.snd))
                           (
                            .ret (Bool.false)))
                         (
                          .ret (Bool.false)))
                       (
                        .ret (Bool.false)))
                     (
                      .ret (Bool.false)))
                   (
                    .ret (Bool.false)))
                 (
                  .ret (Bool.false)))
               (
                .ret (Bool.false)))
             (
              .ret (Bool.false)))
           (
            .ret (Bool.false)))
         (
          .fail))
       (
        .fail) := by kernel_rfl
theorem c_meniscuslaw8_GaussTurns : PlainS Try.prog 3 (sc 6 [0, 1, 2, 3, 4, 5] (tCod 0 cInt (tCod 1 cInt (tCod 2 cInt (tCod 3 cInt (tCod 4 cInt (tCod 5 cInt tNil)))))) rNil) cBool (fun _ => true) ((fun _ => true)) := by
  intro x h N w vs hM hv
  obtain ⟨⟨t0, t1, t2, t3, t4, t5, ⟨⟩⟩, ⟨⟩⟩ := x
  refine calls_of_tree (n := 200) (EnvOK.add s_meniscuslaw8_number (EnvOK.add s_meniscuslaw8_known (EnvOK.add s_gauss_Turn (EnvOK.add s_gauss_Mirror (EnvOK.add s_gauss_Norm EnvOK.nil))))) Try.func3 hv (Nat.le_of_ble_eq_true (by kernel_rfl)) LFn.nil hM cBool ?_
  rw [t_meniscuslaw8_GaussTurns]
  have k1 := (tmod_pick t4 (m := 1000) (by decide)).2.2
  have k2 := (tmod_pick t5 (m := 1000) (by decide)).2.2
  obtain ⟨⟨h1, h2, h3, h4⟩, ⟨r1, e1, f1⟩, h5, h6, ⟨r2, e2, f2⟩, ⟨r3, e3, f3⟩⟩ := turns_law (numC_CI t0 t1) (numC_CI t2 t3) (numP_small t0 t1) (numP_small t2 t3) (t4.tmod 1000) (t5.tmod 1000) k1 k2
  have en : ∀ z : Cx, (if cWhole z = true then cNorm z else 0) = cNormW z := fun _ => rfl
  simp only [den_br, den_bind, den_ret, den_fail, den_get, decide_true, if_true, h1, h2, h3, h4, e1, en, f1, h5, h6, e2, f2, e3, f3, BEq.rfl]
theorem s_meniscuslaw8_GaussTurns : Ev.Spec Try.prog 3 (FS (sc 6 [0, 1, 2, 3, 4, 5] (tCod 0 cInt (tCod 1 cInt (tCod 2 cInt (tCod 3 cInt (tCod 4 cInt (tCod 5 cInt tNil)))))) rNil) cBool (fun _ => true) ((fun _ => true))) := specS rfl (fun vs w => Try.call3 vs w) c_meniscuslaw8_GaussTurns
end Go.Proofs.Ythgpgnijbajlgaa
