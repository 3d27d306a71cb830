/-
  Contracts of calls, written by a small program of this session out of the evaluator's trees.
-/
import Derived.Test.YthgpgnijbajlgaaCore
import Derived.Test.YthgpgnijbajlgaaCoreLoops
import Derived.Test.YthgpgnijbajlgaaCore2
import Derived.Test.YthgpgnijbajlgaaCore3
import Derived.Test.YthgpgnijbajlgaaEvCod
import Derived.Test.YthgpgnijbajlgaaEvRet
import Derived.Test.YthgpgnijbajlgaaProg
import Derived.Test.YthgpgnijbajlgaaK3
namespace Go.Proofs.Ythgpgnijbajlgaa
open Go Go.RowKit Ev
set_option maxRecDepth 100000
set_option linter.unusedVariables false
set_option linter.unusedSimpArgs false

/-! meniscuslaw7.NewtonTells -/
theorem t_meniscuslaw7_NewtonTells (t1 : Int) (t2 : Int) (t3 : Int) (t4 : Bool) (r0 : List Int) :
    evFn Try.prog (Env.add 22 (F2p cInt cInt cInt pickOk pick) (Env.add 50 (FR (sc 1 [0] (tSl 0 0 tNil) (rL_int rNil)) (sc 1 [0] (tSl 0 0 tNil) (rG_iv 63 rNil)) (fun _ => true) ((fun x => ((), (powersOf x.2.1, ()))))) (Env.add 51 (F2 cInt cInt cIv wide) (Env.add 52 (F2 cInt cInt cIv rawIv) (Env.add 53 (FR (sc 1 [0] (tSl 0 0 tNil) (rL_iv rNil)) (sc 1 [0] (tSl 0 0 tNil) (rG_iv 63 rNil)) (fun x => lenOk x.2.1) ((fun x => (((), (slope x.2.1, ())))))) (Env.add 54 (FS (sc 3 [0, 1, 2] (tClo 0 71 [] (tCod 1 cIv (tCod 2 cInt tNil))) rNil) (cTwo cIv cInt) (fun _ => true) ((fun x => _root_.Go.Proofs.Ythgpgnijbajlgaa.solve ((fun (_ : Unit) => lineF) x.2) x.1.1 x.1.2.1))) (Env.add 54 (FS (sc 3 [0, 1, 2] (tClo 0 67 [] (tCod 1 cIv (tCod 2 cInt tNil))) rNil) (cTwo cIv cInt) (fun _ => true) ((fun x => _root_.Go.Proofs.Ythgpgnijbajlgaa.solve ((fun (_ : Unit) => squareF) x.2) x.1.1 x.1.2.1))) (Env.add 54 (FS (sc 3 [0, 1, 2] (tClo 0 69 [] (tCod 1 cIv (tCod 2 cInt tNil))) rNil) (cTwo cIv cInt) (fun _ => true) ((fun x => _root_.Go.Proofs.Ythgpgnijbajlgaa.solve ((fun (_ : Unit) => aboveF) x.2) x.1.1 x.1.2.1))) (Env.add 54 (FS (sc 3 [0, 1, 2] (tClo 0 55 [0,1] (tCod 1 cIv (tCod 2 cInt tNil))) (rRoSl 2 ccNil ccNil_ok (rRoSl 3 ccNil ccNil_ok (rL_iv (rL_iv rNil))))) (cTwo cIv cInt) (fun x => (fun (c : Unit × Unit × List Iv × List Iv × Unit) => lenOk c.2.2.1 && lenOk c.2.2.2.1) x.2) ((fun x => _root_.Go.Proofs.Ythgpgnijbajlgaa.solve ((fun (c : Unit × Unit × List Iv × List Iv × Unit) t => (horner c.2.2.1 t, horner c.2.2.2.1 t)) x.2) x.1.1 x.1.2.1))) (Env.add 54 (F3 cNilFn cIv cInt (cTwo cIv cInt) ((fun (_ : Unit) (_ : Iv) (_ : Int) => noSolve))) (Env.add 55 (FS (sc 3 [0, 1, 2] (tCod 0 cIv (tOwn 1 0 (tOwn 2 1 tNil))) (rRoSl 2 ccNil ccNil_ok (rRoSl 3 ccNil ccNil_ok (rL_iv (rL_iv rNil))))) (cTwo cIv cIv) (fun x => (fun (c : Unit × Unit × List Iv × List Iv × Unit) => lenOk c.2.2.1 && lenOk c.2.2.2.1) x.2) ((fun x => (fun (c : Unit × Unit × List Iv × List Iv × Unit) t => (horner c.2.2.1 t, horner c.2.2.2.1 t)) x.2 x.1.1))) (Env.add 57 (FS (sc 3 [0, 1, 2] (tAgg 0 0 ccNil ccNil_ok (ccTwo ccBool (ccTwo ccSurf ccRay)) (ccTwo_ok ccBool_ok (ccTwo_ok ccSurf_ok ccRay_ok)) (tCod 1 cIv (tCod 2 cInt tNil))) (rL_iv rNil)) (cTwo cIv cInt) (fun x => lenOk x.2.1) ((fun x => _root_.Go.Proofs.Ythgpgnijbajlgaa.solve (fnAt x.2.1 x.1.2.1.1 x.1.2.1.2.1 x.1.2.1.2.2) x.1.2.2.1 x.1.2.2.2.1))) (Env.add 58 (F0 cBool true) Env.nil))))))))))))) Laws.nil 200 Try.f11 (((sc 5 [0, 1, 2, 3, 4] (tSl 0 0 (tCod 1 cInt (tCod 2 cInt (tCod 3 cInt (tCod 4 cBool tNil))))) (rL_int rNil)).enc ((t1, t2, t3, t4, ()), (r0, ()))).tmps.map Prod.snd) ((sc 5 [0, 1, 2, 3, 4] (tSl 0 0 (tCod 1 cInt (tCod 2 cInt (tCod 3 cInt (tCod 4 cBool tNil))))) (rL_int rNil)).enc ((t1, t2, t3, t4, ()), (r0, ()))).mem cBool.dec =
      .br (Bool.true)
       (
        .bind (((), Go.Proofs.Ythgpgnijbajlgaa.powersOf r0, ())) fun vy0 =>
        .br (Go.Proofs.Ythgpgnijbajlgaa.pickOk t1 524288)
         (
          .bind (Go.Proofs.Ythgpgnijbajlgaa.pick t1 524288) fun vn1 =>
          .br (Go.Proofs.Ythgpgnijbajlgaa.pickOk t2 393216)
           (
            .bind (Go.Proofs.Ythgpgnijbajlgaa.pick t2 393216) fun vn2 =>
            .bind (Go.Proofs.Ythgpgnijbajlgaa.wide (Go.IntKind.i64.wrap (vn1 - 262144)) vn2) fun viv3 =>
            .br (t4)
             (
              .bind (Go.Proofs.Ythgpgnijbajlgaa.rawIv t1 t2) fun viv4 =>
              .br (Go.Proofs.Ythgpgnijbajlgaa.pickOk t3 60)
               (
                .bind (Go.Proofs.Ythgpgnijbajlgaa.pick t3 60) fun vn5 =>
                .br (Go.Proofs.Ythgpgnijbajlgaa.Ev.lenOk vy0.snd.fst)
                 (
                  .bind (((), Go.Proofs.Ythgpgnijbajlgaa.slope vy0.snd.fst, ())) fun vy6 =>
                  .br (Go.Proofs.Ythgpgnijbajlgaa.Ev.lenOk vy0.snd.fst && Go.Proofs.Ythgpgnijbajlgaa.Ev.lenOk vy6.snd.fst)
                   (
                    .bind (Go.Proofs.Ythgpgnijbajlgaa.solve (fun t => (Go.Proofs.Ythgpgnijbajlgaa.horner vy0.snd.fst t, Go.Proofs.Ythgpgnijbajlgaa.horner vy6.snd.fst t)) viv4 (Go.IntKind.i64.wrap (vn5 - 5))) fun vy7 =>
                    .br (Go.Proofs.Ythgpgnijbajlgaa.Ev.lenOk vy0.snd.fst)
                     (
                      .bind (Go.Proofs.Ythgpgnijbajlgaa.solve (Go.Proofs.Ythgpgnijbajlgaa.fnAt vy0.snd.fst Bool.false (Go.Proofs.Ythgpgnijbajlgaa.Surf.mk Bool.false Bool.false (Go.Proofs.Ythgpgnijbajlgaa.Iv.mk 0 0 Bool.false) (Go.Proofs.Ythgpgnijbajlgaa.Iv.mk 0 0 Bool.false) (Go.Proofs.Ythgpgnijbajlgaa.Iv.mk 0 0 Bool.false) (Go.Proofs.Ythgpgnijbajlgaa.Iv.mk 0 0 Bool.false) (Go.Proofs.Ythgpgnijbajlgaa.Iv.mk 0 0 Bool.false) (Go.Proofs.Ythgpgnijbajlgaa.Iv.mk 0 0 Bool.false) (Go.Proofs.Ythgpgnijbajlgaa.Iv.mk 0 0 Bool.false)) (Go.Proofs.Ythgpgnijbajlgaa.Ray.mk (Go.Proofs.Ythgpgnijbajlgaa.V.mk (Go.Proofs.Ythgpgnijbajlgaa.Iv.mk 0 0 Bool.false) (Go.Proofs.Ythgpgnijbajlgaa.Iv.mk 0 0 Bool.false) (Go.Proofs.Ythgpgnijbajlgaa.Iv.mk 0 0 Bool.false)) (Go.Proofs.Ythgpgnijbajlgaa.V.mk (Go.Proofs.Ythgpgnijbajlgaa.Iv.mk 0 0 Bool.false) (Go.Proofs.Ythgpgnijbajlgaa.Iv.mk 0 0 Bool.false) (Go.Proofs.Ythgpgnijbajlgaa.Iv.mk 0 0 Bool.false)))) viv4 (Go.IntKind.i64.wrap (vn5 - 5))) fun vy8 =>
                      .bind (Bool.true) fun vb9 =>
                      .br (vb9)
                       (
                        .br (vy7.fst.lo == vy8.fst.lo && (vy7.fst.hi == vy8.fst.hi && vy7.fst.no == vy8.fst.no))
                         (
                          .ret (vy7.snd == vy8.snd))
                         (
                          .ret (Bool.false)))
                       (
                        .ret (Bool.false)))
                     (
                      .fail))
                   (
                    .fail))
                 (
                  .fail))
               (
                .fail))
             (
              .br (Go.Proofs.Ythgpgnijbajlgaa.pickOk t3 60)
               (
                .bind (Go.Proofs.Ythgpgnijbajlgaa.pick t3 60) fun vn10 =>
                .br (Go.Proofs.Ythgpgnijbajlgaa.Ev.lenOk vy0.snd.fst)
                 (
                  .bind (((), Go.Proofs.Ythgpgnijbajlgaa.slope vy0.snd.fst, ())) fun vy11 =>
                  .br (Go.Proofs.Ythgpgnijbajlgaa.Ev.lenOk vy0.snd.fst && Go.Proofs.Ythgpgnijbajlgaa.Ev.lenOk vy11.snd.fst)
                   (
                    .bind (Go.Proofs.Ythgpgnijbajlgaa.solve (fun t => (Go.Proofs.Ythgpgnijbajlgaa.horner vy0.snd.fst t, Go.Proofs.Ythgpgnijbajlgaa.horner vy11.snd.fst t)) viv3 (Go.IntKind.i64.wrap (vn10 - 5))) fun vy12 =>
                    .br (Go.Proofs.Ythgpgnijbajlgaa.Ev.lenOk vy0.snd.fst)
                     (
                      .bind (Go.Proofs.Ythgpgnijbajlgaa.solve (Go.Proofs.Ythgpgnijbajlgaa.fnAt vy0.snd.fst Bool.false (Go.Proofs.Ythgpgnijbajlgaa.Surf.mk Bool.false Bool.false (Go.Proofs.Ythgpgnijbajlgaa.Iv.mk 0 0 Bool.false) (Go.Proofs.Ythgpgnijbajlgaa.Iv.mk 0 0 Bool.false) (Go.Proofs.Ythgpgnijbajlgaa.Iv.mk 0 0 Bool.false) (Go.Proofs.Ythgpgnijbajlgaa.Iv.mk 0 0 Bool.false) (Go.Proofs.Ythgpgnijbajlgaa.Iv.mk 0 0 Bool.false) (Go.Proofs.Ythgpgnijbajlgaa.Iv.mk 0 0 Bool.false) (Go.Proofs.Ythgpgnijbajlgaa.Iv.mk 0 0 Bool.false)) (Go.Proofs.Ythgpgnijbajlgaa.Ray.mk (Go.Proofs.Ythgpgnijbajlgaa.V.mk (Go.Proofs.Ythgpgnijbajlgaa.Iv.mk 0 0 Bool.false) (Go.Proofs.Ythgpgnijbajlgaa.Iv.mk 0 0 Bool.false) (Go.Proofs.Ythgpgnijbajlgaa.Iv.mk 0 0 Bool.false)) (Go.Proofs.Ythgpgnijbajlgaa.V.mk (Go.Proofs.Ythgpgnijbajlgaa.Iv.mk 0 0 Bool.false) (Go.Proofs.Ythgpgnijbajlgaa.Iv.mk 0 0 Bool.false) (Go.Proofs.Ythgpgnijbajlgaa.Iv.mk 0 0 Bool.false)))) viv3 (Go.IntKind.i64.wrap (vn10 - 5))) fun vy13 =>
                      .bind (Bool.true) fun vb14 =>
                      .br (vb14)
                       (
                        .br (vy12.fst.lo == vy13.fst.lo && (vy12.fst.hi == vy13.fst.hi && vy12.fst.no == vy13.fst.no))
                         (
                          .ret (vy12.snd == vy13.snd))
                         (
                          .ret (Bool.false)))
                       (
                        .ret (Bool.false)))
                     (
                      .fail))
                   (
                    .fail))
                 (
                  .fail))
               (
                .fail)))
           (
            .fail))
         (
          .fail))
       (
        .fail) := by kernel_rfl
theorem c_meniscuslaw7_NewtonTells : PlainS Try.prog 11 (sc 5 [0, 1, 2, 3, 4] (tSl 0 0 (tCod 1 cInt (tCod 2 cInt (tCod 3 cInt (tCod 4 cBool tNil))))) (rL_int rNil)) cBool (fun _ => true) ((fun _ => true)) := by
  intro x h N w vs hM hv
  obtain ⟨⟨t1, t2, t3, t4, ⟨⟩⟩, ⟨r0, ⟨⟩⟩⟩ := x
  refine calls_of_tree (n := 200) (EnvOK.add s_meniscushand_Pick (EnvOK.add s_meniscuslaw7_powers (EnvOK.add s_meniscushand_Wide (EnvOK.add s_meniscushand_Iv (EnvOK.add s_meniscusref1_Slope (EnvOK.add s_newton_Solve_line (EnvOK.add s_newton_Solve_square (EnvOK.add s_newton_Solve_above (EnvOK.add s_newton_Solve_poly (EnvOK.add s_newton_Solve_nil (EnvOK.add s_meniscuslaw7_NewtonTells_1 (EnvOK.add s_meniscusref14_Fn_Solve (EnvOK.add s_meniscuslaw7_known EnvOK.nil))))))))))))) Try.func11 hv (Nat.le_of_ble_eq_true (by kernel_rfl)) LFn.nil hM cBool ?_
  rw [t_meniscuslaw7_NewtonTells]
  simp only [den_br, den_bind, den_ret, den_fail, den_inl, den_inr, decide_eq_true_eq]
  have hl : lenOk (powersOf r0) = true := lenOk_iff.2 (by have := powGo_len r0 5 0; simp only [powersOf]; omega)
  have hs : lenOk (slope (powersOf r0)) = true := lenOk_iff.2 (by have := lenOk_iff.1 hl; simp [slope]; omega)
  have key : ∀ s r, fnAt (powersOf r0) false s r = fun t => (horner (powersOf r0) t, horner (slope (powersOf r0)) t) := fun _ _ => rfl
  have p1 : pickOk t1 524288 = true := by simp [pickOk]
  have p2 : pickOk t2 393216 = true := by simp [pickOk]
  have p3 : pickOk t3 60 = true := by simp [pickOk]
  simp only [hl, hs, key, p1, p2, p3, Bool.and_self, if_true]
  cases t4 <;> simp
theorem s_meniscuslaw7_NewtonTells : Ev.Spec Try.prog 11 (FS (sc 5 [0, 1, 2, 3, 4] (tSl 0 0 (tCod 1 cInt (tCod 2 cInt (tCod 3 cInt (tCod 4 cBool tNil))))) (rL_int rNil)) cBool (fun _ => true) ((fun _ => true))) := specS rfl (fun vs w => Try.call11 vs w) c_meniscuslaw7_NewtonTells
end Go.Proofs.Ythgpgnijbajlgaa
