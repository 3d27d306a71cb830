/-
  Contracts of calls, written by a small program of this session out of the evaluator's trees.
-/
import Derived.Test.YthgpgnijbajlgaaCore
import Derived.Test.YthgpgnijbajlgaaCoreLoops
import Derived.Test.YthgpgnijbajlgaaCore2
import Derived.Test.YthgpgnijbajlgaaCore3
import Derived.Test.YthgpgnijbajlgaaEvCod
import Derived.Test.YthgpgnijbajlgaaEvRet
import Derived.Test.YthgpgnijbajlgaaProg
import Derived.Test.YthgpgnijbajlgaaK2
namespace Go.Proofs.Ythgpgnijbajlgaa
open Go Go.RowKit Ev
set_option maxRecDepth 100000
set_option linter.unusedVariables false
set_option linter.unusedSimpArgs false

/-! newton.Solve -/
theorem tl_newton_Solve_above_5 (t15 : Bool) (t16 : Int) (r0 : Iv) (r1 : Iv) (r2 : Iv) (r3 : Iv) (r4 : Iv) (r5 : Iv) (r6 : Iv) (r7 : Iv) (r8 : Iv) :
    ev Try.prog (Env.add 39 (F1 cInt cIv Iv.point) (Env.add 40 (F2 cIv cIv cIv Iv.sub) (Env.add 45 (F2 cIv cIv cIv Iv.div) (Env.add 66 (F0 cIv Iv.none) (Env.add 91 (F1 cIv cBool Iv.right) (Env.add 106 (F1 cIv cInt Iv.mid) (Env.add 107 (F2 cIv cIv cIv Iv.meet) (Env.add 108 (F1 cIv (cTwo cIv cIv) Iv.split) (Env.add 109 (FS (sc 2 [0, 1] (tClo 0 69 [] (tCod 1 cIv tNil)) rNil) cBool (fun _ => true) ((fun x => without ((fun (_ : Unit) => aboveF) x.2) x.1.1))) (Env.add 69 (F1 cIv (cTwo cIv cIv) aboveF) Env.nil)))))))))) Laws.nil 200 none (loopAt Try.f54 5) ((sc 95 [15, 16, 4, 6, 8, 9, 10, 11, 12, 13, 14, 0] (tCod 15 cBool (tCod 16 cInt (tOwn 4 0 (tOwn 6 1 (tOwn 8 2 (tOwn 9 3 (tOwn 10 4 (tOwn 11 5 (tOwn 12 6 (tOwn 13 7 (tOwn 14 8 (tClo 0 69 [] tNil)))))))))))) (rBox ccIv ccIv_ok (rBox ccIv ccIv_ok (rBox ccIv ccIv_ok (rBox ccIv ccIv_ok (rBox ccIv ccIv_ok (rBox ccIv ccIv_ok (rBox ccIv ccIv_ok (rBox ccIv ccIv_ok (rBox ccIv ccIv_ok rNil)))))))))).enc ((t15, t16, ()), (r0, r1, r2, r3, r4, r5, r6, r7, r8, ()))) (backK (sc 95 [15, 16, 4, 6, 8, 9, 10, 11, 12, 13, 14, 0] (tCod 15 cBool (tCod 16 cInt (tOwn 4 0 (tOwn 6 1 (tOwn 8 2 (tOwn 9 3 (tOwn 10 4 (tOwn 11 5 (tOwn 12 6 (tOwn 13 7 (tOwn 14 8 (tClo 0 69 [] tNil)))))))))))) (rBox ccIv ccIv_ok (rBox ccIv ccIv_ok (rBox ccIv ccIv_ok (rBox ccIv ccIv_ok (rBox ccIv ccIv_ok (rBox ccIv ccIv_ok (rBox ccIv ccIv_ok (rBox ccIv ccIv_ok (rBox ccIv ccIv_ok rNil)))))))))) (ocOr (ocExit 0 (sc 95 [15, 4, 6] (tCod 15 cBool (tOwn 4 0 (tOwn 6 1 tNil))) (rBox ccIv ccIv_ok (rBox ccIv ccIv_ok rNil)))) (ocOr (ocRet (sc 95 [7, 6] (tCod 7 cInt (tOwn 6 0 tNil)) (rBox ccIv ccIv_ok rNil))) (ocGoto 0 (sc 95 [6] (tOwn 6 0 tNil) (rBox ccIv ccIv_ok rNil)))))) =
      .br (Decidable.decide (t16 > 0))
       (
        .bind (r0.mid) fun vn0 =>
        .bind (Go.Proofs.Ythgpgnijbajlgaa.Iv.point vn0) fun viv1 =>
        .bind (Go.Proofs.Ythgpgnijbajlgaa.aboveF viv1) fun vy2 =>
        .bind (Go.Proofs.Ythgpgnijbajlgaa.aboveF r0) fun vy3 =>
        .bind (vy2.fst.div vy3.snd) fun viv4 =>
        .bind (viv1.sub viv4) fun viv5 =>
        .br (viv5.no)
         (
          .bind (r0.split) fun vy6 =>
          .br (Bool.true)
           (
            .bind (Go.Proofs.Ythgpgnijbajlgaa.without Go.Proofs.Ythgpgnijbajlgaa.aboveF vy6.fst) fun vb7 =>
            .br (vb7)
             (
              .ret (Sum.inl ((t15, Go.IntKind.i64.wrap (t16 - 1), ()), vy6.snd, r1, viv5, viv1, r4, vy6.fst, vy6.snd, vy2.fst, vy3.snd, ())))
             (
              .br (Bool.true)
               (
                .bind (Go.Proofs.Ythgpgnijbajlgaa.without Go.Proofs.Ythgpgnijbajlgaa.aboveF vy6.snd) fun vb8 =>
                .br (!vb8)
                 (
                  .ret (Sum.inr (Sum.inr (Sum.inr ((), r1, ())))))
                 (
                  .ret (Sum.inl ((t15, Go.IntKind.i64.wrap (t16 - 1), ()), vy6.fst, r1, viv5, viv1, r4, vy6.fst, vy6.snd, vy2.fst, vy3.snd, ()))))
               (
                .fail)))
           (
            .fail))
         (
          .br (t15)
           (
            .bind (r0.meet viv5) fun viv9 =>
            .br (viv9.no)
             (
              .bind (Go.Proofs.Ythgpgnijbajlgaa.Iv.none) fun viv10 =>
              .ret (Sum.inr (Sum.inr (Sum.inl ((2, ()), viv10, ())))))
             (
              .br (viv9.lo == r0.lo && (viv9.hi == r0.hi && viv9.no == r0.no))
               (
                .ret (Sum.inr (Sum.inl ((Bool.true, ()), r0, r1, ()))))
               (
                .ret (Sum.inl ((Bool.true, Go.IntKind.i64.wrap (t16 - 1), ()), viv9, r1, viv5, viv1, viv9, r5, r6, vy2.fst, vy3.snd, ())))))
           (
            .br (Decidable.decide (r0.lo < viv5.lo))
             (
              .bind (r0.meet viv5) fun viv11 =>
              .br (viv11.no)
               (
                .bind (Go.Proofs.Ythgpgnijbajlgaa.Iv.none) fun viv12 =>
                .ret (Sum.inr (Sum.inr (Sum.inl ((2, ()), viv12, ())))))
               (
                .br (viv11.lo == r0.lo && (viv11.hi == r0.hi && viv11.no == r0.no))
                 (
                  .ret (Sum.inr (Sum.inl ((Decidable.decide (viv5.hi < r0.hi), ()), r0, r1, ()))))
                 (
                  .ret (Sum.inl ((Decidable.decide (viv5.hi < r0.hi), Go.IntKind.i64.wrap (t16 - 1), ()), viv11, r1, viv5, viv1, viv11, r5, r6, vy2.fst, vy3.snd, ())))))
             (
              .bind (r0.meet viv5) fun viv13 =>
              .br (viv13.no)
               (
                .bind (Go.Proofs.Ythgpgnijbajlgaa.Iv.none) fun viv14 =>
                .ret (Sum.inr (Sum.inr (Sum.inl ((2, ()), viv14, ())))))
               (
                .br (viv13.lo == r0.lo && (viv13.hi == r0.hi && viv13.no == r0.no))
                 (
                  .ret (Sum.inr (Sum.inl ((Bool.false, ()), r0, r1, ()))))
                 (
                  .ret (Sum.inl ((Bool.false, Go.IntKind.i64.wrap (t16 - 1), ()), viv13, r1, viv5, viv1, viv13, r5, r6, vy2.fst, vy3.snd, ()))))))))
       (
        .ret (Sum.inr (Sum.inl ((t15, ()), r0, r1, ())))) := by kernel_rfl
theorem ok_newton_Solve_above_5 : LOK Try.prog (LoopR.of (sc 95 [15, 16, 4, 6, 8, 9, 10, 11, 12, 13, 14, 0] (tCod 15 cBool (tCod 16 cInt (tOwn 4 0 (tOwn 6 1 (tOwn 8 2 (tOwn 9 3 (tOwn 10 4 (tOwn 11 5 (tOwn 12 6 (tOwn 13 7 (tOwn 14 8 (tClo 0 69 [] tNil)))))))))))) (rBox ccIv ccIv_ok (rBox ccIv ccIv_ok (rBox ccIv ccIv_ok (rBox ccIv ccIv_ok (rBox ccIv ccIv_ok (rBox ccIv ccIv_ok (rBox ccIv ccIv_ok (rBox ccIv ccIv_ok (rBox ccIv ccIv_ok rNil)))))))))) (ocOr (ocExit 0 (sc 95 [15, 4, 6] (tCod 15 cBool (tOwn 4 0 (tOwn 6 1 tNil))) (rBox ccIv ccIv_ok (rBox ccIv ccIv_ok rNil)))) (ocOr (ocRet (sc 95 [7, 6] (tCod 7 cInt (tOwn 6 0 tNil)) (rBox ccIv ccIv_ok rNil))) (ocGoto 0 (sc 95 [6] (tOwn 6 0 tNil) (rBox ccIv ccIv_ok rNil))))) (solveRun (fun _ => true) ((fun (_ : Unit) => aboveF)))) (loopAt Try.f54 5) := by
  refine loop_ok (EnvOK.add s_iv_Point (EnvOK.add s_iv_Sub (EnvOK.add s_iv_Div (EnvOK.add s_iv_None (EnvOK.add s_iv_Right (EnvOK.add s_iv_Mid (EnvOK.add s_iv_Meet (EnvOK.add s_iv_Split (EnvOK.add s_newton_without_above (EnvOK.add s_meniscuslaw7_NewtonKnown_2 EnvOK.nil)))))))))) (LFn.at (fn := Try.f54) LFn.nil 5) (solveStep (fun _ => true) ((fun (_ : Unit) => aboveF))) (n := 200) (fun x z h => ?_) (solveRun_ok _ _)
  obtain ⟨⟨t15, t16, ⟨⟩⟩, ⟨r0, r1, r2, r3, r4, r5, r6, r7, r8, ⟨⟩⟩⟩ := x
  rw [tl_newton_Solve_above_5]
  by_cases hk : 0 < t16
  case neg =>
    rw [← h]
    simp only [den_br, den_bind, den_ret, den_fail, den_inl, den_inr, decide_eq_true_eq, solveStep, gt_iff_lt, hk, if_false]
  have hq : True := trivial
  rw [← h]
  simp only [den_br, den_bind, den_ret, den_fail, den_inl, den_inr, decide_eq_true_eq]
  rw [show (Iv.point r0.mid).sub ((aboveF (Iv.point r0.mid)).1.div (aboveF r0).2) = nextN (aboveF) r0 from rfl]
  simp only [solveStep, solveSure, ivEq, gt_iff_lt, hk, hq, Bool.and_self, if_true]
  generalize nextN (aboveF) r0 = n
  simp only [ltB]
  cases h1 : n.no
  case true =>
    simp only [if_true]
    split
    · rfl
    · split <;> simp_all
  simp only [Bool.false_eq_true, if_false]
  cases t15 <;> simp only [Bool.false_eq_true, if_true, if_false, Bool.true_or, Bool.false_or]
  by_cases h2 : r0.lo < n.lo <;> simp only [h2, if_true, if_false, decide_true, decide_false, Bool.true_and, Bool.false_and]
theorem t_newton_Solve_above (t1 : Iv) (t2 : Int) :
    evFn Try.prog (Env.add 39 (F1 cInt cIv Iv.point) (Env.add 40 (F2 cIv cIv cIv Iv.sub) (Env.add 45 (F2 cIv cIv cIv Iv.div) (Env.add 66 (F0 cIv Iv.none) (Env.add 91 (F1 cIv cBool Iv.right) (Env.add 106 (F1 cIv cInt Iv.mid) (Env.add 107 (F2 cIv cIv cIv Iv.meet) (Env.add 108 (F1 cIv (cTwo cIv cIv) Iv.split) (Env.add 109 (FS (sc 2 [0, 1] (tClo 0 69 [] (tCod 1 cIv tNil)) rNil) cBool (fun _ => true) ((fun x => without ((fun (_ : Unit) => aboveF) x.2) x.1.1))) (Env.add 69 (F1 cIv (cTwo cIv cIv) aboveF) Env.nil)))))))))) (Laws.add 5 (LoopR.of (sc 95 [15, 16, 4, 6, 8, 9, 10, 11, 12, 13, 14, 0] (tCod 15 cBool (tCod 16 cInt (tOwn 4 0 (tOwn 6 1 (tOwn 8 2 (tOwn 9 3 (tOwn 10 4 (tOwn 11 5 (tOwn 12 6 (tOwn 13 7 (tOwn 14 8 (tClo 0 69 [] tNil)))))))))))) (rBox ccIv ccIv_ok (rBox ccIv ccIv_ok (rBox ccIv ccIv_ok (rBox ccIv ccIv_ok (rBox ccIv ccIv_ok (rBox ccIv ccIv_ok (rBox ccIv ccIv_ok (rBox ccIv ccIv_ok (rBox ccIv ccIv_ok rNil)))))))))) (ocOr (ocExit 0 (sc 95 [15, 4, 6] (tCod 15 cBool (tOwn 4 0 (tOwn 6 1 tNil))) (rBox ccIv ccIv_ok (rBox ccIv ccIv_ok rNil)))) (ocOr (ocRet (sc 95 [7, 6] (tCod 7 cInt (tOwn 6 0 tNil)) (rBox ccIv ccIv_ok rNil))) (ocGoto 0 (sc 95 [6] (tOwn 6 0 tNil) (rBox ccIv ccIv_ok rNil))))) (solveRun (fun _ => true) ((fun (_ : Unit) => aboveF)))) Laws.nil) 200 Try.f54 (((sc 3 [0, 1, 2] (tClo 0 69 [] (tCod 1 cIv (tCod 2 cInt tNil))) rNil).enc ((t1, t2, ()), (()))).tmps.map Prod.snd) ((sc 3 [0, 1, 2] (tClo 0 69 [] (tCod 1 cIv (tCod 2 cInt tNil))) rNil).enc ((t1, t2, ()), (()))).mem (cTwo cIv cInt).dec =
      .bind (t1.right) fun vb0 =>
      .br (!vb0)
       (
        .bind (Go.Proofs.Ythgpgnijbajlgaa.Iv.none) fun viv1 =>
        .ret ((viv1, 0)))
       (
        .get (Go.Proofs.Ythgpgnijbajlgaa.solveRun (fun x => Bool.true) (fun x => Go.Proofs.Ythgpgnijbajlgaa.aboveF) ((Bool.false, Max.max 0 (Min.min t2 40), ()), t1, Go.Proofs.Ythgpgnijbajlgaa.Iv.mk 0 0 Bool.false, Go.Proofs.Ythgpgnijbajlgaa.Iv.mk 0 0 Bool.false, Go.Proofs.Ythgpgnijbajlgaa.Iv.mk 0 0 Bool.false, Go.Proofs.Ythgpgnijbajlgaa.Iv.mk 0 0 Bool.false, Go.Proofs.Ythgpgnijbajlgaa.Iv.mk 0 0 Bool.false, Go.Proofs.Ythgpgnijbajlgaa.Iv.mk 0 0 Bool.false, Go.Proofs.Ythgpgnijbajlgaa.Iv.mk 0 0 Bool.false, Go.Proofs.Ythgpgnijbajlgaa.Iv.mk 0 0 Bool.false, ())) fun vy2 =>
        .sum (vy2)
         (fun vs3 =>
          .br (vs3.fst.fst)
           (
            .ret ((vs3.snd.fst, 1)))
           (
            .bind (Go.Proofs.Ythgpgnijbajlgaa.Iv.none) fun viv4 =>
            .ret ((viv4, 0))))
         (fun vs5 =>
          .sum (vs5)
           (fun vs6 =>
            .ret ((vs6.snd.fst, vs6.fst.fst)))
           (fun vs7 =>
            .bind (Go.Proofs.Ythgpgnijbajlgaa.Iv.none) fun viv8 =>
            .ret ((viv8, 0))))) := by kernel_rfl
theorem c_newton_Solve_above : PlainS Try.prog 54 (sc 3 [0, 1, 2] (tClo 0 69 [] (tCod 1 cIv (tCod 2 cInt tNil))) rNil) (cTwo cIv cInt) (fun _ => true) ((fun x => _root_.Go.Proofs.Ythgpgnijbajlgaa.solve ((fun (_ : Unit) => aboveF) x.2) x.1.1 x.1.2.1)) := by
  intro x h N w vs hM hv
  obtain ⟨⟨t1, t2, ⟨⟩⟩, ⟨⟩⟩ := x
  refine calls_of_tree (n := 200) (EnvOK.add s_iv_Point (EnvOK.add s_iv_Sub (EnvOK.add s_iv_Div (EnvOK.add s_iv_None (EnvOK.add s_iv_Right (EnvOK.add s_iv_Mid (EnvOK.add s_iv_Meet (EnvOK.add s_iv_Split (EnvOK.add s_newton_without_above (EnvOK.add s_meniscuslaw7_NewtonKnown_2 EnvOK.nil)))))))))) Try.func54 hv (Nat.le_of_ble_eq_true (by kernel_rfl)) (LFn.add (fn := Try.f54) (i := 5) (by kernel_rfl) ok_newton_Solve_above_5 LFn.nil) hM (cTwo cIv cInt) ?_
  rw [t_newton_Solve_above]
  simp only [den_br, den_bind, den_ret, den_fail, den_inl, den_inr, den_gets, decide_eq_true_eq]
  cases h0 : t1.right
  · simp [_root_.Go.Proofs.Ythgpgnijbajlgaa.solve, h0]
  have hr : ∀ {C : Type} (q : C → Bool) (F : C → Iv → Iv × Iv) (res n m u a b v s : Iv) (c : C), q c = true → solveRun q F ((false, max 0 (min t2 40), ()), (t1, res, n, m, u, a, b, v, s, c)) = some (solveOut (F c) res (rounds t2) t1 false) := by
    intro C q F res n m u a b v s c hq
    simp only [solveRun]
    rw [if_pos ⟨hq, by omega, by omega⟩]
    rfl
  rw [hr _ _ _ _ _ _ _ _ _ _ _ (by first | rfl | exact h)]
  simp only [Bool.not_true, Bool.false_eq_true, if_false, Option.bind_some, _root_.Go.Proofs.Ythgpgnijbajlgaa.solve, h0, if_true]
  rw [← solveEnd_out _ ⟨0, 0, false⟩]
  generalize solveOut _ _ _ _ _ = y
  rcases y with ⟨⟨sure, _⟩, ⟨t, res, _⟩⟩ | ⟨⟨is, _⟩, ⟨r, _⟩⟩ | ⟨_, ⟨r, _⟩⟩
  · cases sure <;> rfl
  · rfl
  · rfl
theorem s_newton_Solve_above : Ev.Spec Try.prog 54 (FS (sc 3 [0, 1, 2] (tClo 0 69 [] (tCod 1 cIv (tCod 2 cInt tNil))) rNil) (cTwo cIv cInt) (fun _ => true) ((fun x => _root_.Go.Proofs.Ythgpgnijbajlgaa.solve ((fun (_ : Unit) => aboveF) x.2) x.1.1 x.1.2.1))) := specS rfl (fun vs w => Try.call54 vs w) c_newton_Solve_above

/-! meniscuslaw7.NewtonTells$1 -/
theorem t_meniscuslaw7_NewtonTells_1 (t0 : Iv) (r0 : Unit) (r1 : Unit) (r2 : List Iv) (r3 : List Iv) :
    evFn Try.prog (Env.add 56 (FS (sc 2 [0, 1] (tSl 0 0 (tCod 1 cIv tNil)) (rL_iv rNil)) cIv (fun x => lenOk x.2.1) ((fun x => horner x.2.1 x.1.1))) Env.nil) Laws.nil 200 Try.f55 (((sc 3 [0, 1, 2] (tCod 0 cIv (tOwn 1 0 (tOwn 2 1 tNil))) (rRoSl 2 ccNil ccNil_ok (rRoSl 3 ccNil ccNil_ok (rL_iv (rL_iv rNil))))).enc ((t0, ()), (r0, r1, r2, r3, ()))).tmps.map Prod.snd) ((sc 3 [0, 1, 2] (tCod 0 cIv (tOwn 1 0 (tOwn 2 1 tNil))) (rRoSl 2 ccNil ccNil_ok (rRoSl 3 ccNil ccNil_ok (rL_iv (rL_iv rNil))))).enc ((t0, ()), (r0, r1, r2, r3, ()))).mem (cTwo cIv cIv).dec =
      .br (Go.Proofs.Ythgpgnijbajlgaa.Ev.lenOk r2)
       (
        .bind (Go.Proofs.Ythgpgnijbajlgaa.horner r2 t0) fun viv0 =>
        .br (Go.Proofs.Ythgpgnijbajlgaa.Ev.lenOk r3)
         (
          .bind (Go.Proofs.Ythgpgnijbajlgaa.horner r3 t0) fun viv1 =>
          .ret ((viv0, viv1)))
         (
          .fail))
       (
        .fail) := by kernel_rfl
theorem c_meniscuslaw7_NewtonTells_1 : PlainS Try.prog 55 (sc 3 [0, 1, 2] (tCod 0 cIv (tOwn 1 0 (tOwn 2 1 tNil))) (rRoSl 2 ccNil ccNil_ok (rRoSl 3 ccNil ccNil_ok (rL_iv (rL_iv rNil))))) (cTwo cIv cIv) (fun x => (fun (c : Unit × Unit × List Iv × List Iv × Unit) => lenOk c.2.2.1 && lenOk c.2.2.2.1) x.2) ((fun x => (fun (c : Unit × Unit × List Iv × List Iv × Unit) t => (horner c.2.2.1 t, horner c.2.2.2.1 t)) x.2 x.1.1)) := by
  intro x h N w vs hM hv
  obtain ⟨⟨t0, ⟨⟩⟩, ⟨r0, r1, r2, r3, ⟨⟩⟩⟩ := x
  refine calls_of_tree (n := 200) (EnvOK.add s_meniscusref1_Horner EnvOK.nil) Try.func55 hv (Nat.le_of_ble_eq_true (by kernel_rfl)) LFn.nil hM (cTwo cIv cIv) ?_
  rw [t_meniscuslaw7_NewtonTells_1]
  simp only [den_br, den_bind, den_ret, den_fail, den_inl, den_inr, decide_eq_true_eq]
  simp only [Bool.and_eq_true] at h
  simp only [h.1, h.2, if_true]
theorem s_meniscuslaw7_NewtonTells_1 : Ev.Spec Try.prog 55 (FS (sc 3 [0, 1, 2] (tCod 0 cIv (tOwn 1 0 (tOwn 2 1 tNil))) (rRoSl 2 ccNil ccNil_ok (rRoSl 3 ccNil ccNil_ok (rL_iv (rL_iv rNil))))) (cTwo cIv cIv) (fun x => (fun (c : Unit × Unit × List Iv × List Iv × Unit) => lenOk c.2.2.1 && lenOk c.2.2.2.1) x.2) ((fun x => (fun (c : Unit × Unit × List Iv × List Iv × Unit) t => (horner c.2.2.1 t, horner c.2.2.2.1 t)) x.2 x.1.1))) := specS rfl (fun vs w => Try.call55 vs w) c_meniscuslaw7_NewtonTells_1

/-! newton.without -/
theorem t_newton_without_poly (t1 : Iv) (r0 : Unit) (r1 : Unit) (r2 : List Iv) (r3 : List Iv) :
    evFn Try.prog (Env.add 63 (F2 cIv cInt cBool Iv.has) (Env.add 91 (F1 cIv cBool Iv.right) (Env.add 55 (FS (sc 3 [0, 1, 2] (tCod 0 cIv (tOwn 1 0 (tOwn 2 1 tNil))) (rRoSl 2 ccNil ccNil_ok (rRoSl 3 ccNil ccNil_ok (rL_iv (rL_iv rNil))))) (cTwo cIv cIv) (fun x => (fun (c : Unit × Unit × List Iv × List Iv × Unit) => lenOk c.2.2.1 && lenOk c.2.2.2.1) x.2) ((fun x => (fun (c : Unit × Unit × List Iv × List Iv × Unit) t => (horner c.2.2.1 t, horner c.2.2.2.1 t)) x.2 x.1.1))) Env.nil))) Laws.nil 200 Try.f109 (((sc 2 [0, 1] (tClo 0 55 [0,1] (tCod 1 cIv tNil)) (rRoSl 2 ccNil ccNil_ok (rRoSl 3 ccNil ccNil_ok (rL_iv (rL_iv rNil))))).enc ((t1, ()), (r0, r1, r2, r3, ()))).tmps.map Prod.snd) ((sc 2 [0, 1] (tClo 0 55 [0,1] (tCod 1 cIv tNil)) (rRoSl 2 ccNil ccNil_ok (rRoSl 3 ccNil ccNil_ok (rL_iv (rL_iv rNil))))).enc ((t1, ()), (r0, r1, r2, r3, ()))).mem cBool.dec =
      .br (Go.Proofs.Ythgpgnijbajlgaa.Ev.lenOk r2 && Go.Proofs.Ythgpgnijbajlgaa.Ev.lenOk r3)
       (
        .bind ((Go.Proofs.Ythgpgnijbajlgaa.horner r2 t1, Go.Proofs.Ythgpgnijbajlgaa.horner r3 t1)) fun vy0 =>
        .bind (vy0.fst.right) fun vb1 =>
        .br (vb1)
         (
          .bind (vy0.fst.has 0) fun vb2 =>
          .ret (!vb2))
         (
          .ret (Bool.false)))
       (
        .fail) := by kernel_rfl
theorem c_newton_without_poly : PlainS Try.prog 109 (sc 2 [0, 1] (tClo 0 55 [0,1] (tCod 1 cIv tNil)) (rRoSl 2 ccNil ccNil_ok (rRoSl 3 ccNil ccNil_ok (rL_iv (rL_iv rNil))))) cBool (fun x => (fun (c : Unit × Unit × List Iv × List Iv × Unit) => lenOk c.2.2.1 && lenOk c.2.2.2.1) x.2) ((fun x => without ((fun (c : Unit × Unit × List Iv × List Iv × Unit) t => (horner c.2.2.1 t, horner c.2.2.2.1 t)) x.2) x.1.1)) := by
  intro x h N w vs hM hv
  obtain ⟨⟨t1, ⟨⟩⟩, ⟨r0, r1, r2, r3, ⟨⟩⟩⟩ := x
  refine calls_of_tree (n := 200) (EnvOK.add s_iv_Has (EnvOK.add s_iv_Right (EnvOK.add s_meniscuslaw7_NewtonTells_1 EnvOK.nil))) Try.func109 hv (Nat.le_of_ble_eq_true (by kernel_rfl)) LFn.nil hM cBool ?_
  rw [t_newton_without_poly]
  simp only [den_br, den_bind, den_ret, den_fail, den_inl, den_inr, decide_eq_true_eq]
  simp only at h
  simp only [h, if_true]
  simp only [without]
  grind
theorem s_newton_without_poly : Ev.Spec Try.prog 109 (FS (sc 2 [0, 1] (tClo 0 55 [0,1] (tCod 1 cIv tNil)) (rRoSl 2 ccNil ccNil_ok (rRoSl 3 ccNil ccNil_ok (rL_iv (rL_iv rNil))))) cBool (fun x => (fun (c : Unit × Unit × List Iv × List Iv × Unit) => lenOk c.2.2.1 && lenOk c.2.2.2.1) x.2) ((fun x => without ((fun (c : Unit × Unit × List Iv × List Iv × Unit) t => (horner c.2.2.1 t, horner c.2.2.2.1 t)) x.2) x.1.1))) := specS rfl (fun vs w => Try.call109 vs w) c_newton_without_poly

/-! newton.Solve -/
theorem tl_newton_Solve_poly_5 (t15 : Bool) (t16 : Int) (r0 : Iv) (r1 : Iv) (r2 : Iv) (r3 : Iv) (r4 : Iv) (r5 : Iv) (r6 : Iv) (r7 : Iv) (r8 : Iv) (r9 : Unit) (r10 : Unit) (r11 : List Iv) (r12 : List Iv) :
    ev Try.prog (Env.add 39 (F1 cInt cIv Iv.point) (Env.add 40 (F2 cIv cIv cIv Iv.sub) (Env.add 45 (F2 cIv cIv cIv Iv.div) (Env.add 66 (F0 cIv Iv.none) (Env.add 91 (F1 cIv cBool Iv.right) (Env.add 106 (F1 cIv cInt Iv.mid) (Env.add 107 (F2 cIv cIv cIv Iv.meet) (Env.add 108 (F1 cIv (cTwo cIv cIv) Iv.split) (Env.add 109 (FS (sc 2 [0, 1] (tClo 0 55 [0,1] (tCod 1 cIv tNil)) (rRoSl 2 ccNil ccNil_ok (rRoSl 3 ccNil ccNil_ok (rL_iv (rL_iv rNil))))) cBool (fun x => (fun (c : Unit × Unit × List Iv × List Iv × Unit) => lenOk c.2.2.1 && lenOk c.2.2.2.1) x.2) ((fun x => without ((fun (c : Unit × Unit × List Iv × List Iv × Unit) t => (horner c.2.2.1 t, horner c.2.2.2.1 t)) x.2) x.1.1))) (Env.add 55 (FS (sc 3 [0, 1, 2] (tCod 0 cIv (tOwn 1 0 (tOwn 2 1 tNil))) (rRoSl 2 ccNil ccNil_ok (rRoSl 3 ccNil ccNil_ok (rL_iv (rL_iv rNil))))) (cTwo cIv cIv) (fun x => (fun (c : Unit × Unit × List Iv × List Iv × Unit) => lenOk c.2.2.1 && lenOk c.2.2.2.1) x.2) ((fun x => (fun (c : Unit × Unit × List Iv × List Iv × Unit) t => (horner c.2.2.1 t, horner c.2.2.2.1 t)) x.2 x.1.1))) Env.nil)))))))))) Laws.nil 200 none (loopAt Try.f54 5) ((sc 95 [15, 16, 4, 6, 8, 9, 10, 11, 12, 13, 14, 0] (tCod 15 cBool (tCod 16 cInt (tOwn 4 0 (tOwn 6 1 (tOwn 8 2 (tOwn 9 3 (tOwn 10 4 (tOwn 11 5 (tOwn 12 6 (tOwn 13 7 (tOwn 14 8 (tClo 0 55 [9,10] tNil)))))))))))) (rBox ccIv ccIv_ok (rBox ccIv ccIv_ok (rBox ccIv ccIv_ok (rBox ccIv ccIv_ok (rBox ccIv ccIv_ok (rBox ccIv ccIv_ok (rBox ccIv ccIv_ok (rBox ccIv ccIv_ok (rBox ccIv ccIv_ok (rRoSl 11 ccNil ccNil_ok (rRoSl 12 ccNil ccNil_ok (rL_iv (rL_iv rNil)))))))))))))).enc ((t15, t16, ()), (r0, r1, r2, r3, r4, r5, r6, r7, r8, r9, r10, r11, r12, ()))) (backK (sc 95 [15, 16, 4, 6, 8, 9, 10, 11, 12, 13, 14, 0] (tCod 15 cBool (tCod 16 cInt (tOwn 4 0 (tOwn 6 1 (tOwn 8 2 (tOwn 9 3 (tOwn 10 4 (tOwn 11 5 (tOwn 12 6 (tOwn 13 7 (tOwn 14 8 (tClo 0 55 [9,10] tNil)))))))))))) (rBox ccIv ccIv_ok (rBox ccIv ccIv_ok (rBox ccIv ccIv_ok (rBox ccIv ccIv_ok (rBox ccIv ccIv_ok (rBox ccIv ccIv_ok (rBox ccIv ccIv_ok (rBox ccIv ccIv_ok (rBox ccIv ccIv_ok (rRoSl 11 ccNil ccNil_ok (rRoSl 12 ccNil ccNil_ok (rL_iv (rL_iv rNil)))))))))))))) (ocOr (ocExit 0 (sc 95 [15, 4, 6] (tCod 15 cBool (tOwn 4 0 (tOwn 6 1 tNil))) (rBox ccIv ccIv_ok (rBox ccIv ccIv_ok rNil)))) (ocOr (ocRet (sc 95 [7, 6] (tCod 7 cInt (tOwn 6 0 tNil)) (rBox ccIv ccIv_ok rNil))) (ocGoto 0 (sc 95 [6] (tOwn 6 0 tNil) (rBox ccIv ccIv_ok rNil)))))) =
      .br (Decidable.decide (t16 > 0))
       (
        .bind (r0.mid) fun vn0 =>
        .bind (Go.Proofs.Ythgpgnijbajlgaa.Iv.point vn0) fun viv1 =>
        .br (Go.Proofs.Ythgpgnijbajlgaa.Ev.lenOk r11 && Go.Proofs.Ythgpgnijbajlgaa.Ev.lenOk r12)
         (
          .bind ((Go.Proofs.Ythgpgnijbajlgaa.horner r11 viv1, Go.Proofs.Ythgpgnijbajlgaa.horner r12 viv1)) fun vy2 =>
          .br (Go.Proofs.Ythgpgnijbajlgaa.Ev.lenOk r11 && Go.Proofs.Ythgpgnijbajlgaa.Ev.lenOk r12)
           (
            .bind ((Go.Proofs.Ythgpgnijbajlgaa.horner r11 r0, Go.Proofs.Ythgpgnijbajlgaa.horner r12 r0)) fun vy3 =>
            .bind (vy2.fst.div vy3.snd) fun viv4 =>
            .bind (viv1.sub viv4) fun viv5 =>
            .br (viv5.no)
             (
              .bind (r0.split) fun vy6 =>
              .br (Go.Proofs.Ythgpgnijbajlgaa.Ev.lenOk r11 && Go.Proofs.Ythgpgnijbajlgaa.Ev.lenOk r12)
               (
                .bind (Go.Proofs.Ythgpgnijbajlgaa.without (fun t => (Go.Proofs.Ythgpgnijbajlgaa.horner r11 t, Go.Proofs.Ythgpgnijbajlgaa.horner r12 t)) vy6.fst) fun vb7 =>
                .br (vb7)
                 (
                  .ret (Sum.inl ((t15, Go.IntKind.i64.wrap (t16 - 1), ()), vy6.snd, r1, viv5, viv1, r4, vy6.fst, vy6.snd, vy2.fst, vy3.snd, (), (), r11, r12, ())))
                 (
                  .br (Go.Proofs.Ythgpgnijbajlgaa.Ev.lenOk r11 && Go.Proofs.Ythgpgnijbajlgaa.Ev.lenOk r12)
                   (
                    .bind (Go.Proofs.Ythgpgnijbajlgaa.without (fun t => (Go.Proofs.Ythgpgnijbajlgaa.horner r11 t, Go.Proofs.Ythgpgnijbajlgaa.horner r12 t)) vy6.snd) fun vb8 =>
                    .br (!vb8)
                     (
                      .ret (Sum.inr (Sum.inr (Sum.inr ((), r1, ())))))
                     (
                      .ret (Sum.inl ((t15, Go.IntKind.i64.wrap (t16 - 1), ()), vy6.fst, r1, viv5, viv1, r4, vy6.fst, vy6.snd, vy2.fst, vy3.snd, (), (), r11, r12, ()))))
                   (
                    .fail)))
               (
                .fail))
             (
              .br (t15)
               (
                .bind (r0.meet viv5) fun viv9 =>
                .br (viv9.no)
                 (
                  .bind (Go.Proofs.Ythgpgnijbajlgaa.Iv.none) fun viv10 =>
                  .ret (Sum.inr (Sum.inr (Sum.inl ((2, ()), viv10, ())))))
                 (
                  .br (viv9.lo == r0.lo && (viv9.hi == r0.hi && viv9.no == r0.no))
                   (
                    .ret (Sum.inr (Sum.inl ((Bool.true, ()), r0, r1, ()))))
                   (
                    .ret (Sum.inl ((Bool.true, Go.IntKind.i64.wrap (t16 - 1), ()), viv9, r1, viv5, viv1, viv9, r5, r6, vy2.fst, vy3.snd, (), (), r11, r12, ())))))
               (
                .br (Decidable.decide (r0.lo < viv5.lo))
                 (
                  .bind (r0.meet viv5) fun viv11 =>
                  .br (viv11.no)
                   (
                    .bind (Go.Proofs.Ythgpgnijbajlgaa.Iv.none) fun viv12 =>
                    .ret (Sum.inr (Sum.inr (Sum.inl ((2, ()), viv12, ())))))
                   (
                    .br (viv11.lo == r0.lo && (viv11.hi == r0.hi && viv11.no == r0.no))
                     (
                      .ret (Sum.inr (Sum.inl ((Decidable.decide (viv5.hi < r0.hi), ()), r0, r1, ()))))
                     (
                      .ret (Sum.inl ((Decidable.decide (viv5.hi < r0.hi), Go.IntKind.i64.wrap (t16 - 1), ()), viv11, r1, viv5, viv1, viv11, r5, r6, vy2.fst, vy3.snd, (), (), r11, r12, ())))))
                 (
                  .bind (r0.meet viv5) fun viv13 =>
                  .br (viv13.no)
                   (
                    .bind (Go.Proofs.Ythgpgnijbajlgaa.Iv.none) fun viv14 =>
                    .ret (Sum.inr (Sum.inr (Sum.inl ((2, ()), viv14, ())))))
                   (
                    .br (viv13.lo == r0.lo && (viv13.hi == r0.hi && viv13.no == r0.no))
                     (
                      .ret (Sum.inr (Sum.inl ((Bool.false, ()), r0, r1, ()))))
                     (
                      .ret (Sum.inl ((Bool.false, Go.IntKind.i64.wrap (t16 - 1), ()), viv13, r1, viv5, viv1, viv13, r5, r6, vy2.fst, vy3.snd, (), (), r11, r12, ()))))))))
           (
            .fail))
         (
          .fail))
       (
        .ret (Sum.inr (Sum.inl ((t15, ()), r0, r1, ())))) := by kernel_rfl
theorem ok_newton_Solve_poly_5 : LOK Try.prog (LoopR.of (sc 95 [15, 16, 4, 6, 8, 9, 10, 11, 12, 13, 14, 0] (tCod 15 cBool (tCod 16 cInt (tOwn 4 0 (tOwn 6 1 (tOwn 8 2 (tOwn 9 3 (tOwn 10 4 (tOwn 11 5 (tOwn 12 6 (tOwn 13 7 (tOwn 14 8 (tClo 0 55 [9,10] tNil)))))))))))) (rBox ccIv ccIv_ok (rBox ccIv ccIv_ok (rBox ccIv ccIv_ok (rBox ccIv ccIv_ok (rBox ccIv ccIv_ok (rBox ccIv ccIv_ok (rBox ccIv ccIv_ok (rBox ccIv ccIv_ok (rBox ccIv ccIv_ok (rRoSl 11 ccNil ccNil_ok (rRoSl 12 ccNil ccNil_ok (rL_iv (rL_iv rNil)))))))))))))) (ocOr (ocExit 0 (sc 95 [15, 4, 6] (tCod 15 cBool (tOwn 4 0 (tOwn 6 1 tNil))) (rBox ccIv ccIv_ok (rBox ccIv ccIv_ok rNil)))) (ocOr (ocRet (sc 95 [7, 6] (tCod 7 cInt (tOwn 6 0 tNil)) (rBox ccIv ccIv_ok rNil))) (ocGoto 0 (sc 95 [6] (tOwn 6 0 tNil) (rBox ccIv ccIv_ok rNil))))) (solveRun ((fun (c : Unit × Unit × List Iv × List Iv × Unit) => lenOk c.2.2.1 && lenOk c.2.2.2.1)) ((fun (c : Unit × Unit × List Iv × List Iv × Unit) t => (horner c.2.2.1 t, horner c.2.2.2.1 t))))) (loopAt Try.f54 5) := by
  refine loop_ok (EnvOK.add s_iv_Point (EnvOK.add s_iv_Sub (EnvOK.add s_iv_Div (EnvOK.add s_iv_None (EnvOK.add s_iv_Right (EnvOK.add s_iv_Mid (EnvOK.add s_iv_Meet (EnvOK.add s_iv_Split (EnvOK.add s_newton_without_poly (EnvOK.add s_meniscuslaw7_NewtonTells_1 EnvOK.nil)))))))))) (LFn.at (fn := Try.f54) LFn.nil 5) (solveStep ((fun (c : Unit × Unit × List Iv × List Iv × Unit) => lenOk c.2.2.1 && lenOk c.2.2.2.1)) ((fun (c : Unit × Unit × List Iv × List Iv × Unit) t => (horner c.2.2.1 t, horner c.2.2.2.1 t)))) (n := 200) (fun x z h => ?_) (solveRun_ok _ _)
  obtain ⟨⟨t15, t16, ⟨⟩⟩, ⟨r0, r1, r2, r3, r4, r5, r6, r7, r8, r9, r10, r11, r12, ⟨⟩⟩⟩ := x
  rw [tl_newton_Solve_poly_5]
  by_cases hk : 0 < t16
  case neg =>
    rw [← h]
    simp only [den_br, den_bind, den_ret, den_fail, den_inl, den_inr, decide_eq_true_eq, solveStep, gt_iff_lt, hk, if_false]
  by_cases hq : (fun (c : Unit × Unit × List Iv × List Iv × Unit) => lenOk c.2.2.1 && lenOk c.2.2.2.1) (r9, r10, r11, r12, ()) = true
  case neg => simp [solveStep, hk, hq] at h
  rw [← h]
  simp only [Bool.and_eq_true] at hq
  simp only [hq.1, hq.2, Bool.and_self, if_true]
  cases r9
  cases r10
  simp only [den_br, den_bind, den_ret, den_fail, den_inl, den_inr, decide_eq_true_eq]
  rw [show (Iv.point r0.mid).sub (((fun t => (horner r11 t, horner r12 t)) (Iv.point r0.mid)).1.div ((fun t => (horner r11 t, horner r12 t)) r0).2) = nextN ((fun t => (horner r11 t, horner r12 t))) r0 from rfl]
  simp only [solveStep, solveSure, ivEq, gt_iff_lt, hk, hq, Bool.and_self, if_true]
  generalize nextN ((fun t => (horner r11 t, horner r12 t))) r0 = n
  simp only [ltB]
  cases h1 : n.no
  case true =>
    simp only [if_true]
    split
    · rfl
    · split <;> simp_all
  simp only [Bool.false_eq_true, if_false]
  cases t15 <;> simp only [Bool.false_eq_true, if_true, if_false, Bool.true_or, Bool.false_or]
  by_cases h2 : r0.lo < n.lo <;> simp only [h2, if_true, if_false, decide_true, decide_false, Bool.true_and, Bool.false_and]
theorem t_newton_Solve_poly (t1 : Iv) (t2 : Int) (r0 : Unit) (r1 : Unit) (r2 : List Iv) (r3 : List Iv) :
    evFn Try.prog (Env.add 39 (F1 cInt cIv Iv.point) (Env.add 40 (F2 cIv cIv cIv Iv.sub) (Env.add 45 (F2 cIv cIv cIv Iv.div) (Env.add 66 (F0 cIv Iv.none) (Env.add 91 (F1 cIv cBool Iv.right) (Env.add 106 (F1 cIv cInt Iv.mid) (Env.add 107 (F2 cIv cIv cIv Iv.meet) (Env.add 108 (F1 cIv (cTwo cIv cIv) Iv.split) (Env.add 109 (FS (sc 2 [0, 1] (tClo 0 55 [0,1] (tCod 1 cIv tNil)) (rRoSl 2 ccNil ccNil_ok (rRoSl 3 ccNil ccNil_ok (rL_iv (rL_iv rNil))))) cBool (fun x => (fun (c : Unit × Unit × List Iv × List Iv × Unit) => lenOk c.2.2.1 && lenOk c.2.2.2.1) x.2) ((fun x => without ((fun (c : Unit × Unit × List Iv × List Iv × Unit) t => (horner c.2.2.1 t, horner c.2.2.2.1 t)) x.2) x.1.1))) (Env.add 55 (FS (sc 3 [0, 1, 2] (tCod 0 cIv (tOwn 1 0 (tOwn 2 1 tNil))) (rRoSl 2 ccNil ccNil_ok (rRoSl 3 ccNil ccNil_ok (rL_iv (rL_iv rNil))))) (cTwo cIv cIv) (fun x => (fun (c : Unit × Unit × List Iv × List Iv × Unit) => lenOk c.2.2.1 && lenOk c.2.2.2.1) x.2) ((fun x => (fun (c : Unit × Unit × List Iv × List Iv × Unit) t => (horner c.2.2.1 t, horner c.2.2.2.1 t)) x.2 x.1.1))) Env.nil)))))))))) (Laws.add 5 (LoopR.of (sc 95 [15, 16, 4, 6, 8, 9, 10, 11, 12, 13, 14, 0] (tCod 15 cBool (tCod 16 cInt (tOwn 4 0 (tOwn 6 1 (tOwn 8 2 (tOwn 9 3 (tOwn 10 4 (tOwn 11 5 (tOwn 12 6 (tOwn 13 7 (tOwn 14 8 (tClo 0 55 [9,10] tNil)))))))))))) (rBox ccIv ccIv_ok (rBox ccIv ccIv_ok (rBox ccIv ccIv_ok (rBox ccIv ccIv_ok (rBox ccIv ccIv_ok (rBox ccIv ccIv_ok (rBox ccIv ccIv_ok (rBox ccIv ccIv_ok (rBox ccIv ccIv_ok (rRoSl 11 ccNil ccNil_ok (rRoSl 12 ccNil ccNil_ok (rL_iv (rL_iv rNil)))))))))))))) (ocOr (ocExit 0 (sc 95 [15, 4, 6] (tCod 15 cBool (tOwn 4 0 (tOwn 6 1 tNil))) (rBox ccIv ccIv_ok (rBox ccIv ccIv_ok rNil)))) (ocOr (ocRet (sc 95 [7, 6] (tCod 7 cInt (tOwn 6 0 tNil)) (rBox ccIv ccIv_ok rNil))) (ocGoto 0 (sc 95 [6] (tOwn 6 0 tNil) (rBox ccIv ccIv_ok rNil))))) (solveRun ((fun (c : Unit × Unit × List Iv × List Iv × Unit) => lenOk c.2.2.1 && lenOk c.2.2.2.1)) ((fun (c : Unit × Unit × List Iv × List Iv × Unit) t => (horner c.2.2.1 t, horner c.2.2.2.1 t))))) Laws.nil) 200 Try.f54 (((sc 3 [0, 1, 2] (tClo 0 55 [0,1] (tCod 1 cIv (tCod 2 cInt tNil))) (rRoSl 2 ccNil ccNil_ok (rRoSl 3 ccNil ccNil_ok (rL_iv (rL_iv rNil))))).enc ((t1, t2, ()), (r0, r1, r2, r3, ()))).tmps.map Prod.snd) ((sc 3 [0, 1, 2] (tClo 0 55 [0,1] (tCod 1 cIv (tCod 2 cInt tNil))) (rRoSl 2 ccNil ccNil_ok (rRoSl 3 ccNil ccNil_ok (rL_iv (rL_iv rNil))))).enc ((t1, t2, ()), (r0, r1, r2, r3, ()))).mem (cTwo cIv cInt).dec =
      .bind (t1.right) fun vb0 =>
      .br (!vb0)
       (
        .bind (Go.Proofs.Ythgpgnijbajlgaa.Iv.none) fun viv1 =>
        .ret ((viv1, 0)))
       (
        .get (Go.Proofs.Ythgpgnijbajlgaa.solveRun (fun c => Go.Proofs.Ythgpgnijbajlgaa.Ev.lenOk c.snd.snd.fst && Go.Proofs.Ythgpgnijbajlgaa.Ev.lenOk c.snd.snd.snd.fst) (fun c t => (Go.Proofs.Ythgpgnijbajlgaa.horner c.snd.snd.fst t, Go.Proofs.Ythgpgnijbajlgaa.horner c.snd.snd.snd.fst t)) ((Bool.false, Max.max 0 (Min.min t2 40), ()), t1, Go.Proofs.Ythgpgnijbajlgaa.Iv.mk 0 0 Bool.false, Go.Proofs.Ythgpgnijbajlgaa.Iv.mk 0 0 Bool.false, Go.Proofs.Ythgpgnijbajlgaa.Iv.mk 0 0 Bool.false, Go.Proofs.Ythgpgnijbajlgaa.Iv.mk 0 0 Bool.false, Go.Proofs.Ythgpgnijbajlgaa.Iv.mk 0 0 Bool.false, Go.Proofs.Ythgpgnijbajlgaa.Iv.mk 0 0 Bool.false, Go.Proofs.Ythgpgnijbajlgaa.Iv.mk 0 0 Bool.false, Go.Proofs.Ythgpgnijbajlgaa.Iv.mk 0 0 Bool.false, (), (), r2, r3, ())) fun vy2 =>
        .sum (vy2)
         (fun vs3 =>
          .br (vs3.fst.fst)
           (
            .ret ((vs3.snd.fst, 1)))
           (
            .bind (Go.Proofs.Ythgpgnijbajlgaa.Iv.none) fun viv4 =>
            .ret ((viv4, 0))))
         (fun vs5 =>
          .sum (vs5)
           (fun vs6 =>
            .ret ((vs6.snd.fst, vs6.fst.fst)))
           (fun vs7 =>
            .bind (Go.Proofs.Ythgpgnijbajlgaa.Iv.none) fun viv8 =>
            .ret ((viv8, 0))))) := by kernel_rfl
theorem c_newton_Solve_poly : PlainS Try.prog 54 (sc 3 [0, 1, 2] (tClo 0 55 [0,1] (tCod 1 cIv (tCod 2 cInt tNil))) (rRoSl 2 ccNil ccNil_ok (rRoSl 3 ccNil ccNil_ok (rL_iv (rL_iv rNil))))) (cTwo cIv cInt) (fun x => (fun (c : Unit × Unit × List Iv × List Iv × Unit) => lenOk c.2.2.1 && lenOk c.2.2.2.1) x.2) ((fun x => _root_.Go.Proofs.Ythgpgnijbajlgaa.solve ((fun (c : Unit × Unit × List Iv × List Iv × Unit) t => (horner c.2.2.1 t, horner c.2.2.2.1 t)) x.2) x.1.1 x.1.2.1)) := by
  intro x h N w vs hM hv
  obtain ⟨⟨t1, t2, ⟨⟩⟩, ⟨r0, r1, r2, r3, ⟨⟩⟩⟩ := x
  refine calls_of_tree (n := 200) (EnvOK.add s_iv_Point (EnvOK.add s_iv_Sub (EnvOK.add s_iv_Div (EnvOK.add s_iv_None (EnvOK.add s_iv_Right (EnvOK.add s_iv_Mid (EnvOK.add s_iv_Meet (EnvOK.add s_iv_Split (EnvOK.add s_newton_without_poly (EnvOK.add s_meniscuslaw7_NewtonTells_1 EnvOK.nil)))))))))) Try.func54 hv (Nat.le_of_ble_eq_true (by kernel_rfl)) (LFn.add (fn := Try.f54) (i := 5) (by kernel_rfl) ok_newton_Solve_poly_5 LFn.nil) hM (cTwo cIv cInt) ?_
  rw [t_newton_Solve_poly]
  simp only [den_br, den_bind, den_ret, den_fail, den_inl, den_inr, den_gets, decide_eq_true_eq]
  cases h0 : t1.right
  · simp [_root_.Go.Proofs.Ythgpgnijbajlgaa.solve, h0]
  have hr : ∀ {C : Type} (q : C → Bool) (F : C → Iv → Iv × Iv) (res n m u a b v s : Iv) (c : C), q c = true → solveRun q F ((false, max 0 (min t2 40), ()), (t1, res, n, m, u, a, b, v, s, c)) = some (solveOut (F c) res (rounds t2) t1 false) := by
    intro C q F res n m u a b v s c hq
    simp only [solveRun]
    rw [if_pos ⟨hq, by omega, by omega⟩]
    rfl
  rw [hr _ _ _ _ _ _ _ _ _ _ _ (by first | rfl | exact h)]
  simp only [Bool.not_true, Bool.false_eq_true, if_false, Option.bind_some, _root_.Go.Proofs.Ythgpgnijbajlgaa.solve, h0, if_true]
  rw [← solveEnd_out _ ⟨0, 0, false⟩]
  generalize solveOut _ _ _ _ _ = y
  rcases y with ⟨⟨sure, _⟩, ⟨t, res, _⟩⟩ | ⟨⟨is, _⟩, ⟨r, _⟩⟩ | ⟨_, ⟨r, _⟩⟩
  · cases sure <;> rfl
  · rfl
  · rfl
theorem s_newton_Solve_poly : Ev.Spec Try.prog 54 (FS (sc 3 [0, 1, 2] (tClo 0 55 [0,1] (tCod 1 cIv (tCod 2 cInt tNil))) (rRoSl 2 ccNil ccNil_ok (rRoSl 3 ccNil ccNil_ok (rL_iv (rL_iv rNil))))) (cTwo cIv cInt) (fun x => (fun (c : Unit × Unit × List Iv × List Iv × Unit) => lenOk c.2.2.1 && lenOk c.2.2.2.1) x.2) ((fun x => _root_.Go.Proofs.Ythgpgnijbajlgaa.solve ((fun (c : Unit × Unit × List Iv × List Iv × Unit) t => (horner c.2.2.1 t, horner c.2.2.2.1 t)) x.2) x.1.1 x.1.2.1))) := specS rfl (fun vs w => Try.call54 vs w) c_newton_Solve_poly

/-! newton.Solve -/
theorem t_newton_Solve_nil (x0 : Unit) (x1 : Iv) (x2 : Int) :
    evFn Try.prog (Env.add 39 (F1 cInt cIv Iv.point) (Env.add 40 (F2 cIv cIv cIv Iv.sub) (Env.add 45 (F2 cIv cIv cIv Iv.div) (Env.add 66 (F0 cIv Iv.none) (Env.add 91 (F1 cIv cBool Iv.right) (Env.add 106 (F1 cIv cInt Iv.mid) (Env.add 107 (F2 cIv cIv cIv Iv.meet) (Env.add 108 (F1 cIv (cTwo cIv cIv) Iv.split) (Env.add 109 (FS (sc 2 [0, 1] (tClo 0 71 [] (tCod 1 cIv tNil)) rNil) cBool (fun _ => true) ((fun x => without ((fun (_ : Unit) => lineF) x.2) x.1.1))) (Env.add 109 (FS (sc 2 [0, 1] (tClo 0 67 [] (tCod 1 cIv tNil)) rNil) cBool (fun _ => true) ((fun x => without ((fun (_ : Unit) => squareF) x.2) x.1.1))) (Env.add 109 (FS (sc 2 [0, 1] (tClo 0 69 [] (tCod 1 cIv tNil)) rNil) cBool (fun _ => true) ((fun x => without ((fun (_ : Unit) => aboveF) x.2) x.1.1))) (Env.add 109 (FS (sc 2 [0, 1] (tClo 0 55 [0,1] (tCod 1 cIv tNil)) (rRoSl 2 ccNil ccNil_ok (rRoSl 3 ccNil ccNil_ok (rL_iv (rL_iv rNil))))) cBool (fun x => (fun (c : Unit × Unit × List Iv × List Iv × Unit) => lenOk c.2.2.1 && lenOk c.2.2.2.1) x.2) ((fun x => without ((fun (c : Unit × Unit × List Iv × List Iv × Unit) t => (horner c.2.2.1 t, horner c.2.2.2.1 t)) x.2) x.1.1))) Env.nil)))))))))))) Laws.nil 200 Try.f54 [cNilFn.av x0, cIv.av x1, cInt.av x2] [] (cTwo cIv cInt).dec =
      .br (Bool.true)
       (
        .bind (Go.Proofs.Ythgpgnijbajlgaa.Iv.none) fun viv0 =>
        .ret ((viv0, 0)))
       (
        .bind (x1.right) fun vb1 =>
        .br (!vb1)
         (
          .bind (Go.Proofs.Ythgpgnijbajlgaa.Iv.none) fun viv2 =>
          .ret ((viv2, 0)))
         (
          .br (Decidable.decide (Max.max 0 (Min.min x2 40) > 0))
           (
            .bind (x1.mid) fun vn3 =>
            .bind (Go.Proofs.Ythgpgnijbajlgaa.Iv.point vn3) fun viv4 =>
            .fail)
           (
            .bind (Go.Proofs.Ythgpgnijbajlgaa.Iv.none) fun viv5 =>
            .ret ((viv5, 0))))) := by kernel_rfl
theorem c_newton_Solve_nil (x0 : Unit) (x1 : Iv) (x2 : Int) : Plain Try.prog 54 [cNilFn.enc x0, cIv.enc x1, cInt.enc x2] ((cTwo cIv cInt).enc (((fun (_ : Unit) (_ : Iv) (_ : Int) => noSolve)) x0 x1 x2)) :=
  plain_of_tree (n := 200) (EnvOK.add s_iv_Point (EnvOK.add s_iv_Sub (EnvOK.add s_iv_Div (EnvOK.add s_iv_None (EnvOK.add s_iv_Right (EnvOK.add s_iv_Mid (EnvOK.add s_iv_Meet (EnvOK.add s_iv_Split (EnvOK.add s_newton_without_line (EnvOK.add s_newton_without_square (EnvOK.add s_newton_without_above (EnvOK.add s_newton_without_poly EnvOK.nil)))))))))))) Try.func54 (args := [cNilFn.av x0, cIv.av x1, cInt.av x2]) (by simp only [AV.vals, Cod.av_val]) (Nat.le_of_ble_eq_true (by kernel_rfl)) LFn.nil (cTwo cIv cInt) (by
    rw [t_newton_Solve_nil]
    simp only [den_br, den_bind, den_ret, den_fail, den_inl, den_inr, decide_eq_true_eq]
    rfl)
theorem s_newton_Solve_nil : Ev.Spec Try.prog 54 (F3 cNilFn cIv cInt (cTwo cIv cInt) ((fun (_ : Unit) (_ : Iv) (_ : Int) => noSolve))) := spec3 (fun vs w => Try.call54 vs w) c_newton_Solve_nil

/-! meniscuslaw7.known -/
theorem t_meniscuslaw7_known  :
    evFn Try.prog (Env.add 46 (F1 cInt cIv Iv.whole) (Env.add 54 (FS (sc 3 [0, 1, 2] (tClo 0 71 [] (tCod 1 cIv (tCod 2 cInt tNil))) rNil) (cTwo cIv cInt) (fun _ => true) ((fun x => _root_.Go.Proofs.Ythgpgnijbajlgaa.solve ((fun (_ : Unit) => lineF) x.2) x.1.1 x.1.2.1))) (Env.add 54 (FS (sc 3 [0, 1, 2] (tClo 0 67 [] (tCod 1 cIv (tCod 2 cInt tNil))) rNil) (cTwo cIv cInt) (fun _ => true) ((fun x => _root_.Go.Proofs.Ythgpgnijbajlgaa.solve ((fun (_ : Unit) => squareF) x.2) x.1.1 x.1.2.1))) (Env.add 54 (FS (sc 3 [0, 1, 2] (tClo 0 69 [] (tCod 1 cIv (tCod 2 cInt tNil))) rNil) (cTwo cIv cInt) (fun _ => true) ((fun x => _root_.Go.Proofs.Ythgpgnijbajlgaa.solve ((fun (_ : Unit) => aboveF) x.2) x.1.1 x.1.2.1))) (Env.add 54 (FS (sc 3 [0, 1, 2] (tClo 0 55 [0,1] (tCod 1 cIv (tCod 2 cInt tNil))) (rRoSl 2 ccNil ccNil_ok (rRoSl 3 ccNil ccNil_ok (rL_iv (rL_iv rNil))))) (cTwo cIv cInt) (fun x => (fun (c : Unit × Unit × List Iv × List Iv × Unit) => lenOk c.2.2.1 && lenOk c.2.2.2.1) x.2) ((fun x => _root_.Go.Proofs.Ythgpgnijbajlgaa.solve ((fun (c : Unit × Unit × List Iv × List Iv × Unit) t => (horner c.2.2.1 t, horner c.2.2.2.1 t)) x.2) x.1.1 x.1.2.1))) (Env.add 54 (F3 cNilFn cIv cInt (cTwo cIv cInt) ((fun (_ : Unit) (_ : Iv) (_ : Int) => noSolve))) (Env.add 70 (F2 cInt cInt cIv Iv.of) (Env.add 71 (F1 cIv (cTwo cIv cIv) lineF) Env.nil)))))))) Laws.nil 200 Try.f58 [] [] cBool.dec =
      .bind (Go.Proofs.Ythgpgnijbajlgaa.Iv.of 0 262144) fun viv0 =>
      .br (Bool.true)
       (
        .bind (Go.Proofs.Ythgpgnijbajlgaa.solve Go.Proofs.Ythgpgnijbajlgaa.lineF viv0 10) fun vy1 =>
        .br (vy1.snd == 1)
         (
          .bind (Go.Proofs.Ythgpgnijbajlgaa.Iv.whole 1) fun viv2 =>
          .ret (vy1.fst.lo == viv2.lo && (vy1.fst.hi == viv2.hi && vy1.fst.no == viv2.no)))
         (
          .ret (Bool.false)))
       (
        .fail) := by kernel_rfl
theorem c_meniscuslaw7_known  : Plain Try.prog 58 [] (cBool.enc (true)) :=
  plain_of_tree (n := 200) (EnvOK.add s_iv_Whole (EnvOK.add s_newton_Solve_line (EnvOK.add s_newton_Solve_square (EnvOK.add s_newton_Solve_above (EnvOK.add s_newton_Solve_poly (EnvOK.add s_newton_Solve_nil (EnvOK.add s_iv_Of (EnvOK.add s_meniscuslaw7_line EnvOK.nil)))))))) Try.func58 (args := []) rfl (Nat.le_of_ble_eq_true (by kernel_rfl)) LFn.nil cBool (by
    rw [t_meniscuslaw7_known]
    decide +kernel)
theorem s_meniscuslaw7_known : Ev.Spec Try.prog 58 (F0 cBool true) := spec0 (fun vs w => Try.call58 vs w) c_meniscuslaw7_known

/-! meniscuslaw7.powers -/
theorem tl_meniscuslaw7_powers_3 (t4 : Int) (r0 : List Int) (r1 : List Iv) :
    ev Try.prog (Env.add 22 (F2p cInt cInt cInt pickOk pick) (Env.add 51 (F2 cInt cInt cIv wide) Env.nil)) Laws.nil 200 none (loopAt Try.f50 3) ((sc 33 [4, 0, 3] (tCod 4 cInt (tSl 0 0 (tSl 3 1 tNil))) (rL_int (rG_iv 63 rNil))).enc ((t4, ()), (r0, r1, ()))) (backK (sc 33 [4, 0, 3] (tCod 4 cInt (tSl 0 0 (tSl 3 1 tNil))) (rL_int (rG_iv 63 rNil))) (ocExit 0 (sc 33 [3] (tSl 3 0 tNil) (rG_iv 63 rNil)))) =
      .br (Decidable.decide (Go.IntKind.i64.wrap (t4 + 1) < (@Nat.cast Int _ r0.length)))
       (
        .br (Decidable.decide (t4 < 10))
         (
          .br (Decidable.decide (0 ≤ t4 ∧ t4 < (@Nat.cast Int _ r0.length)))
           (
            .get (r0[t4.toNat]?) fun vt0 =>
            .br (Go.Proofs.Ythgpgnijbajlgaa.pickOk vt0 393216)
             (
              .bind (Go.Proofs.Ythgpgnijbajlgaa.pick vt0 393216) fun vn1 =>
              .br (Decidable.decide (0 ≤ Go.IntKind.i64.wrap (t4 + 1) ∧ Go.IntKind.i64.wrap (t4 + 1) < (@Nat.cast Int _ r0.length)))
               (
                .get (r0[(Go.IntKind.i64.wrap (t4 + 1)).toNat]?) fun vt2 =>
                .br (Go.Proofs.Ythgpgnijbajlgaa.pickOk vt2 12)
                 (
                  .bind (Go.Proofs.Ythgpgnijbajlgaa.pick vt2 12) fun vn3 =>
                  .bind (Go.Proofs.Ythgpgnijbajlgaa.wide (Go.IntKind.i64.wrap (vn1 - 196608)) vn3) fun viv4 =>
                  .br (Go.Proofs.Ythgpgnijbajlgaa.Ev.lenOk (r1 ++ [viv4]))
                   (
                    .ret (Sum.inl ((Go.IntKind.i64.wrap (t4 + 2), ()), r0, r1 ++ [viv4], ())))
                   (
                    .fail))
                 (
                  .fail))
               (
                .fail))
             (
              .fail))
           (
            .fail))
         (
          .ret (Sum.inr ((), r1, ()))))
       (
        .ret (Sum.inr ((), r1, ()))) := by kernel_rfl
theorem ok_meniscuslaw7_powers_3 : LOK Try.prog (LoopR.of (sc 33 [4, 0, 3] (tCod 4 cInt (tSl 0 0 (tSl 3 1 tNil))) (rL_int (rG_iv 63 rNil))) (ocExit 0 (sc 33 [3] (tSl 3 0 tNil) (rG_iv 63 rNil))) powRun) (loopAt Try.f50 3) := by
  refine loop_ok (EnvOK.add s_meniscushand_Pick (EnvOK.add s_meniscushand_Wide EnvOK.nil)) (LFn.at (fn := Try.f50) LFn.nil 3) powStep (n := 200) (fun x z h => ?_) powRun_ok
  obtain ⟨⟨t4, ⟨⟩⟩, ⟨r0, r1, ⟨⟩⟩⟩ := x
  rw [tl_meniscuslaw7_powers_3]
  rw [← h]
  simp only [den_br, den_bind, den_ret, den_fail, den_inl, den_inr, decide_eq_true_eq]
  have p1 : ∀ n : Int, pickOk n 393216 = true := fun _ => by simp [pickOk]
  have p2 : ∀ n : Int, pickOk n 12 = true := fun _ => by simp [pickOk]
  have w1 : ∀ n : Int, IntKind.i64.wrap (pick n 393216 - 196608) = pick n 393216 - 196608 := fun n => wr (by have := pick_bd n (m := 393216) (by decide); omega)
  simp only [p1, p2, w1, if_true, powStep]
  by_cases c1 : IntKind.i64.wrap (t4 + 1) < (r0.length : Int)
  case neg => simp only [c1, if_false, false_and]
  by_cases c2 : t4 < 10
  case neg => simp only [c1, c2, if_true, if_false, and_false]
  simp only [c1, c2, if_true, and_self]
  by_cases c3 : 0 ≤ t4 ∧ t4 < (r0.length : Int)
  case neg => simp only [c3, if_false]
  simp only [c3, if_true, and_self]
  cases hg : r0[t4.toNat]? with
  | none => rfl
  | some a =>
    simp only [den_get, den_br, den_bind, den_ret, den_fail, p1, p2, w1, if_true, decide_eq_true_eq]
    by_cases c4 : 0 ≤ IntKind.i64.wrap (t4 + 1)
    case neg => simp only [c4, false_and, if_false]
    simp only [c4, and_self, if_true]
    cases hg2 : r0[(IntKind.i64.wrap (t4 + 1)).toNat]? with
    | none => rfl
    | some b =>
      simp only [den_get, den_br, den_bind, den_ret, den_fail, p1, p2, w1, if_true, decide_eq_true_eq]
      rw [show wide (pick a 393216 - 196608) (pick b 12) = powOne a b from rfl]
theorem t_meniscuslaw7_powers (r0 : List Int) :
    evFnR Try.prog (Env.add 22 (F2p cInt cInt cInt pickOk pick) (Env.add 51 (F2 cInt cInt cIv wide) Env.nil)) (Laws.add 3 (LoopR.of (sc 33 [4, 0, 3] (tCod 4 cInt (tSl 0 0 (tSl 3 1 tNil))) (rL_int (rG_iv 63 rNil))) (ocExit 0 (sc 33 [3] (tSl 3 0 tNil) (rG_iv 63 rNil))) powRun) Laws.nil) 200 Try.f50 (((sc 1 [0] (tSl 0 0 tNil) (rL_int rNil)).enc ((()), (r0, ()))).tmps.map Prod.snd) ((sc 1 [0] (tSl 0 0 tNil) (rL_int rNil)).enc ((()), (r0, ()))).mem (sc 1 [0] (tSl 0 0 tNil) (rG_iv 63 rNil)).ts (sc 1 [0] (tSl 0 0 tNil) (rG_iv 63 rNil)).dec =
      .get (Go.Proofs.Ythgpgnijbajlgaa.powRun ((0, ()), r0, [], ())) fun vy0 =>
      .ret (((), vy0.snd.fst, ())) := by kernel_rfl
theorem c_meniscuslaw7_powers : PlainR Try.prog 50 (sc 1 [0] (tSl 0 0 tNil) (rL_int rNil)) (sc 1 [0] (tSl 0 0 tNil) (rG_iv 63 rNil)) (fun _ => true) ((fun x => ((), (powersOf x.2.1, ())))) := by
  intro x h N w vs hM hv
  obtain ⟨⟨⟩, ⟨r0, ⟨⟩⟩⟩ := x
  refine calls_of_treeR (n := 200) (EnvOK.add s_meniscushand_Pick (EnvOK.add s_meniscushand_Wide EnvOK.nil)) Try.func50 hv (Nat.le_of_ble_eq_true (by kernel_rfl)) (LFn.add (fn := Try.f50) (i := 3) (by kernel_rfl) ok_meniscuslaw7_powers_3 LFn.nil) hM (sc 1 [0] (tSl 0 0 tNil) (rG_iv 63 rNil)) rfl ?_
  rw [t_meniscuslaw7_powers]
  simp only [den_br, den_bind, den_ret, den_fail, den_inl, den_inr, decide_eq_true_eq]
  have hr : powRun ((0, ()), (r0, [], ())) = some ((), (powersOf r0, ())) := rfl
  rw [hr]
  rfl
theorem s_meniscuslaw7_powers : Ev.Spec Try.prog 50 (FR (sc 1 [0] (tSl 0 0 tNil) (rL_int rNil)) (sc 1 [0] (tSl 0 0 tNil) (rG_iv 63 rNil)) (fun _ => true) ((fun x => ((), (powersOf x.2.1, ()))))) := specR rfl (fun _ => rfl) (fun vs w => Try.call50 vs w) c_meniscuslaw7_powers

/-! meniscuslaw7.NewtonKnown -/
theorem t_meniscuslaw7_NewtonKnown  :
    evFn Try.prog (Env.add 54 (FS (sc 3 [0, 1, 2] (tClo 0 71 [] (tCod 1 cIv (tCod 2 cInt tNil))) rNil) (cTwo cIv cInt) (fun _ => true) ((fun x => _root_.Go.Proofs.Ythgpgnijbajlgaa.solve ((fun (_ : Unit) => lineF) x.2) x.1.1 x.1.2.1))) (Env.add 54 (FS (sc 3 [0, 1, 2] (tClo 0 67 [] (tCod 1 cIv (tCod 2 cInt tNil))) rNil) (cTwo cIv cInt) (fun _ => true) ((fun x => _root_.Go.Proofs.Ythgpgnijbajlgaa.solve ((fun (_ : Unit) => squareF) x.2) x.1.1 x.1.2.1))) (Env.add 54 (FS (sc 3 [0, 1, 2] (tClo 0 69 [] (tCod 1 cIv (tCod 2 cInt tNil))) rNil) (cTwo cIv cInt) (fun _ => true) ((fun x => _root_.Go.Proofs.Ythgpgnijbajlgaa.solve ((fun (_ : Unit) => aboveF) x.2) x.1.1 x.1.2.1))) (Env.add 54 (FS (sc 3 [0, 1, 2] (tClo 0 55 [0,1] (tCod 1 cIv (tCod 2 cInt tNil))) (rRoSl 2 ccNil ccNil_ok (rRoSl 3 ccNil ccNil_ok (rL_iv (rL_iv rNil))))) (cTwo cIv cInt) (fun x => (fun (c : Unit × Unit × List Iv × List Iv × Unit) => lenOk c.2.2.1 && lenOk c.2.2.2.1) x.2) ((fun x => _root_.Go.Proofs.Ythgpgnijbajlgaa.solve ((fun (c : Unit × Unit × List Iv × List Iv × Unit) t => (horner c.2.2.1 t, horner c.2.2.2.1 t)) x.2) x.1.1 x.1.2.1))) (Env.add 54 (F3 cNilFn cIv cInt (cTwo cIv cInt) ((fun (_ : Unit) (_ : Iv) (_ : Int) => noSolve))) (Env.add 58 (F0 cBool true) (Env.add 63 (F2 cIv cInt cBool Iv.has) (Env.add 66 (F0 cIv Iv.none) (Env.add 67 (F1 cIv (cTwo cIv cIv) squareF) (Env.add 69 (F1 cIv (cTwo cIv cIv) aboveF) (Env.add 70 (F2 cInt cInt cIv Iv.of) (Env.add 71 (F1 cIv (cTwo cIv cIv) lineF) (Env.add 67 (F1 cIv (cTwo cIv cIv) squareF) (Env.add 69 (F1 cIv (cTwo cIv cIv) aboveF) (Env.add 71 (F1 cIv (cTwo cIv cIv) lineF) Env.nil))))))))))))))) Laws.nil 200 Try.f15 (((sc 0 [] tNil rNil).enc ((()), (()))).tmps.map Prod.snd) ((sc 0 [] tNil rNil).enc ((()), (()))).mem cBool.dec =
      .bind (Go.Proofs.Ythgpgnijbajlgaa.Iv.of 65536 131072) fun viv0 =>
      .br (Bool.true)
       (
        .bind (Go.Proofs.Ythgpgnijbajlgaa.solve Go.Proofs.Ythgpgnijbajlgaa.squareF viv0 20) fun vy1 =>
        .bind (Go.Proofs.Ythgpgnijbajlgaa.Iv.of 131072 262144) fun viv2 =>
        .br (Bool.true)
         (
          .bind (Go.Proofs.Ythgpgnijbajlgaa.solve Go.Proofs.Ythgpgnijbajlgaa.lineF viv2 20) fun vy3 =>
          .bind (Go.Proofs.Ythgpgnijbajlgaa.Iv.of 0 262144) fun viv4 =>
          .br (Bool.true)
           (
            .bind (Go.Proofs.Ythgpgnijbajlgaa.solve Go.Proofs.Ythgpgnijbajlgaa.lineF viv4 0) fun vy5 =>
            .bind (Go.Proofs.Ythgpgnijbajlgaa.Iv.of 0 262144) fun viv6 =>
            .bind (Go.Proofs.Ythgpgnijbajlgaa.noSolve) fun vy7 =>
            .bind (Go.Proofs.Ythgpgnijbajlgaa.Iv.none) fun viv8 =>
            .br (Bool.true)
             (
              .bind (Go.Proofs.Ythgpgnijbajlgaa.solve Go.Proofs.Ythgpgnijbajlgaa.lineF viv8 9) fun vy9 =>
              .bind (Go.Proofs.Ythgpgnijbajlgaa.Iv.of 65536 131072) fun viv10 =>
              .br (Bool.true)
               (
                .bind (Go.Proofs.Ythgpgnijbajlgaa.solve Go.Proofs.Ythgpgnijbajlgaa.aboveF viv10 20) fun vy11 =>
                .bind (Go.Proofs.Ythgpgnijbajlgaa.Iv.of (-131072) 131072) fun viv12 =>
                .br (Bool.true)
                 (
                  .bind (Go.Proofs.Ythgpgnijbajlgaa.solve Go.Proofs.Ythgpgnijbajlgaa.squareF viv12 20) fun vy13 =>
                  .bind (Bool.true) fun vb14 =>
                  .br (vb14)
                   (
                    .br (vy1.snd == 1)
                     (
                      .bind (vy1.fst.has 92681) fun vb15 =>
                      .br (vb15)
                       (
                        .br (Decidable.decide (Go.IntKind.i64.wrap (vy1.fst.hi - vy1.fst.lo) ≤ 4))
                         (
                          .br (vy3.snd == 2)
                           (
                            .bind (Go.Proofs.Ythgpgnijbajlgaa.Iv.none) fun viv16 =>
                            .br (vy3.fst.lo == viv16.lo && (vy3.fst.hi == viv16.hi && vy3.fst.no == viv16.no))
                             (
                              .br (vy5.snd == 0)
                               (
                                .bind (Go.Proofs.Ythgpgnijbajlgaa.Iv.none) fun viv17 =>
                                .br (vy5.fst.lo == viv17.lo && (vy5.fst.hi == viv17.hi && vy5.fst.no == viv17.no))
                                 (
                                  .br (vy7.snd == 0)
                                   (
                                    .bind (Go.Proofs.Ythgpgnijbajlgaa.Iv.none) fun viv18 =>
                                    .br (vy7.fst.lo == viv18.lo && (vy7.fst.hi == viv18.hi && vy7.fst.no == viv18.no))
                                     (
                                      .br (vy9.snd == 0)
                                       (
                                        .bind (Go.Proofs.Ythgpgnijbajlgaa.Iv.none) fun viv19 =>
                                        .br (vy9.fst.lo == viv19.lo && (vy9.fst.hi == viv19.hi && vy9.fst.no == viv19.no))
                                         (
                                          .br (vy11.snd == 2)
                                           (
                                            .bind (Go.Proofs.Ythgpgnijbajlgaa.Iv.none) fun viv20 =>
                                            .br (vy11.fst.lo == viv20.lo && (vy11.fst.hi == viv20.hi && vy11.fst.no == viv20.no))
                                             (
                                              .br (vy13.snd == 0)
                                               (
                                                .bind (Go.Proofs.Ythgpgnijbajlgaa.Iv.none) fun viv21 =>
                                                .ret (vy13.fst.lo == viv21.lo && (vy13.fst.hi == viv21.hi && vy13.fst.no == viv21.no)))
                                               (
                                                .ret (Bool.false)))
                                             (
                                              .ret (Bool.false)))
                                           (
                                            .ret (Bool.false)))
                                         (
                                          .ret (Bool.false)))
                                       (
                                        .ret (Bool.false)))
                                     (
                                      .ret (Bool.false)))
                                   (
                                    .ret (Bool.false)))
                                 (
                                  .ret (Bool.false)))
                               (
                                .ret (Bool.false)))
                             (
                              .ret (Bool.false)))
                           (
                            .ret (Bool.false)))
                         (
                          .ret (Bool.false)))
                       (
                        .ret (Bool.false)))
                     (
                      .ret (Bool.false)))
                   (
                    .ret (Bool.false)))
                 (
                  .fail))
               (
                .fail))
             (
              .fail))
           (
            .fail))
         (
          .fail))
       (
        .fail) := by kernel_rfl
theorem c_meniscuslaw7_NewtonKnown : PlainS Try.prog 15 (sc 0 [] tNil rNil) cBool (fun _ => true) ((fun _ => true)) := by
  intro x h N w vs hM hv
  obtain ⟨⟨⟩, ⟨⟩⟩ := x
  refine calls_of_tree (n := 200) (EnvOK.add s_newton_Solve_line (EnvOK.add s_newton_Solve_square (EnvOK.add s_newton_Solve_above (EnvOK.add s_newton_Solve_poly (EnvOK.add s_newton_Solve_nil (EnvOK.add s_meniscuslaw7_known (EnvOK.add s_iv_Has (EnvOK.add s_iv_None (EnvOK.add s_meniscuslaw7_NewtonKnown_1 (EnvOK.add s_meniscuslaw7_NewtonKnown_2 (EnvOK.add s_iv_Of (EnvOK.add s_meniscuslaw7_line (EnvOK.add s_meniscuslaw7_NewtonKnown_1 (EnvOK.add s_meniscuslaw7_NewtonKnown_2 (EnvOK.add s_meniscuslaw7_line EnvOK.nil))))))))))))))) Try.func15 hv (Nat.le_of_ble_eq_true (by kernel_rfl)) LFn.nil hM cBool ?_
  rw [t_meniscuslaw7_NewtonKnown]
  decide +kernel
theorem s_meniscuslaw7_NewtonKnown : Ev.Spec Try.prog 15 (FS (sc 0 [] tNil rNil) cBool (fun _ => true) ((fun _ => true))) := specS rfl (fun vs w => Try.call15 vs w) c_meniscuslaw7_NewtonKnown
end Go.Proofs.Ythgpgnijbajlgaa
