/-
  Contracts of calls, written by a small program of this session out of the evaluator's trees.
-/
import Derived.Test.YthgpgnijbajlgaaCore
import Derived.Test.YthgpgnijbajlgaaCoreLoops
import Derived.Test.YthgpgnijbajlgaaCore2
import Derived.Test.YthgpgnijbajlgaaCore3
import Derived.Test.YthgpgnijbajlgaaPlane
import Derived.Test.YthgpgnijbajlgaaNewtonW
import Derived.Test.YthgpgnijbajlgaaEvCod
import Derived.Test.YthgpgnijbajlgaaEvRet
import Derived.Test.YthgpgnijbajlgaaProg
import Derived.Test.YthgpgnijbajlgaaW1
namespace Go.Proofs.Ythgpgnijbajlgaa
open Go Go.RowKit Ev
set_option maxRecDepth 100000
set_option linter.unusedVariables false
set_option linter.unusedSimpArgs false

/-! newton.Solve -/
theorem tl_newton_Solve_whole_5 (t15 : Bool) (t16 : Int) (r0 : Iv) (r1 : Iv) (r2 : Iv) (r3 : Iv) (r4 : Iv) (r5 : Iv) (r6 : Iv) (r7 : Iv) (r8 : Iv) (r9 : Int) (r10 : Int) :
    ev Try.prog (Env.add 39 (F1 cInt cIv Iv.point) (Env.add 40 (F2 cIv cIv cIv Iv.sub) (Env.add 45 (F2 cIv cIv cIv Iv.div) (Env.add 66 (F0 cIv Iv.none) (Env.add 91 (F1 cIv cBool Iv.right) (Env.add 106 (F1 cIv cInt Iv.mid) (Env.add 107 (F2 cIv cIv cIv Iv.meet) (Env.add 108 (F1 cIv (cTwo cIv cIv) Iv.split) (Env.add 109 (FS (sc 2 [0, 1] (tClo 0 61 [0,1] (tCod 1 cIv tNil)) (rRo ccInt ccInt_ok (rRo ccInt ccInt_ok rNil))) cBool (fun _ => true) ((fun x => without ((fun (c : Int × Int × Unit) => wholeF c.1 c.2.1) x.2) x.1.1))) (Env.add 61 (FS (sc 3 [0, 1, 2] (tCod 0 cIv (tOwn 1 0 (tOwn 2 1 tNil))) (rRo ccInt ccInt_ok (rRo ccInt ccInt_ok rNil))) (cTwo cIv cIv) (fun _ => true) ((fun x => (fun (c : Int × Int × Unit) => wholeF c.1 c.2.1) x.2 x.1.1))) Env.nil)))))))))) Laws.nil 200 none (loopAt Try.f54 5) ((sc 95 [15, 16, 4, 6, 8, 9, 10, 11, 12, 13, 14, 0] (tCod 15 cBool (tCod 16 cInt (tOwn 4 0 (tOwn 6 1 (tOwn 8 2 (tOwn 9 3 (tOwn 10 4 (tOwn 11 5 (tOwn 12 6 (tOwn 13 7 (tOwn 14 8 (tClo 0 61 [9,10] tNil)))))))))))) (rBox ccIv ccIv_ok (rBox ccIv ccIv_ok (rBox ccIv ccIv_ok (rBox ccIv ccIv_ok (rBox ccIv ccIv_ok (rBox ccIv ccIv_ok (rBox ccIv ccIv_ok (rBox ccIv ccIv_ok (rBox ccIv ccIv_ok (rRo ccInt ccInt_ok (rRo ccInt ccInt_ok rNil)))))))))))).enc ((t15, t16, ()), (r0, r1, r2, r3, r4, r5, r6, r7, r8, r9, r10, ()))) (backK (sc 95 [15, 16, 4, 6, 8, 9, 10, 11, 12, 13, 14, 0] (tCod 15 cBool (tCod 16 cInt (tOwn 4 0 (tOwn 6 1 (tOwn 8 2 (tOwn 9 3 (tOwn 10 4 (tOwn 11 5 (tOwn 12 6 (tOwn 13 7 (tOwn 14 8 (tClo 0 61 [9,10] tNil)))))))))))) (rBox ccIv ccIv_ok (rBox ccIv ccIv_ok (rBox ccIv ccIv_ok (rBox ccIv ccIv_ok (rBox ccIv ccIv_ok (rBox ccIv ccIv_ok (rBox ccIv ccIv_ok (rBox ccIv ccIv_ok (rBox ccIv ccIv_ok (rRo ccInt ccInt_ok (rRo ccInt ccInt_ok rNil)))))))))))) (ocOr (ocExit 0 (sc 95 [15, 4, 6] (tCod 15 cBool (tOwn 4 0 (tOwn 6 1 tNil))) (rBox ccIv ccIv_ok (rBox ccIv ccIv_ok rNil)))) (ocOr (ocRet (sc 95 [7, 6] (tCod 7 cInt (tOwn 6 0 tNil)) (rBox ccIv ccIv_ok rNil))) (ocGoto 0 (sc 95 [6] (tOwn 6 0 tNil) (rBox ccIv ccIv_ok rNil)))))) =
      .br (Decidable.decide (t16 > 0))
       (
        .bind (r0.mid) fun vn0 =>
        .bind (Go.Proofs.Ythgpgnijbajlgaa.Iv.point vn0) fun viv1 =>
        .br (Bool.true)
         (
          .bind (Go.Proofs.Ythgpgnijbajlgaa.wholeF r9 r10 viv1) fun vy2 =>
          .br (Bool.true)
           (
            .bind (Go.Proofs.Ythgpgnijbajlgaa.wholeF r9 r10 r0) fun vy3 =>
            .bind (vy2.fst.div vy3.snd) fun viv4 =>
            .bind (viv1.sub viv4) fun viv5 =>
            .br (viv5.no)
             (
              .bind (r0.split) fun vy6 =>
              .br (Bool.true)
               (
                .bind (Go.Proofs.Ythgpgnijbajlgaa.without (Go.Proofs.Ythgpgnijbajlgaa.wholeF r9 r10) vy6.fst) fun vb7 =>
                .br (vb7)
                 (
                  .ret (Sum.inl ((t15, Go.IntKind.i64.wrap (t16 - 1), ()), vy6.snd, r1, viv5, viv1, r4, vy6.fst, vy6.snd, vy2.fst, vy3.snd, r9, r10, ())))
                 (
                  .br (Bool.true)
                   (
                    .bind (Go.Proofs.Ythgpgnijbajlgaa.without (Go.Proofs.Ythgpgnijbajlgaa.wholeF r9 r10) vy6.snd) fun vb8 =>
                    .br (!vb8)
                     (
                      .ret (Sum.inr (Sum.inr (Sum.inr ((), r1, ())))))
                     (
                      .ret (Sum.inl ((t15, Go.IntKind.i64.wrap (t16 - 1), ()), vy6.fst, r1, viv5, viv1, r4, vy6.fst, vy6.snd, vy2.fst, vy3.snd, r9, r10, ()))))
                   (
                    .fail)))
               (
                .fail))
             (
              .br (t15)
               (
                .bind (r0.meet viv5) fun viv9 =>
                .br (viv9.no)
                 (
                  .bind (Go.Proofs.Ythgpgnijbajlgaa.Iv.none) fun viv10 =>
                  .ret (Sum.inr (Sum.inr (Sum.inl ((2, ()), viv10, ())))))
                 (
                  .br (viv9.lo == r0.lo && (viv9.hi == r0.hi && viv9.no == r0.no))
                   (
                    .ret (Sum.inr (Sum.inl ((Bool.true, ()), r0, r1, ()))))
                   (
                    .ret (Sum.inl ((Bool.true, Go.IntKind.i64.wrap (t16 - 1), ()), viv9, r1, viv5, viv1, viv9, r5, r6, vy2.fst, vy3.snd, r9, r10, ())))))
               (
                .br (Decidable.decide (r0.lo < viv5.lo))
                 (
                  .bind (r0.meet viv5) fun viv11 =>
                  .br (viv11.no)
                   (
                    .bind (Go.Proofs.Ythgpgnijbajlgaa.Iv.none) fun viv12 =>
                    .ret (Sum.inr (Sum.inr (Sum.inl ((2, ()), viv12, ())))))
                   (
                    .br (viv11.lo == r0.lo && (viv11.hi == r0.hi && viv11.no == r0.no))
                     (
                      .ret (Sum.inr (Sum.inl ((Decidable.decide (viv5.hi < r0.hi), ()), r0, r1, ()))))
                     (
                      .ret (Sum.inl ((Decidable.decide (viv5.hi < r0.hi), Go.IntKind.i64.wrap (t16 - 1), ()), viv11, r1, viv5, viv1, viv11, r5, r6, vy2.fst, vy3.snd, r9, r10, ())))))
                 (
                  .bind (r0.meet viv5) fun viv13 =>
                  .br (viv13.no)
                   (
                    .bind (Go.Proofs.Ythgpgnijbajlgaa.Iv.none) fun viv14 =>
                    .ret (Sum.inr (Sum.inr (Sum.inl ((2, ()), viv14, ())))))
                   (
                    .br (viv13.lo == r0.lo && (viv13.hi == r0.hi && viv13.no == r0.no))
                     (
                      .ret (Sum.inr (Sum.inl ((Bool.false, ()), r0, r1, ()))))
                     (
                      .ret (Sum.inl ((Bool.false, Go.IntKind.i64.wrap (t16 - 1), ()), viv13, r1, viv5, viv1, viv13, r5, r6, vy2.fst, vy3.snd, r9, r10, ()))))))))
           (
            .fail))
         (
          .fail))
       (
        .ret (Sum.inr (Sum.inl ((t15, ()), r0, r1, ())))) := by kernel_rfl
theorem ok_newton_Solve_whole_5 : LOK Try.prog (LoopR.of (sc 95 [15, 16, 4, 6, 8, 9, 10, 11, 12, 13, 14, 0] (tCod 15 cBool (tCod 16 cInt (tOwn 4 0 (tOwn 6 1 (tOwn 8 2 (tOwn 9 3 (tOwn 10 4 (tOwn 11 5 (tOwn 12 6 (tOwn 13 7 (tOwn 14 8 (tClo 0 61 [9,10] tNil)))))))))))) (rBox ccIv ccIv_ok (rBox ccIv ccIv_ok (rBox ccIv ccIv_ok (rBox ccIv ccIv_ok (rBox ccIv ccIv_ok (rBox ccIv ccIv_ok (rBox ccIv ccIv_ok (rBox ccIv ccIv_ok (rBox ccIv ccIv_ok (rRo ccInt ccInt_ok (rRo ccInt ccInt_ok rNil)))))))))))) (ocOr (ocExit 0 (sc 95 [15, 4, 6] (tCod 15 cBool (tOwn 4 0 (tOwn 6 1 tNil))) (rBox ccIv ccIv_ok (rBox ccIv ccIv_ok rNil)))) (ocOr (ocRet (sc 95 [7, 6] (tCod 7 cInt (tOwn 6 0 tNil)) (rBox ccIv ccIv_ok rNil))) (ocGoto 0 (sc 95 [6] (tOwn 6 0 tNil) (rBox ccIv ccIv_ok rNil))))) (solveRun (fun _ => true) ((fun (c : Int × Int × Unit) => wholeF c.1 c.2.1)))) (loopAt Try.f54 5) := by
  refine loop_ok (EnvOK.add s_iv_Point (EnvOK.add s_iv_Sub (EnvOK.add s_iv_Div (EnvOK.add s_iv_None (EnvOK.add s_iv_Right (EnvOK.add s_iv_Mid (EnvOK.add s_iv_Meet (EnvOK.add s_iv_Split (EnvOK.add s_newton_without_whole (EnvOK.add s_meniscuslaw7_NewtonWhole_1 EnvOK.nil)))))))))) (LFn.at (fn := Try.f54) LFn.nil 5) (solveStep (fun _ => true) ((fun (c : Int × Int × Unit) => wholeF c.1 c.2.1))) (n := 200) (fun x z h => ?_) (solveRun_ok _ _)
  obtain ⟨⟨t15, t16, ⟨⟩⟩, ⟨r0, r1, r2, r3, r4, r5, r6, r7, r8, r9, r10, ⟨⟩⟩⟩ := x
  rw [tl_newton_Solve_whole_5]
  by_cases hk : 0 < t16
  case neg =>
    rw [← h]
    simp only [den_br, den_bind, den_ret, den_fail, den_inl, den_inr, decide_eq_true_eq, solveStep, gt_iff_lt, hk, if_false]
  have hq : True := trivial
  rw [← h]
  simp only [den_br, den_bind, den_ret, den_fail, den_inl, den_inr, decide_eq_true_eq]
  rw [show (Iv.point r0.mid).sub (((wholeF r9 r10) (Iv.point r0.mid)).1.div ((wholeF r9 r10) r0).2) = nextN ((wholeF r9 r10)) r0 from rfl]
  simp only [solveStep, solveSure, ivEq, gt_iff_lt, hk, hq, Bool.and_self, if_true]
  generalize nextN ((wholeF r9 r10)) r0 = n
  simp only [ltB]
  cases h1 : n.no
  case true =>
    simp only [if_true]
    split
    · rfl
    · split <;> simp_all
  simp only [Bool.false_eq_true, if_false]
  cases t15 <;> simp only [Bool.false_eq_true, if_true, if_false, Bool.true_or, Bool.false_or]
  by_cases h2 : r0.lo < n.lo <;> simp only [h2, if_true, if_false, decide_true, decide_false, Bool.true_and, Bool.false_and]
theorem t_newton_Solve_whole (t1 : Iv) (t2 : Int) (r0 : Int) (r1 : Int) :
    evFn Try.prog (Env.add 39 (F1 cInt cIv Iv.point) (Env.add 40 (F2 cIv cIv cIv Iv.sub) (Env.add 45 (F2 cIv cIv cIv Iv.div) (Env.add 66 (F0 cIv Iv.none) (Env.add 91 (F1 cIv cBool Iv.right) (Env.add 106 (F1 cIv cInt Iv.mid) (Env.add 107 (F2 cIv cIv cIv Iv.meet) (Env.add 108 (F1 cIv (cTwo cIv cIv) Iv.split) (Env.add 109 (FS (sc 2 [0, 1] (tClo 0 61 [0,1] (tCod 1 cIv tNil)) (rRo ccInt ccInt_ok (rRo ccInt ccInt_ok rNil))) cBool (fun _ => true) ((fun x => without ((fun (c : Int × Int × Unit) => wholeF c.1 c.2.1) x.2) x.1.1))) (Env.add 61 (FS (sc 3 [0, 1, 2] (tCod 0 cIv (tOwn 1 0 (tOwn 2 1 tNil))) (rRo ccInt ccInt_ok (rRo ccInt ccInt_ok rNil))) (cTwo cIv cIv) (fun _ => true) ((fun x => (fun (c : Int × Int × Unit) => wholeF c.1 c.2.1) x.2 x.1.1))) Env.nil)))))))))) (Laws.add 5 (LoopR.of (sc 95 [15, 16, 4, 6, 8, 9, 10, 11, 12, 13, 14, 0] (tCod 15 cBool (tCod 16 cInt (tOwn 4 0 (tOwn 6 1 (tOwn 8 2 (tOwn 9 3 (tOwn 10 4 (tOwn 11 5 (tOwn 12 6 (tOwn 13 7 (tOwn 14 8 (tClo 0 61 [9,10] tNil)))))))))))) (rBox ccIv ccIv_ok (rBox ccIv ccIv_ok (rBox ccIv ccIv_ok (rBox ccIv ccIv_ok (rBox ccIv ccIv_ok (rBox ccIv ccIv_ok (rBox ccIv ccIv_ok (rBox ccIv ccIv_ok (rBox ccIv ccIv_ok (rRo ccInt ccInt_ok (rRo ccInt ccInt_ok rNil)))))))))))) (ocOr (ocExit 0 (sc 95 [15, 4, 6] (tCod 15 cBool (tOwn 4 0 (tOwn 6 1 tNil))) (rBox ccIv ccIv_ok (rBox ccIv ccIv_ok rNil)))) (ocOr (ocRet (sc 95 [7, 6] (tCod 7 cInt (tOwn 6 0 tNil)) (rBox ccIv ccIv_ok rNil))) (ocGoto 0 (sc 95 [6] (tOwn 6 0 tNil) (rBox ccIv ccIv_ok rNil))))) (solveRun (fun _ => true) ((fun (c : Int × Int × Unit) => wholeF c.1 c.2.1)))) Laws.nil) 200 Try.f54 (((sc 3 [0, 1, 2] (tClo 0 61 [0,1] (tCod 1 cIv (tCod 2 cInt tNil))) (rRo ccInt ccInt_ok (rRo ccInt ccInt_ok rNil))).enc ((t1, t2, ()), (r0, r1, ()))).tmps.map Prod.snd) ((sc 3 [0, 1, 2] (tClo 0 61 [0,1] (tCod 1 cIv (tCod 2 cInt tNil))) (rRo ccInt ccInt_ok (rRo ccInt ccInt_ok rNil))).enc ((t1, t2, ()), (r0, r1, ()))).mem (cTwo cIv cInt).dec =
      .bind (t1.right) fun vb0 =>
      .br (!vb0)
       (
        .bind (Go.Proofs.Ythgpgnijbajlgaa.Iv.none) fun viv1 =>
        .ret ((viv1, 0)))
       (
        .get (Go.Proofs.Ythgpgnijbajlgaa.solveRun (fun x => Bool.true) (fun c => Go.Proofs.Ythgpgnijbajlgaa.wholeF c.fst c.snd.fst) ((Bool.false, Max.max 0 (Min.min t2 40), ()), t1, Go.Proofs.Ythgpgnijbajlgaa.Iv.mk 0 0 Bool.false, Go.Proofs.Ythgpgnijbajlgaa.Iv.mk 0 0 Bool.false, Go.Proofs.Ythgpgnijbajlgaa.Iv.mk 0 0 Bool.false, Go.Proofs.Ythgpgnijbajlgaa.Iv.mk 0 0 Bool.false, Go.Proofs.Ythgpgnijbajlgaa.Iv.mk 0 0 Bool.false, Go.Proofs.Ythgpgnijbajlgaa.Iv.mk 0 0 Bool.false, Go.Proofs.Ythgpgnijbajlgaa.Iv.mk 0 0 Bool.false, Go.Proofs.Ythgpgnijbajlgaa.Iv.mk 0 0 Bool.false, r0, r1, ())) fun vy2 =>
        .sum (vy2)
         (fun vs3 =>
          .br (vs3.fst.fst)
           (
            .ret ((vs3.snd.fst, 1)))
           (
            .bind (Go.Proofs.Ythgpgnijbajlgaa.Iv.none) fun viv4 =>
            .ret ((viv4, 0))))
         (fun vs5 =>
          .sum (vs5)
           (fun vs6 =>
            .ret ((vs6.snd.fst, vs6.fst.fst)))
           (fun vs7 =>
            .bind (Go.Proofs.Ythgpgnijbajlgaa.Iv.none) fun viv8 =>
            .ret ((viv8, 0))))) := by kernel_rfl
theorem c_newton_Solve_whole : PlainS Try.prog 54 (sc 3 [0, 1, 2] (tClo 0 61 [0,1] (tCod 1 cIv (tCod 2 cInt tNil))) (rRo ccInt ccInt_ok (rRo ccInt ccInt_ok rNil))) (cTwo cIv cInt) (fun _ => true) ((fun x => _root_.Go.Proofs.Ythgpgnijbajlgaa.solve ((fun (c : Int × Int × Unit) => wholeF c.1 c.2.1) x.2) x.1.1 x.1.2.1)) := by
  intro x h N w vs hM hv
  obtain ⟨⟨t1, t2, ⟨⟩⟩, ⟨r0, r1, ⟨⟩⟩⟩ := x
  refine calls_of_tree (n := 200) (EnvOK.add s_iv_Point (EnvOK.add s_iv_Sub (EnvOK.add s_iv_Div (EnvOK.add s_iv_None (EnvOK.add s_iv_Right (EnvOK.add s_iv_Mid (EnvOK.add s_iv_Meet (EnvOK.add s_iv_Split (EnvOK.add s_newton_without_whole (EnvOK.add s_meniscuslaw7_NewtonWhole_1 EnvOK.nil)))))))))) Try.func54 hv (Nat.le_of_ble_eq_true (by kernel_rfl)) (LFn.add (fn := Try.f54) (i := 5) (by kernel_rfl) ok_newton_Solve_whole_5 LFn.nil) hM (cTwo cIv cInt) ?_
  rw [t_newton_Solve_whole]
  simp only [den_br, den_bind, den_ret, den_fail, den_inl, den_inr, den_gets, decide_eq_true_eq]
  cases h0 : t1.right
  · simp [_root_.Go.Proofs.Ythgpgnijbajlgaa.solve, h0]
  have hr : ∀ {C : Type} (q : C → Bool) (F : C → Iv → Iv × Iv) (res n m u a b v s : Iv) (c : C), q c = true → solveRun q F ((false, max 0 (min t2 40), ()), (t1, res, n, m, u, a, b, v, s, c)) = some (solveOut (F c) res (rounds t2) t1 false) := by
    intro C q F res n m u a b v s c hq
    simp only [solveRun]
    rw [if_pos ⟨hq, by omega, by omega⟩]
    rfl
  rw [hr _ _ _ _ _ _ _ _ _ _ _ (by first | rfl | exact h)]
  simp only [Bool.not_true, Bool.false_eq_true, if_false, Option.bind_some, _root_.Go.Proofs.Ythgpgnijbajlgaa.solve, h0, if_true]
  rw [← solveEnd_out _ ⟨0, 0, false⟩]
  generalize solveOut _ _ _ _ _ = y
  rcases y with ⟨⟨sure, _⟩, ⟨t, res, _⟩⟩ | ⟨⟨is, _⟩, ⟨r, _⟩⟩ | ⟨_, ⟨r, _⟩⟩
  · cases sure <;> rfl
  · rfl
  · rfl
theorem s_newton_Solve_whole : Ev.Spec Try.prog 54 (FS (sc 3 [0, 1, 2] (tClo 0 61 [0,1] (tCod 1 cIv (tCod 2 cInt tNil))) (rRo ccInt ccInt_ok (rRo ccInt ccInt_ok rNil))) (cTwo cIv cInt) (fun _ => true) ((fun x => _root_.Go.Proofs.Ythgpgnijbajlgaa.solve ((fun (c : Int × Int × Unit) => wholeF c.1 c.2.1) x.2) x.1.1 x.1.2.1))) := specS rfl (fun vs w => Try.call54 vs w) c_newton_Solve_whole

/-! meniscuslaw7.line -/
theorem t_meniscuslaw7_line (x0 : Iv) :
    evFn Try.prog (Env.add 40 (F2 cIv cIv cIv Iv.sub) (Env.add 46 (F1 cInt cIv Iv.whole) Env.nil)) Laws.nil 200 Try.f71 [cIv.av x0] [] (cTwo cIv cIv).dec =
      .bind (Go.Proofs.Ythgpgnijbajlgaa.Iv.whole 1) fun viv0 =>
      .bind (x0.sub viv0) fun viv1 =>
      .bind (Go.Proofs.Ythgpgnijbajlgaa.Iv.whole 1) fun viv2 =>
      .ret ((viv1, viv2)) := by kernel_rfl
theorem c_meniscuslaw7_line (x0 : Iv) : Plain Try.prog 71 [cIv.enc x0] ((cTwo cIv cIv).enc (lineF x0)) :=
  plain_of_tree (n := 200) (EnvOK.add s_iv_Sub (EnvOK.add s_iv_Whole EnvOK.nil)) Try.func71 (args := [cIv.av x0]) (by simp only [AV.vals, Cod.av_val]) (Nat.le_of_ble_eq_true (by kernel_rfl)) LFn.nil (cTwo cIv cIv) (by
    rw [t_meniscuslaw7_line]
    rfl)
theorem s_meniscuslaw7_line : Ev.Spec Try.prog 71 (F1 cIv (cTwo cIv cIv) lineF) := spec1 (fun vs w => Try.call71 vs w) c_meniscuslaw7_line

/-! newton.without -/
theorem t_newton_without_line (t1 : Iv) :
    evFn Try.prog (Env.add 63 (F2 cIv cInt cBool Iv.has) (Env.add 91 (F1 cIv cBool Iv.right) (Env.add 71 (F1 cIv (cTwo cIv cIv) lineF) Env.nil))) Laws.nil 200 Try.f109 (((sc 2 [0, 1] (tClo 0 71 [] (tCod 1 cIv tNil)) rNil).enc ((t1, ()), (()))).tmps.map Prod.snd) ((sc 2 [0, 1] (tClo 0 71 [] (tCod 1 cIv tNil)) rNil).enc ((t1, ()), (()))).mem cBool.dec =
      .bind (Go.Proofs.Ythgpgnijbajlgaa.lineF t1) fun vy0 =>
      .bind (vy0.fst.right) fun vb1 =>
      .br (vb1)
       (
        .bind (vy0.fst.has 0) fun vb2 =>
        .ret (!vb2))
       (
        .ret (Bool.false)) := by kernel_rfl
theorem c_newton_without_line : PlainS Try.prog 109 (sc 2 [0, 1] (tClo 0 71 [] (tCod 1 cIv tNil)) rNil) cBool (fun _ => true) ((fun x => without ((fun (_ : Unit) => lineF) x.2) x.1.1)) := by
  intro x h N w vs hM hv
  obtain ⟨⟨t1, ⟨⟩⟩, ⟨⟩⟩ := x
  refine calls_of_tree (n := 200) (EnvOK.add s_iv_Has (EnvOK.add s_iv_Right (EnvOK.add s_meniscuslaw7_line EnvOK.nil))) Try.func109 hv (Nat.le_of_ble_eq_true (by kernel_rfl)) LFn.nil hM cBool ?_
  rw [t_newton_without_line]
  simp only [den_br, den_bind, den_ret, den_fail, den_inl, den_inr, decide_eq_true_eq]
  simp only [without]
  grind
theorem s_newton_without_line : Ev.Spec Try.prog 109 (FS (sc 2 [0, 1] (tClo 0 71 [] (tCod 1 cIv tNil)) rNil) cBool (fun _ => true) ((fun x => without ((fun (_ : Unit) => lineF) x.2) x.1.1))) := specS rfl (fun vs w => Try.call109 vs w) c_newton_without_line

/-! newton.Solve -/
theorem tl_newton_Solve_line_5 (t15 : Bool) (t16 : Int) (r0 : Iv) (r1 : Iv) (r2 : Iv) (r3 : Iv) (r4 : Iv) (r5 : Iv) (r6 : Iv) (r7 : Iv) (r8 : Iv) :
    ev Try.prog (Env.add 39 (F1 cInt cIv Iv.point) (Env.add 40 (F2 cIv cIv cIv Iv.sub) (Env.add 45 (F2 cIv cIv cIv Iv.div) (Env.add 66 (F0 cIv Iv.none) (Env.add 91 (F1 cIv cBool Iv.right) (Env.add 106 (F1 cIv cInt Iv.mid) (Env.add 107 (F2 cIv cIv cIv Iv.meet) (Env.add 108 (F1 cIv (cTwo cIv cIv) Iv.split) (Env.add 109 (FS (sc 2 [0, 1] (tClo 0 71 [] (tCod 1 cIv tNil)) rNil) cBool (fun _ => true) ((fun x => without ((fun (_ : Unit) => lineF) x.2) x.1.1))) (Env.add 71 (F1 cIv (cTwo cIv cIv) lineF) Env.nil)))))))))) Laws.nil 200 none (loopAt Try.f54 5) ((sc 95 [15, 16, 4, 6, 8, 9, 10, 11, 12, 13, 14, 0] (tCod 15 cBool (tCod 16 cInt (tOwn 4 0 (tOwn 6 1 (tOwn 8 2 (tOwn 9 3 (tOwn 10 4 (tOwn 11 5 (tOwn 12 6 (tOwn 13 7 (tOwn 14 8 (tClo 0 71 [] tNil)))))))))))) (rBox ccIv ccIv_ok (rBox ccIv ccIv_ok (rBox ccIv ccIv_ok (rBox ccIv ccIv_ok (rBox ccIv ccIv_ok (rBox ccIv ccIv_ok (rBox ccIv ccIv_ok (rBox ccIv ccIv_ok (rBox ccIv ccIv_ok rNil)))))))))).enc ((t15, t16, ()), (r0, r1, r2, r3, r4, r5, r6, r7, r8, ()))) (backK (sc 95 [15, 16, 4, 6, 8, 9, 10, 11, 12, 13, 14, 0] (tCod 15 cBool (tCod 16 cInt (tOwn 4 0 (tOwn 6 1 (tOwn 8 2 (tOwn 9 3 (tOwn 10 4 (tOwn 11 5 (tOwn 12 6 (tOwn 13 7 (tOwn 14 8 (tClo 0 71 [] tNil)))))))))))) (rBox ccIv ccIv_ok (rBox ccIv ccIv_ok (rBox ccIv ccIv_ok (rBox ccIv ccIv_ok (rBox ccIv ccIv_ok (rBox ccIv ccIv_ok (rBox ccIv ccIv_ok (rBox ccIv ccIv_ok (rBox ccIv ccIv_ok rNil)))))))))) (ocOr (ocExit 0 (sc 95 [15, 4, 6] (tCod 15 cBool (tOwn 4 0 (tOwn 6 1 tNil))) (rBox ccIv ccIv_ok (rBox ccIv ccIv_ok rNil)))) (ocOr (ocRet (sc 95 [7, 6] (tCod 7 cInt (tOwn 6 0 tNil)) (rBox ccIv ccIv_ok rNil))) (ocGoto 0 (sc 95 [6] (tOwn 6 0 tNil) (rBox ccIv ccIv_ok rNil)))))) =
      .br (Decidable.decide (t16 > 0))
       (
        .bind (r0.mid) fun vn0 =>
        .bind (Go.Proofs.Ythgpgnijbajlgaa.Iv.point vn0) fun viv1 =>
        .bind (Go.Proofs.Ythgpgnijbajlgaa.lineF viv1) fun vy2 =>
        .bind (Go.Proofs.Ythgpgnijbajlgaa.lineF r0) fun vy3 =>
        .bind (vy2.fst.div vy3.snd) fun viv4 =>
        .bind (viv1.sub viv4) fun viv5 =>
        .br (viv5.no)
         (
          .bind (r0.split) fun vy6 =>
          .br (Bool.true)
           (
            .bind (Go.Proofs.Ythgpgnijbajlgaa.without Go.Proofs.Ythgpgnijbajlgaa.lineF vy6.fst) fun vb7 =>
            .br (vb7)
             (
              .ret (Sum.inl ((t15, Go.IntKind.i64.wrap (t16 - 1), ()), vy6.snd, r1, viv5, viv1, r4, vy6.fst, vy6.snd, vy2.fst, vy3.snd, ())))
             (
              .br (Bool.true)
               (
                .bind (Go.Proofs.Ythgpgnijbajlgaa.without Go.Proofs.Ythgpgnijbajlgaa.lineF vy6.snd) fun vb8 =>
                .br (!vb8)
                 (
                  .ret (Sum.inr (Sum.inr (Sum.inr ((), r1, ())))))
                 (
                  .ret (Sum.inl ((t15, Go.IntKind.i64.wrap (t16 - 1), ()), vy6.fst, r1, viv5, viv1, r4, vy6.fst, vy6.snd, vy2.fst, vy3.snd, ()))))
               (
                .fail)))
           (
            .fail))
         (
          .br (t15)
           (
            .bind (r0.meet viv5) fun viv9 =>
            .br (viv9.no)
             (
              .bind (Go.Proofs.Ythgpgnijbajlgaa.Iv.none) fun viv10 =>
              .ret (Sum.inr (Sum.inr (Sum.inl ((2, ()), viv10, ())))))
             (
              .br (viv9.lo == r0.lo && (viv9.hi == r0.hi && viv9.no == r0.no))
               (
                .ret (Sum.inr (Sum.inl ((Bool.true, ()), r0, r1, ()))))
               (
                .ret (Sum.inl ((Bool.true, Go.IntKind.i64.wrap (t16 - 1), ()), viv9, r1, viv5, viv1, viv9, r5, r6, vy2.fst, vy3.snd, ())))))
           (
            .br (Decidable.decide (r0.lo < viv5.lo))
             (
              .bind (r0.meet viv5) fun viv11 =>
              .br (viv11.no)
               (
                .bind (Go.Proofs.Ythgpgnijbajlgaa.Iv.none) fun viv12 =>
                .ret (Sum.inr (Sum.inr (Sum.inl ((2, ()), viv12, ())))))
               (
                .br (viv11.lo == r0.lo && (viv11.hi == r0.hi && viv11.no == r0.no))
                 (
                  .ret (Sum.inr (Sum.inl ((Decidable.decide (viv5.hi < r0.hi), ()), r0, r1, ()))))
                 (
                  .ret (Sum.inl ((Decidable.decide (viv5.hi < r0.hi), Go.IntKind.i64.wrap (t16 - 1), ()), viv11, r1, viv5, viv1, viv11, r5, r6, vy2.fst, vy3.snd, ())))))
             (
              .bind (r0.meet viv5) fun viv13 =>
              .br (viv13.no)
               (
                .bind (Go.Proofs.Ythgpgnijbajlgaa.Iv.none) fun viv14 =>
                .ret (Sum.inr (Sum.inr (Sum.inl ((2, ()), viv14, ())))))
               (
                .br (viv13.lo == r0.lo && (viv13.hi == r0.hi && viv13.no == r0.no))
                 (
                  .ret (Sum.inr (Sum.inl ((Bool.false, ()), r0, r1, ()))))
                 (
                  .ret (Sum.inl ((Bool.false, Go.IntKind.i64.wrap (t16 - 1), ()), viv13, r1, viv5, viv1, viv13, r5, r6, vy2.fst, vy3.snd, ()))))))))
       (
        .ret (Sum.inr (Sum.inl ((t15, ()), r0, r1, ())))) := by kernel_rfl
theorem ok_newton_Solve_line_5 : LOK Try.prog (LoopR.of (sc 95 [15, 16, 4, 6, 8, 9, 10, 11, 12, 13, 14, 0] (tCod 15 cBool (tCod 16 cInt (tOwn 4 0 (tOwn 6 1 (tOwn 8 2 (tOwn 9 3 (tOwn 10 4 (tOwn 11 5 (tOwn 12 6 (tOwn 13 7 (tOwn 14 8 (tClo 0 71 [] tNil)))))))))))) (rBox ccIv ccIv_ok (rBox ccIv ccIv_ok (rBox ccIv ccIv_ok (rBox ccIv ccIv_ok (rBox ccIv ccIv_ok (rBox ccIv ccIv_ok (rBox ccIv ccIv_ok (rBox ccIv ccIv_ok (rBox ccIv ccIv_ok rNil)))))))))) (ocOr (ocExit 0 (sc 95 [15, 4, 6] (tCod 15 cBool (tOwn 4 0 (tOwn 6 1 tNil))) (rBox ccIv ccIv_ok (rBox ccIv ccIv_ok rNil)))) (ocOr (ocRet (sc 95 [7, 6] (tCod 7 cInt (tOwn 6 0 tNil)) (rBox ccIv ccIv_ok rNil))) (ocGoto 0 (sc 95 [6] (tOwn 6 0 tNil) (rBox ccIv ccIv_ok rNil))))) (solveRun (fun _ => true) ((fun (_ : Unit) => lineF)))) (loopAt Try.f54 5) := by
  refine loop_ok (EnvOK.add s_iv_Point (EnvOK.add s_iv_Sub (EnvOK.add s_iv_Div (EnvOK.add s_iv_None (EnvOK.add s_iv_Right (EnvOK.add s_iv_Mid (EnvOK.add s_iv_Meet (EnvOK.add s_iv_Split (EnvOK.add s_newton_without_line (EnvOK.add s_meniscuslaw7_line EnvOK.nil)))))))))) (LFn.at (fn := Try.f54) LFn.nil 5) (solveStep (fun _ => true) ((fun (_ : Unit) => lineF))) (n := 200) (fun x z h => ?_) (solveRun_ok _ _)
  obtain ⟨⟨t15, t16, ⟨⟩⟩, ⟨r0, r1, r2, r3, r4, r5, r6, r7, r8, ⟨⟩⟩⟩ := x
  rw [tl_newton_Solve_line_5]
  by_cases hk : 0 < t16
  case neg =>
    rw [← h]
    simp only [den_br, den_bind, den_ret, den_fail, den_inl, den_inr, decide_eq_true_eq, solveStep, gt_iff_lt, hk, if_false]
  have hq : True := trivial
  rw [← h]
  simp only [den_br, den_bind, den_ret, den_fail, den_inl, den_inr, decide_eq_true_eq]
  rw [show (Iv.point r0.mid).sub ((lineF (Iv.point r0.mid)).1.div (lineF r0).2) = nextN (lineF) r0 from rfl]
  simp only [solveStep, solveSure, ivEq, gt_iff_lt, hk, hq, Bool.and_self, if_true]
  generalize nextN (lineF) r0 = n
  simp only [ltB]
  cases h1 : n.no
  case true =>
    simp only [if_true]
    split
    · rfl
    · split <;> simp_all
  simp only [Bool.false_eq_true, if_false]
  cases t15 <;> simp only [Bool.false_eq_true, if_true, if_false, Bool.true_or, Bool.false_or]
  by_cases h2 : r0.lo < n.lo <;> simp only [h2, if_true, if_false, decide_true, decide_false, Bool.true_and, Bool.false_and]
theorem t_newton_Solve_line (t1 : Iv) (t2 : Int) :
    evFn Try.prog (Env.add 39 (F1 cInt cIv Iv.point) (Env.add 40 (F2 cIv cIv cIv Iv.sub) (Env.add 45 (F2 cIv cIv cIv Iv.div) (Env.add 66 (F0 cIv Iv.none) (Env.add 91 (F1 cIv cBool Iv.right) (Env.add 106 (F1 cIv cInt Iv.mid) (Env.add 107 (F2 cIv cIv cIv Iv.meet) (Env.add 108 (F1 cIv (cTwo cIv cIv) Iv.split) (Env.add 109 (FS (sc 2 [0, 1] (tClo 0 71 [] (tCod 1 cIv tNil)) rNil) cBool (fun _ => true) ((fun x => without ((fun (_ : Unit) => lineF) x.2) x.1.1))) (Env.add 71 (F1 cIv (cTwo cIv cIv) lineF) Env.nil)))))))))) (Laws.add 5 (LoopR.of (sc 95 [15, 16, 4, 6, 8, 9, 10, 11, 12, 13, 14, 0] (tCod 15 cBool (tCod 16 cInt (tOwn 4 0 (tOwn 6 1 (tOwn 8 2 (tOwn 9 3 (tOwn 10 4 (tOwn 11 5 (tOwn 12 6 (tOwn 13 7 (tOwn 14 8 (tClo 0 71 [] tNil)))))))))))) (rBox ccIv ccIv_ok (rBox ccIv ccIv_ok (rBox ccIv ccIv_ok (rBox ccIv ccIv_ok (rBox ccIv ccIv_ok (rBox ccIv ccIv_ok (rBox ccIv ccIv_ok (rBox ccIv ccIv_ok (rBox ccIv ccIv_ok rNil)))))))))) (ocOr (ocExit 0 (sc 95 [15, 4, 6] (tCod 15 cBool (tOwn 4 0 (tOwn 6 1 tNil))) (rBox ccIv ccIv_ok (rBox ccIv ccIv_ok rNil)))) (ocOr (ocRet (sc 95 [7, 6] (tCod 7 cInt (tOwn 6 0 tNil)) (rBox ccIv ccIv_ok rNil))) (ocGoto 0 (sc 95 [6] (tOwn 6 0 tNil) (rBox ccIv ccIv_ok rNil))))) (solveRun (fun _ => true) ((fun (_ : Unit) => lineF)))) Laws.nil) 200 Try.f54 (((sc 3 [0, 1, 2] (tClo 0 71 [] (tCod 1 cIv (tCod 2 cInt tNil))) rNil).enc ((t1, t2, ()), (()))).tmps.map Prod.snd) ((sc 3 [0, 1, 2] (tClo 0 71 [] (tCod 1 cIv (tCod 2 cInt tNil))) rNil).enc ((t1, t2, ()), (()))).mem (cTwo cIv cInt).dec =
      .bind (t1.right) fun vb0 =>
      .br (!vb0)
       (
        .bind (Go.Proofs.Ythgpgnijbajlgaa.Iv.none) fun viv1 =>
        .ret ((viv1, 0)))
       (
        .get (Go.Proofs.Ythgpgnijbajlgaa.solveRun (fun x => Bool.true) (fun x => Go.Proofs.Ythgpgnijbajlgaa.lineF) ((Bool.false, Max.max 0 (Min.min t2 40), ()), t1, Go.Proofs.Ythgpgnijbajlgaa.Iv.mk 0 0 Bool.false, Go.Proofs.Ythgpgnijbajlgaa.Iv.mk 0 0 Bool.false, Go.Proofs.Ythgpgnijbajlgaa.Iv.mk 0 0 Bool.false, Go.Proofs.Ythgpgnijbajlgaa.Iv.mk 0 0 Bool.false, Go.Proofs.Ythgpgnijbajlgaa.Iv.mk 0 0 Bool.false, Go.Proofs.Ythgpgnijbajlgaa.Iv.mk 0 0 Bool.false, Go.Proofs.Ythgpgnijbajlgaa.Iv.mk 0 0 Bool.false, Go.Proofs.Ythgpgnijbajlgaa.Iv.mk 0 0 Bool.false, ())) fun vy2 =>
        .sum (vy2)
         (fun vs3 =>
          .br (vs3.fst.fst)
           (
            .ret ((vs3.snd.fst, 1)))
           (
            .bind (Go.Proofs.Ythgpgnijbajlgaa.Iv.none) fun viv4 =>
            .ret ((viv4, 0))))
         (fun vs5 =>
          .sum (vs5)
           (fun vs6 =>
            .ret ((vs6.snd.fst, vs6.fst.fst)))
           (fun vs7 =>
            .bind (Go.Proofs.Ythgpgnijbajlgaa.Iv.none) fun viv8 =>
            .ret ((viv8, 0))))) := by kernel_rfl
theorem c_newton_Solve_line : PlainS Try.prog 54 (sc 3 [0, 1, 2] (tClo 0 71 [] (tCod 1 cIv (tCod 2 cInt tNil))) rNil) (cTwo cIv cInt) (fun _ => true) ((fun x => _root_.Go.Proofs.Ythgpgnijbajlgaa.solve ((fun (_ : Unit) => lineF) x.2) x.1.1 x.1.2.1)) := by
  intro x h N w vs hM hv
  obtain ⟨⟨t1, t2, ⟨⟩⟩, ⟨⟩⟩ := x
  refine calls_of_tree (n := 200) (EnvOK.add s_iv_Point (EnvOK.add s_iv_Sub (EnvOK.add s_iv_Div (EnvOK.add s_iv_None (EnvOK.add s_iv_Right (EnvOK.add s_iv_Mid (EnvOK.add s_iv_Meet (EnvOK.add s_iv_Split (EnvOK.add s_newton_without_line (EnvOK.add s_meniscuslaw7_line EnvOK.nil)))))))))) Try.func54 hv (Nat.le_of_ble_eq_true (by kernel_rfl)) (LFn.add (fn := Try.f54) (i := 5) (by kernel_rfl) ok_newton_Solve_line_5 LFn.nil) hM (cTwo cIv cInt) ?_
  rw [t_newton_Solve_line]
  simp only [den_br, den_bind, den_ret, den_fail, den_inl, den_inr, den_gets, decide_eq_true_eq]
  cases h0 : t1.right
  · simp [_root_.Go.Proofs.Ythgpgnijbajlgaa.solve, h0]
  have hr : ∀ {C : Type} (q : C → Bool) (F : C → Iv → Iv × Iv) (res n m u a b v s : Iv) (c : C), q c = true → solveRun q F ((false, max 0 (min t2 40), ()), (t1, res, n, m, u, a, b, v, s, c)) = some (solveOut (F c) res (rounds t2) t1 false) := by
    intro C q F res n m u a b v s c hq
    simp only [solveRun]
    rw [if_pos ⟨hq, by omega, by omega⟩]
    rfl
  rw [hr _ _ _ _ _ _ _ _ _ _ _ (by first | rfl | exact h)]
  simp only [Bool.not_true, Bool.false_eq_true, if_false, Option.bind_some, _root_.Go.Proofs.Ythgpgnijbajlgaa.solve, h0, if_true]
  rw [← solveEnd_out _ ⟨0, 0, false⟩]
  generalize solveOut _ _ _ _ _ = y
  rcases y with ⟨⟨sure, _⟩, ⟨t, res, _⟩⟩ | ⟨⟨is, _⟩, ⟨r, _⟩⟩ | ⟨_, ⟨r, _⟩⟩
  · cases sure <;> rfl
  · rfl
  · rfl
theorem s_newton_Solve_line : Ev.Spec Try.prog 54 (FS (sc 3 [0, 1, 2] (tClo 0 71 [] (tCod 1 cIv (tCod 2 cInt tNil))) rNil) (cTwo cIv cInt) (fun _ => true) ((fun x => _root_.Go.Proofs.Ythgpgnijbajlgaa.solve ((fun (_ : Unit) => lineF) x.2) x.1.1 x.1.2.1))) := specS rfl (fun vs w => Try.call54 vs w) c_newton_Solve_line

/-! meniscuslaw7.known -/
theorem t_meniscuslaw7_known  :
    evFn Try.prog (Env.add 46 (F1 cInt cIv Iv.whole) (Env.add 54 (FS (sc 3 [0, 1, 2] (tClo 0 61 [0,1] (tCod 1 cIv (tCod 2 cInt tNil))) (rRo ccInt ccInt_ok (rRo ccInt ccInt_ok rNil))) (cTwo cIv cInt) (fun _ => true) ((fun x => _root_.Go.Proofs.Ythgpgnijbajlgaa.solve ((fun (c : Int × Int × Unit) => wholeF c.1 c.2.1) x.2) x.1.1 x.1.2.1))) (Env.add 54 (FS (sc 3 [0, 1, 2] (tClo 0 71 [] (tCod 1 cIv (tCod 2 cInt tNil))) rNil) (cTwo cIv cInt) (fun _ => true) ((fun x => _root_.Go.Proofs.Ythgpgnijbajlgaa.solve ((fun (_ : Unit) => lineF) x.2) x.1.1 x.1.2.1))) (Env.add 70 (F2 cInt cInt cIv Iv.of) (Env.add 71 (F1 cIv (cTwo cIv cIv) lineF) Env.nil))))) Laws.nil 200 Try.f58 [] [] cBool.dec =
      .bind (Go.Proofs.Ythgpgnijbajlgaa.Iv.of 0 262144) fun viv0 =>
      .br (Bool.true)
       (
        .bind (Go.Proofs.Ythgpgnijbajlgaa.solve Go.Proofs.Ythgpgnijbajlgaa.lineF viv0 10) fun vy1 =>
        .br (vy1.snd == 1)
         (
          .bind (Go.Proofs.Ythgpgnijbajlgaa.Iv.whole 1) fun viv2 =>
          .ret (vy1.fst.lo == viv2.lo && (vy1.fst.hi == viv2.hi && vy1.fst.no == viv2.no)))
         (
          .ret (Bool.false)))
       (
        .fail) := by kernel_rfl
theorem c_meniscuslaw7_known  : Plain Try.prog 58 [] (cBool.enc (true)) :=
  plain_of_tree (n := 200) (EnvOK.add s_iv_Whole (EnvOK.add s_newton_Solve_whole (EnvOK.add s_newton_Solve_line (EnvOK.add s_iv_Of (EnvOK.add s_meniscuslaw7_line EnvOK.nil))))) Try.func58 (args := []) rfl (Nat.le_of_ble_eq_true (by kernel_rfl)) LFn.nil cBool (by
    rw [t_meniscuslaw7_known]
    decide +kernel)
theorem s_meniscuslaw7_known : Ev.Spec Try.prog 58 (F0 cBool true) := spec0 (fun vs w => Try.call58 vs w) c_meniscuslaw7_known
end Go.Proofs.Ythgpgnijbajlgaa
