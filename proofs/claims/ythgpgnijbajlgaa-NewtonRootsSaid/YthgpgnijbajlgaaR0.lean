/-
  Contracts of calls, written by a small program of this session out of the evaluator's trees.
-/
import Derived.Test.YthgpgnijbajlgaaCore
import Derived.Test.YthgpgnijbajlgaaCoreLoops
import Derived.Test.YthgpgnijbajlgaaCore2
import Derived.Test.YthgpgnijbajlgaaCore3
import Derived.Test.YthgpgnijbajlgaaPlane
import Derived.Test.YthgpgnijbajlgaaNewtonW
import Derived.Test.YthgpgnijbajlgaaNewtonR
import Derived.Test.YthgpgnijbajlgaaK0
import Derived.Test.YthgpgnijbajlgaaEvCod
import Derived.Test.YthgpgnijbajlgaaEvRet
import Derived.Test.YthgpgnijbajlgaaProg
namespace Go.Proofs.Ythgpgnijbajlgaa
open Go Go.RowKit Ev
set_option maxRecDepth 100000
set_option linter.unusedVariables false
set_option linter.unusedSimpArgs false

/-! meniscusref8.Within -/
theorem t_meniscusref8_Within (x0 : Int) (x1 : Int) (x2 : Int) :
    evFn Try.prog Env.nil Laws.nil 200 Try.f81 [cInt.av x0, cInt.av x1, cInt.av x2] [] cInt.dec =
      .ret (Max.max x1 (Min.min x2 x0)) := by kernel_rfl
theorem c_meniscusref8_Within (x0 : Int) (x1 : Int) (x2 : Int) : Plain Try.prog 81 [cInt.enc x0, cInt.enc x1, cInt.enc x2] (cInt.enc (within x0 x1 x2)) :=
  plain_of_tree (n := 200) EnvOK.nil Try.func81 (args := [cInt.av x0, cInt.av x1, cInt.av x2]) (by simp only [AV.vals, Cod.av_val]) (Nat.le_of_ble_eq_true (by kernel_rfl)) LFn.nil cInt (by
    rw [t_meniscusref8_Within]
    rfl)
theorem s_meniscusref8_Within : Ev.Spec Try.prog 81 (F3 cInt cInt cInt cInt within) := spec3 (fun vs w => Try.call81 vs w) c_meniscusref8_Within

/-! meniscushand.Wide -/
theorem t_meniscushand_Wide (x0 : Int) (x1 : Int) :
    evFn Try.prog (Env.add 81 (F3 cInt cInt cInt cInt within) Env.nil) Laws.nil 200 Try.f51 [cInt.av x0, cInt.av x1] [] cIv.dec =
      .bind (within x0 (-1073741824) 1073741824) fun vn0 => .ret (Iv.mk vn0 (Min.min 1073741824 (IntKind.i64.wrap (vn0 + x1))) false) := by kernel_rfl
theorem c_meniscushand_Wide (x0 : Int) (x1 : Int) : Plain Try.prog 51 [cInt.enc x0, cInt.enc x1] (cIv.enc (wide x0 x1)) :=
  plain_of_tree (n := 200) (EnvOK.add s_meniscusref8_Within EnvOK.nil) Try.func51 (args := [cInt.av x0, cInt.av x1]) (by simp only [AV.vals, Cod.av_val]) (Nat.le_of_ble_eq_true (by kernel_rfl)) LFn.nil cIv (by
    rw [t_meniscushand_Wide]
    rfl)
theorem s_meniscushand_Wide : Ev.Spec Try.prog 51 (F2 cInt cInt cIv wide) := spec2 (fun vs w => Try.call51 vs w) c_meniscushand_Wide

/-! meniscuslaw7.NewtonRoots$1 -/
theorem t_meniscuslaw7_NewtonRoots_1 (t0 : Iv) (r0 : Int) (r1 : Int) :
    evFn Try.prog (Env.add 40 (F2 cIv cIv cIv Iv.sub) (Env.add 46 (F1 cInt cIv Iv.whole) (Env.add 62 (F2 cIv cInt cIv Iv.times) (Env.add 65 (F2 cIv cIv cIv Iv.mul) Env.nil)))) Laws.nil 200 Try.f64 (((sc 3 [0, 1, 2] (tCod 0 cIv (tOwn 1 0 (tOwn 2 1 tNil))) (rRo ccInt ccInt_ok (rRo ccInt ccInt_ok rNil))).enc ((t0, ()), (r0, r1, ()))).tmps.map Prod.snd) ((sc 3 [0, 1, 2] (tCod 0 cIv (tOwn 1 0 (tOwn 2 1 tNil))) (rRo ccInt ccInt_ok (rRo ccInt ccInt_ok rNil))).enc ((t0, ()), (r0, r1, ()))).mem (cTwo cIv cIv).dec =
      .bind (Iv.whole r0) fun viv0 => .bind (t0.sub viv0) fun viv1 => .bind (Iv.whole r1) fun viv2 => .bind (t0.sub viv2) fun viv3 => .bind (viv1.mul viv3) fun viv4 => .bind (t0.times 2) fun viv5 => .bind (Iv.whole (IntKind.i64.wrap (r0 + r1))) fun viv6 => .bind (viv5.sub viv6) fun viv7 => .ret ((viv4, viv7)) := by kernel_rfl
theorem c_meniscuslaw7_NewtonRoots_1 : PlainS Try.prog 64 (sc 3 [0, 1, 2] (tCod 0 cIv (tOwn 1 0 (tOwn 2 1 tNil))) (rRo ccInt ccInt_ok (rRo ccInt ccInt_ok rNil))) (cTwo cIv cIv) (fun _ => true) ((fun x => (fun (c : Int × Int × Unit) => prodF c.1 c.2.1) x.2 x.1.1)) := by
  intro x h N w vs hM hv
  obtain ⟨⟨t0, ⟨⟩⟩, ⟨r0, r1, ⟨⟩⟩⟩ := x
  refine calls_of_tree (n := 200) (EnvOK.add s_iv_Sub (EnvOK.add s_iv_Whole (EnvOK.add s_iv_Times (EnvOK.add s_iv_Mul EnvOK.nil)))) Try.func64 hv (Nat.le_of_ble_eq_true (by kernel_rfl)) LFn.nil hM (cTwo cIv cIv) ?_
  rw [t_meniscuslaw7_NewtonRoots_1]
  rfl
theorem s_meniscuslaw7_NewtonRoots_1 : Ev.Spec Try.prog 64 (FS (sc 3 [0, 1, 2] (tCod 0 cIv (tOwn 1 0 (tOwn 2 1 tNil))) (rRo ccInt ccInt_ok (rRo ccInt ccInt_ok rNil))) (cTwo cIv cIv) (fun _ => true) ((fun x => (fun (c : Int × Int × Unit) => prodF c.1 c.2.1) x.2 x.1.1))) := specS rfl (fun vs w => Try.call64 vs w) c_meniscuslaw7_NewtonRoots_1

/-! newton.without -/
theorem t_newton_without_roots (t1 : Iv) (r0 : Int) (r1 : Int) :
    evFn Try.prog (Env.add 63 (F2 cIv cInt cBool Iv.has) (Env.add 91 (F1 cIv cBool Iv.right) (Env.add 64 (FS (sc 3 [0, 1, 2] (tCod 0 cIv (tOwn 1 0 (tOwn 2 1 tNil))) (rRo ccInt ccInt_ok (rRo ccInt ccInt_ok rNil))) (cTwo cIv cIv) (fun _ => true) ((fun x => (fun (c : Int × Int × Unit) => prodF c.1 c.2.1) x.2 x.1.1))) Env.nil))) Laws.nil 200 Try.f109 (((sc 2 [0, 1] (tClo 0 64 [0,1] (tCod 1 cIv tNil)) (rRo ccInt ccInt_ok (rRo ccInt ccInt_ok rNil))).enc ((t1, ()), (r0, r1, ()))).tmps.map Prod.snd) ((sc 2 [0, 1] (tClo 0 64 [0,1] (tCod 1 cIv tNil)) (rRo ccInt ccInt_ok (rRo ccInt ccInt_ok rNil))).enc ((t1, ()), (r0, r1, ()))).mem cBool.dec =
      .br (true) (.bind (prodF r0 r1 t1) fun vy0 => .bind (vy0.1.right) fun vb1 => .br (vb1) (.bind (vy0.1.has 0) fun vb2 => .ret (!vb2)) (.ret (false))) (.fail) := by kernel_rfl
theorem c_newton_without_roots : PlainS Try.prog 109 (sc 2 [0, 1] (tClo 0 64 [0,1] (tCod 1 cIv tNil)) (rRo ccInt ccInt_ok (rRo ccInt ccInt_ok rNil))) cBool (fun _ => true) ((fun x => without ((fun (c : Int × Int × Unit) => prodF c.1 c.2.1) x.2) x.1.1)) := by
  intro x h N w vs hM hv
  obtain ⟨⟨t1, ⟨⟩⟩, ⟨r0, r1, ⟨⟩⟩⟩ := x
  refine calls_of_tree (n := 200) (EnvOK.add s_iv_Has (EnvOK.add s_iv_Right (EnvOK.add s_meniscuslaw7_NewtonRoots_1 EnvOK.nil))) Try.func109 hv (Nat.le_of_ble_eq_true (by kernel_rfl)) LFn.nil hM cBool ?_
  rw [t_newton_without_roots]
  simp only [den_br, den_bind, den_ret, den_fail, den_inl, den_inr, decide_eq_true_eq]
  simp only [without]
  grind
theorem s_newton_without_roots : Ev.Spec Try.prog 109 (FS (sc 2 [0, 1] (tClo 0 64 [0,1] (tCod 1 cIv tNil)) (rRo ccInt ccInt_ok (rRo ccInt ccInt_ok rNil))) cBool (fun _ => true) ((fun x => without ((fun (c : Int × Int × Unit) => prodF c.1 c.2.1) x.2) x.1.1))) := specS rfl (fun vs w => Try.call109 vs w) c_newton_without_roots

/-! newton.Solve -/
theorem tl_newton_Solve_roots_5 (t15 : Bool) (t16 : Int) (r0 : Iv) (r1 : Iv) (r2 : Iv) (r3 : Iv) (r4 : Iv) (r5 : Iv) (r6 : Iv) (r7 : Iv) (r8 : Iv) (r9 : Int) (r10 : Int) :
    ev Try.prog (Env.add 39 (F1 cInt cIv Iv.point) (Env.add 40 (F2 cIv cIv cIv Iv.sub) (Env.add 45 (F2 cIv cIv cIv Iv.div) (Env.add 66 (F0 cIv Iv.none) (Env.add 91 (F1 cIv cBool Iv.right) (Env.add 106 (F1 cIv cInt Iv.mid) (Env.add 107 (F2 cIv cIv cIv Iv.meet) (Env.add 108 (F1 cIv (cTwo cIv cIv) Iv.split) (Env.add 109 (FS (sc 2 [0, 1] (tClo 0 64 [0,1] (tCod 1 cIv tNil)) (rRo ccInt ccInt_ok (rRo ccInt ccInt_ok rNil))) cBool (fun _ => true) ((fun x => without ((fun (c : Int × Int × Unit) => prodF c.1 c.2.1) x.2) x.1.1))) (Env.add 64 (FS (sc 3 [0, 1, 2] (tCod 0 cIv (tOwn 1 0 (tOwn 2 1 tNil))) (rRo ccInt ccInt_ok (rRo ccInt ccInt_ok rNil))) (cTwo cIv cIv) (fun _ => true) ((fun x => (fun (c : Int × Int × Unit) => prodF c.1 c.2.1) x.2 x.1.1))) Env.nil)))))))))) Laws.nil 200 none (loopAt Try.f54 5) ((sc 95 [15, 16, 4, 6, 8, 9, 10, 11, 12, 13, 14, 0] (tCod 15 cBool (tCod 16 cInt (tOwn 4 0 (tOwn 6 1 (tOwn 8 2 (tOwn 9 3 (tOwn 10 4 (tOwn 11 5 (tOwn 12 6 (tOwn 13 7 (tOwn 14 8 (tClo 0 64 [9,10] tNil)))))))))))) (rBox ccIv ccIv_ok (rBox ccIv ccIv_ok (rBox ccIv ccIv_ok (rBox ccIv ccIv_ok (rBox ccIv ccIv_ok (rBox ccIv ccIv_ok (rBox ccIv ccIv_ok (rBox ccIv ccIv_ok (rBox ccIv ccIv_ok (rRo ccInt ccInt_ok (rRo ccInt ccInt_ok rNil)))))))))))).enc ((t15, t16, ()), (r0, r1, r2, r3, r4, r5, r6, r7, r8, r9, r10, ()))) (backK (sc 95 [15, 16, 4, 6, 8, 9, 10, 11, 12, 13, 14, 0] (tCod 15 cBool (tCod 16 cInt (tOwn 4 0 (tOwn 6 1 (tOwn 8 2 (tOwn 9 3 (tOwn 10 4 (tOwn 11 5 (tOwn 12 6 (tOwn 13 7 (tOwn 14 8 (tClo 0 64 [9,10] tNil)))))))))))) (rBox ccIv ccIv_ok (rBox ccIv ccIv_ok (rBox ccIv ccIv_ok (rBox ccIv ccIv_ok (rBox ccIv ccIv_ok (rBox ccIv ccIv_ok (rBox ccIv ccIv_ok (rBox ccIv ccIv_ok (rBox ccIv ccIv_ok (rRo ccInt ccInt_ok (rRo ccInt ccInt_ok rNil)))))))))))) (ocOr (ocExit 0 (sc 95 [15, 4, 6] (tCod 15 cBool (tOwn 4 0 (tOwn 6 1 tNil))) (rBox ccIv ccIv_ok (rBox ccIv ccIv_ok rNil)))) (ocOr (ocRet (sc 95 [7, 6] (tCod 7 cInt (tOwn 6 0 tNil)) (rBox ccIv ccIv_ok rNil))) (ocGoto 0 (sc 95 [6] (tOwn 6 0 tNil) (rBox ccIv ccIv_ok rNil)))))) =
      .br (decide (t16 > 0)) (.bind (r0.mid) fun vn0 => .bind (Iv.point vn0) fun viv1 => .br (true) (.bind (prodF r9 r10 viv1) fun vy2 => .br (true) (.bind (prodF r9 r10 r0) fun vy3 => .bind (vy2.1.div vy3.2) fun viv4 => .bind (viv1.sub viv4) fun viv5 => .br (viv5.no) (.bind (r0.split) fun vy6 => .br (true) (.bind (without (prodF r9 r10) vy6.1) fun vb7 => .br (vb7) (.ret (Sum.inl ((t15, IntKind.i64.wrap (t16 - 1), ()), vy6.2, r1, viv5, viv1, r4, vy6.1, vy6.2, vy2.1, vy3.2, r9, r10, ()))) (.br (true) (.bind (without (prodF r9 r10) vy6.2) fun vb8 => .br (!vb8) (.ret (Sum.inr (Sum.inr (Sum.inr ((), r1, ()))))) (.ret (Sum.inl ((t15, IntKind.i64.wrap (t16 - 1), ()), vy6.1, r1, viv5, viv1, r4, vy6.1, vy6.2, vy2.1, vy3.2, r9, r10, ())))) (.fail))) (.fail)) (.br (t15) (.bind (r0.meet viv5) fun viv9 => .br (viv9.no) (.bind (Iv.none) fun viv10 => .ret (Sum.inr (Sum.inr (Sum.inl ((2, ()), viv10, ()))))) (.br (viv9.lo == r0.lo && (viv9.hi == r0.hi && viv9.no == r0.no)) (.ret (Sum.inr (Sum.inl ((true, ()), r0, r1, ())))) (.ret (Sum.inl ((true, IntKind.i64.wrap (t16 - 1), ()), viv9, r1, viv5, viv1, viv9, r5, r6, vy2.1, vy3.2, r9, r10, ()))))) (.br (decide (r0.lo < viv5.lo)) (.bind (r0.meet viv5) fun viv11 => .br (viv11.no) (.bind (Iv.none) fun viv12 => .ret (Sum.inr (Sum.inr (Sum.inl ((2, ()), viv12, ()))))) (.br (viv11.lo == r0.lo && (viv11.hi == r0.hi && viv11.no == r0.no)) (.ret (Sum.inr (Sum.inl ((decide (viv5.hi < r0.hi), ()), r0, r1, ())))) (.ret (Sum.inl ((decide (viv5.hi < r0.hi), IntKind.i64.wrap (t16 - 1), ()), viv11, r1, viv5, viv1, viv11, r5, r6, vy2.1, vy3.2, r9, r10, ()))))) (.bind (r0.meet viv5) fun viv13 => .br (viv13.no) (.bind (Iv.none) fun viv14 => .ret (Sum.inr (Sum.inr (Sum.inl ((2, ()), viv14, ()))))) (.br (viv13.lo == r0.lo && (viv13.hi == r0.hi && viv13.no == r0.no)) (.ret (Sum.inr (Sum.inl ((false, ()), r0, r1, ())))) (.ret (Sum.inl ((false, IntKind.i64.wrap (t16 - 1), ()), viv13, r1, viv5, viv1, viv13, r5, r6, vy2.1, vy3.2, r9, r10, ())))))))) (.fail)) (.fail)) (.ret (Sum.inr (Sum.inl ((t15, ()), r0, r1, ())))) := by kernel_rfl
theorem ok_newton_Solve_roots_5 : LOK Try.prog (LoopR.of (sc 95 [15, 16, 4, 6, 8, 9, 10, 11, 12, 13, 14, 0] (tCod 15 cBool (tCod 16 cInt (tOwn 4 0 (tOwn 6 1 (tOwn 8 2 (tOwn 9 3 (tOwn 10 4 (tOwn 11 5 (tOwn 12 6 (tOwn 13 7 (tOwn 14 8 (tClo 0 64 [9,10] tNil)))))))))))) (rBox ccIv ccIv_ok (rBox ccIv ccIv_ok (rBox ccIv ccIv_ok (rBox ccIv ccIv_ok (rBox ccIv ccIv_ok (rBox ccIv ccIv_ok (rBox ccIv ccIv_ok (rBox ccIv ccIv_ok (rBox ccIv ccIv_ok (rRo ccInt ccInt_ok (rRo ccInt ccInt_ok rNil)))))))))))) (ocOr (ocExit 0 (sc 95 [15, 4, 6] (tCod 15 cBool (tOwn 4 0 (tOwn 6 1 tNil))) (rBox ccIv ccIv_ok (rBox ccIv ccIv_ok rNil)))) (ocOr (ocRet (sc 95 [7, 6] (tCod 7 cInt (tOwn 6 0 tNil)) (rBox ccIv ccIv_ok rNil))) (ocGoto 0 (sc 95 [6] (tOwn 6 0 tNil) (rBox ccIv ccIv_ok rNil))))) (solveRun (fun _ => true) ((fun (c : Int × Int × Unit) => prodF c.1 c.2.1)))) (loopAt Try.f54 5) := by
  refine loop_ok (EnvOK.add s_iv_Point (EnvOK.add s_iv_Sub (EnvOK.add s_iv_Div (EnvOK.add s_iv_None (EnvOK.add s_iv_Right (EnvOK.add s_iv_Mid (EnvOK.add s_iv_Meet (EnvOK.add s_iv_Split (EnvOK.add s_newton_without_roots (EnvOK.add s_meniscuslaw7_NewtonRoots_1 EnvOK.nil)))))))))) (LFn.at (fn := Try.f54) LFn.nil 5) (solveStep (fun _ => true) ((fun (c : Int × Int × Unit) => prodF c.1 c.2.1))) (n := 200) (fun x z h => ?_) (solveRun_ok _ _)
  obtain ⟨⟨t15, t16, ⟨⟩⟩, ⟨r0, r1, r2, r3, r4, r5, r6, r7, r8, r9, r10, ⟨⟩⟩⟩ := x
  rw [tl_newton_Solve_roots_5]
  by_cases hk : 0 < t16
  case neg =>
    rw [← h]
    simp only [den_br, den_bind, den_ret, den_fail, den_inl, den_inr, decide_eq_true_eq, solveStep, gt_iff_lt, hk, if_false]
  have hq : True := trivial
  rw [← h]
  simp only [den_br, den_bind, den_ret, den_fail, den_inl, den_inr, decide_eq_true_eq]
  rw [show (Iv.point r0.mid).sub (((prodF r9 r10) (Iv.point r0.mid)).1.div ((prodF r9 r10) r0).2) = nextN ((prodF r9 r10)) r0 from rfl]
  simp only [solveStep, solveSure, ivEq, gt_iff_lt, hk, hq, Bool.and_self, if_true]
  generalize nextN ((prodF r9 r10)) r0 = n
  simp only [ltB]
  cases h1 : n.no
  case true =>
    simp only [if_true]
    split
    · rfl
    · split <;> simp_all
  simp only [Bool.false_eq_true, if_false]
  cases t15 <;> simp only [Bool.false_eq_true, if_true, if_false, Bool.true_or, Bool.false_or]
  by_cases h2 : r0.lo < n.lo <;> simp only [h2, if_true, if_false, decide_true, decide_false, Bool.true_and, Bool.false_and]
theorem t_newton_Solve_roots (t1 : Iv) (t2 : Int) (r0 : Int) (r1 : Int) :
    evFn Try.prog (Env.add 39 (F1 cInt cIv Iv.point) (Env.add 40 (F2 cIv cIv cIv Iv.sub) (Env.add 45 (F2 cIv cIv cIv Iv.div) (Env.add 66 (F0 cIv Iv.none) (Env.add 91 (F1 cIv cBool Iv.right) (Env.add 106 (F1 cIv cInt Iv.mid) (Env.add 107 (F2 cIv cIv cIv Iv.meet) (Env.add 108 (F1 cIv (cTwo cIv cIv) Iv.split) (Env.add 109 (FS (sc 2 [0, 1] (tClo 0 64 [0,1] (tCod 1 cIv tNil)) (rRo ccInt ccInt_ok (rRo ccInt ccInt_ok rNil))) cBool (fun _ => true) ((fun x => without ((fun (c : Int × Int × Unit) => prodF c.1 c.2.1) x.2) x.1.1))) (Env.add 64 (FS (sc 3 [0, 1, 2] (tCod 0 cIv (tOwn 1 0 (tOwn 2 1 tNil))) (rRo ccInt ccInt_ok (rRo ccInt ccInt_ok rNil))) (cTwo cIv cIv) (fun _ => true) ((fun x => (fun (c : Int × Int × Unit) => prodF c.1 c.2.1) x.2 x.1.1))) Env.nil)))))))))) (Laws.add 5 (LoopR.of (sc 95 [15, 16, 4, 6, 8, 9, 10, 11, 12, 13, 14, 0] (tCod 15 cBool (tCod 16 cInt (tOwn 4 0 (tOwn 6 1 (tOwn 8 2 (tOwn 9 3 (tOwn 10 4 (tOwn 11 5 (tOwn 12 6 (tOwn 13 7 (tOwn 14 8 (tClo 0 64 [9,10] tNil)))))))))))) (rBox ccIv ccIv_ok (rBox ccIv ccIv_ok (rBox ccIv ccIv_ok (rBox ccIv ccIv_ok (rBox ccIv ccIv_ok (rBox ccIv ccIv_ok (rBox ccIv ccIv_ok (rBox ccIv ccIv_ok (rBox ccIv ccIv_ok (rRo ccInt ccInt_ok (rRo ccInt ccInt_ok rNil)))))))))))) (ocOr (ocExit 0 (sc 95 [15, 4, 6] (tCod 15 cBool (tOwn 4 0 (tOwn 6 1 tNil))) (rBox ccIv ccIv_ok (rBox ccIv ccIv_ok rNil)))) (ocOr (ocRet (sc 95 [7, 6] (tCod 7 cInt (tOwn 6 0 tNil)) (rBox ccIv ccIv_ok rNil))) (ocGoto 0 (sc 95 [6] (tOwn 6 0 tNil) (rBox ccIv ccIv_ok rNil))))) (solveRun (fun _ => true) ((fun (c : Int × Int × Unit) => prodF c.1 c.2.1)))) Laws.nil) 200 Try.f54 (((sc 3 [0, 1, 2] (tClo 0 64 [0,1] (tCod 1 cIv (tCod 2 cInt tNil))) (rRo ccInt ccInt_ok (rRo ccInt ccInt_ok rNil))).enc ((t1, t2, ()), (r0, r1, ()))).tmps.map Prod.snd) ((sc 3 [0, 1, 2] (tClo 0 64 [0,1] (tCod 1 cIv (tCod 2 cInt tNil))) (rRo ccInt ccInt_ok (rRo ccInt ccInt_ok rNil))).enc ((t1, t2, ()), (r0, r1, ()))).mem (cTwo cIv cInt).dec =
      .bind (t1.right) fun vb0 => .br (!vb0) (.bind (Iv.none) fun viv1 => .ret ((viv1, 0))) (.get (solveRun (fun x => true) (fun c => prodF c.1 c.2.1) ((false, Max.max 0 (Min.min t2 40), ()), t1, Iv.mk 0 0 false, Iv.mk 0 0 false, Iv.mk 0 0 false, Iv.mk 0 0 false, Iv.mk 0 0 false, Iv.mk 0 0 false, Iv.mk 0 0 false, Iv.mk 0 0 false, r0, r1, ())) fun vy2 => .sum (vy2) (fun vs3 => .br (vs3.1.1) (.ret ((vs3.2.1, 1))) (.bind (Iv.none) fun viv4 => .ret ((viv4, 0)))) (fun vs5 => .sum (vs5) (fun vs6 => .ret ((vs6.2.1, vs6.1.1))) (fun vs7 => .bind (Iv.none) fun viv8 => .ret ((viv8, 0))))) := by kernel_rfl
theorem c_newton_Solve_roots : PlainS Try.prog 54 (sc 3 [0, 1, 2] (tClo 0 64 [0,1] (tCod 1 cIv (tCod 2 cInt tNil))) (rRo ccInt ccInt_ok (rRo ccInt ccInt_ok rNil))) (cTwo cIv cInt) (fun _ => true) ((fun x => _root_.Go.Proofs.Ythgpgnijbajlgaa.solve ((fun (c : Int × Int × Unit) => prodF c.1 c.2.1) x.2) x.1.1 x.1.2.1)) := by
  intro x h N w vs hM hv
  obtain ⟨⟨t1, t2, ⟨⟩⟩, ⟨r0, r1, ⟨⟩⟩⟩ := x
  refine calls_of_tree (n := 200) (EnvOK.add s_iv_Point (EnvOK.add s_iv_Sub (EnvOK.add s_iv_Div (EnvOK.add s_iv_None (EnvOK.add s_iv_Right (EnvOK.add s_iv_Mid (EnvOK.add s_iv_Meet (EnvOK.add s_iv_Split (EnvOK.add s_newton_without_roots (EnvOK.add s_meniscuslaw7_NewtonRoots_1 EnvOK.nil)))))))))) Try.func54 hv (Nat.le_of_ble_eq_true (by kernel_rfl)) (LFn.add (fn := Try.f54) (i := 5) (by kernel_rfl) ok_newton_Solve_roots_5 LFn.nil) hM (cTwo cIv cInt) ?_
  rw [t_newton_Solve_roots]
  simp only [den_br, den_bind, den_ret, den_fail, den_inl, den_inr, den_gets, decide_eq_true_eq]
  cases h0 : t1.right
  · simp [_root_.Go.Proofs.Ythgpgnijbajlgaa.solve, h0]
  have hr : ∀ {C : Type} (q : C → Bool) (F : C → Iv → Iv × Iv) (res n m u a b v s : Iv) (c : C), q c = true → solveRun q F ((false, max 0 (min t2 40), ()), (t1, res, n, m, u, a, b, v, s, c)) = some (solveOut (F c) res (rounds t2) t1 false) := by
    intro C q F res n m u a b v s c hq
    simp only [solveRun]
    rw [if_pos ⟨hq, by omega, by omega⟩]
    rfl
  rw [hr _ _ _ _ _ _ _ _ _ _ _ (by first | rfl | exact h)]
  simp only [Bool.not_true, Bool.false_eq_true, if_false, Option.bind_some, _root_.Go.Proofs.Ythgpgnijbajlgaa.solve, h0, if_true]
  rw [← solveEnd_out _ ⟨0, 0, false⟩]
  generalize solveOut _ _ _ _ _ = y
  rcases y with ⟨⟨sure, _⟩, ⟨t, res, _⟩⟩ | ⟨⟨is, _⟩, ⟨r, _⟩⟩ | ⟨_, ⟨r, _⟩⟩
  · cases sure <;> rfl
  · rfl
  · rfl
theorem s_newton_Solve_roots : Ev.Spec Try.prog 54 (FS (sc 3 [0, 1, 2] (tClo 0 64 [0,1] (tCod 1 cIv (tCod 2 cInt tNil))) (rRo ccInt ccInt_ok (rRo ccInt ccInt_ok rNil))) (cTwo cIv cInt) (fun _ => true) ((fun x => _root_.Go.Proofs.Ythgpgnijbajlgaa.solve ((fun (c : Int × Int × Unit) => prodF c.1 c.2.1) x.2) x.1.1 x.1.2.1))) := specS rfl (fun vs w => Try.call54 vs w) c_newton_Solve_roots

/-! meniscuslaw7.line -/
theorem t_meniscuslaw7_line (x0 : Iv) :
    evFn Try.prog (Env.add 40 (F2 cIv cIv cIv Iv.sub) (Env.add 46 (F1 cInt cIv Iv.whole) Env.nil)) Laws.nil 200 Try.f71 [cIv.av x0] [] (cTwo cIv cIv).dec =
      .bind (Iv.whole 1) fun viv0 => .bind (x0.sub viv0) fun viv1 => .bind (Iv.whole 1) fun viv2 => .ret ((viv1, viv2)) := by kernel_rfl
theorem c_meniscuslaw7_line (x0 : Iv) : Plain Try.prog 71 [cIv.enc x0] ((cTwo cIv cIv).enc (lineF x0)) :=
  plain_of_tree (n := 200) (EnvOK.add s_iv_Sub (EnvOK.add s_iv_Whole EnvOK.nil)) Try.func71 (args := [cIv.av x0]) (by simp only [AV.vals, Cod.av_val]) (Nat.le_of_ble_eq_true (by kernel_rfl)) LFn.nil (cTwo cIv cIv) (by
    rw [t_meniscuslaw7_line]
    rfl)
theorem s_meniscuslaw7_line : Ev.Spec Try.prog 71 (F1 cIv (cTwo cIv cIv) lineF) := spec1 (fun vs w => Try.call71 vs w) c_meniscuslaw7_line

/-! newton.without -/
theorem t_newton_without_line (t1 : Iv) :
    evFn Try.prog (Env.add 63 (F2 cIv cInt cBool Iv.has) (Env.add 91 (F1 cIv cBool Iv.right) (Env.add 71 (F1 cIv (cTwo cIv cIv) lineF) Env.nil))) Laws.nil 200 Try.f109 (((sc 2 [0, 1] (tClo 0 71 [] (tCod 1 cIv tNil)) rNil).enc ((t1, ()), (()))).tmps.map Prod.snd) ((sc 2 [0, 1] (tClo 0 71 [] (tCod 1 cIv tNil)) rNil).enc ((t1, ()), (()))).mem cBool.dec =
      .bind (lineF t1) fun vy0 => .bind (vy0.1.right) fun vb1 => .br (vb1) (.bind (vy0.1.has 0) fun vb2 => .ret (!vb2)) (.ret (false)) := by kernel_rfl
theorem c_newton_without_line : PlainS Try.prog 109 (sc 2 [0, 1] (tClo 0 71 [] (tCod 1 cIv tNil)) rNil) cBool (fun _ => true) ((fun x => without ((fun (_ : Unit) => lineF) x.2) x.1.1)) := by
  intro x h N w vs hM hv
  obtain ⟨⟨t1, ⟨⟩⟩, ⟨⟩⟩ := x
  refine calls_of_tree (n := 200) (EnvOK.add s_iv_Has (EnvOK.add s_iv_Right (EnvOK.add s_meniscuslaw7_line EnvOK.nil))) Try.func109 hv (Nat.le_of_ble_eq_true (by kernel_rfl)) LFn.nil hM cBool ?_
  rw [t_newton_without_line]
  simp only [den_br, den_bind, den_ret, den_fail, den_inl, den_inr, decide_eq_true_eq]
  simp only [without]
  grind
theorem s_newton_without_line : Ev.Spec Try.prog 109 (FS (sc 2 [0, 1] (tClo 0 71 [] (tCod 1 cIv tNil)) rNil) cBool (fun _ => true) ((fun x => without ((fun (_ : Unit) => lineF) x.2) x.1.1))) := specS rfl (fun vs w => Try.call109 vs w) c_newton_without_line

/-! newton.Solve -/
theorem tl_newton_Solve_line_5 (t15 : Bool) (t16 : Int) (r0 : Iv) (r1 : Iv) (r2 : Iv) (r3 : Iv) (r4 : Iv) (r5 : Iv) (r6 : Iv) (r7 : Iv) (r8 : Iv) :
    ev Try.prog (Env.add 39 (F1 cInt cIv Iv.point) (Env.add 40 (F2 cIv cIv cIv Iv.sub) (Env.add 45 (F2 cIv cIv cIv Iv.div) (Env.add 66 (F0 cIv Iv.none) (Env.add 91 (F1 cIv cBool Iv.right) (Env.add 106 (F1 cIv cInt Iv.mid) (Env.add 107 (F2 cIv cIv cIv Iv.meet) (Env.add 108 (F1 cIv (cTwo cIv cIv) Iv.split) (Env.add 109 (FS (sc 2 [0, 1] (tClo 0 71 [] (tCod 1 cIv tNil)) rNil) cBool (fun _ => true) ((fun x => without ((fun (_ : Unit) => lineF) x.2) x.1.1))) (Env.add 71 (F1 cIv (cTwo cIv cIv) lineF) Env.nil)))))))))) Laws.nil 200 none (loopAt Try.f54 5) ((sc 95 [15, 16, 4, 6, 8, 9, 10, 11, 12, 13, 14, 0] (tCod 15 cBool (tCod 16 cInt (tOwn 4 0 (tOwn 6 1 (tOwn 8 2 (tOwn 9 3 (tOwn 10 4 (tOwn 11 5 (tOwn 12 6 (tOwn 13 7 (tOwn 14 8 (tClo 0 71 [] tNil)))))))))))) (rBox ccIv ccIv_ok (rBox ccIv ccIv_ok (rBox ccIv ccIv_ok (rBox ccIv ccIv_ok (rBox ccIv ccIv_ok (rBox ccIv ccIv_ok (rBox ccIv ccIv_ok (rBox ccIv ccIv_ok (rBox ccIv ccIv_ok rNil)))))))))).enc ((t15, t16, ()), (r0, r1, r2, r3, r4, r5, r6, r7, r8, ()))) (backK (sc 95 [15, 16, 4, 6, 8, 9, 10, 11, 12, 13, 14, 0] (tCod 15 cBool (tCod 16 cInt (tOwn 4 0 (tOwn 6 1 (tOwn 8 2 (tOwn 9 3 (tOwn 10 4 (tOwn 11 5 (tOwn 12 6 (tOwn 13 7 (tOwn 14 8 (tClo 0 71 [] tNil)))))))))))) (rBox ccIv ccIv_ok (rBox ccIv ccIv_ok (rBox ccIv ccIv_ok (rBox ccIv ccIv_ok (rBox ccIv ccIv_ok (rBox ccIv ccIv_ok (rBox ccIv ccIv_ok (rBox ccIv ccIv_ok (rBox ccIv ccIv_ok rNil)))))))))) (ocOr (ocExit 0 (sc 95 [15, 4, 6] (tCod 15 cBool (tOwn 4 0 (tOwn 6 1 tNil))) (rBox ccIv ccIv_ok (rBox ccIv ccIv_ok rNil)))) (ocOr (ocRet (sc 95 [7, 6] (tCod 7 cInt (tOwn 6 0 tNil)) (rBox ccIv ccIv_ok rNil))) (ocGoto 0 (sc 95 [6] (tOwn 6 0 tNil) (rBox ccIv ccIv_ok rNil)))))) =
      .br (decide (t16 > 0)) (.bind (r0.mid) fun vn0 => .bind (Iv.point vn0) fun viv1 => .bind (lineF viv1) fun vy2 => .bind (lineF r0) fun vy3 => .bind (vy2.1.div vy3.2) fun viv4 => .bind (viv1.sub viv4) fun viv5 => .br (viv5.no) (.bind (r0.split) fun vy6 => .br (true) (.bind (without lineF vy6.1) fun vb7 => .br (vb7) (.ret (Sum.inl ((t15, IntKind.i64.wrap (t16 - 1), ()), vy6.2, r1, viv5, viv1, r4, vy6.1, vy6.2, vy2.1, vy3.2, ()))) (.br (true) (.bind (without lineF vy6.2) fun vb8 => .br (!vb8) (.ret (Sum.inr (Sum.inr (Sum.inr ((), r1, ()))))) (.ret (Sum.inl ((t15, IntKind.i64.wrap (t16 - 1), ()), vy6.1, r1, viv5, viv1, r4, vy6.1, vy6.2, vy2.1, vy3.2, ())))) (.fail))) (.fail)) (.br (t15) (.bind (r0.meet viv5) fun viv9 => .br (viv9.no) (.bind (Iv.none) fun viv10 => .ret (Sum.inr (Sum.inr (Sum.inl ((2, ()), viv10, ()))))) (.br (viv9.lo == r0.lo && (viv9.hi == r0.hi && viv9.no == r0.no)) (.ret (Sum.inr (Sum.inl ((true, ()), r0, r1, ())))) (.ret (Sum.inl ((true, IntKind.i64.wrap (t16 - 1), ()), viv9, r1, viv5, viv1, viv9, r5, r6, vy2.1, vy3.2, ()))))) (.br (decide (r0.lo < viv5.lo)) (.bind (r0.meet viv5) fun viv11 => .br (viv11.no) (.bind (Iv.none) fun viv12 => .ret (Sum.inr (Sum.inr (Sum.inl ((2, ()), viv12, ()))))) (.br (viv11.lo == r0.lo && (viv11.hi == r0.hi && viv11.no == r0.no)) (.ret (Sum.inr (Sum.inl ((decide (viv5.hi < r0.hi), ()), r0, r1, ())))) (.ret (Sum.inl ((decide (viv5.hi < r0.hi), IntKind.i64.wrap (t16 - 1), ()), viv11, r1, viv5, viv1, viv11, r5, r6, vy2.1, vy3.2, ()))))) (.bind (r0.meet viv5) fun viv13 => .br (viv13.no) (.bind (Iv.none) fun viv14 => .ret (Sum.inr (Sum.inr (Sum.inl ((2, ()), viv14, ()))))) (.br (viv13.lo == r0.lo && (viv13.hi == r0.hi && viv13.no == r0.no)) (.ret (Sum.inr (Sum.inl ((false, ()), r0, r1, ())))) (.ret (Sum.inl ((false, IntKind.i64.wrap (t16 - 1), ()), viv13, r1, viv5, viv1, viv13, r5, r6, vy2.1, vy3.2, ())))))))) (.ret (Sum.inr (Sum.inl ((t15, ()), r0, r1, ())))) := by kernel_rfl
theorem ok_newton_Solve_line_5 : LOK Try.prog (LoopR.of (sc 95 [15, 16, 4, 6, 8, 9, 10, 11, 12, 13, 14, 0] (tCod 15 cBool (tCod 16 cInt (tOwn 4 0 (tOwn 6 1 (tOwn 8 2 (tOwn 9 3 (tOwn 10 4 (tOwn 11 5 (tOwn 12 6 (tOwn 13 7 (tOwn 14 8 (tClo 0 71 [] tNil)))))))))))) (rBox ccIv ccIv_ok (rBox ccIv ccIv_ok (rBox ccIv ccIv_ok (rBox ccIv ccIv_ok (rBox ccIv ccIv_ok (rBox ccIv ccIv_ok (rBox ccIv ccIv_ok (rBox ccIv ccIv_ok (rBox ccIv ccIv_ok rNil)))))))))) (ocOr (ocExit 0 (sc 95 [15, 4, 6] (tCod 15 cBool (tOwn 4 0 (tOwn 6 1 tNil))) (rBox ccIv ccIv_ok (rBox ccIv ccIv_ok rNil)))) (ocOr (ocRet (sc 95 [7, 6] (tCod 7 cInt (tOwn 6 0 tNil)) (rBox ccIv ccIv_ok rNil))) (ocGoto 0 (sc 95 [6] (tOwn 6 0 tNil) (rBox ccIv ccIv_ok rNil))))) (solveRun (fun _ => true) ((fun (_ : Unit) => lineF)))) (loopAt Try.f54 5) := by
  refine loop_ok (EnvOK.add s_iv_Point (EnvOK.add s_iv_Sub (EnvOK.add s_iv_Div (EnvOK.add s_iv_None (EnvOK.add s_iv_Right (EnvOK.add s_iv_Mid (EnvOK.add s_iv_Meet (EnvOK.add s_iv_Split (EnvOK.add s_newton_without_line (EnvOK.add s_meniscuslaw7_line EnvOK.nil)))))))))) (LFn.at (fn := Try.f54) LFn.nil 5) (solveStep (fun _ => true) ((fun (_ : Unit) => lineF))) (n := 200) (fun x z h => ?_) (solveRun_ok _ _)
  obtain ⟨⟨t15, t16, ⟨⟩⟩, ⟨r0, r1, r2, r3, r4, r5, r6, r7, r8, ⟨⟩⟩⟩ := x
  rw [tl_newton_Solve_line_5]
  by_cases hk : 0 < t16
  case neg =>
    rw [← h]
    simp only [den_br, den_bind, den_ret, den_fail, den_inl, den_inr, decide_eq_true_eq, solveStep, gt_iff_lt, hk, if_false]
  have hq : True := trivial
  rw [← h]
  simp only [den_br, den_bind, den_ret, den_fail, den_inl, den_inr, decide_eq_true_eq]
  rw [show (Iv.point r0.mid).sub ((lineF (Iv.point r0.mid)).1.div (lineF r0).2) = nextN (lineF) r0 from rfl]
  simp only [solveStep, solveSure, ivEq, gt_iff_lt, hk, hq, Bool.and_self, if_true]
  generalize nextN (lineF) r0 = n
  simp only [ltB]
  cases h1 : n.no
  case true =>
    simp only [if_true]
    split
    · rfl
    · split <;> simp_all
  simp only [Bool.false_eq_true, if_false]
  cases t15 <;> simp only [Bool.false_eq_true, if_true, if_false, Bool.true_or, Bool.false_or]
  by_cases h2 : r0.lo < n.lo <;> simp only [h2, if_true, if_false, decide_true, decide_false, Bool.true_and, Bool.false_and]
theorem t_newton_Solve_line (t1 : Iv) (t2 : Int) :
    evFn Try.prog (Env.add 39 (F1 cInt cIv Iv.point) (Env.add 40 (F2 cIv cIv cIv Iv.sub) (Env.add 45 (F2 cIv cIv cIv Iv.div) (Env.add 66 (F0 cIv Iv.none) (Env.add 91 (F1 cIv cBool Iv.right) (Env.add 106 (F1 cIv cInt Iv.mid) (Env.add 107 (F2 cIv cIv cIv Iv.meet) (Env.add 108 (F1 cIv (cTwo cIv cIv) Iv.split) (Env.add 109 (FS (sc 2 [0, 1] (tClo 0 71 [] (tCod 1 cIv tNil)) rNil) cBool (fun _ => true) ((fun x => without ((fun (_ : Unit) => lineF) x.2) x.1.1))) (Env.add 71 (F1 cIv (cTwo cIv cIv) lineF) Env.nil)))))))))) (Laws.add 5 (LoopR.of (sc 95 [15, 16, 4, 6, 8, 9, 10, 11, 12, 13, 14, 0] (tCod 15 cBool (tCod 16 cInt (tOwn 4 0 (tOwn 6 1 (tOwn 8 2 (tOwn 9 3 (tOwn 10 4 (tOwn 11 5 (tOwn 12 6 (tOwn 13 7 (tOwn 14 8 (tClo 0 71 [] tNil)))))))))))) (rBox ccIv ccIv_ok (rBox ccIv ccIv_ok (rBox ccIv ccIv_ok (rBox ccIv ccIv_ok (rBox ccIv ccIv_ok (rBox ccIv ccIv_ok (rBox ccIv ccIv_ok (rBox ccIv ccIv_ok (rBox ccIv ccIv_ok rNil)))))))))) (ocOr (ocExit 0 (sc 95 [15, 4, 6] (tCod 15 cBool (tOwn 4 0 (tOwn 6 1 tNil))) (rBox ccIv ccIv_ok (rBox ccIv ccIv_ok rNil)))) (ocOr (ocRet (sc 95 [7, 6] (tCod 7 cInt (tOwn 6 0 tNil)) (rBox ccIv ccIv_ok rNil))) (ocGoto 0 (sc 95 [6] (tOwn 6 0 tNil) (rBox ccIv ccIv_ok rNil))))) (solveRun (fun _ => true) ((fun (_ : Unit) => lineF)))) Laws.nil) 200 Try.f54 (((sc 3 [0, 1, 2] (tClo 0 71 [] (tCod 1 cIv (tCod 2 cInt tNil))) rNil).enc ((t1, t2, ()), (()))).tmps.map Prod.snd) ((sc 3 [0, 1, 2] (tClo 0 71 [] (tCod 1 cIv (tCod 2 cInt tNil))) rNil).enc ((t1, t2, ()), (()))).mem (cTwo cIv cInt).dec =
      .bind (t1.right) fun vb0 => .br (!vb0) (.bind (Iv.none) fun viv1 => .ret ((viv1, 0))) (.get (solveRun (fun x => true) (fun x => lineF) ((false, Max.max 0 (Min.min t2 40), ()), t1, Iv.mk 0 0 false, Iv.mk 0 0 false, Iv.mk 0 0 false, Iv.mk 0 0 false, Iv.mk 0 0 false, Iv.mk 0 0 false, Iv.mk 0 0 false, Iv.mk 0 0 false, ())) fun vy2 => .sum (vy2) (fun vs3 => .br (vs3.1.1) (.ret ((vs3.2.1, 1))) (.bind (Iv.none) fun viv4 => .ret ((viv4, 0)))) (fun vs5 => .sum (vs5) (fun vs6 => .ret ((vs6.2.1, vs6.1.1))) (fun vs7 => .bind (Iv.none) fun viv8 => .ret ((viv8, 0))))) := by kernel_rfl
theorem c_newton_Solve_line : PlainS Try.prog 54 (sc 3 [0, 1, 2] (tClo 0 71 [] (tCod 1 cIv (tCod 2 cInt tNil))) rNil) (cTwo cIv cInt) (fun _ => true) ((fun x => _root_.Go.Proofs.Ythgpgnijbajlgaa.solve ((fun (_ : Unit) => lineF) x.2) x.1.1 x.1.2.1)) := by
  intro x h N w vs hM hv
  obtain ⟨⟨t1, t2, ⟨⟩⟩, ⟨⟩⟩ := x
  refine calls_of_tree (n := 200) (EnvOK.add s_iv_Point (EnvOK.add s_iv_Sub (EnvOK.add s_iv_Div (EnvOK.add s_iv_None (EnvOK.add s_iv_Right (EnvOK.add s_iv_Mid (EnvOK.add s_iv_Meet (EnvOK.add s_iv_Split (EnvOK.add s_newton_without_line (EnvOK.add s_meniscuslaw7_line EnvOK.nil)))))))))) Try.func54 hv (Nat.le_of_ble_eq_true (by kernel_rfl)) (LFn.add (fn := Try.f54) (i := 5) (by kernel_rfl) ok_newton_Solve_line_5 LFn.nil) hM (cTwo cIv cInt) ?_
  rw [t_newton_Solve_line]
  simp only [den_br, den_bind, den_ret, den_fail, den_inl, den_inr, den_gets, decide_eq_true_eq]
  cases h0 : t1.right
  · simp [_root_.Go.Proofs.Ythgpgnijbajlgaa.solve, h0]
  have hr : ∀ {C : Type} (q : C → Bool) (F : C → Iv → Iv × Iv) (res n m u a b v s : Iv) (c : C), q c = true → solveRun q F ((false, max 0 (min t2 40), ()), (t1, res, n, m, u, a, b, v, s, c)) = some (solveOut (F c) res (rounds t2) t1 false) := by
    intro C q F res n m u a b v s c hq
    simp only [solveRun]
    rw [if_pos ⟨hq, by omega, by omega⟩]
    rfl
  rw [hr _ _ _ _ _ _ _ _ _ _ _ (by first | rfl | exact h)]
  simp only [Bool.not_true, Bool.false_eq_true, if_false, Option.bind_some, _root_.Go.Proofs.Ythgpgnijbajlgaa.solve, h0, if_true]
  rw [← solveEnd_out _ ⟨0, 0, false⟩]
  generalize solveOut _ _ _ _ _ = y
  rcases y with ⟨⟨sure, _⟩, ⟨t, res, _⟩⟩ | ⟨⟨is, _⟩, ⟨r, _⟩⟩ | ⟨_, ⟨r, _⟩⟩
  · cases sure <;> rfl
  · rfl
  · rfl
theorem s_newton_Solve_line : Ev.Spec Try.prog 54 (FS (sc 3 [0, 1, 2] (tClo 0 71 [] (tCod 1 cIv (tCod 2 cInt tNil))) rNil) (cTwo cIv cInt) (fun _ => true) ((fun x => _root_.Go.Proofs.Ythgpgnijbajlgaa.solve ((fun (_ : Unit) => lineF) x.2) x.1.1 x.1.2.1))) := specS rfl (fun vs w => Try.call54 vs w) c_newton_Solve_line

/-! meniscuslaw7.known -/
theorem t_meniscuslaw7_known  :
    evFn Try.prog (Env.add 46 (F1 cInt cIv Iv.whole) (Env.add 54 (FS (sc 3 [0, 1, 2] (tClo 0 64 [0,1] (tCod 1 cIv (tCod 2 cInt tNil))) (rRo ccInt ccInt_ok (rRo ccInt ccInt_ok rNil))) (cTwo cIv cInt) (fun _ => true) ((fun x => _root_.Go.Proofs.Ythgpgnijbajlgaa.solve ((fun (c : Int × Int × Unit) => prodF c.1 c.2.1) x.2) x.1.1 x.1.2.1))) (Env.add 54 (FS (sc 3 [0, 1, 2] (tClo 0 71 [] (tCod 1 cIv (tCod 2 cInt tNil))) rNil) (cTwo cIv cInt) (fun _ => true) ((fun x => _root_.Go.Proofs.Ythgpgnijbajlgaa.solve ((fun (_ : Unit) => lineF) x.2) x.1.1 x.1.2.1))) (Env.add 70 (F2 cInt cInt cIv Iv.of) (Env.add 71 (F1 cIv (cTwo cIv cIv) lineF) Env.nil))))) Laws.nil 200 Try.f58 [] [] cBool.dec =
      .bind (Iv.of 0 262144) fun viv0 => .br (true) (.bind (solve lineF viv0 10) fun vy1 => .br (vy1.2 == 1) (.bind (Iv.whole 1) fun viv2 => .ret (vy1.1.lo == viv2.lo && (vy1.1.hi == viv2.hi && vy1.1.no == viv2.no))) (.ret (false))) (.fail) := by kernel_rfl
theorem c_meniscuslaw7_known  : Plain Try.prog 58 [] (cBool.enc (true)) :=
  plain_of_tree (n := 200) (EnvOK.add s_iv_Whole (EnvOK.add s_newton_Solve_roots (EnvOK.add s_newton_Solve_line (EnvOK.add s_iv_Of (EnvOK.add s_meniscuslaw7_line EnvOK.nil))))) Try.func58 (args := []) rfl (Nat.le_of_ble_eq_true (by kernel_rfl)) LFn.nil cBool (by
    rw [t_meniscuslaw7_known]
    decide +kernel)
theorem s_meniscuslaw7_known : Ev.Spec Try.prog 58 (F0 cBool true) := spec0 (fun vs w => Try.call58 vs w) c_meniscuslaw7_known

/-! meniscuslaw7.NewtonRoots -/
theorem t_meniscuslaw7_NewtonRoots (t0 : Int) (t1 : Int) (t2 : Int) (t3 : Int) :
    evFn Try.prog (Env.add 22 (F2p cInt cInt cInt pickOk pick) (Env.add 51 (F2 cInt cInt cIv wide) (Env.add 54 (FS (sc 3 [0, 1, 2] (tClo 0 64 [0,1] (tCod 1 cIv (tCod 2 cInt tNil))) (rRo ccInt ccInt_ok (rRo ccInt ccInt_ok rNil))) (cTwo cIv cInt) (fun _ => true) ((fun x => _root_.Go.Proofs.Ythgpgnijbajlgaa.solve ((fun (c : Int × Int × Unit) => prodF c.1 c.2.1) x.2) x.1.1 x.1.2.1))) (Env.add 54 (FS (sc 3 [0, 1, 2] (tClo 0 71 [] (tCod 1 cIv (tCod 2 cInt tNil))) rNil) (cTwo cIv cInt) (fun _ => true) ((fun x => _root_.Go.Proofs.Ythgpgnijbajlgaa.solve ((fun (_ : Unit) => lineF) x.2) x.1.1 x.1.2.1))) (Env.add 58 (F0 cBool true) (Env.add 60 (F2 cIv cIv cBool Iv.inside) (Env.add 63 (F2 cIv cInt cBool Iv.has) (Env.add 64 (FS (sc 3 [0, 1, 2] (tCod 0 cIv (tOwn 1 0 (tOwn 2 1 tNil))) (rRo ccInt ccInt_ok (rRo ccInt ccInt_ok rNil))) (cTwo cIv cIv) (fun _ => true) ((fun x => (fun (c : Int × Int × Unit) => prodF c.1 c.2.1) x.2 x.1.1))) (Env.add 66 (F0 cIv Iv.none) Env.nil))))))))) Laws.nil 200 Try.f14 (((sc 4 [0, 1, 2, 3] (tCod 0 cInt (tCod 1 cInt (tCod 2 cInt (tCod 3 cInt tNil)))) rNil).enc ((t0, t1, t2, t3, ()), (()))).tmps.map Prod.snd) ((sc 4 [0, 1, 2, 3] (tCod 0 cInt (tCod 1 cInt (tCod 2 cInt (tCod 3 cInt tNil)))) rNil).enc ((t0, t1, t2, t3, ()), (()))).mem cBool.dec =
      .br (pickOk t0 13) (.bind (pick t0 13) fun vn0 => .br (pickOk t1 6) (.bind (pick t1 6) fun vn1 => .br (pickOk t2 1048576) (.bind (pick t2 1048576) fun vn2 => .br (pickOk t3 262144) (.bind (pick t3 262144) fun vn3 => .bind (wide (IntKind.i64.wrap (vn2 - 524288)) vn3) fun viv4 => .br (true) (.bind (solve (prodF (IntKind.i64.wrap (vn0 - 6)) (IntKind.i64.wrap (IntKind.i64.wrap (IntKind.i64.wrap (vn0 - 6) + 1) + vn1))) viv4 30) fun vy5 => .bind (viv4.has (IntKind.i64.wrap (IntKind.i64.wrap (vn0 - 6) * 65536))) fun vb6 => .bind (viv4.has (IntKind.i64.wrap (IntKind.i64.wrap (IntKind.i64.wrap (IntKind.i64.wrap (vn0 - 6) + 1) + vn1) * 65536))) fun vb7 => .br (vy5.2 == 1) (.bind (true) fun vb8 => .br (vb8) (.br (!vb6 == vb7) (.br (!vb6) (.br (!vb7) (.bind (vy5.1.inside viv4) fun vb9 => .ret (vb9)) (.bind (vy5.1.has (IntKind.i64.wrap (IntKind.i64.wrap (IntKind.i64.wrap (IntKind.i64.wrap (vn0 - 6) + 1) + vn1) * 65536))) fun vb10 => .br (vb10) (.bind (vy5.1.inside viv4) fun vb11 => .ret (vb11)) (.ret (false)))) (.bind (vy5.1.has (IntKind.i64.wrap (IntKind.i64.wrap (vn0 - 6) * 65536))) fun vb12 => .br (vb12) (.br (!vb7) (.bind (vy5.1.inside viv4) fun vb13 => .ret (vb13)) (.bind (vy5.1.has (IntKind.i64.wrap (IntKind.i64.wrap (IntKind.i64.wrap (IntKind.i64.wrap (vn0 - 6) + 1) + vn1) * 65536))) fun vb14 => .br (vb14) (.bind (vy5.1.inside viv4) fun vb15 => .ret (vb15)) (.ret (false)))) (.ret (false)))) (.ret (false))) (.ret (false))) (.br (vy5.2 == 2) (.bind (true) fun vb16 => .br (vb16) (.br (!vb6) (.br (!vb7) (.bind (Iv.none) fun viv17 => .ret (vy5.1.lo == viv17.lo && (vy5.1.hi == viv17.hi && vy5.1.no == viv17.no))) (.ret (false))) (.ret (false))) (.ret (false))) (.bind (true) fun vb18 => .br (vb18) (.bind (Iv.none) fun viv19 => .ret (vy5.1.lo == viv19.lo && (vy5.1.hi == viv19.hi && vy5.1.no == viv19.no))) (.ret (false))))) (.fail)) (.fail)) (.fail)) (.fail)) (.fail) := by kernel_rfl
theorem c_meniscuslaw7_NewtonRoots : PlainS Try.prog 14 (sc 4 [0, 1, 2, 3] (tCod 0 cInt (tCod 1 cInt (tCod 2 cInt (tCod 3 cInt tNil)))) rNil) cBool (fun _ => true) ((fun _ => true)) := by
  intro x h N w vs hM hv
  obtain ⟨⟨t0, t1, t2, t3, ⟨⟩⟩, ⟨⟩⟩ := x
  refine calls_of_tree (n := 200) (EnvOK.add s_meniscushand_Pick (EnvOK.add s_meniscushand_Wide (EnvOK.add s_newton_Solve_roots (EnvOK.add s_newton_Solve_line (EnvOK.add s_meniscuslaw7_known (EnvOK.add s_iv_Inside (EnvOK.add s_iv_Has (EnvOK.add s_meniscuslaw7_NewtonRoots_1 (EnvOK.add s_iv_None EnvOK.nil))))))))) Try.func14 hv (Nat.le_of_ble_eq_true (by kernel_rfl)) LFn.nil hM cBool ?_
  rw [t_meniscuslaw7_NewtonRoots]
  have p0 : pickOk t0 13 = true := by simp [pickOk]
  have p1 : pickOk t1 6 = true := by simp [pickOk]
  have p2 : pickOk t2 1048576 = true := by simp [pickOk]
  have p3 : pickOk t3 262144 = true := by simp [pickOk]
  have b0 := pick_bd t0 (m := 13) (by decide)
  have b1 := pick_bd t1 (m := 6) (by decide)
  have b2 := pick_bd t2 (m := 1048576) (by decide)
  have b3 := pick_bd t3 (m := 262144) (by decide)
  have e0 : IntKind.i64.wrap (pick t0 13 - 6) = pick t0 13 - 6 := wr (by omega)
  have e1 : IntKind.i64.wrap (pick t0 13 - 6 + 1) = pick t0 13 - 6 + 1 := wr (by omega)
  have e2 : IntKind.i64.wrap (pick t0 13 - 6 + 1 + pick t1 6) = pick t0 13 - 6 + 1 + pick t1 6 := wr (by omega)
  have e3 : IntKind.i64.wrap (pick t2 1048576 - 524288) = pick t2 1048576 - 524288 := wr (by omega)
  have hin := wide_roots (a := pick t2 1048576 - 524288) (b := pick t3 262144) (by omega) (by omega)
  simp only [den_br, den_bind, den_ret, den_fail, decide_eq_true_eq, p0, p1, p2, p3, if_true, e0, e1, e2, e3]
  obtain ⟨Q, hQ⟩ : ∃ Q, pick t0 13 - 6 + 1 + pick t1 6 = Q := ⟨_, rfl⟩
  rw [hQ]
  obtain ⟨P, hP⟩ : ∃ P, pick t0 13 - 6 = P := ⟨_, rfl⟩
  rw [hP]
  generalize wide (pick t2 1048576 - 524288) (pick t3 262144) = T at *
  have w1 : IntKind.i64.wrap (P * 65536) = P * 65536 := wr (by omega)
  have w2 : IntKind.i64.wrap (Q * 65536) = Q * 65536 := wr (by omega)
  have hs := solve_says (p := P) (q := Q) (by omega) (by omega) (by omega) hin 30
  generalize _root_.Go.Proofs.Ythgpgnijbajlgaa.solve (prodF P Q) T 30 = S at *
  obtain ⟨x, is⟩ := S
  have hP' := has_hasT hin (P * 65536)
  have hQ' := has_hasT hin (Q * 65536)
  rcases hs with ⟨h1, h2, h3, h4, h5, h6, h7⟩ | ⟨h1, h2, h3⟩ | h1
  · simp only at h1 h2 h3 h4 h5 h6
    subst h1
    have hi := inside_inT h2 hin h3 h4
    have xP := has_hasT h2 (P * 65536)
    have xQ := has_hasT h2 (Q * 65536)
    rcases h7 with ⟨k1, k2⟩ | ⟨k1, k2⟩
    · have a1 := hP'.2 k1
      have a2 : T.has (Q * 65536) = false := by
        cases hc : T.has (Q * 65536)
        · rfl
        · exact absurd (hQ'.1 hc) k2
      have a3 := xP.2 (h5 k1)
      simp [w1, w2, a1, a2, a3, hi]
    · have a1 := hQ'.2 k2
      have a2 : T.has (P * 65536) = false := by
        cases hc : T.has (P * 65536)
        · rfl
        · exact absurd (hP'.1 hc) k1
      have a3 := xQ.2 (h6 k2)
      simp [w1, w2, a1, a2, a3, hi]
  · injection h1 with g1 g2
    subst g1 g2
    have a1 : T.has (P * 65536) = false := by
      cases hc : T.has (P * 65536)
      · rfl
      · exact absurd (hP'.1 hc) h2
    have a2 : T.has (Q * 65536) = false := by
      cases hc : T.has (Q * 65536)
      · rfl
      · exact absurd (hQ'.1 hc) h3
    simp [w1, w2, a1, a2, Iv.none]
  · injection h1 with g1 g2
    subst g1 g2
    simp [Iv.none]
theorem s_meniscuslaw7_NewtonRoots : Ev.Spec Try.prog 14 (FS (sc 4 [0, 1, 2, 3] (tCod 0 cInt (tCod 1 cInt (tCod 2 cInt (tCod 3 cInt tNil)))) rNil) cBool (fun _ => true) ((fun _ => true))) := specS rfl (fun vs w => Try.call14 vs w) c_meniscuslaw7_NewtonRoots
end Go.Proofs.Ythgpgnijbajlgaa
