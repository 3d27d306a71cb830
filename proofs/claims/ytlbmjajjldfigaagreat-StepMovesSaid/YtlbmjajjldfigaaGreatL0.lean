/-
  Contracts of calls, written by a small program of this session out of the evaluator's trees.
-/
import Derived.Test.YtlbmjajjldfigaaGreatCore
import Derived.Test.YtlbmjajjldfigaaGreatCoreLoops
import Derived.Test.YtlbmjajjldfigaaGreatCore2
import Derived.Test.YtlbmjajjldfigaaGreatCore3
import Derived.Test.YtlbmjajjldfigaaGreatCore4
import Derived.Test.YtlbmjajjldfigaaGreatHornerS
import Derived.Test.YtlbmjajjldfigaaGreatK0
import Derived.Test.YtlbmjajjldfigaaGreatEvCod
import Derived.Test.YtlbmjajjldfigaaGreatEvRet
import Derived.Test.YtlbmjajjldfigaaGreatProg
namespace Go.Proofs.YtlbmjajjldfigaaGreat
open Go Go.RowKit Ev
set_option maxRecDepth 100000
set_option linter.unusedVariables false
set_option linter.unusedSimpArgs false

/-! sag.Of -/
theorem t_sag_Of (x0 : Surf) (x1 : Iv) :
    evFn Tryz.prog (Env.add 20 (F2 cIv cIv cIv Iv.add) (Env.add 21 (F1 cInt cIv Iv.point) (Env.add 49 (F0 cIv Iv.none) (Env.add 52 (F1 cInt cIv Iv.whole) (Env.add 111 (F2 cIv cIv cIv Iv.div) (Env.add 130 (F2 cSurf cIv (cTwo cIv cIv) sagRound) (Env.add 131 (FS (sc 2 [0, 1] (tSl 0 0 (tCod 1 cIv tNil)) (rL_iv rNil)) cIv (fun x => lenOk x.2.1) ((fun x => horner x.2.1 x.1.1))) (Env.add 132 (FR (sc 1 [0] (tSl 0 0 tNil) (rL_iv rNil)) (sc 1 [0] (tSl 0 0 tNil) (rG_iv 27 rNil)) (fun x => lenOk x.2.1) ((fun x => (((), (slope x.2.1, ())))))) Env.nil)))))))) Laws.nil 200 Tryz.f99 [cSurf.av x0, cIv.av x1] [] (cTwo cIv cIv).dec =
      .bind (sagRound x0 x1) fun vy0 => .br (x0.bent) (.bind (Iv.whole 1000) fun viv1 => .bind (x1.div viv1) fun viv2 => .bind (Iv.point 0) fun viv3 => .bind (Iv.point 0) fun viv4 => .br (Ev.lenOk [viv3, viv4, x0.a4, x0.a6]) (.bind (horner [viv3, viv4, x0.a4, x0.a6] viv2) fun viv5 => .bind (vy0.1.add viv5) fun viv6 => .br (Ev.lenOk [viv3, viv4, x0.a4, x0.a6]) (.bind (((), slope [viv3, viv4, x0.a4, x0.a6], ())) fun vy7 => .br (Ev.lenOk vy7.2.1) (.bind (horner vy7.2.1 viv2) fun viv8 => .bind (viv8.div viv1) fun viv9 => .bind (vy0.2.add viv9) fun viv10 => .br (viv6.no) (.bind (Iv.none) fun viv11 => .bind (Iv.none) fun viv12 => .ret ((viv11, viv12))) (.br (viv10.no) (.bind (Iv.none) fun viv13 => .bind (Iv.none) fun viv14 => .ret ((viv13, viv14))) (.ret ((viv6, viv10))))) (.fail)) (.fail)) (.fail)) (.br (vy0.1.no) (.bind (Iv.none) fun viv15 => .bind (Iv.none) fun viv16 => .ret ((viv15, viv16))) (.br (vy0.2.no) (.bind (Iv.none) fun viv17 => .bind (Iv.none) fun viv18 => .ret ((viv17, viv18))) (.ret (vy0)))) := by kernel_rfl
theorem c_sag_Of (x0 : Surf) (x1 : Iv) : Plain Tryz.prog 99 [cSurf.enc x0, cIv.enc x1] ((cTwo cIv cIv).enc (sagOf x0 x1)) :=
  plain_of_tree (n := 200) (EnvOK.add s_iv_Add (EnvOK.add s_iv_Point (EnvOK.add s_iv_None (EnvOK.add s_iv_Whole (EnvOK.add s_iv_Div (EnvOK.add s_sag_round (EnvOK.add s_poly_Horner (EnvOK.add s_poly_Slope EnvOK.nil)))))))) Tryz.func99 (args := [cSurf.av x0, cIv.av x1]) (by simp only [AV.vals, Cod.av_val]) (Nat.le_of_ble_eq_true (by kernel_rfl)) LFn.nil (cTwo cIv cIv) (by
    rw [t_sag_Of]
    simp only [den_br, den_bind, den_ret, den_fail, den_inl, den_inr, decide_eq_true_eq]
    have l1 : lenOk [Iv.point 0, Iv.point 0, x0.a4, x0.a6] = true := rfl
    have l2 : lenOk (slope [Iv.point 0, Iv.point 0, x0.a4, x0.a6]) = true := rfl
    simp only [l1, l2, if_true]
    by_cases hb : x0.bent = true
    · simp only [hb, if_true, sagOf, sagPre, sagBent]
      grind
    · simp only [hb, if_false, sagOf, sagPre, Bool.false_eq_true]
      grind)
theorem s_sag_Of : Ev.Spec Tryz.prog 99 (F2 cSurf cIv (cTwo cIv cIv) sagOf) := spec2 (fun vs w => Tryz.call99 vs w) c_sag_Of

/-! hit.bent$1 -/
theorem t_hit_bent_1 (t0 : Iv) (r0 : Ray) (r1 : Surf) :
    evFn Tryz.prog (Env.add 20 (F2 cIv cIv cIv Iv.add) (Env.add 41 (F2 cIv cIv cIv Iv.sub) (Env.add 45 (F2 cRay cIv cV along) (Env.add 55 (F1 cIv cIv Iv.sqr) (Env.add 95 (F2 cIv cIv cIv Iv.mul) (Env.add 96 (F2 cIv cInt cIv Iv.times) (Env.add 99 (F2 cSurf cIv (cTwo cIv cIv) sagOf) Env.nil))))))) Laws.nil 200 Tryz.f98 (((sc 3 [0, 1, 2] (tCod 0 cIv (tOwn 1 0 (tOwn 2 1 tNil))) (rRo ccRay ccRay_ok (rRo ccSurf ccSurf_ok rNil))).enc ((t0, ()), (r0, r1, ()))).tmps.map Prod.snd) ((sc 3 [0, 1, 2] (tCod 0 cIv (tOwn 1 0 (tOwn 2 1 tNil))) (rRo ccRay ccRay_ok (rRo ccSurf ccSurf_ok rNil))).enc ((t0, ()), (r0, r1, ()))).mem (cTwo cIv cIv).dec =
      .bind (along r0 t0) fun vv0 => .bind (vv0.x.sqr) fun viv1 => .bind (vv0.y.sqr) fun viv2 => .bind (viv1.add viv2) fun viv3 => .bind (sagOf r1 viv3) fun vy4 => .bind (vv0.x.mul r0.d.x) fun viv5 => .bind (vv0.y.mul r0.d.y) fun viv6 => .bind (viv5.add viv6) fun viv7 => .bind (viv7.times 2) fun viv8 => .bind (vv0.z.sub vy4.1) fun viv9 => .bind (vy4.2.mul viv8) fun viv10 => .bind (r0.d.z.sub viv10) fun viv11 => .ret ((viv9, viv11)) := by kernel_rfl
theorem c_hit_bent_1 : PlainS Tryz.prog 98 (sc 3 [0, 1, 2] (tCod 0 cIv (tOwn 1 0 (tOwn 2 1 tNil))) (rRo ccRay ccRay_ok (rRo ccSurf ccSurf_ok rNil))) (cTwo cIv cIv) (fun _ => true) ((fun x => faceAt x.2.2.1 x.2.1 x.1.1)) := by
  intro x h N w vs hM hv
  obtain ⟨⟨t0, ⟨⟩⟩, ⟨r0, r1, ⟨⟩⟩⟩ := x
  refine calls_of_tree (n := 200) (EnvOK.add s_iv_Add (EnvOK.add s_iv_Sub (EnvOK.add s_vec_Along (EnvOK.add s_iv_Sqr (EnvOK.add s_iv_Mul (EnvOK.add s_iv_Times (EnvOK.add s_sag_Of EnvOK.nil))))))) Tryz.func98 hv (Nat.le_of_ble_eq_true (by kernel_rfl)) LFn.nil hM (cTwo cIv cIv) ?_
  rw [t_hit_bent_1]
  rfl
theorem s_hit_bent_1 : Ev.Spec Tryz.prog 98 (FS (sc 3 [0, 1, 2] (tCod 0 cIv (tOwn 1 0 (tOwn 2 1 tNil))) (rRo ccRay ccRay_ok (rRo ccSurf ccSurf_ok rNil))) (cTwo cIv cIv) (fun _ => true) ((fun x => faceAt x.2.2.1 x.2.1 x.1.1))) := specS rfl (fun vs w => Tryz.call98 vs w) c_hit_bent_1

/-! newton.without -/
theorem t_newton_without_bent (t1 : Iv) (r0 : Ray) (r1 : Surf) :
    evFn Tryz.prog (Env.add 14 (F1 cIv cBool Iv.right) (Env.add 141 (F2 cIv cInt cBool Iv.has) (Env.add 98 (FS (sc 3 [0, 1, 2] (tCod 0 cIv (tOwn 1 0 (tOwn 2 1 tNil))) (rRo ccRay ccRay_ok (rRo ccSurf ccSurf_ok rNil))) (cTwo cIv cIv) (fun _ => true) ((fun x => faceAt x.2.2.1 x.2.1 x.1.1))) Env.nil))) Laws.nil 200 Tryz.f135 (((sc 2 [0, 1] (tClo 0 98 [0,1] (tCod 1 cIv tNil)) (rRo ccRay ccRay_ok (rRo ccSurf ccSurf_ok rNil))).enc ((t1, ()), (r0, r1, ()))).tmps.map Prod.snd) ((sc 2 [0, 1] (tClo 0 98 [0,1] (tCod 1 cIv tNil)) (rRo ccRay ccRay_ok (rRo ccSurf ccSurf_ok rNil))).enc ((t1, ()), (r0, r1, ()))).mem cBool.dec =
      .br (true) (.bind (faceAt r1 r0 t1) fun vy0 => .bind (vy0.1.right) fun vb1 => .br (vb1) (.bind (vy0.1.has 0) fun vb2 => .ret (!vb2)) (.ret (false))) (.fail) := by kernel_rfl
theorem c_newton_without_bent : PlainS Tryz.prog 135 (sc 2 [0, 1] (tClo 0 98 [0,1] (tCod 1 cIv tNil)) (rRo ccRay ccRay_ok (rRo ccSurf ccSurf_ok rNil))) cBool (fun _ => true) ((fun x => without ((fun (c : Ray × Surf × Unit) t => faceAt c.2.1 c.1 t) x.2) x.1.1)) := by
  intro x h N w vs hM hv
  obtain ⟨⟨t1, ⟨⟩⟩, ⟨r0, r1, ⟨⟩⟩⟩ := x
  refine calls_of_tree (n := 200) (EnvOK.add s_iv_Right (EnvOK.add s_iv_Has (EnvOK.add s_hit_bent_1 EnvOK.nil))) Tryz.func135 hv (Nat.le_of_ble_eq_true (by kernel_rfl)) LFn.nil hM cBool ?_
  rw [t_newton_without_bent]
  simp only [den_br, den_bind, den_ret, den_fail, den_inl, den_inr, decide_eq_true_eq]
  simp only [without]
  grind
theorem s_newton_without_bent : Ev.Spec Tryz.prog 135 (FS (sc 2 [0, 1] (tClo 0 98 [0,1] (tCod 1 cIv tNil)) (rRo ccRay ccRay_ok (rRo ccSurf ccSurf_ok rNil))) cBool (fun _ => true) ((fun x => without ((fun (c : Ray × Surf × Unit) t => faceAt c.2.1 c.1 t) x.2) x.1.1))) := specS rfl (fun vs w => Tryz.call135 vs w) c_newton_without_bent

/-! newton.Solve -/
theorem tl_newton_Solve_bent_5 (t15 : Bool) (t16 : Int) (r0 : Iv) (r1 : Iv) (r2 : Iv) (r3 : Iv) (r4 : Iv) (r5 : Iv) (r6 : Iv) (r7 : Iv) (r8 : Iv) (r9 : Ray) (r10 : Surf) :
    ev Tryz.prog (Env.add 14 (F1 cIv cBool Iv.right) (Env.add 15 (F2 cIv cIv cIv Iv.meet) (Env.add 21 (F1 cInt cIv Iv.point) (Env.add 41 (F2 cIv cIv cIv Iv.sub) (Env.add 49 (F0 cIv Iv.none) (Env.add 111 (F2 cIv cIv cIv Iv.div) (Env.add 133 (F1 cIv cInt Iv.mid) (Env.add 134 (F1 cIv (cTwo cIv cIv) Iv.split) (Env.add 135 (FS (sc 2 [0, 1] (tClo 0 98 [0,1] (tCod 1 cIv tNil)) (rRo ccRay ccRay_ok (rRo ccSurf ccSurf_ok rNil))) cBool (fun _ => true) ((fun x => without ((fun (c : Ray × Surf × Unit) t => faceAt c.2.1 c.1 t) x.2) x.1.1))) (Env.add 98 (FS (sc 3 [0, 1, 2] (tCod 0 cIv (tOwn 1 0 (tOwn 2 1 tNil))) (rRo ccRay ccRay_ok (rRo ccSurf ccSurf_ok rNil))) (cTwo cIv cIv) (fun _ => true) ((fun x => faceAt x.2.2.1 x.2.1 x.1.1))) Env.nil)))))))))) Laws.nil 200 none (loopAt Tryz.f100 5) ((sc 95 [15, 16, 4, 6, 8, 9, 10, 11, 12, 13, 14, 0] (tCod 15 cBool (tCod 16 cInt (tOwn 4 0 (tOwn 6 1 (tOwn 8 2 (tOwn 9 3 (tOwn 10 4 (tOwn 11 5 (tOwn 12 6 (tOwn 13 7 (tOwn 14 8 (tClo 0 98 [9,10] tNil)))))))))))) (rBox ccIv ccIv_ok (rBox ccIv ccIv_ok (rBox ccIv ccIv_ok (rBox ccIv ccIv_ok (rBox ccIv ccIv_ok (rBox ccIv ccIv_ok (rBox ccIv ccIv_ok (rBox ccIv ccIv_ok (rBox ccIv ccIv_ok (rRo ccRay ccRay_ok (rRo ccSurf ccSurf_ok rNil)))))))))))).enc ((t15, t16, ()), (r0, r1, r2, r3, r4, r5, r6, r7, r8, r9, r10, ()))) (backK (sc 95 [15, 16, 4, 6, 8, 9, 10, 11, 12, 13, 14, 0] (tCod 15 cBool (tCod 16 cInt (tOwn 4 0 (tOwn 6 1 (tOwn 8 2 (tOwn 9 3 (tOwn 10 4 (tOwn 11 5 (tOwn 12 6 (tOwn 13 7 (tOwn 14 8 (tClo 0 98 [9,10] tNil)))))))))))) (rBox ccIv ccIv_ok (rBox ccIv ccIv_ok (rBox ccIv ccIv_ok (rBox ccIv ccIv_ok (rBox ccIv ccIv_ok (rBox ccIv ccIv_ok (rBox ccIv ccIv_ok (rBox ccIv ccIv_ok (rBox ccIv ccIv_ok (rRo ccRay ccRay_ok (rRo ccSurf ccSurf_ok rNil)))))))))))) (ocOr (ocExit 0 (sc 95 [15, 4, 6] (tCod 15 cBool (tOwn 4 0 (tOwn 6 1 tNil))) (rBox ccIv ccIv_ok (rBox ccIv ccIv_ok rNil)))) (ocOr (ocRet (sc 95 [7, 6] (tCod 7 cInt (tOwn 6 0 tNil)) (rBox ccIv ccIv_ok rNil))) (ocGoto 0 (sc 95 [6] (tOwn 6 0 tNil) (rBox ccIv ccIv_ok rNil)))))) =
      .br (decide (t16 > 0)) (.bind (r0.mid) fun vn0 => .bind (Iv.point vn0) fun viv1 => .br (true) (.bind (faceAt r10 r9 viv1) fun vy2 => .br (true) (.bind (faceAt r10 r9 r0) fun vy3 => .bind (vy2.1.div vy3.2) fun viv4 => .bind (viv1.sub viv4) fun viv5 => .br (viv5.no) (.bind (r0.split) fun vy6 => .br (true) (.bind (without (fun t => faceAt r10 r9 t) vy6.1) fun vb7 => .br (vb7) (.ret (Sum.inl ((t15, IntKind.i64.wrap (t16 - 1), ()), vy6.2, r1, viv5, viv1, r4, vy6.1, vy6.2, vy2.1, vy3.2, r9, r10, ()))) (.br (true) (.bind (without (fun t => faceAt r10 r9 t) vy6.2) fun vb8 => .br (!vb8) (.ret (Sum.inr (Sum.inr (Sum.inr ((), r1, ()))))) (.ret (Sum.inl ((t15, IntKind.i64.wrap (t16 - 1), ()), vy6.1, r1, viv5, viv1, r4, vy6.1, vy6.2, vy2.1, vy3.2, r9, r10, ())))) (.fail))) (.fail)) (.br (t15) (.bind (r0.meet viv5) fun viv9 => .br (viv9.no) (.bind (Iv.none) fun viv10 => .ret (Sum.inr (Sum.inr (Sum.inl ((2, ()), viv10, ()))))) (.br (viv9.lo == r0.lo && (viv9.hi == r0.hi && viv9.no == r0.no)) (.ret (Sum.inr (Sum.inl ((true, ()), r0, r1, ())))) (.ret (Sum.inl ((true, IntKind.i64.wrap (t16 - 1), ()), viv9, r1, viv5, viv1, viv9, r5, r6, vy2.1, vy3.2, r9, r10, ()))))) (.br (decide (r0.lo < viv5.lo)) (.bind (r0.meet viv5) fun viv11 => .br (viv11.no) (.bind (Iv.none) fun viv12 => .ret (Sum.inr (Sum.inr (Sum.inl ((2, ()), viv12, ()))))) (.br (viv11.lo == r0.lo && (viv11.hi == r0.hi && viv11.no == r0.no)) (.ret (Sum.inr (Sum.inl ((decide (viv5.hi < r0.hi), ()), r0, r1, ())))) (.ret (Sum.inl ((decide (viv5.hi < r0.hi), IntKind.i64.wrap (t16 - 1), ()), viv11, r1, viv5, viv1, viv11, r5, r6, vy2.1, vy3.2, r9, r10, ()))))) (.bind (r0.meet viv5) fun viv13 => .br (viv13.no) (.bind (Iv.none) fun viv14 => .ret (Sum.inr (Sum.inr (Sum.inl ((2, ()), viv14, ()))))) (.br (viv13.lo == r0.lo && (viv13.hi == r0.hi && viv13.no == r0.no)) (.ret (Sum.inr (Sum.inl ((false, ()), r0, r1, ())))) (.ret (Sum.inl ((false, IntKind.i64.wrap (t16 - 1), ()), viv13, r1, viv5, viv1, viv13, r5, r6, vy2.1, vy3.2, r9, r10, ())))))))) (.fail)) (.fail)) (.ret (Sum.inr (Sum.inl ((t15, ()), r0, r1, ())))) := by kernel_rfl
theorem ok_newton_Solve_bent_5 : LOK Tryz.prog (LoopR.of (sc 95 [15, 16, 4, 6, 8, 9, 10, 11, 12, 13, 14, 0] (tCod 15 cBool (tCod 16 cInt (tOwn 4 0 (tOwn 6 1 (tOwn 8 2 (tOwn 9 3 (tOwn 10 4 (tOwn 11 5 (tOwn 12 6 (tOwn 13 7 (tOwn 14 8 (tClo 0 98 [9,10] tNil)))))))))))) (rBox ccIv ccIv_ok (rBox ccIv ccIv_ok (rBox ccIv ccIv_ok (rBox ccIv ccIv_ok (rBox ccIv ccIv_ok (rBox ccIv ccIv_ok (rBox ccIv ccIv_ok (rBox ccIv ccIv_ok (rBox ccIv ccIv_ok (rRo ccRay ccRay_ok (rRo ccSurf ccSurf_ok rNil)))))))))))) (ocOr (ocExit 0 (sc 95 [15, 4, 6] (tCod 15 cBool (tOwn 4 0 (tOwn 6 1 tNil))) (rBox ccIv ccIv_ok (rBox ccIv ccIv_ok rNil)))) (ocOr (ocRet (sc 95 [7, 6] (tCod 7 cInt (tOwn 6 0 tNil)) (rBox ccIv ccIv_ok rNil))) (ocGoto 0 (sc 95 [6] (tOwn 6 0 tNil) (rBox ccIv ccIv_ok rNil))))) (solveRun (fun _ => true) ((fun (c : Ray × Surf × Unit) t => faceAt c.2.1 c.1 t)))) (loopAt Tryz.f100 5) := by
  refine loop_ok (EnvOK.add s_iv_Right (EnvOK.add s_iv_Meet (EnvOK.add s_iv_Point (EnvOK.add s_iv_Sub (EnvOK.add s_iv_None (EnvOK.add s_iv_Div (EnvOK.add s_iv_Mid (EnvOK.add s_iv_Split (EnvOK.add s_newton_without_bent (EnvOK.add s_hit_bent_1 EnvOK.nil)))))))))) (LFn.at (fn := Tryz.f100) LFn.nil 5) (solveStep (fun _ => true) ((fun (c : Ray × Surf × Unit) t => faceAt c.2.1 c.1 t))) (n := 200) (fun x z h => ?_) (solveRun_ok _ _)
  obtain ⟨⟨t15, t16, ⟨⟩⟩, ⟨r0, r1, r2, r3, r4, r5, r6, r7, r8, r9, r10, ⟨⟩⟩⟩ := x
  rw [tl_newton_Solve_bent_5]
  by_cases hk : 0 < t16
  case neg =>
    rw [← h]
    simp only [den_br, den_bind, den_ret, den_fail, den_inl, den_inr, decide_eq_true_eq, solveStep, gt_iff_lt, hk, if_false]
  have hq : True := trivial
  rw [← h]
  simp only [den_br, den_bind, den_ret, den_fail, den_inl, den_inr, decide_eq_true_eq]
  rw [show (Iv.point r0.mid).sub ((faceAt r10 r9 (Iv.point r0.mid)).1.div (faceAt r10 r9 r0).2) = nextN (faceAt r10 r9) r0 from rfl]
  simp only [solveStep, solveSure, ivEq, gt_iff_lt, hk, hq, Bool.and_self, if_true]
  generalize nextN (faceAt r10 r9) r0 = n
  simp only [ltB]
  cases h1 : n.no
  case true =>
    simp only [if_true]
    split
    · rfl
    · split <;> simp_all
  simp only [Bool.false_eq_true, if_false]
  cases t15 <;> simp only [Bool.false_eq_true, if_true, if_false, Bool.true_or, Bool.false_or]
  by_cases h2 : r0.lo < n.lo <;> simp only [h2, if_true, if_false, decide_true, decide_false, Bool.true_and, Bool.false_and]
theorem t_newton_Solve_bent (t1 : Iv) (t2 : Int) (r0 : Ray) (r1 : Surf) :
    evFn Tryz.prog (Env.add 14 (F1 cIv cBool Iv.right) (Env.add 15 (F2 cIv cIv cIv Iv.meet) (Env.add 21 (F1 cInt cIv Iv.point) (Env.add 41 (F2 cIv cIv cIv Iv.sub) (Env.add 49 (F0 cIv Iv.none) (Env.add 111 (F2 cIv cIv cIv Iv.div) (Env.add 133 (F1 cIv cInt Iv.mid) (Env.add 134 (F1 cIv (cTwo cIv cIv) Iv.split) (Env.add 135 (FS (sc 2 [0, 1] (tClo 0 98 [0,1] (tCod 1 cIv tNil)) (rRo ccRay ccRay_ok (rRo ccSurf ccSurf_ok rNil))) cBool (fun _ => true) ((fun x => without ((fun (c : Ray × Surf × Unit) t => faceAt c.2.1 c.1 t) x.2) x.1.1))) (Env.add 98 (FS (sc 3 [0, 1, 2] (tCod 0 cIv (tOwn 1 0 (tOwn 2 1 tNil))) (rRo ccRay ccRay_ok (rRo ccSurf ccSurf_ok rNil))) (cTwo cIv cIv) (fun _ => true) ((fun x => faceAt x.2.2.1 x.2.1 x.1.1))) Env.nil)))))))))) (Laws.add 5 (LoopR.of (sc 95 [15, 16, 4, 6, 8, 9, 10, 11, 12, 13, 14, 0] (tCod 15 cBool (tCod 16 cInt (tOwn 4 0 (tOwn 6 1 (tOwn 8 2 (tOwn 9 3 (tOwn 10 4 (tOwn 11 5 (tOwn 12 6 (tOwn 13 7 (tOwn 14 8 (tClo 0 98 [9,10] tNil)))))))))))) (rBox ccIv ccIv_ok (rBox ccIv ccIv_ok (rBox ccIv ccIv_ok (rBox ccIv ccIv_ok (rBox ccIv ccIv_ok (rBox ccIv ccIv_ok (rBox ccIv ccIv_ok (rBox ccIv ccIv_ok (rBox ccIv ccIv_ok (rRo ccRay ccRay_ok (rRo ccSurf ccSurf_ok rNil)))))))))))) (ocOr (ocExit 0 (sc 95 [15, 4, 6] (tCod 15 cBool (tOwn 4 0 (tOwn 6 1 tNil))) (rBox ccIv ccIv_ok (rBox ccIv ccIv_ok rNil)))) (ocOr (ocRet (sc 95 [7, 6] (tCod 7 cInt (tOwn 6 0 tNil)) (rBox ccIv ccIv_ok rNil))) (ocGoto 0 (sc 95 [6] (tOwn 6 0 tNil) (rBox ccIv ccIv_ok rNil))))) (solveRun (fun _ => true) ((fun (c : Ray × Surf × Unit) t => faceAt c.2.1 c.1 t)))) Laws.nil) 200 Tryz.f100 (((sc 3 [0, 1, 2] (tClo 0 98 [0,1] (tCod 1 cIv (tCod 2 cInt tNil))) (rRo ccRay ccRay_ok (rRo ccSurf ccSurf_ok rNil))).enc ((t1, t2, ()), (r0, r1, ()))).tmps.map Prod.snd) ((sc 3 [0, 1, 2] (tClo 0 98 [0,1] (tCod 1 cIv (tCod 2 cInt tNil))) (rRo ccRay ccRay_ok (rRo ccSurf ccSurf_ok rNil))).enc ((t1, t2, ()), (r0, r1, ()))).mem (cTwo cIv cInt).dec =
      .bind (t1.right) fun vb0 => .br (!vb0) (.bind (Iv.none) fun viv1 => .ret ((viv1, 0))) (.get (solveRun (fun x => true) (fun c t => faceAt c.2.1 c.1 t) ((false, Max.max 0 (Min.min t2 40), ()), t1, Iv.mk 0 0 false, Iv.mk 0 0 false, Iv.mk 0 0 false, Iv.mk 0 0 false, Iv.mk 0 0 false, Iv.mk 0 0 false, Iv.mk 0 0 false, Iv.mk 0 0 false, r0, r1, ())) fun vy2 => .sum (vy2) (fun vs3 => .br (vs3.1.1) (.ret ((vs3.2.1, 1))) (.bind (Iv.none) fun viv4 => .ret ((viv4, 0)))) (fun vs5 => .sum (vs5) (fun vs6 => .ret ((vs6.2.1, vs6.1.1))) (fun vs7 => .bind (Iv.none) fun viv8 => .ret ((viv8, 0))))) := by kernel_rfl
theorem c_newton_Solve_bent : PlainS Tryz.prog 100 (sc 3 [0, 1, 2] (tClo 0 98 [0,1] (tCod 1 cIv (tCod 2 cInt tNil))) (rRo ccRay ccRay_ok (rRo ccSurf ccSurf_ok rNil))) (cTwo cIv cInt) (fun _ => true) ((fun x => _root_.Go.Proofs.YtlbmjajjldfigaaGreat.solve ((fun (c : Ray × Surf × Unit) t => faceAt c.2.1 c.1 t) x.2) x.1.1 x.1.2.1)) := by
  intro x h N w vs hM hv
  obtain ⟨⟨t1, t2, ⟨⟩⟩, ⟨r0, r1, ⟨⟩⟩⟩ := x
  refine calls_of_tree (n := 200) (EnvOK.add s_iv_Right (EnvOK.add s_iv_Meet (EnvOK.add s_iv_Point (EnvOK.add s_iv_Sub (EnvOK.add s_iv_None (EnvOK.add s_iv_Div (EnvOK.add s_iv_Mid (EnvOK.add s_iv_Split (EnvOK.add s_newton_without_bent (EnvOK.add s_hit_bent_1 EnvOK.nil)))))))))) Tryz.func100 hv (Nat.le_of_ble_eq_true (by kernel_rfl)) (LFn.add (fn := Tryz.f100) (i := 5) (by kernel_rfl) ok_newton_Solve_bent_5 LFn.nil) hM (cTwo cIv cInt) ?_
  rw [t_newton_Solve_bent]
  simp only [den_br, den_bind, den_ret, den_fail, den_inl, den_inr, den_gets, decide_eq_true_eq]
  cases h0 : t1.right
  · simp [_root_.Go.Proofs.YtlbmjajjldfigaaGreat.solve, h0]
  have hr : ∀ {C : Type} (q : C → Bool) (F : C → Iv → Iv × Iv) (res n m u a b v s : Iv) (c : C), q c = true → solveRun q F ((false, max 0 (min t2 40), ()), (t1, res, n, m, u, a, b, v, s, c)) = some (solveOut (F c) res (rounds t2) t1 false) := by
    intro C q F res n m u a b v s c hq
    simp only [solveRun]
    rw [if_pos ⟨hq, by omega, by omega⟩]
    rfl
  rw [hr _ _ _ _ _ _ _ _ _ _ _ (by first | rfl | exact h)]
  simp only [Bool.not_true, Bool.false_eq_true, if_false, Option.bind_some, _root_.Go.Proofs.YtlbmjajjldfigaaGreat.solve, h0, if_true]
  rw [← solveEnd_out _ ⟨0, 0, false⟩]
  generalize solveOut _ _ _ _ _ = y
  rcases y with ⟨⟨sure, _⟩, ⟨t, res, _⟩⟩ | ⟨⟨is, _⟩, ⟨r, _⟩⟩ | ⟨_, ⟨r, _⟩⟩
  · cases sure <;> rfl
  · rfl
  · rfl
theorem s_newton_Solve_bent : Ev.Spec Tryz.prog 100 (FS (sc 3 [0, 1, 2] (tClo 0 98 [0,1] (tCod 1 cIv (tCod 2 cInt tNil))) (rRo ccRay ccRay_ok (rRo ccSurf ccSurf_ok rNil))) (cTwo cIv cInt) (fun _ => true) ((fun x => _root_.Go.Proofs.YtlbmjajjldfigaaGreat.solve ((fun (c : Ray × Surf × Unit) t => faceAt c.2.1 c.1 t) x.2) x.1.1 x.1.2.1))) := specS rfl (fun vs w => Tryz.call100 vs w) c_newton_Solve_bent

/-! hit.bent -/
theorem t_hit_bent (x0 : Surf) (x1 : Ray) (x2 : Iv) :
    evFn Tryz.prog (Env.add 49 (F0 cIv Iv.none) (Env.add 50 (F2 cInt cInt cIv Iv.of) (Env.add 98 (FS (sc 3 [0, 1, 2] (tCod 0 cIv (tOwn 1 0 (tOwn 2 1 tNil))) (rRo ccRay ccRay_ok (rRo ccSurf ccSurf_ok rNil))) (cTwo cIv cIv) (fun _ => true) ((fun x => faceAt x.2.2.1 x.2.1 x.1.1))) (Env.add 100 (FS (sc 3 [0, 1, 2] (tClo 0 98 [0,1] (tCod 1 cIv (tCod 2 cInt tNil))) (rRo ccRay ccRay_ok (rRo ccSurf ccSurf_ok rNil))) (cTwo cIv cInt) (fun _ => true) ((fun x => _root_.Go.Proofs.YtlbmjajjldfigaaGreat.solve ((fun (c : Ray × Surf × Unit) t => faceAt c.2.1 c.1 t) x.2) x.1.1 x.1.2.1))) (Env.add 98 (FS (sc 3 [0, 1, 2] (tCod 0 cIv (tOwn 1 0 (tOwn 2 1 tNil))) (rRo ccRay ccRay_ok (rRo ccSurf ccSurf_ok rNil))) (cTwo cIv cIv) (fun _ => true) ((fun x => faceAt x.2.2.1 x.2.1 x.1.1))) Env.nil))))) Laws.nil 200 Tryz.f43 [cSurf.av x0, cRay.av x1, cIv.av x2] [] (cTwo cIv cInt).dec =
      .bind (Iv.of (IntKind.i64.wrap (x2.lo - 65536)) (IntKind.i64.wrap (x2.hi + 65536))) fun viv0 => .br (true) (.bind (solve (fun t => faceAt x0 x1 t) viv0 20) fun vy1 => .br (vy1.2 != 1) (.bind (Iv.none) fun viv2 => .ret ((viv2, 0))) (.ret ((vy1.1, 1)))) (.fail) := by kernel_rfl
theorem c_hit_bent (x0 : Surf) (x1 : Ray) (x2 : Iv) : Plain Tryz.prog 43 [cSurf.enc x0, cRay.enc x1, cIv.enc x2] ((cTwo cIv cInt).enc (hitBent x0 x1 x2)) :=
  plain_of_tree (n := 200) (EnvOK.add s_iv_None (EnvOK.add s_iv_Of (EnvOK.add s_hit_bent_1 (EnvOK.add s_newton_Solve_bent (EnvOK.add s_hit_bent_1 EnvOK.nil))))) Tryz.func43 (args := [cSurf.av x0, cRay.av x1, cIv.av x2]) (by simp only [AV.vals, Cod.av_val]) (Nat.le_of_ble_eq_true (by kernel_rfl)) LFn.nil (cTwo cIv cInt) (by
    rw [t_hit_bent]
    simp only [den_br, den_bind, den_ret, den_fail, den_inl, den_inr, decide_eq_true_eq]
    simp only [hitBent, bentT]
    grind)
theorem s_hit_bent : Ev.Spec Tryz.prog 43 (F3 cSurf cRay cIv (cTwo cIv cInt) hitBent) := spec3 (fun vs w => Tryz.call43 vs w) c_hit_bent

/-! hit.Of -/
theorem t_hit_Of (x0 : Surf) (x1 : Ray) :
    evFn Tryz.prog (Env.add 41 (F2 cIv cIv cIv Iv.sub) (Env.add 42 (F3 cSurf cV cV (cTwo cIv cInt) hitRound) (Env.add 43 (F3 cSurf cRay cIv (cTwo cIv cInt) hitBent) (Env.add 44 (F1 cInt (cThree cIv cV cInt) ((fun is => (Iv.none, V.none, is)))) (Env.add 45 (F2 cRay cIv cV along) (Env.add 46 (F1 cV cBool V.right) Env.nil)))))) Laws.nil 200 Tryz.f13 [cSurf.av x0, cRay.av x1] [] (cThree cIv cV cInt).dec =
      .bind (x1.o.z.sub x0.at_) fun viv0 => .bind (hitRound x0 (V.mk x1.o.x x1.o.y viv0) x1.d) fun vy1 => .br (x0.bent) (.br (vy1.2 == 1) (.bind (hitBent x0 (Ray.mk (V.mk x1.o.x x1.o.y viv0) x1.d) vy1.1) fun vy2 => .br (vy2.2 != 1) (.bind ((Iv.none, V.none, vy2.2)) fun vy3 => .ret (vy3)) (.bind (along (Ray.mk (V.mk x1.o.x x1.o.y viv0) x1.d) vy2.1) fun vv4 => .bind (vv4.right) fun vb5 => .br (!vb5) (.bind ((Iv.none, V.none, 0)) fun vy6 => .ret (vy6)) (.ret ((vy2.1, vv4, 1))))) (.br (vy1.2 != 1) (.bind ((Iv.none, V.none, vy1.2)) fun vy7 => .ret (vy7)) (.bind (along (Ray.mk (V.mk x1.o.x x1.o.y viv0) x1.d) vy1.1) fun vv8 => .bind (vv8.right) fun vb9 => .br (!vb9) (.bind ((Iv.none, V.none, 0)) fun vy10 => .ret (vy10)) (.ret ((vy1.1, vv8, 1)))))) (.br (vy1.2 != 1) (.bind ((Iv.none, V.none, vy1.2)) fun vy11 => .ret (vy11)) (.bind (along (Ray.mk (V.mk x1.o.x x1.o.y viv0) x1.d) vy1.1) fun vv12 => .bind (vv12.right) fun vb13 => .br (!vb13) (.bind ((Iv.none, V.none, 0)) fun vy14 => .ret (vy14)) (.ret ((vy1.1, vv12, 1))))) := by kernel_rfl
theorem c_hit_Of (x0 : Surf) (x1 : Ray) : Plain Tryz.prog 13 [cSurf.enc x0, cRay.enc x1] ((cThree cIv cV cInt).enc (hitOf x0 x1)) :=
  plain_of_tree (n := 200) (EnvOK.add s_iv_Sub (EnvOK.add s_hit_round (EnvOK.add s_hit_bent (EnvOK.add s_hit_none (EnvOK.add s_vec_Along (EnvOK.add s_vec_Right EnvOK.nil)))))) Tryz.func13 (args := [cSurf.av x0, cRay.av x1]) (by simp only [AV.vals, Cod.av_val]) (Nat.le_of_ble_eq_true (by kernel_rfl)) LFn.nil (cThree cIv cV cInt) (by
    rw [t_hit_Of]
    simp only [den_br, den_bind, den_ret, den_fail, den_inl, den_inr, decide_eq_true_eq]
    simp only [hitOf, hitAt, hitEnd, Ray.back]
    grind)
theorem s_hit_Of : Ev.Spec Tryz.prog 13 (F2 cSurf cRay (cThree cIv cV cInt) hitOf) := spec2 (fun vs w => Tryz.call13 vs w) c_hit_Of

/-! normal.Of -/
theorem t_normal_Of (x0 : Surf) (x1 : V) :
    evFn Tryz.prog (Env.add 20 (F2 cIv cIv cIv Iv.add) (Env.add 21 (F1 cInt cIv Iv.point) (Env.add 23 (F3 cIv cIv cIv cV V.mk) (Env.add 41 (F2 cIv cIv cIv Iv.sub) (Env.add 55 (F1 cIv cIv Iv.sqr) (Env.add 71 (F1 cV cV V.unit) (Env.add 94 (F1 cIv cIv Iv.neg) (Env.add 95 (F2 cIv cIv cIv Iv.mul) (Env.add 96 (F2 cIv cInt cIv Iv.times) (Env.add 99 (F2 cSurf cIv (cTwo cIv cIv) sagOf) Env.nil)))))))))) Laws.nil 200 Tryz.f57 [cSurf.av x0, cV.av x1] [] cV.dec =
      .bind (Iv.point 65536) fun viv0 => .br (!x0.bent) (.bind (x0.curve.mul x1.x) fun viv1 => .bind (viv1.neg) fun viv2 => .bind (x0.curve.mul x1.y) fun viv3 => .bind (viv3.neg) fun viv4 => .bind (x0.conic.mul x1.z) fun viv5 => .bind (x0.curve.mul viv5) fun viv6 => .bind (viv0.sub viv6) fun viv7 => .bind (V.mk viv2 viv4 viv7) fun vv8 => .bind (vv8.unit) fun vv9 => .ret (vv9)) (.bind (x1.x.sqr) fun viv10 => .bind (x1.y.sqr) fun viv11 => .bind (viv10.add viv11) fun viv12 => .bind (sagOf x0 viv12) fun vy13 => .bind (vy13.2.mul x1.x) fun viv14 => .bind (viv14.times 2) fun viv15 => .bind (viv15.neg) fun viv16 => .bind (vy13.2.mul x1.y) fun viv17 => .bind (viv17.times 2) fun viv18 => .bind (viv18.neg) fun viv19 => .bind (V.mk viv16 viv19 viv0) fun vv20 => .bind (vv20.unit) fun vv21 => .ret (vv21)) := by kernel_rfl
theorem c_normal_Of (x0 : Surf) (x1 : V) : Plain Tryz.prog 57 [cSurf.enc x0, cV.enc x1] (cV.enc (normalOf x0 x1)) :=
  plain_of_tree (n := 200) (EnvOK.add s_iv_Add (EnvOK.add s_iv_Point (EnvOK.add s_vec_Of (EnvOK.add s_iv_Sub (EnvOK.add s_iv_Sqr (EnvOK.add s_vec_Unit (EnvOK.add s_iv_Neg (EnvOK.add s_iv_Mul (EnvOK.add s_iv_Times (EnvOK.add s_sag_Of EnvOK.nil)))))))))) Tryz.func57 (args := [cSurf.av x0, cV.av x1]) (by simp only [AV.vals, Cod.av_val]) (Nat.le_of_ble_eq_true (by kernel_rfl)) LFn.nil cV (by
    rw [t_normal_Of]
    simp only [den_br, den_bind, den_ret, den_fail, den_inl, den_inr, decide_eq_true_eq]
    simp only [normalOf, normalBent, normalFlat]
    cases hb : x0.bent <;> simp)
theorem s_normal_Of : Ev.Spec Tryz.prog 57 (F2 cSurf cV cV normalOf) := spec2 (fun vs w => Tryz.call57 vs w) c_normal_Of

/-! step.Go -/
theorem t_step_Go (x0 : Surf) (x1 : Ray) :
    evFn Tryz.prog (Env.add 13 (F2 cSurf cRay (cThree cIv cV cInt) hitOf) (Env.add 20 (F2 cIv cIv cIv Iv.add) (Env.add 54 (F2 cIv cIv cInt notAbove) (Env.add 55 (F1 cIv cIv Iv.sqr) (Env.add 56 (F3 cV cV cIv (cTwo cV cInt) bend) (Env.add 57 (F2 cSurf cV cV normalOf) (Env.add 58 (F0 cRay Ray.none) Env.nil))))))) Laws.nil 200 Tryz.f22 [cSurf.av x0, cRay.av x1] [] (cTwo cRay cInt).dec =
      .bind (hitOf x0 x1) fun vy0 => .br (vy0.2.2 != 1) (.br (vy0.2.2 == 2) (.bind (Ray.none) fun vra1 => .ret ((vra1, 2))) (.bind (Ray.none) fun vra2 => .ret ((vra2, 3)))) (.bind (vy0.2.1.x.sqr) fun viv3 => .bind (vy0.2.1.y.sqr) fun viv4 => .bind (viv3.add viv4) fun viv5 => .bind (notAbove viv5 x0.open2) fun vn6 => .br (vn6 != 1) (.br (vn6 == 2) (.bind (Ray.none) fun vra7 => .ret ((vra7, 2))) (.bind (Ray.none) fun vra8 => .ret ((vra8, 3)))) (.bind (vy0.2.1.z.add x0.at_) fun viv9 => .br (viv9.no) (.bind (Ray.none) fun vra10 => .ret ((vra10, 3))) (.br (x0.stop) (.ret ((Ray.mk (V.mk vy0.2.1.x vy0.2.1.y viv9) x1.d, 1))) (.bind (normalOf x0 vy0.2.1) fun vv11 => .bind (bend x1.d vv11 x0.ratio) fun vy12 => .br (vy12.2 != 1) (.br (vy12.2 == 2) (.bind (Ray.none) fun vra13 => .ret ((vra13, 2))) (.bind (Ray.none) fun vra14 => .ret ((vra14, 3)))) (.ret ((Ray.mk (V.mk vy0.2.1.x vy0.2.1.y viv9) vy12.1, 1))))))) := by kernel_rfl
theorem c_step_Go (x0 : Surf) (x1 : Ray) : Plain Tryz.prog 22 [cSurf.enc x0, cRay.enc x1] ((cTwo cRay cInt).enc (stepOf x0 x1)) :=
  plain_of_tree (n := 200) (EnvOK.add s_hit_Of (EnvOK.add s_iv_Add (EnvOK.add s_tri_NotAbove (EnvOK.add s_iv_Sqr (EnvOK.add s_snell_Bend (EnvOK.add s_normal_Of (EnvOK.add s_step_nones EnvOK.nil))))))) Tryz.func22 (args := [cSurf.av x0, cRay.av x1]) (by simp only [AV.vals, Cod.av_val]) (Nat.le_of_ble_eq_true (by kernel_rfl)) LFn.nil (cTwo cRay cInt) (by
    rw [t_step_Go]
    simp only [den_br, den_bind, den_ret, den_fail, den_inl, den_inr, decide_eq_true_eq]
    simp only [stepOf, stepEnd, lost]
    grind)
theorem s_step_Go : Ev.Spec Tryz.prog 22 (F2 cSurf cRay (cTwo cRay cInt) stepOf) := spec2 (fun vs w => Tryz.call22 vs w) c_step_Go
end Go.Proofs.YtlbmjajjldfigaaGreat
