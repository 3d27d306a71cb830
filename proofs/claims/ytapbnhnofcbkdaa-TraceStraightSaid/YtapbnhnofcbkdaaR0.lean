/-
  Contracts of calls, written by a small program of this session out of the evaluator's trees.
-/
import Derived.Test.YtapbnhnofcbkdaaCore
import Derived.Test.YtapbnhnofcbkdaaCoreLoops
import Derived.Test.YtapbnhnofcbkdaaCore2
import Derived.Test.YtapbnhnofcbkdaaCore3
import Derived.Test.YtapbnhnofcbkdaaCore4
import Derived.Test.YtapbnhnofcbkdaaCore5
import Derived.Test.YtapbnhnofcbkdaaCore6
import Derived.Test.YtapbnhnofcbkdaaCore7
import Derived.Test.YtapbnhnofcbkdaaCore8
import Derived.Test.YtapbnhnofcbkdaaEvMore
import Derived.Test.YtapbnhnofcbkdaaQ0
import Derived.Test.YtapbnhnofcbkdaaL0
import Derived.Test.YtapbnhnofcbkdaaEvCod
import Derived.Test.YtapbnhnofcbkdaaEvRet
import Derived.Test.YtapbnhnofcbkdaaProg
namespace Go.Proofs.Ytapbnhnofcbkdaa
open Go Go.RowKit Ev
set_option maxRecDepth 100000
set_option linter.unusedVariables false
set_option linter.unusedSimpArgs false

/-! trace.Trace -/
theorem tl_trace_Trace_2 (t12 : Int) (t11 : Int) (r0 : Ray) (r1 : Res) (r2 : Iv) (r3 : List Surf) :
    ev Try.prog (Env.add 35 (F2 cSurf cRay (cTwo cRay cInt) stepOf) Env.nil) Laws.nil 200 none (loopAt Try.f21 2) ((sc 36 [12, 11, 3, 4, 2, 10] (tCod 12 cInt (tCod 11 cInt (tOwn 3 0 (tOwn 4 1 (tOwn 2 2 (tSl 10 3 tNil)))))) (rBox ccRay ccRay_ok (rBox ccRes ccRes_ok (rBoxSl 3 ccIv ccIv_ok (rL_surf rNil))))).enc ((t12, t11, ()), (r0, r1, r2, r3, ()))) (backK (sc 36 [12, 11, 3, 4, 2, 10] (tCod 12 cInt (tCod 11 cInt (tOwn 3 0 (tOwn 4 1 (tOwn 2 2 (tSl 10 3 tNil)))))) (rBox ccRay ccRay_ok (rBox ccRes ccRes_ok (rBoxSl 3 ccIv ccIv_ok (rL_surf rNil))))) (ocOr (ocExit 0 (sc 36 [3, 4, 2] (tOwn 3 0 (tOwn 4 1 (tOwn 2 2 tNil))) (rBox ccRay ccRay_ok (rBox ccRes ccRes_ok (rBoxSl 3 ccIv ccIv_ok (rL_surf rNil)))))) (ocRet (sc 36 [4] (tOwn 4 0 tNil) (rBox ccRes ccRes_ok rNil))))) =
      .br (decide (t12 < t11)) (.br (decide (0 ≤ t12 ∧ t12 < (@Nat.cast Int _ r3.length))) (.get (r3[t12.toNat]?) fun vt0 => .bind (stepOf vt0 r0) fun vy1 => .br (vy1.2 != 1) (.ret (Sum.inr (Sum.inr ((), (vy1.2, t12, vy1.1), ())))) (.ret (Sum.inl ((IntKind.i64.wrap (t12 + 1), t11, ()), vy1.1, r1, r2, r3, ())))) (.fail)) (.ret (Sum.inr (Sum.inl ((), r0, r1, r2, r3, ())))) := by kernel_rfl
theorem ok_trace_Trace_2 : LOK Try.prog (LoopR.of (sc 36 [12, 11, 3, 4, 2, 10] (tCod 12 cInt (tCod 11 cInt (tOwn 3 0 (tOwn 4 1 (tOwn 2 2 (tSl 10 3 tNil)))))) (rBox ccRay ccRay_ok (rBox ccRes ccRes_ok (rBoxSl 3 ccIv ccIv_ok (rL_surf rNil))))) (ocOr (ocExit 0 (sc 36 [3, 4, 2] (tOwn 3 0 (tOwn 4 1 (tOwn 2 2 tNil))) (rBox ccRay ccRay_ok (rBox ccRes ccRes_ok (rBoxSl 3 ccIv ccIv_ok (rL_surf rNil)))))) (ocRet (sc 36 [4] (tOwn 4 0 tNil) (rBox ccRes ccRes_ok rNil)))) (runBy traceStep traceM)) (loopAt Try.f21 2) := by
  refine loop_ok (EnvOK.add s_step_Go EnvOK.nil) (LFn.at (fn := Try.f21) LFn.nil 2) traceStep (n := 200) (fun x z h => ?_) (runBy_ok _ _)
  obtain ⟨⟨t12, t11, ⟨⟩⟩, ⟨r0, r1, r2, r3, ⟨⟩⟩⟩ := x
  rw [tl_trace_Trace_2]
  rw [← h]
  simp only [den_br, den_bind, den_ret, den_fail, den_inl, den_inr, decide_eq_true_eq, gt_iff_lt, ge_iff_le, beq_iff_eq]
  simp only [traceStep]
  by_cases h0 : t12 < t11 <;> simp only [h0, if_true, if_false]
  by_cases h1 : 0 ≤ t12 ∧ t12 < (r3.length : Int) <;> simp only [h1, and_self, if_true, if_false]
  cases hg : r3[t12.toNat]? with
  | none => rfl
  | some a =>
    simp only [den_get, den_br, den_bind, den_ret, den_fail]
    by_cases c : (stepOf a r0).2 = 1 <;> simp [c]
theorem t_trace_Trace (t0a : Unit) (t0b : Iv) (t1 : Ray) (r0 : List Surf) :
    evFn Try.prog (Env.add 35 (F2 cSurf cRay (cTwo cRay cInt) stepOf) Env.nil) (Laws.add 2 (LoopR.of (sc 36 [12, 11, 3, 4, 2, 10] (tCod 12 cInt (tCod 11 cInt (tOwn 3 0 (tOwn 4 1 (tOwn 2 2 (tSl 10 3 tNil)))))) (rBox ccRay ccRay_ok (rBox ccRes ccRes_ok (rBoxSl 3 ccIv ccIv_ok (rL_surf rNil))))) (ocOr (ocExit 0 (sc 36 [3, 4, 2] (tOwn 3 0 (tOwn 4 1 (tOwn 2 2 tNil))) (rBox ccRay ccRay_ok (rBox ccRes ccRes_ok (rBoxSl 3 ccIv ccIv_ok (rL_surf rNil)))))) (ocRet (sc 36 [4] (tOwn 4 0 tNil) (rBox ccRes ccRes_ok rNil)))) (runBy traceStep traceM)) Laws.nil) 200 Try.f21 (((sc 2 [0, 1] (tAgg 0 0 ccNil ccNil_ok ccIv ccIv_ok (tCod 1 cRay tNil)) (rL_surf rNil)).enc ((t0a, t0b, t1, ()), (r0, ()))).tmps.map Prod.snd) ((sc 2 [0, 1] (tAgg 0 0 ccNil ccNil_ok ccIv ccIv_ok (tCod 1 cRay tNil)) (rL_surf rNil)).enc ((t0a, t0b, t1, ()), (r0, ()))).mem cRes.dec =
      .get (runBy traceStep traceM ((0, (@Nat.cast Int _ r0.length), ()), t1, (0, 0, Ray.mk (V.mk (Iv.mk 0 0 false) (Iv.mk 0 0 false) (Iv.mk 0 0 false)) (V.mk (Iv.mk 0 0 false) (Iv.mk 0 0 false) (Iv.mk 0 0 false))), t0b, r0, ())) fun vy0 => .sum (vy0) (fun vs1 => .ret ((1, (@Nat.cast Int _ vs1.2.2.2.2.1.length), vs1.2.1))) (fun vs2 => .ret (vs2.2.1)) := by kernel_rfl
theorem c_trace_Trace : PlainS Try.prog 21 (sc 2 [0, 1] (tAgg 0 0 ccNil ccNil_ok ccIv ccIv_ok (tCod 1 cRay tNil)) (rL_surf rNil)) cRes ((fun x => lenOk x.2.1)) ((fun x => traceOf x.2.1 x.1.2.2.1)) := by
  intro x h N w vs hM hv
  obtain ⟨⟨t0a, t0b, t1, ⟨⟩⟩, ⟨r0, ⟨⟩⟩⟩ := x
  refine calls_of_tree (n := 200) (EnvOK.add s_step_Go EnvOK.nil) Try.func21 hv (Nat.le_of_ble_eq_true (by kernel_rfl)) (LFn.add (fn := Try.f21) (i := 2) (by kernel_rfl) ok_trace_Trace_2 LFn.nil) hM cRes ?_
  rw [t_trace_Trace]
  have hr := trace_run (0, 0, Ray.zero) t0b r0 (lenOk_iff.1 h) t1
  rw [show (((0 : Int), (0 : Int), (⟨⟨⟨0, 0, false⟩, ⟨0, 0, false⟩, ⟨0, 0, false⟩⟩, ⟨⟨0, 0, false⟩, ⟨0, 0, false⟩, ⟨0, 0, false⟩⟩⟩ : Ray)) : Res) = (0, 0, Ray.zero) from rfl, hr]
  simp only [traceOut]
  by_cases c : (traceOf r0 t1).1 = 1
  · rw [if_pos c]
    rw [traceOf_eta c]; rfl
  · rw [if_neg c]; rfl
theorem s_trace_Trace : Ev.Spec Try.prog 21 (FS (sc 2 [0, 1] (tAgg 0 0 ccNil ccNil_ok ccIv ccIv_ok (tCod 1 cRay tNil)) (rL_surf rNil)) cRes ((fun x => lenOk x.2.1)) ((fun x => traceOf x.2.1 x.1.2.2.1))) := specS rfl (fun vs w => Try.call21 vs w) c_trace_Trace

/-! trace.Through -/
theorem t_trace_Through (t0a : Unit) (t0b : Iv) (t1 : Ray) (t2 : Iv) (r0 : List Surf) :
    evFn Try.prog (Env.add 12 (F1 cIv cBool Iv.right) (Env.add 13 (F0 cIv Iv.none) (Env.add 18 (F2 cIv cIv cIv Iv.div) (Env.add 21 (FS (sc 2 [0, 1] (tAgg 0 0 ccNil ccNil_ok ccIv ccIv_ok (tCod 1 cRay tNil)) (rL_surf rNil)) cRes ((fun x => lenOk x.2.1)) ((fun x => traceOf x.2.1 x.1.2.2.1))) (Env.add 22 (F2 cRay cIv cV along) (Env.add 23 (F2 cIv cIv cIv Iv.sub) Env.nil)))))) Laws.nil 200 Try.f10 (((sc 3 [0, 1, 2] (tAgg 0 0 ccNil ccNil_ok ccIv ccIv_ok (tCod 1 cRay (tCod 2 cIv tNil))) (rL_surf rNil)).enc ((t0a, t0b, t1, t2, ()), (r0, ()))).tmps.map Prod.snd) ((sc 3 [0, 1, 2] (tAgg 0 0 ccNil ccNil_ok ccIv ccIv_ok (tCod 1 cRay (tCod 2 cIv tNil))) (rL_surf rNil)).enc ((t0a, t0b, t1, t2, ()), (r0, ()))).mem (cThree cIv cIv cInt).dec =
      .br (Ev.lenOk r0) (.bind (traceOf r0 t1) fun vre0 => .br (vre0.1 != 1) (.bind (Iv.none) fun viv1 => .bind (Iv.none) fun viv2 => .ret ((viv1, viv2, vre0.1))) (.bind (t2.sub vre0.2.2.o.z) fun viv3 => .bind (viv3.div vre0.2.2.d.z) fun viv4 => .bind (along vre0.2.2 viv4) fun vv5 => .bind (vv5.x.right) fun vb6 => .br (!vb6) (.bind (Iv.none) fun viv7 => .bind (Iv.none) fun viv8 => .ret ((viv7, viv8, 3))) (.bind (vv5.y.right) fun vb9 => .br (!vb9) (.bind (Iv.none) fun viv10 => .bind (Iv.none) fun viv11 => .ret ((viv10, viv11, 3))) (.ret ((vv5.x, vv5.y, 1)))))) (.fail) := by kernel_rfl
theorem c_trace_Through : PlainS Try.prog 10 (sc 3 [0, 1, 2] (tAgg 0 0 ccNil ccNil_ok ccIv ccIv_ok (tCod 1 cRay (tCod 2 cIv tNil))) (rL_surf rNil)) (cThree cIv cIv cInt) ((fun x => lenOk x.2.1)) ((fun x => throughOf x.2.1 x.1.2.2.1 x.1.2.2.2.1)) := by
  intro x h N w vs hM hv
  obtain ⟨⟨t0a, t0b, t1, t2, ⟨⟩⟩, ⟨r0, ⟨⟩⟩⟩ := x
  refine calls_of_tree (n := 200) (EnvOK.add s_iv_Right (EnvOK.add s_iv_None (EnvOK.add s_iv_Div (EnvOK.add s_trace_Trace (EnvOK.add s_vec_Along (EnvOK.add s_iv_Sub EnvOK.nil)))))) Try.func10 hv (Nat.le_of_ble_eq_true (by kernel_rfl)) LFn.nil hM (cThree cIv cIv cInt) ?_
  rw [t_trace_Through]
  simp only [den_br, den_bind, den_ret, den_fail, den_inl, den_inr, decide_eq_true_eq, gt_iff_lt, ge_iff_le, beq_iff_eq]
  simp only at h
  simp only [h, if_true, throughOf]
  by_cases c : (traceOf r0 t1).1 = 1
  · have c' : ((traceOf r0 t1).1 != 1) = false := by simp [c]
    simp only [c, c', bne_self_eq_false, Bool.false_eq_true, if_true, if_false]
    generalize along (traceOf r0 t1).2.2 ((t2.sub (traceOf r0 t1).2.2.o.z).div (traceOf r0 t1).2.2.d.z) = p
    by_cases c1 : p.x.right = true <;> by_cases c2 : p.y.right = true <;> simp [c1, c2, lost3]
  · have c' : ((traceOf r0 t1).1 != 1) = true := by simp [c]
    simp only [c, c', if_true, if_false]
theorem s_trace_Through : Ev.Spec Try.prog 10 (FS (sc 3 [0, 1, 2] (tAgg 0 0 ccNil ccNil_ok ccIv ccIv_ok (tCod 1 cRay (tCod 2 cIv tNil))) (rL_surf rNil)) (cThree cIv cIv cInt) ((fun x => lenOk x.2.1)) ((fun x => throughOf x.2.1 x.1.2.2.1 x.1.2.2.2.1))) := specS rfl (fun vs w => Try.call10 vs w) c_trace_Through
end Go.Proofs.Ytapbnhnofcbkdaa
