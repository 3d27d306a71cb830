/-
  Contracts of calls, written by a small program of this session out of the evaluator's trees.
-/
import Derived.Test.YthdpjmkknodmpaaGreatCore
import Derived.Test.YthdpjmkknodmpaaGreatCoreLoops
import Derived.Test.YthdpjmkknodmpaaGreatCore2
import Derived.Test.YthdpjmkknodmpaaGreatCore3
import Derived.Test.YthdpjmkknodmpaaGreatCore4
import Derived.Test.YthdpjmkknodmpaaGreatCore5
import Derived.Test.YthdpjmkknodmpaaGreatCore6
import Derived.Test.YthdpjmkknodmpaaGreatCore7
import Derived.Test.YthdpjmkknodmpaaGreatCore8
import Derived.Test.YthdpjmkknodmpaaGreatEvMore
import Derived.Test.YthdpjmkknodmpaaGreatQ2
import Derived.Test.YthdpjmkknodmpaaGreatL0
import Derived.Test.YthdpjmkknodmpaaGreatEvCod
import Derived.Test.YthdpjmkknodmpaaGreatEvRet
import Derived.Test.YthdpjmkknodmpaaGreatProg
import Derived.Test.YthdpjmkknodmpaaGreatR0
namespace Go.Proofs.YthdpjmkknodmpaaGreat
open Go Go.RowKit Ev
set_option maxRecDepth 100000
set_option linter.unusedVariables false
set_option linter.unusedSimpArgs false

/-! trace.Through -/
theorem t_trace_Through (t0a : Unit) (t0b : Iv) (t1 : Ray) (t2 : Iv) (r0 : List Surf) :
    evFn Tryz.prog (Env.add 43 (F1 cIv cBool Iv.right) (Env.add 44 (F0 cIv Iv.none) (Env.add 57 (FS (sc 2 [0, 1] (tAgg 0 0 ccNil ccNil_ok ccIv ccIv_ok (tCod 1 cRay tNil)) (rL_surf rNil)) cRes ((fun x => lenOk x.2.1)) ((fun x => traceOf x.2.1 x.1.2.2.1))) (Env.add 58 (F2 cRay cIv cV along) (Env.add 59 (F2 cIv cIv cIv Iv.div) (Env.add 60 (F2 cIv cIv cIv Iv.sub) Env.nil)))))) Laws.nil 200 Tryz.f26 (((sc 3 [0, 1, 2] (tAgg 0 0 ccNil ccNil_ok ccIv ccIv_ok (tCod 1 cRay (tCod 2 cIv tNil))) (rL_surf rNil)).enc ((t0a, t0b, t1, t2, ()), (r0, ()))).tmps.map Prod.snd) ((sc 3 [0, 1, 2] (tAgg 0 0 ccNil ccNil_ok ccIv ccIv_ok (tCod 1 cRay (tCod 2 cIv tNil))) (rL_surf rNil)).enc ((t0a, t0b, t1, t2, ()), (r0, ()))).mem (cThree cIv cIv cInt).dec =
      .br (Go.Proofs.YthdpjmkknodmpaaGreat.Ev.lenOk r0)
       (
        .bind (Go.Proofs.YthdpjmkknodmpaaGreat.traceOf r0 t1) fun vre0 =>
        .br (vre0.fst != 1)
         (
          .bind (Go.Proofs.YthdpjmkknodmpaaGreat.Iv.none) fun viv1 =>
          .bind (Go.Proofs.YthdpjmkknodmpaaGreat.Iv.none) fun viv2 =>
          .ret ((viv1, viv2, vre0.fst)))
         (
          .bind (t2.sub vre0.snd.snd.o.z) fun viv3 =>
          .bind (viv3.div vre0.snd.snd.d.z) fun viv4 =>
          .bind (Go.Proofs.YthdpjmkknodmpaaGreat.along vre0.snd.snd viv4) fun vv5 =>
          .bind (vv5.x.right) fun vb6 =>
          .br (!vb6)
           (
            .bind (Go.Proofs.YthdpjmkknodmpaaGreat.Iv.none) fun viv7 =>
            .bind (Go.Proofs.YthdpjmkknodmpaaGreat.Iv.none) fun viv8 =>
            .ret ((viv7, viv8, 3)))
           (
            .bind (vv5.y.right) fun vb9 =>
            .br (!vb9)
             (
              .bind (Go.Proofs.YthdpjmkknodmpaaGreat.Iv.none) fun viv10 =>
              .bind (Go.Proofs.YthdpjmkknodmpaaGreat.Iv.none) fun viv11 =>
              .ret ((viv10, viv11, 3)))
             (
              .ret ((vv5.x, vv5.y, 1))))))
       (
        .fail) := by kernel_rfl
theorem c_trace_Through : PlainS Tryz.prog 26 (sc 3 [0, 1, 2] (tAgg 0 0 ccNil ccNil_ok ccIv ccIv_ok (tCod 1 cRay (tCod 2 cIv tNil))) (rL_surf rNil)) (cThree cIv cIv cInt) ((fun x => lenOk x.2.1)) ((fun x => throughOf x.2.1 x.1.2.2.1 x.1.2.2.2.1)) := by
  intro x h N w vs hM hv
  obtain ⟨⟨t0a, t0b, t1, t2, ⟨⟩⟩, ⟨r0, ⟨⟩⟩⟩ := x
  refine calls_of_tree (n := 200) (EnvOK.add s_iv_Right (EnvOK.add s_iv_None (EnvOK.add s_trace_Trace (EnvOK.add s_vec_Along (EnvOK.add s_iv_Div (EnvOK.add s_iv_Sub EnvOK.nil)))))) Tryz.func26 hv (Nat.le_of_ble_eq_true (by kernel_rfl)) LFn.nil hM (cThree cIv cIv cInt) ?_
  rw [t_trace_Through]
  simp only [den_br, den_bind, den_ret, den_fail, den_inl, den_inr, decide_eq_true_eq, gt_iff_lt, ge_iff_le, beq_iff_eq]
  simp only at h
  simp only [h, if_true, throughOf]
  by_cases c : (traceOf r0 t1).1 = 1
  · have c' : ((traceOf r0 t1).1 != 1) = false := by simp [c]
    simp only [c, c', bne_self_eq_false, Bool.false_eq_true, if_true, if_false]
    generalize along (traceOf r0 t1).2.2 ((t2.sub (traceOf r0 t1).2.2.o.z).div (traceOf r0 t1).2.2.d.z) = p
    by_cases c1 : p.x.right = true <;> by_cases c2 : p.y.right = true <;> simp [c1, c2, lost3]
  · have c' : ((traceOf r0 t1).1 != 1) = true := by simp [c]
    simp only [c, c', if_true, if_false]
theorem s_trace_Through : Ev.Spec Tryz.prog 26 (FS (sc 3 [0, 1, 2] (tAgg 0 0 ccNil ccNil_ok ccIv ccIv_ok (tCod 1 cRay (tCod 2 cIv tNil))) (rL_surf rNil)) (cThree cIv cIv cInt) ((fun x => lenOk x.2.1)) ((fun x => throughOf x.2.1 x.1.2.2.1 x.1.2.2.2.1))) := specS rfl (fun vs w => Tryz.call26 vs w) c_trace_Through

/-! meniscusref14.Reach -/
theorem t_meniscusref14_Reach (t0a : Unit) (t0b : Iv) (t1 : Ray) (t2 : Iv) (r0 : List Surf) :
    evFn Tryz.prog (Env.add 52 (F2 cIv cIv cIv Iv.div) (Env.add 62 (FS (sc 2 [0, 1] (tAgg 0 0 ccNil ccNil_ok ccIv ccIv_ok (tCod 1 cRay tNil)) (rL_surf rNil)) cRes ((fun x => lenOk x.2.1)) ((fun x => traceOf x.2.1 x.1.2.2.1))) (Env.add 63 (F0 cIv Iv.none) (Env.add 64 (F2 cRay cIv cV along) (Env.add 65 (F2 cIv cIv cIv Iv.sub) (Env.add 66 (F1 cIv cBool Iv.right) Env.nil)))))) Laws.nil 200 Tryz.f31 (((sc 3 [0, 1, 2] (tAgg 0 0 ccNil ccNil_ok ccIv ccIv_ok (tCod 1 cRay (tCod 2 cIv tNil))) (rL_surf rNil)).enc ((t0a, t0b, t1, t2, ()), (r0, ()))).tmps.map Prod.snd) ((sc 3 [0, 1, 2] (tAgg 0 0 ccNil ccNil_ok ccIv ccIv_ok (tCod 1 cRay (tCod 2 cIv tNil))) (rL_surf rNil)).enc ((t0a, t0b, t1, t2, ()), (r0, ()))).mem (cThree cIv cIv cInt).dec =
      .br (Go.Proofs.YthdpjmkknodmpaaGreat.Ev.lenOk r0)
       (
        .bind (Go.Proofs.YthdpjmkknodmpaaGreat.traceOf r0 t1) fun vre0 =>
        .br (vre0.fst != 1)
         (
          .bind (Go.Proofs.YthdpjmkknodmpaaGreat.Iv.none) fun viv1 =>
          .bind (Go.Proofs.YthdpjmkknodmpaaGreat.Iv.none) fun viv2 =>
          .ret ((viv1, viv2, vre0.fst)))
         (
          .bind (t2.sub vre0.snd.snd.o.z) fun viv3 =>
          .bind (viv3.div vre0.snd.snd.d.z) fun viv4 =>
          .bind (Go.Proofs.YthdpjmkknodmpaaGreat.along vre0.snd.snd viv4) fun vv5 =>
          .bind (vv5.x.right) fun vb6 =>
          .br (!vb6)
           (
            .bind (Go.Proofs.YthdpjmkknodmpaaGreat.Iv.none) fun viv7 =>
            .bind (Go.Proofs.YthdpjmkknodmpaaGreat.Iv.none) fun viv8 =>
            .ret ((viv7, viv8, 3)))
           (
            .bind (vv5.y.right) fun vb9 =>
            .br (!vb9)
             (
              .bind (Go.Proofs.YthdpjmkknodmpaaGreat.Iv.none) fun viv10 =>
              .bind (Go.Proofs.YthdpjmkknodmpaaGreat.Iv.none) fun viv11 =>
              .ret ((viv10, viv11, 3)))
             (
              .ret ((vv5.x, vv5.y, 1))))))
       (
        .fail) := by kernel_rfl
theorem c_meniscusref14_Reach : PlainS Tryz.prog 31 (sc 3 [0, 1, 2] (tAgg 0 0 ccNil ccNil_ok ccIv ccIv_ok (tCod 1 cRay (tCod 2 cIv tNil))) (rL_surf rNil)) (cThree cIv cIv cInt) ((fun x => lenOk x.2.1)) ((fun x => throughOf x.2.1 x.1.2.2.1 x.1.2.2.2.1)) := by
  intro x h N w vs hM hv
  obtain ⟨⟨t0a, t0b, t1, t2, ⟨⟩⟩, ⟨r0, ⟨⟩⟩⟩ := x
  refine calls_of_tree (n := 200) (EnvOK.add s_meniscusref1_DivIv (EnvOK.add s_meniscusref14_Trace (EnvOK.add s_meniscusref14_none (EnvOK.add s_meniscusref1_Along (EnvOK.add s_meniscusref1_Sub (EnvOK.add s_meniscusref1_Right EnvOK.nil)))))) Tryz.func31 hv (Nat.le_of_ble_eq_true (by kernel_rfl)) LFn.nil hM (cThree cIv cIv cInt) ?_
  rw [t_meniscusref14_Reach]
  simp only [den_br, den_bind, den_ret, den_fail, den_inl, den_inr, decide_eq_true_eq, gt_iff_lt, ge_iff_le, beq_iff_eq]
  simp only at h
  simp only [h, if_true, throughOf]
  by_cases c : (traceOf r0 t1).1 = 1
  · have c' : ((traceOf r0 t1).1 != 1) = false := by simp [c]
    simp only [c, c', bne_self_eq_false, Bool.false_eq_true, if_true, if_false]
    generalize along (traceOf r0 t1).2.2 ((t2.sub (traceOf r0 t1).2.2.o.z).div (traceOf r0 t1).2.2.d.z) = p
    by_cases c1 : p.x.right = true <;> by_cases c2 : p.y.right = true <;> simp [c1, c2, lost3]
  · have c' : ((traceOf r0 t1).1 != 1) = true := by simp [c]
    simp only [c, c', if_true, if_false]
theorem s_meniscusref14_Reach : Ev.Spec Tryz.prog 31 (FS (sc 3 [0, 1, 2] (tAgg 0 0 ccNil ccNil_ok ccIv ccIv_ok (tCod 1 cRay (tCod 2 cIv tNil))) (rL_surf rNil)) (cThree cIv cIv cInt) ((fun x => lenOk x.2.1)) ((fun x => throughOf x.2.1 x.1.2.2.1 x.1.2.2.2.1))) := specS rfl (fun vs w => Tryz.call31 vs w) c_meniscusref14_Reach
end Go.Proofs.YthdpjmkknodmpaaGreat
