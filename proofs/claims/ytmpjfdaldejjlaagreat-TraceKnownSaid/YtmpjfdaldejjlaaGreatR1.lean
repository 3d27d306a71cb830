/-
  Contracts of calls, written by a small program of this session out of the evaluator's trees.
-/
import Derived.Test.YtmpjfdaldejjlaaGreatCore
import Derived.Test.YtmpjfdaldejjlaaGreatCoreLoops
import Derived.Test.YtmpjfdaldejjlaaGreatCore2
import Derived.Test.YtmpjfdaldejjlaaGreatCore3
import Derived.Test.YtmpjfdaldejjlaaGreatCore4
import Derived.Test.YtmpjfdaldejjlaaGreatCore5
import Derived.Test.YtmpjfdaldejjlaaGreatCore6
import Derived.Test.YtmpjfdaldejjlaaGreatCore7
import Derived.Test.YtmpjfdaldejjlaaGreatCore8
import Derived.Test.YtmpjfdaldejjlaaGreatEvMore
import Derived.Test.YtmpjfdaldejjlaaGreatQ2
import Derived.Test.YtmpjfdaldejjlaaGreatL0
import Derived.Test.YtmpjfdaldejjlaaGreatEvCod
import Derived.Test.YtmpjfdaldejjlaaGreatEvRet
import Derived.Test.YtmpjfdaldejjlaaGreatProg
import Derived.Test.YtmpjfdaldejjlaaGreatR0
namespace Go.Proofs.YtmpjfdaldejjlaaGreat
open Go Go.RowKit Ev
set_option maxRecDepth 100000
set_option linter.unusedVariables false
set_option linter.unusedSimpArgs false

/-! trace.Through -/
theorem t_trace_Through (t0a : Unit) (t0b : Iv) (t1 : Ray) (t2 : Iv) (r0 : List Surf) :
    evFn Tryz.prog (Env.add 23 (F1 cIv cBool Iv.right) (Env.add 37 (FS (sc 2 [0, 1] (tAgg 0 0 ccNil ccNil_ok ccIv ccIv_ok (tCod 1 cRay tNil)) (rL_surf rNil)) cRes ((fun x => lenOk x.2.1)) ((fun x => traceOf x.2.1 x.1.2.2.1))) (Env.add 44 (F0 cIv Iv.none) (Env.add 56 (F2 cIv cIv cIv Iv.sub) (Env.add 60 (F2 cRay cIv cV along) (Env.add 94 (F2 cIv cIv cIv Iv.div) Env.nil)))))) Laws.nil 200 Tryz.f43 (((sc 3 [0, 1, 2] (tAgg 0 0 ccNil ccNil_ok ccIv ccIv_ok (tCod 1 cRay (tCod 2 cIv tNil))) (rL_surf rNil)).enc ((t0a, t0b, t1, t2, ()), (r0, ()))).tmps.map Prod.snd) ((sc 3 [0, 1, 2] (tAgg 0 0 ccNil ccNil_ok ccIv ccIv_ok (tCod 1 cRay (tCod 2 cIv tNil))) (rL_surf rNil)).enc ((t0a, t0b, t1, t2, ()), (r0, ()))).mem (cThree cIv cIv cInt).dec =
      .br (Go.Proofs.YtmpjfdaldejjlaaGreat.Ev.lenOk r0)
       (
        .bind (Go.Proofs.YtmpjfdaldejjlaaGreat.traceOf r0 t1) fun vre0 =>
        .br (vre0.fst != 1)
         (
          .bind (Go.Proofs.YtmpjfdaldejjlaaGreat.Iv.none) fun viv1 =>
          .bind (Go.Proofs.YtmpjfdaldejjlaaGreat.Iv.none) fun viv2 =>
          .ret ((viv1, viv2, vre0.fst)))
         (
          .bind (t2.sub vre0.snd.snd.o.z) fun viv3 =>
          .bind (viv3.div vre0.snd.snd.d.z) fun viv4 =>
          .bind (Go.Proofs.YtmpjfdaldejjlaaGreat.along vre0.snd.snd viv4) fun vv5 =>
          .bind (vv5.x.right) fun vb6 =>
          .br (!vb6)
           (
            .bind (Go.Proofs.YtmpjfdaldejjlaaGreat.Iv.none) fun viv7 =>
            .bind (Go.Proofs.YtmpjfdaldejjlaaGreat.Iv.none) fun viv8 =>
            .ret ((viv7, viv8, 3)))
           (
            .bind (vv5.y.right) fun vb9 =>
            .br (!vb9)
             (
              .bind (Go.Proofs.YtmpjfdaldejjlaaGreat.Iv.none) fun viv10 =>
              .bind (Go.Proofs.YtmpjfdaldejjlaaGreat.Iv.none) fun viv11 =>
              .ret ((viv10, viv11, 3)))
             (
              .ret ((vv5.x, vv5.y, 1))))))
       (
        .fail) := by kernel_rfl
theorem c_trace_Through : PlainS Tryz.prog 43 (sc 3 [0, 1, 2] (tAgg 0 0 ccNil ccNil_ok ccIv ccIv_ok (tCod 1 cRay (tCod 2 cIv tNil))) (rL_surf rNil)) (cThree cIv cIv cInt) ((fun x => lenOk x.2.1)) ((fun x => throughOf x.2.1 x.1.2.2.1 x.1.2.2.2.1)) := by
  intro x h N w vs hM hv
  obtain ⟨⟨t0a, t0b, t1, t2, ⟨⟩⟩, ⟨r0, ⟨⟩⟩⟩ := x
  refine calls_of_tree (n := 200) (EnvOK.add s_iv_Right (EnvOK.add s_trace_Trace (EnvOK.add s_iv_None (EnvOK.add s_iv_Sub (EnvOK.add s_vec_Along (EnvOK.add s_iv_Div EnvOK.nil)))))) Tryz.func43 hv (Nat.le_of_ble_eq_true (by kernel_rfl)) LFn.nil hM (cThree cIv cIv cInt) ?_
  rw [t_trace_Through]
  simp only [den_br, den_bind, den_ret, den_fail, den_inl, den_inr, decide_eq_true_eq, gt_iff_lt, ge_iff_le, beq_iff_eq]
  simp only at h
  simp only [h, if_true, throughOf]
  by_cases c : (traceOf r0 t1).1 = 1
  · have c' : ((traceOf r0 t1).1 != 1) = false := by simp [c]
    simp only [c, c', bne_self_eq_false, Bool.false_eq_true, if_true, if_false]
    generalize along (traceOf r0 t1).2.2 ((t2.sub (traceOf r0 t1).2.2.o.z).div (traceOf r0 t1).2.2.d.z) = p
    by_cases c1 : p.x.right = true <;> by_cases c2 : p.y.right = true <;> simp [c1, c2, lost3]
  · have c' : ((traceOf r0 t1).1 != 1) = true := by simp [c]
    simp only [c, c', if_true, if_false]
theorem s_trace_Through : Ev.Spec Tryz.prog 43 (FS (sc 3 [0, 1, 2] (tAgg 0 0 ccNil ccNil_ok ccIv ccIv_ok (tCod 1 cRay (tCod 2 cIv tNil))) (rL_surf rNil)) (cThree cIv cIv cInt) ((fun x => lenOk x.2.1)) ((fun x => throughOf x.2.1 x.1.2.2.1 x.1.2.2.2.1))) := specS rfl (fun vs w => Tryz.call43 vs w) c_trace_Through

/-! meniscusref14.Reach -/
theorem t_meniscusref14_Reach (t0a : Unit) (t0b : Iv) (t1 : Ray) (t2 : Iv) (r0 : List Surf) :
    evFn Tryz.prog (Env.add 47 (FS (sc 2 [0, 1] (tAgg 0 0 ccNil ccNil_ok ccIv ccIv_ok (tCod 1 cRay tNil)) (rL_surf rNil)) cRes ((fun x => lenOk x.2.1)) ((fun x => traceOf x.2.1 x.1.2.2.1))) (Env.add 61 (F2 cIv cIv cIv Iv.sub) (Env.add 69 (F0 cIv Iv.none) (Env.add 71 (F2 cRay cIv cV along) (Env.add 86 (F1 cIv cBool Iv.right) (Env.add 96 (F2 cIv cIv cIv Iv.div) Env.nil)))))) Laws.nil 200 Tryz.f48 (((sc 3 [0, 1, 2] (tAgg 0 0 ccNil ccNil_ok ccIv ccIv_ok (tCod 1 cRay (tCod 2 cIv tNil))) (rL_surf rNil)).enc ((t0a, t0b, t1, t2, ()), (r0, ()))).tmps.map Prod.snd) ((sc 3 [0, 1, 2] (tAgg 0 0 ccNil ccNil_ok ccIv ccIv_ok (tCod 1 cRay (tCod 2 cIv tNil))) (rL_surf rNil)).enc ((t0a, t0b, t1, t2, ()), (r0, ()))).mem (cThree cIv cIv cInt).dec =
      .br (Go.Proofs.YtmpjfdaldejjlaaGreat.Ev.lenOk r0)
       (
        .bind (Go.Proofs.YtmpjfdaldejjlaaGreat.traceOf r0 t1) fun vre0 =>
        .br (vre0.fst != 1)
         (
          .bind (Go.Proofs.YtmpjfdaldejjlaaGreat.Iv.none) fun viv1 =>
          .bind (Go.Proofs.YtmpjfdaldejjlaaGreat.Iv.none) fun viv2 =>
          .ret ((viv1, viv2, vre0.fst)))
         (
          .bind (t2.sub vre0.snd.snd.o.z) fun viv3 =>
          .bind (viv3.div vre0.snd.snd.d.z) fun viv4 =>
          .bind (Go.Proofs.YtmpjfdaldejjlaaGreat.along vre0.snd.snd viv4) fun vv5 =>
          .bind (vv5.x.right) fun vb6 =>
          .br (!vb6)
           (
            .bind (Go.Proofs.YtmpjfdaldejjlaaGreat.Iv.none) fun viv7 =>
            .bind (Go.Proofs.YtmpjfdaldejjlaaGreat.Iv.none) fun viv8 =>
            .ret ((viv7, viv8, 3)))
           (
            .bind (vv5.y.right) fun vb9 =>
            .br (!vb9)
             (
              .bind (Go.Proofs.YtmpjfdaldejjlaaGreat.Iv.none) fun viv10 =>
              .bind (Go.Proofs.YtmpjfdaldejjlaaGreat.Iv.none) fun viv11 =>
              .ret ((viv10, viv11, 3)))
             (
              .ret ((vv5.x, vv5.y, 1))))))
       (
        .fail) := by kernel_rfl
theorem c_meniscusref14_Reach : PlainS Tryz.prog 48 (sc 3 [0, 1, 2] (tAgg 0 0 ccNil ccNil_ok ccIv ccIv_ok (tCod 1 cRay (tCod 2 cIv tNil))) (rL_surf rNil)) (cThree cIv cIv cInt) ((fun x => lenOk x.2.1)) ((fun x => throughOf x.2.1 x.1.2.2.1 x.1.2.2.2.1)) := by
  intro x h N w vs hM hv
  obtain ⟨⟨t0a, t0b, t1, t2, ⟨⟩⟩, ⟨r0, ⟨⟩⟩⟩ := x
  refine calls_of_tree (n := 200) (EnvOK.add s_meniscusref14_Trace (EnvOK.add s_meniscusref1_Sub (EnvOK.add s_meniscusref14_none (EnvOK.add s_meniscusref1_Along (EnvOK.add s_meniscusref1_Right (EnvOK.add s_meniscusref1_DivIv EnvOK.nil)))))) Tryz.func48 hv (Nat.le_of_ble_eq_true (by kernel_rfl)) LFn.nil hM (cThree cIv cIv cInt) ?_
  rw [t_meniscusref14_Reach]
  simp only [den_br, den_bind, den_ret, den_fail, den_inl, den_inr, decide_eq_true_eq, gt_iff_lt, ge_iff_le, beq_iff_eq]
  simp only at h
  simp only [h, if_true, throughOf]
  by_cases c : (traceOf r0 t1).1 = 1
  · have c' : ((traceOf r0 t1).1 != 1) = false := by simp [c]
    simp only [c, c', bne_self_eq_false, Bool.false_eq_true, if_true, if_false]
    generalize along (traceOf r0 t1).2.2 ((t2.sub (traceOf r0 t1).2.2.o.z).div (traceOf r0 t1).2.2.d.z) = p
    by_cases c1 : p.x.right = true <;> by_cases c2 : p.y.right = true <;> simp [c1, c2, lost3]
  · have c' : ((traceOf r0 t1).1 != 1) = true := by simp [c]
    simp only [c, c', if_true, if_false]
theorem s_meniscusref14_Reach : Ev.Spec Tryz.prog 48 (FS (sc 3 [0, 1, 2] (tAgg 0 0 ccNil ccNil_ok ccIv ccIv_ok (tCod 1 cRay (tCod 2 cIv tNil))) (rL_surf rNil)) (cThree cIv cIv cInt) ((fun x => lenOk x.2.1)) ((fun x => throughOf x.2.1 x.1.2.2.1 x.1.2.2.2.1))) := specS rfl (fun vs w => Tryz.call48 vs w) c_meniscusref14_Reach

/-! meniscushand.Ray -/
theorem t_meniscushand_Ray (x0 : RawRay) :
    evFn Tryz.prog (Env.add 32 (F2p cInt cInt cInt pickOk pick) (Env.add 54 (F1 cV cV V.unit) (Env.add 55 (F2 cInt cInt cIv wide) Env.nil))) Laws.nil 200 Tryz.f17 [cRawRay.av x0] [] cRay.dec =
      .br (Go.Proofs.YtmpjfdaldejjlaaGreat.pickOk x0.wide 400)
       (
        .bind (Go.Proofs.YtmpjfdaldejjlaaGreat.pick x0.wide 400) fun vn0 =>
        .br (x0.wide.tmod 5 == 4)
         (
          .br (Go.Proofs.YtmpjfdaldejjlaaGreat.pickOk x0.wide 9000)
           (
            .bind (Go.Proofs.YtmpjfdaldejjlaaGreat.pick x0.wide 9000) fun vn1 =>
            .br (x0.wide.tmod 5 == 3)
             (
              .br (x0.lean.tmod 3 == 2)
               (
                .br (Go.Proofs.YtmpjfdaldejjlaaGreat.pickOk x0.lean 200)
                 (
                  .bind (Go.Proofs.YtmpjfdaldejjlaaGreat.pick x0.lean 200) fun vn2 =>
                  .br (Go.Proofs.YtmpjfdaldejjlaaGreat.pickOk x0.u 30000)
                   (
                    .bind (Go.Proofs.YtmpjfdaldejjlaaGreat.pick x0.u 30000) fun vn3 =>
                    .bind (Go.Proofs.YtmpjfdaldejjlaaGreat.wide (Go.IntKind.i64.wrap (vn3 - 15000)) vn2) fun viv4 =>
                    .br (Go.Proofs.YtmpjfdaldejjlaaGreat.pickOk x0.w 30000)
                     (
                      .bind (Go.Proofs.YtmpjfdaldejjlaaGreat.pick x0.w 30000) fun vn5 =>
                      .bind (Go.Proofs.YtmpjfdaldejjlaaGreat.wide (Go.IntKind.i64.wrap (vn5 - 15000)) vn2) fun viv6 =>
                      .bind ((Go.Proofs.YtmpjfdaldejjlaaGreat.V.mk viv4 viv6 (Go.Proofs.YtmpjfdaldejjlaaGreat.Iv.mk 65536 65536 Bool.false)).unit) fun vv7 =>
                      .br (Go.Proofs.YtmpjfdaldejjlaaGreat.pickOk x0.x 655360)
                       (
                        .bind (Go.Proofs.YtmpjfdaldejjlaaGreat.pick x0.x 655360) fun vn8 =>
                        .bind (Go.Proofs.YtmpjfdaldejjlaaGreat.wide (Go.IntKind.i64.wrap (vn8 - 327680)) 0) fun viv9 =>
                        .br (Go.Proofs.YtmpjfdaldejjlaaGreat.pickOk x0.y 655360)
                         (
                          .bind (Go.Proofs.YtmpjfdaldejjlaaGreat.pick x0.y 655360) fun vn10 =>
                          .bind (Go.Proofs.YtmpjfdaldejjlaaGreat.wide (Go.IntKind.i64.wrap (vn10 - 327680)) 0) fun viv11 =>
                          .ret (Go.Proofs.YtmpjfdaldejjlaaGreat.Ray.mk (Go.Proofs.YtmpjfdaldejjlaaGreat.V.mk viv9 viv11 (Go.Proofs.YtmpjfdaldejjlaaGreat.Iv.mk 0 0 Bool.false)) vv7))
                         (
                          .fail))
                       (
                        .fail))
                     (
                      .fail))
                   (
                    .fail))
                 (
                  .fail))
               (
                .br (Go.Proofs.YtmpjfdaldejjlaaGreat.pickOk x0.u 30000)
                 (
                  .bind (Go.Proofs.YtmpjfdaldejjlaaGreat.pick x0.u 30000) fun vn12 =>
                  .bind (Go.Proofs.YtmpjfdaldejjlaaGreat.wide (Go.IntKind.i64.wrap (vn12 - 15000)) 0) fun viv13 =>
                  .br (Go.Proofs.YtmpjfdaldejjlaaGreat.pickOk x0.w 30000)
                   (
                    .bind (Go.Proofs.YtmpjfdaldejjlaaGreat.pick x0.w 30000) fun vn14 =>
                    .bind (Go.Proofs.YtmpjfdaldejjlaaGreat.wide (Go.IntKind.i64.wrap (vn14 - 15000)) 0) fun viv15 =>
                    .bind ((Go.Proofs.YtmpjfdaldejjlaaGreat.V.mk viv13 viv15 (Go.Proofs.YtmpjfdaldejjlaaGreat.Iv.mk 65536 65536 Bool.false)).unit) fun vv16 =>
                    .br (Go.Proofs.YtmpjfdaldejjlaaGreat.pickOk x0.x 655360)
                     (
                      .bind (Go.Proofs.YtmpjfdaldejjlaaGreat.pick x0.x 655360) fun vn17 =>
                      .bind (Go.Proofs.YtmpjfdaldejjlaaGreat.wide (Go.IntKind.i64.wrap (vn17 - 327680)) 0) fun viv18 =>
                      .br (Go.Proofs.YtmpjfdaldejjlaaGreat.pickOk x0.y 655360)
                       (
                        .bind (Go.Proofs.YtmpjfdaldejjlaaGreat.pick x0.y 655360) fun vn19 =>
                        .bind (Go.Proofs.YtmpjfdaldejjlaaGreat.wide (Go.IntKind.i64.wrap (vn19 - 327680)) 0) fun viv20 =>
                        .ret (Go.Proofs.YtmpjfdaldejjlaaGreat.Ray.mk (Go.Proofs.YtmpjfdaldejjlaaGreat.V.mk viv18 viv20 (Go.Proofs.YtmpjfdaldejjlaaGreat.Iv.mk 0 0 Bool.false)) vv16))
                       (
                        .fail))
                     (
                      .fail))
                   (
                    .fail))
                 (
                  .fail)))
             (
              .br (x0.lean.tmod 3 == 2)
               (
                .br (Go.Proofs.YtmpjfdaldejjlaaGreat.pickOk x0.lean 200)
                 (
                  .bind (Go.Proofs.YtmpjfdaldejjlaaGreat.pick x0.lean 200) fun vn21 =>
                  .br (Go.Proofs.YtmpjfdaldejjlaaGreat.pickOk x0.u 30000)
                   (
                    .bind (Go.Proofs.YtmpjfdaldejjlaaGreat.pick x0.u 30000) fun vn22 =>
                    .bind (Go.Proofs.YtmpjfdaldejjlaaGreat.wide (Go.IntKind.i64.wrap (vn22 - 15000)) vn21) fun viv23 =>
                    .br (Go.Proofs.YtmpjfdaldejjlaaGreat.pickOk x0.w 30000)
                     (
                      .bind (Go.Proofs.YtmpjfdaldejjlaaGreat.pick x0.w 30000) fun vn24 =>
                      .bind (Go.Proofs.YtmpjfdaldejjlaaGreat.wide (Go.IntKind.i64.wrap (vn24 - 15000)) vn21) fun viv25 =>
                      .bind ((Go.Proofs.YtmpjfdaldejjlaaGreat.V.mk viv23 viv25 (Go.Proofs.YtmpjfdaldejjlaaGreat.Iv.mk 65536 65536 Bool.false)).unit) fun vv26 =>
                      .br (Go.Proofs.YtmpjfdaldejjlaaGreat.pickOk x0.x 655360)
                       (
                        .bind (Go.Proofs.YtmpjfdaldejjlaaGreat.pick x0.x 655360) fun vn27 =>
                        .bind (Go.Proofs.YtmpjfdaldejjlaaGreat.wide (Go.IntKind.i64.wrap (vn27 - 327680)) vn1) fun viv28 =>
                        .br (Go.Proofs.YtmpjfdaldejjlaaGreat.pickOk x0.y 655360)
                         (
                          .bind (Go.Proofs.YtmpjfdaldejjlaaGreat.pick x0.y 655360) fun vn29 =>
                          .bind (Go.Proofs.YtmpjfdaldejjlaaGreat.wide (Go.IntKind.i64.wrap (vn29 - 327680)) vn1) fun viv30 =>
                          .ret (Go.Proofs.YtmpjfdaldejjlaaGreat.Ray.mk (Go.Proofs.YtmpjfdaldejjlaaGreat.V.mk viv28 viv30 (Go.Proofs.YtmpjfdaldejjlaaGreat.Iv.mk 0 0 Bool.false)) vv26))
                         (
                          .fail))
                       (
                        .fail))
                     (
                      .fail))
                   (
                    .fail))
                 (
                  .fail))
               (
                .br (Go.Proofs.YtmpjfdaldejjlaaGreat.pickOk x0.u 30000)
                 (
                  .bind (Go.Proofs.YtmpjfdaldejjlaaGreat.pick x0.u 30000) fun vn31 =>
                  .bind (Go.Proofs.YtmpjfdaldejjlaaGreat.wide (Go.IntKind.i64.wrap (vn31 - 15000)) 0) fun viv32 =>
                  .br (Go.Proofs.YtmpjfdaldejjlaaGreat.pickOk x0.w 30000)
                   (
                    .bind (Go.Proofs.YtmpjfdaldejjlaaGreat.pick x0.w 30000) fun vn33 =>
                    .bind (Go.Proofs.YtmpjfdaldejjlaaGreat.wide (Go.IntKind.i64.wrap (vn33 - 15000)) 0) fun viv34 =>
                    .bind ((Go.Proofs.YtmpjfdaldejjlaaGreat.V.mk viv32 viv34 (Go.Proofs.YtmpjfdaldejjlaaGreat.Iv.mk 65536 65536 Bool.false)).unit) fun vv35 =>
                    .br (Go.Proofs.YtmpjfdaldejjlaaGreat.pickOk x0.x 655360)
                     (
                      .bind (Go.Proofs.YtmpjfdaldejjlaaGreat.pick x0.x 655360) fun vn36 =>
                      .bind (Go.Proofs.YtmpjfdaldejjlaaGreat.wide (Go.IntKind.i64.wrap (vn36 - 327680)) vn1) fun viv37 =>
                      .br (Go.Proofs.YtmpjfdaldejjlaaGreat.pickOk x0.y 655360)
                       (
                        .bind (Go.Proofs.YtmpjfdaldejjlaaGreat.pick x0.y 655360) fun vn38 =>
                        .bind (Go.Proofs.YtmpjfdaldejjlaaGreat.wide (Go.IntKind.i64.wrap (vn38 - 327680)) vn1) fun viv39 =>
                        .ret (Go.Proofs.YtmpjfdaldejjlaaGreat.Ray.mk (Go.Proofs.YtmpjfdaldejjlaaGreat.V.mk viv37 viv39 (Go.Proofs.YtmpjfdaldejjlaaGreat.Iv.mk 0 0 Bool.false)) vv35))
                       (
                        .fail))
                     (
                      .fail))
                   (
                    .fail))
                 (
                  .fail))))
           (
            .fail))
         (
          .br (x0.wide.tmod 5 == 3)
           (
            .br (x0.lean.tmod 3 == 2)
             (
              .br (Go.Proofs.YtmpjfdaldejjlaaGreat.pickOk x0.lean 200)
               (
                .bind (Go.Proofs.YtmpjfdaldejjlaaGreat.pick x0.lean 200) fun vn40 =>
                .br (Go.Proofs.YtmpjfdaldejjlaaGreat.pickOk x0.u 30000)
                 (
                  .bind (Go.Proofs.YtmpjfdaldejjlaaGreat.pick x0.u 30000) fun vn41 =>
                  .bind (Go.Proofs.YtmpjfdaldejjlaaGreat.wide (Go.IntKind.i64.wrap (vn41 - 15000)) vn40) fun viv42 =>
                  .br (Go.Proofs.YtmpjfdaldejjlaaGreat.pickOk x0.w 30000)
                   (
                    .bind (Go.Proofs.YtmpjfdaldejjlaaGreat.pick x0.w 30000) fun vn43 =>
                    .bind (Go.Proofs.YtmpjfdaldejjlaaGreat.wide (Go.IntKind.i64.wrap (vn43 - 15000)) vn40) fun viv44 =>
                    .bind ((Go.Proofs.YtmpjfdaldejjlaaGreat.V.mk viv42 viv44 (Go.Proofs.YtmpjfdaldejjlaaGreat.Iv.mk 65536 65536 Bool.false)).unit) fun vv45 =>
                    .br (Go.Proofs.YtmpjfdaldejjlaaGreat.pickOk x0.x 655360)
                     (
                      .bind (Go.Proofs.YtmpjfdaldejjlaaGreat.pick x0.x 655360) fun vn46 =>
                      .bind (Go.Proofs.YtmpjfdaldejjlaaGreat.wide (Go.IntKind.i64.wrap (vn46 - 327680)) 0) fun viv47 =>
                      .br (Go.Proofs.YtmpjfdaldejjlaaGreat.pickOk x0.y 655360)
                       (
                        .bind (Go.Proofs.YtmpjfdaldejjlaaGreat.pick x0.y 655360) fun vn48 =>
                        .bind (Go.Proofs.YtmpjfdaldejjlaaGreat.wide (Go.IntKind.i64.wrap (vn48 - 327680)) 0) fun viv49 =>
                        .ret (Go.Proofs.YtmpjfdaldejjlaaGreat.Ray.mk (Go.Proofs.YtmpjfdaldejjlaaGreat.V.mk viv47 viv49 (Go.Proofs.YtmpjfdaldejjlaaGreat.Iv.mk 0 0 Bool.false)) vv45))
                       (
                        .fail))
                     (
                      .fail))
                   (
                    .fail))
                 (
                  .fail))
               (
                .fail))
             (
              .br (Go.Proofs.YtmpjfdaldejjlaaGreat.pickOk x0.u 30000)
               (
                .bind (Go.Proofs.YtmpjfdaldejjlaaGreat.pick x0.u 30000) fun vn50 =>
                .bind (Go.Proofs.YtmpjfdaldejjlaaGreat.wide (Go.IntKind.i64.wrap (vn50 - 15000)) 0) fun viv51 =>
                .br (Go.Proofs.YtmpjfdaldejjlaaGreat.pickOk x0.w 30000)
                 (
                  .bind (Go.Proofs.YtmpjfdaldejjlaaGreat.pick x0.w 30000) fun vn52 =>
                  .bind (Go.Proofs.YtmpjfdaldejjlaaGreat.wide (Go.IntKind.i64.wrap (vn52 - 15000)) 0) fun viv53 =>
                  .bind ((Go.Proofs.YtmpjfdaldejjlaaGreat.V.mk viv51 viv53 (Go.Proofs.YtmpjfdaldejjlaaGreat.Iv.mk 65536 65536 Bool.false)).unit) fun vv54 =>
                  .br (Go.Proofs.YtmpjfdaldejjlaaGreat.pickOk x0.x 655360)
                   (
                    .bind (Go.Proofs.YtmpjfdaldejjlaaGreat.pick x0.x 655360) fun vn55 =>
                    .bind (Go.Proofs.YtmpjfdaldejjlaaGreat.wide (Go.IntKind.i64.wrap (vn55 - 327680)) 0) fun viv56 =>
                    .br (Go.Proofs.YtmpjfdaldejjlaaGreat.pickOk x0.y 655360)
                     (
                      .bind (Go.Proofs.YtmpjfdaldejjlaaGreat.pick x0.y 655360) fun vn57 =>
                      .bind (Go.Proofs.YtmpjfdaldejjlaaGreat.wide (Go.IntKind.i64.wrap (vn57 - 327680)) 0) fun viv58 =>
                      .ret (Go.Proofs.YtmpjfdaldejjlaaGreat.Ray.mk (Go.Proofs.YtmpjfdaldejjlaaGreat.V.mk viv56 viv58 (Go.Proofs.YtmpjfdaldejjlaaGreat.Iv.mk 0 0 Bool.false)) vv54))
                     (
                      .fail))
                   (
                    .fail))
                 (
                  .fail))
               (
                .fail)))
           (
            .br (x0.lean.tmod 3 == 2)
             (
              .br (Go.Proofs.YtmpjfdaldejjlaaGreat.pickOk x0.lean 200)
               (
                .bind (Go.Proofs.YtmpjfdaldejjlaaGreat.pick x0.lean 200) fun vn59 =>
                .br (Go.Proofs.YtmpjfdaldejjlaaGreat.pickOk x0.u 30000)
                 (
                  .bind (Go.Proofs.YtmpjfdaldejjlaaGreat.pick x0.u 30000) fun vn60 =>
                  .bind (Go.Proofs.YtmpjfdaldejjlaaGreat.wide (Go.IntKind.i64.wrap (vn60 - 15000)) vn59) fun viv61 =>
                  .br (Go.Proofs.YtmpjfdaldejjlaaGreat.pickOk x0.w 30000)
                   (
                    .bind (Go.Proofs.YtmpjfdaldejjlaaGreat.pick x0.w 30000) fun vn62 =>
                    .bind (Go.Proofs.YtmpjfdaldejjlaaGreat.wide (Go.IntKind.i64.wrap (vn62 - 15000)) vn59) fun viv63 =>
                    .bind ((Go.Proofs.YtmpjfdaldejjlaaGreat.V.mk viv61 viv63 (Go.Proofs.YtmpjfdaldejjlaaGreat.Iv.mk 65536 65536 Bool.false)).unit) fun vv64 =>
                    .br (Go.Proofs.YtmpjfdaldejjlaaGreat.pickOk x0.x 655360)
                     (
                      .bind (Go.Proofs.YtmpjfdaldejjlaaGreat.pick x0.x 655360) fun vn65 =>
                      .bind (Go.Proofs.YtmpjfdaldejjlaaGreat.wide (Go.IntKind.i64.wrap (vn65 - 327680)) vn0) fun viv66 =>
                      .br (Go.Proofs.YtmpjfdaldejjlaaGreat.pickOk x0.y 655360)
                       (
                        .bind (Go.Proofs.YtmpjfdaldejjlaaGreat.pick x0.y 655360) fun vn67 =>
                        .bind (Go.Proofs.YtmpjfdaldejjlaaGreat.wide (Go.IntKind.i64.wrap (vn67 - 327680)) vn0) fun viv68 =>
                        .ret (Go.Proofs.YtmpjfdaldejjlaaGreat.Ray.mk (Go.Proofs.YtmpjfdaldejjlaaGreat.V.mk viv66 viv68 (Go.Proofs.YtmpjfdaldejjlaaGreat.Iv.mk 0 0 Bool.false)) vv64))
                       (
                        .fail))
                     (
                      .fail))
                   (
                    .fail))
                 (
                  .fail))
               (
                .fail))
             (
              .br (Go.Proofs.YtmpjfdaldejjlaaGreat.pickOk x0.u 30000)
               (
                .bind (Go.Proofs.YtmpjfdaldejjlaaGreat.pick x0.u 30000) fun vn69 =>
                .bind (Go.Proofs.YtmpjfdaldejjlaaGreat.wide (Go.IntKind.i64.wrap (vn69 - 15000)) 0) fun viv70 =>
                .br (Go.Proofs.YtmpjfdaldejjlaaGreat.pickOk x0.w 30000)
                 (
                  .bind (Go.Proofs.YtmpjfdaldejjlaaGreat.pick x0.w 30000) fun vn71 =>
                  .bind (Go.Proofs.YtmpjfdaldejjlaaGreat.wide (Go.IntKind.i64.wrap (vn71 - 15000)) 0) fun viv72 =>
                  .bind ((Go.Proofs.YtmpjfdaldejjlaaGreat.V.mk viv70 viv72 (Go.Proofs.YtmpjfdaldejjlaaGreat.Iv.mk 65536 65536 Bool.false)).unit) fun vv73 =>
                  .br (Go.Proofs.YtmpjfdaldejjlaaGreat.pickOk x0.x 655360)
                   (
                    .bind (Go.Proofs.YtmpjfdaldejjlaaGreat.pick x0.x 655360) fun vn74 =>
                    .bind (Go.Proofs.YtmpjfdaldejjlaaGreat.wide (Go.IntKind.i64.wrap (vn74 - 327680)) vn0) fun viv75 =>
                    .br (Go.Proofs.YtmpjfdaldejjlaaGreat.pickOk x0.y 655360)
                     (
                      .bind (Go.Proofs.YtmpjfdaldejjlaaGreat.pick x0.y 655360) fun vn76 =>
                      .bind (Go.Proofs.YtmpjfdaldejjlaaGreat.wide (Go.IntKind.i64.wrap (vn76 - 327680)) vn0) fun viv77 =>
                      .ret (Go.Proofs.YtmpjfdaldejjlaaGreat.Ray.mk (Go.Proofs.YtmpjfdaldejjlaaGreat.V.mk viv75 viv77 (Go.Proofs.YtmpjfdaldejjlaaGreat.Iv.mk 0 0 Bool.false)) vv73))
                     (
                      .fail))
                   (
                    .fail))
                 (
                  .fail))
               (
                .fail)))))
       (
        .fail) := by kernel_rfl
theorem c_meniscushand_Ray (x0 : RawRay) : Plain Tryz.prog 17 [cRawRay.enc x0] (cRay.enc (rayOf x0)) :=
  plain_of_tree (n := 200) (EnvOK.add s_meniscushand_Pick (EnvOK.add s_meniscusref1_Unit (EnvOK.add s_meniscushand_Wide EnvOK.nil))) Tryz.func17 (args := [cRawRay.av x0]) (by simp only [AV.vals, Cod.av_val]) (Nat.le_of_ble_eq_true (by kernel_rfl)) LFn.nil cRay (by
    rw [t_meniscushand_Ray]
    simp only [den_br, den_bind, den_ret, den_fail, den_inl, den_inr, decide_eq_true_eq, gt_iff_lt, ge_iff_le, beq_iff_eq]
    have pk400 : ∀ n : Int, pickOk n 400 = true := fun _ => by simp [pickOk]
    have pk9000 : ∀ n : Int, pickOk n 9000 = true := fun _ => by simp [pickOk]
    have pk200 : ∀ n : Int, pickOk n 200 = true := fun _ => by simp [pickOk]
    have pk30000 : ∀ n : Int, pickOk n 30000 = true := fun _ => by simp [pickOk]
    have pk655360 : ∀ n : Int, pickOk n 655360 = true := fun _ => by simp [pickOk]
    have wu : ∀ n : Int, IntKind.i64.wrap (pick n 30000 - 15000) = pick n 30000 - 15000 := fun n => wr (by have := pick_bd n (m := 30000) (by decide); omega)
    have wx : ∀ n : Int, IntKind.i64.wrap (pick n 655360 - 327680) = pick n 655360 - 327680 := fun n => wr (by have := pick_bd n (m := 655360) (by decide); omega)
    simp only [pk400, pk9000, pk200, pk30000, pk655360, wu, wx, if_true, rayOf, rayWide, rayLean]
    by_cases c1 : x0.wide.tmod 5 = 4 <;> by_cases c2 : x0.wide.tmod 5 = 3 <;> by_cases c3 : x0.lean.tmod 3 = 2 <;> simp only [c1, c2, c3, if_true, if_false] <;> first | rfl | omega)
theorem s_meniscushand_Ray : Ev.Spec Tryz.prog 17 (F1 cRawRay cRay rayOf) := spec1 (fun vs w => Tryz.call17 vs w) c_meniscushand_Ray
end Go.Proofs.YtmpjfdaldejjlaaGreat
