/-
  Contracts of calls, written by a small program of this session out of the evaluator's trees.
-/
import Derived.Test.YtlbmjajjldfigaaGreatCore
import Derived.Test.YtlbmjajjldfigaaGreatCoreLoops
import Derived.Test.YtlbmjajjldfigaaGreatCore2
import Derived.Test.YtlbmjajjldfigaaGreatCore3
import Derived.Test.YtlbmjajjldfigaaGreatCore4
import Derived.Test.YtlbmjajjldfigaaGreatCore5
import Derived.Test.YtlbmjajjldfigaaGreatCore6
import Derived.Test.YtlbmjajjldfigaaGreatCore7
import Derived.Test.YtlbmjajjldfigaaGreatCore8
import Derived.Test.YtlbmjajjldfigaaGreatEvMore
import Derived.Test.YtlbmjajjldfigaaGreatQ0
import Derived.Test.YtlbmjajjldfigaaGreatL0
import Derived.Test.YtlbmjajjldfigaaGreatEvCod
import Derived.Test.YtlbmjajjldfigaaGreatEvRet
import Derived.Test.YtlbmjajjldfigaaGreatProg
namespace Go.Proofs.YtlbmjajjldfigaaGreat
open Go Go.RowKit Ev
set_option maxRecDepth 100000
set_option linter.unusedVariables false
set_option linter.unusedSimpArgs false

/-! meniscusref8.Within -/
theorem t_meniscusref8_Within (x0 : Int) (x1 : Int) (x2 : Int) :
    evFn Tryz.prog Env.nil Laws.nil 200 Tryz.f92 [cInt.av x0, cInt.av x1, cInt.av x2] [] cInt.dec =
      .ret (Max.max x1 (Min.min x2 x0)) := by kernel_rfl
theorem c_meniscusref8_Within (x0 : Int) (x1 : Int) (x2 : Int) : Plain Tryz.prog 92 [cInt.enc x0, cInt.enc x1, cInt.enc x2] (cInt.enc (within x0 x1 x2)) :=
  plain_of_tree (n := 200) EnvOK.nil Tryz.func92 (args := [cInt.av x0, cInt.av x1, cInt.av x2]) (by simp only [AV.vals, Cod.av_val]) (Nat.le_of_ble_eq_true (by kernel_rfl)) LFn.nil cInt (by
    rw [t_meniscusref8_Within]
    rfl)
theorem s_meniscusref8_Within : Ev.Spec Tryz.prog 92 (F3 cInt cInt cInt cInt within) := spec3 (fun vs w => Tryz.call92 vs w) c_meniscusref8_Within

/-! meniscushand.Wide -/
theorem t_meniscushand_Wide (x0 : Int) (x1 : Int) :
    evFn Tryz.prog (Env.add 92 (F3 cInt cInt cInt cInt within) Env.nil) Laws.nil 200 Tryz.f39 [cInt.av x0, cInt.av x1] [] cIv.dec =
      .bind (within x0 (-1073741824) 1073741824) fun vn0 => .ret (Iv.mk vn0 (Min.min 1073741824 (IntKind.i64.wrap (vn0 + x1))) false) := by kernel_rfl
theorem c_meniscushand_Wide (x0 : Int) (x1 : Int) : Plain Tryz.prog 39 [cInt.enc x0, cInt.enc x1] (cIv.enc (wide x0 x1)) :=
  plain_of_tree (n := 200) (EnvOK.add s_meniscusref8_Within EnvOK.nil) Tryz.func39 (args := [cInt.av x0, cInt.av x1]) (by simp only [AV.vals, Cod.av_val]) (Nat.le_of_ble_eq_true (by kernel_rfl)) LFn.nil cIv (by
    rw [t_meniscushand_Wide]
    rfl)
theorem s_meniscushand_Wide : Ev.Spec Tryz.prog 39 (F2 cInt cInt cIv wide) := spec2 (fun vs w => Tryz.call39 vs w) c_meniscushand_Wide

/-! trace.Trace -/
theorem tl_trace_Trace_2 (t12 : Int) (t11 : Int) (r0 : Ray) (r1 : Res) (r2 : Iv) (r3 : List Surf) :
    ev Tryz.prog (Env.add 22 (F2 cSurf cRay (cTwo cRay cInt) stepOf) Env.nil) Laws.nil 200 none (loopAt Tryz.f26 2) ((sc 36 [12, 11, 3, 4, 2, 10] (tCod 12 cInt (tCod 11 cInt (tOwn 3 0 (tOwn 4 1 (tOwn 2 2 (tSl 10 3 tNil)))))) (rBox ccRay ccRay_ok (rBox ccRes ccRes_ok (rBoxSl 3 ccIv ccIv_ok (rL_surf rNil))))).enc ((t12, t11, ()), (r0, r1, r2, r3, ()))) (backK (sc 36 [12, 11, 3, 4, 2, 10] (tCod 12 cInt (tCod 11 cInt (tOwn 3 0 (tOwn 4 1 (tOwn 2 2 (tSl 10 3 tNil)))))) (rBox ccRay ccRay_ok (rBox ccRes ccRes_ok (rBoxSl 3 ccIv ccIv_ok (rL_surf rNil))))) (ocOr (ocExit 0 (sc 36 [3, 4, 2] (tOwn 3 0 (tOwn 4 1 (tOwn 2 2 tNil))) (rBox ccRay ccRay_ok (rBox ccRes ccRes_ok (rBoxSl 3 ccIv ccIv_ok (rL_surf rNil)))))) (ocRet (sc 36 [4] (tOwn 4 0 tNil) (rBox ccRes ccRes_ok rNil))))) =
      .br (decide (t12 < t11)) (.br (decide (0 ≤ t12 ∧ t12 < (@Nat.cast Int _ r3.length))) (.get (r3[t12.toNat]?) fun vt0 => .bind (stepOf vt0 r0) fun vy1 => .br (vy1.2 != 1) (.ret (Sum.inr (Sum.inr ((), (vy1.2, t12, vy1.1), ())))) (.ret (Sum.inl ((IntKind.i64.wrap (t12 + 1), t11, ()), vy1.1, r1, r2, r3, ())))) (.fail)) (.ret (Sum.inr (Sum.inl ((), r0, r1, r2, r3, ())))) := by kernel_rfl
theorem ok_trace_Trace_2 : LOK Tryz.prog (LoopR.of (sc 36 [12, 11, 3, 4, 2, 10] (tCod 12 cInt (tCod 11 cInt (tOwn 3 0 (tOwn 4 1 (tOwn 2 2 (tSl 10 3 tNil)))))) (rBox ccRay ccRay_ok (rBox ccRes ccRes_ok (rBoxSl 3 ccIv ccIv_ok (rL_surf rNil))))) (ocOr (ocExit 0 (sc 36 [3, 4, 2] (tOwn 3 0 (tOwn 4 1 (tOwn 2 2 tNil))) (rBox ccRay ccRay_ok (rBox ccRes ccRes_ok (rBoxSl 3 ccIv ccIv_ok (rL_surf rNil)))))) (ocRet (sc 36 [4] (tOwn 4 0 tNil) (rBox ccRes ccRes_ok rNil)))) (runBy traceStep traceM)) (loopAt Tryz.f26 2) := by
  refine loop_ok (EnvOK.add s_step_Go EnvOK.nil) (LFn.at (fn := Tryz.f26) LFn.nil 2) traceStep (n := 200) (fun x z h => ?_) (runBy_ok _ _)
  obtain ⟨⟨t12, t11, ⟨⟩⟩, ⟨r0, r1, r2, r3, ⟨⟩⟩⟩ := x
  rw [tl_trace_Trace_2]
  rw [← h]
  simp only [den_br, den_bind, den_ret, den_fail, den_inl, den_inr, decide_eq_true_eq, gt_iff_lt, ge_iff_le, beq_iff_eq]
  simp only [traceStep]
  by_cases h0 : t12 < t11 <;> simp only [h0, if_true, if_false]
  by_cases h1 : 0 ≤ t12 ∧ t12 < (r3.length : Int) <;> simp only [h1, and_self, if_true, if_false]
  cases hg : r3[t12.toNat]? with
  | none => rfl
  | some a =>
    simp only [den_get, den_br, den_bind, den_ret, den_fail]
    by_cases c : (stepOf a r0).2 = 1 <;> simp [c]
theorem t_trace_Trace (t0a : Unit) (t0b : Iv) (t1 : Ray) (r0 : List Surf) :
    evFn Tryz.prog (Env.add 22 (F2 cSurf cRay (cTwo cRay cInt) stepOf) Env.nil) (Laws.add 2 (LoopR.of (sc 36 [12, 11, 3, 4, 2, 10] (tCod 12 cInt (tCod 11 cInt (tOwn 3 0 (tOwn 4 1 (tOwn 2 2 (tSl 10 3 tNil)))))) (rBox ccRay ccRay_ok (rBox ccRes ccRes_ok (rBoxSl 3 ccIv ccIv_ok (rL_surf rNil))))) (ocOr (ocExit 0 (sc 36 [3, 4, 2] (tOwn 3 0 (tOwn 4 1 (tOwn 2 2 tNil))) (rBox ccRay ccRay_ok (rBox ccRes ccRes_ok (rBoxSl 3 ccIv ccIv_ok (rL_surf rNil)))))) (ocRet (sc 36 [4] (tOwn 4 0 tNil) (rBox ccRes ccRes_ok rNil)))) (runBy traceStep traceM)) Laws.nil) 200 Tryz.f26 (((sc 2 [0, 1] (tAgg 0 0 ccNil ccNil_ok ccIv ccIv_ok (tCod 1 cRay tNil)) (rL_surf rNil)).enc ((t0a, t0b, t1, ()), (r0, ()))).tmps.map Prod.snd) ((sc 2 [0, 1] (tAgg 0 0 ccNil ccNil_ok ccIv ccIv_ok (tCod 1 cRay tNil)) (rL_surf rNil)).enc ((t0a, t0b, t1, ()), (r0, ()))).mem cRes.dec =
      .get (runBy traceStep traceM ((0, (@Nat.cast Int _ r0.length), ()), t1, (0, 0, Ray.mk (V.mk (Iv.mk 0 0 false) (Iv.mk 0 0 false) (Iv.mk 0 0 false)) (V.mk (Iv.mk 0 0 false) (Iv.mk 0 0 false) (Iv.mk 0 0 false))), t0b, r0, ())) fun vy0 => .sum (vy0) (fun vs1 => .ret ((1, (@Nat.cast Int _ vs1.2.2.2.2.1.length), vs1.2.1))) (fun vs2 => .ret (vs2.2.1)) := by kernel_rfl
theorem c_trace_Trace : PlainS Tryz.prog 26 (sc 2 [0, 1] (tAgg 0 0 ccNil ccNil_ok ccIv ccIv_ok (tCod 1 cRay tNil)) (rL_surf rNil)) cRes ((fun x => lenOk x.2.1)) ((fun x => traceOf x.2.1 x.1.2.2.1)) := by
  intro x h N w vs hM hv
  obtain ⟨⟨t0a, t0b, t1, ⟨⟩⟩, ⟨r0, ⟨⟩⟩⟩ := x
  refine calls_of_tree (n := 200) (EnvOK.add s_step_Go EnvOK.nil) Tryz.func26 hv (Nat.le_of_ble_eq_true (by kernel_rfl)) (LFn.add (fn := Tryz.f26) (i := 2) (by kernel_rfl) ok_trace_Trace_2 LFn.nil) hM cRes ?_
  rw [t_trace_Trace]
  have hr := trace_run (0, 0, Ray.zero) t0b r0 (lenOk_iff.1 h) t1
  rw [show (((0 : Int), (0 : Int), (⟨⟨⟨0, 0, false⟩, ⟨0, 0, false⟩, ⟨0, 0, false⟩⟩, ⟨⟨0, 0, false⟩, ⟨0, 0, false⟩, ⟨0, 0, false⟩⟩⟩ : Ray)) : Res) = (0, 0, Ray.zero) from rfl, hr]
  simp only [traceOut]
  by_cases c : (traceOf r0 t1).1 = 1
  · rw [if_pos c]
    rw [traceOf_eta c]; rfl
  · rw [if_neg c]; rfl
theorem s_trace_Trace : Ev.Spec Tryz.prog 26 (FS (sc 2 [0, 1] (tAgg 0 0 ccNil ccNil_ok ccIv ccIv_ok (tCod 1 cRay tNil)) (rL_surf rNil)) cRes ((fun x => lenOk x.2.1)) ((fun x => traceOf x.2.1 x.1.2.2.1))) := specS rfl (fun vs w => Tryz.call26 vs w) c_trace_Trace

/-! meniscushand.Ray -/
theorem t_meniscushand_Ray (x0 : RawRay) :
    evFn Tryz.prog (Env.add 19 (F2p cInt cInt cInt pickOk pick) (Env.add 38 (F1 cV cV V.unit) (Env.add 39 (F2 cInt cInt cIv wide) Env.nil))) Laws.nil 200 Tryz.f11 [cRawRay.av x0] [] cRay.dec =
      .br (pickOk x0.wide 400) (.bind (pick x0.wide 400) fun vn0 => .br (x0.wide.tmod 5 == 4) (.br (pickOk x0.wide 9000) (.bind (pick x0.wide 9000) fun vn1 => .br (x0.wide.tmod 5 == 3) (.br (x0.lean.tmod 3 == 2) (.br (pickOk x0.lean 200) (.bind (pick x0.lean 200) fun vn2 => .br (pickOk x0.u 30000) (.bind (pick x0.u 30000) fun vn3 => .bind (wide (IntKind.i64.wrap (vn3 - 15000)) vn2) fun viv4 => .br (pickOk x0.w 30000) (.bind (pick x0.w 30000) fun vn5 => .bind (wide (IntKind.i64.wrap (vn5 - 15000)) vn2) fun viv6 => .bind ((V.mk viv4 viv6 (Iv.mk 65536 65536 false)).unit) fun vv7 => .br (pickOk x0.x 655360) (.bind (pick x0.x 655360) fun vn8 => .bind (wide (IntKind.i64.wrap (vn8 - 327680)) 0) fun viv9 => .br (pickOk x0.y 655360) (.bind (pick x0.y 655360) fun vn10 => .bind (wide (IntKind.i64.wrap (vn10 - 327680)) 0) fun viv11 => .ret (Ray.mk (V.mk viv9 viv11 (Iv.mk 0 0 false)) vv7)) (.fail)) (.fail)) (.fail)) (.fail)) (.fail)) (.br (pickOk x0.u 30000) (.bind (pick x0.u 30000) fun vn12 => .bind (wide (IntKind.i64.wrap (vn12 - 15000)) 0) fun viv13 => .br (pickOk x0.w 30000) (.bind (pick x0.w 30000) fun vn14 => .bind (wide (IntKind.i64.wrap (vn14 - 15000)) 0) fun viv15 => .bind ((V.mk viv13 viv15 (Iv.mk 65536 65536 false)).unit) fun vv16 => .br (pickOk x0.x 655360) (.bind (pick x0.x 655360) fun vn17 => .bind (wide (IntKind.i64.wrap (vn17 - 327680)) 0) fun viv18 => .br (pickOk x0.y 655360) (.bind (pick x0.y 655360) fun vn19 => .bind (wide (IntKind.i64.wrap (vn19 - 327680)) 0) fun viv20 => .ret (Ray.mk (V.mk viv18 viv20 (Iv.mk 0 0 false)) vv16)) (.fail)) (.fail)) (.fail)) (.fail))) (.br (x0.lean.tmod 3 == 2) (.br (pickOk x0.lean 200) (.bind (pick x0.lean 200) fun vn21 => .br (pickOk x0.u 30000) (.bind (pick x0.u 30000) fun vn22 => .bind (wide (IntKind.i64.wrap (vn22 - 15000)) vn21) fun viv23 => .br (pickOk x0.w 30000) (.bind (pick x0.w 30000) fun vn24 => .bind (wide (IntKind.i64.wrap (vn24 - 15000)) vn21) fun viv25 => .bind ((V.mk viv23 viv25 (Iv.mk 65536 65536 false)).unit) fun vv26 => .br (pickOk x0.x 655360) (.bind (pick x0.x 655360) fun vn27 => .bind (wide (IntKind.i64.wrap (vn27 - 327680)) vn1) fun viv28 => .br (pickOk x0.y 655360) (.bind (pick x0.y 655360) fun vn29 => .bind (wide (IntKind.i64.wrap (vn29 - 327680)) vn1) fun viv30 => .ret (Ray.mk (V.mk viv28 viv30 (Iv.mk 0 0 false)) vv26)) (.fail)) (.fail)) (.fail)) (.fail)) (.fail)) (.br (pickOk x0.u 30000) (.bind (pick x0.u 30000) fun vn31 => .bind (wide (IntKind.i64.wrap (vn31 - 15000)) 0) fun viv32 => .br (pickOk x0.w 30000) (.bind (pick x0.w 30000) fun vn33 => .bind (wide (IntKind.i64.wrap (vn33 - 15000)) 0) fun viv34 => .bind ((V.mk viv32 viv34 (Iv.mk 65536 65536 false)).unit) fun vv35 => .br (pickOk x0.x 655360) (.bind (pick x0.x 655360) fun vn36 => .bind (wide (IntKind.i64.wrap (vn36 - 327680)) vn1) fun viv37 => .br (pickOk x0.y 655360) (.bind (pick x0.y 655360) fun vn38 => .bind (wide (IntKind.i64.wrap (vn38 - 327680)) vn1) fun viv39 => .ret (Ray.mk (V.mk viv37 viv39 (Iv.mk 0 0 false)) vv35)) (.fail)) (.fail)) (.fail)) (.fail)))) (.fail)) (.br (x0.wide.tmod 5 == 3) (.br (x0.lean.tmod 3 == 2) (.br (pickOk x0.lean 200) (.bind (pick x0.lean 200) fun vn40 => .br (pickOk x0.u 30000) (.bind (pick x0.u 30000) fun vn41 => .bind (wide (IntKind.i64.wrap (vn41 - 15000)) vn40) fun viv42 => .br (pickOk x0.w 30000) (.bind (pick x0.w 30000) fun vn43 => .bind (wide (IntKind.i64.wrap (vn43 - 15000)) vn40) fun viv44 => .bind ((V.mk viv42 viv44 (Iv.mk 65536 65536 false)).unit) fun vv45 => .br (pickOk x0.x 655360) (.bind (pick x0.x 655360) fun vn46 => .bind (wide (IntKind.i64.wrap (vn46 - 327680)) 0) fun viv47 => .br (pickOk x0.y 655360) (.bind (pick x0.y 655360) fun vn48 => .bind (wide (IntKind.i64.wrap (vn48 - 327680)) 0) fun viv49 => .ret (Ray.mk (V.mk viv47 viv49 (Iv.mk 0 0 false)) vv45)) (.fail)) (.fail)) (.fail)) (.fail)) (.fail)) (.br (pickOk x0.u 30000) (.bind (pick x0.u 30000) fun vn50 => .bind (wide (IntKind.i64.wrap (vn50 - 15000)) 0) fun viv51 => .br (pickOk x0.w 30000) (.bind (pick x0.w 30000) fun vn52 => .bind (wide (IntKind.i64.wrap (vn52 - 15000)) 0) fun viv53 => .bind ((V.mk viv51 viv53 (Iv.mk 65536 65536 false)).unit) fun vv54 => .br (pickOk x0.x 655360) (.bind (pick x0.x 655360) fun vn55 => .bind (wide (IntKind.i64.wrap (vn55 - 327680)) 0) fun viv56 => .br (pickOk x0.y 655360) (.bind (pick x0.y 655360) fun vn57 => .bind (wide (IntKind.i64.wrap (vn57 - 327680)) 0) fun viv58 => .ret (Ray.mk (V.mk viv56 viv58 (Iv.mk 0 0 false)) vv54)) (.fail)) (.fail)) (.fail)) (.fail))) (.br (x0.lean.tmod 3 == 2) (.br (pickOk x0.lean 200) (.bind (pick x0.lean 200) fun vn59 => .br (pickOk x0.u 30000) (.bind (pick x0.u 30000) fun vn60 => .bind (wide (IntKind.i64.wrap (vn60 - 15000)) vn59) fun viv61 => .br (pickOk x0.w 30000) (.bind (pick x0.w 30000) fun vn62 => .bind (wide (IntKind.i64.wrap (vn62 - 15000)) vn59) fun viv63 => .bind ((V.mk viv61 viv63 (Iv.mk 65536 65536 false)).unit) fun vv64 => .br (pickOk x0.x 655360) (.bind (pick x0.x 655360) fun vn65 => .bind (wide (IntKind.i64.wrap (vn65 - 327680)) vn0) fun viv66 => .br (pickOk x0.y 655360) (.bind (pick x0.y 655360) fun vn67 => .bind (wide (IntKind.i64.wrap (vn67 - 327680)) vn0) fun viv68 => .ret (Ray.mk (V.mk viv66 viv68 (Iv.mk 0 0 false)) vv64)) (.fail)) (.fail)) (.fail)) (.fail)) (.fail)) (.br (pickOk x0.u 30000) (.bind (pick x0.u 30000) fun vn69 => .bind (wide (IntKind.i64.wrap (vn69 - 15000)) 0) fun viv70 => .br (pickOk x0.w 30000) (.bind (pick x0.w 30000) fun vn71 => .bind (wide (IntKind.i64.wrap (vn71 - 15000)) 0) fun viv72 => .bind ((V.mk viv70 viv72 (Iv.mk 65536 65536 false)).unit) fun vv73 => .br (pickOk x0.x 655360) (.bind (pick x0.x 655360) fun vn74 => .bind (wide (IntKind.i64.wrap (vn74 - 327680)) vn0) fun viv75 => .br (pickOk x0.y 655360) (.bind (pick x0.y 655360) fun vn76 => .bind (wide (IntKind.i64.wrap (vn76 - 327680)) vn0) fun viv77 => .ret (Ray.mk (V.mk viv75 viv77 (Iv.mk 0 0 false)) vv73)) (.fail)) (.fail)) (.fail)) (.fail))))) (.fail) := by kernel_rfl
theorem c_meniscushand_Ray (x0 : RawRay) : Plain Tryz.prog 11 [cRawRay.enc x0] (cRay.enc (rayOf x0)) :=
  plain_of_tree (n := 200) (EnvOK.add s_meniscushand_Pick (EnvOK.add s_meniscusref1_Unit (EnvOK.add s_meniscushand_Wide EnvOK.nil))) Tryz.func11 (args := [cRawRay.av x0]) (by simp only [AV.vals, Cod.av_val]) (Nat.le_of_ble_eq_true (by kernel_rfl)) LFn.nil cRay (by
    rw [t_meniscushand_Ray]
    simp only [den_br, den_bind, den_ret, den_fail, den_inl, den_inr, decide_eq_true_eq, gt_iff_lt, ge_iff_le, beq_iff_eq]
    have pk400 : ∀ n : Int, pickOk n 400 = true := fun _ => by simp [pickOk]
    have pk9000 : ∀ n : Int, pickOk n 9000 = true := fun _ => by simp [pickOk]
    have pk200 : ∀ n : Int, pickOk n 200 = true := fun _ => by simp [pickOk]
    have pk30000 : ∀ n : Int, pickOk n 30000 = true := fun _ => by simp [pickOk]
    have pk655360 : ∀ n : Int, pickOk n 655360 = true := fun _ => by simp [pickOk]
    have wu : ∀ n : Int, IntKind.i64.wrap (pick n 30000 - 15000) = pick n 30000 - 15000 := fun n => wr (by have := pick_bd n (m := 30000) (by decide); omega)
    have wx : ∀ n : Int, IntKind.i64.wrap (pick n 655360 - 327680) = pick n 655360 - 327680 := fun n => wr (by have := pick_bd n (m := 655360) (by decide); omega)
    simp only [pk400, pk9000, pk200, pk30000, pk655360, wu, wx, if_true, rayOf, rayWide, rayLean]
    by_cases c1 : x0.wide.tmod 5 = 4 <;> by_cases c2 : x0.wide.tmod 5 = 3 <;> by_cases c3 : x0.lean.tmod 3 = 2 <;> simp only [c1, c2, c3, if_true, if_false] <;> first | rfl | omega)
theorem s_meniscushand_Ray : Ev.Spec Tryz.prog 11 (F1 cRawRay cRay rayOf) := spec1 (fun vs w => Tryz.call11 vs w) c_meniscushand_Ray
end Go.Proofs.YtlbmjajjldfigaaGreat
