/-
  Contracts of calls, written by a small program of this session out of the evaluator's trees.
-/
import Derived.Test.YtliglpiofomelaaGreatCore
import Derived.Test.YtliglpiofomelaaGreatCoreLoops
import Derived.Test.YtliglpiofomelaaGreatCore2
import Derived.Test.YtliglpiofomelaaGreatCore3
import Derived.Test.YtliglpiofomelaaGreatCore4
import Derived.Test.YtliglpiofomelaaGreatCore5
import Derived.Test.YtliglpiofomelaaGreatCore6
import Derived.Test.YtliglpiofomelaaGreatCore7
import Derived.Test.YtliglpiofomelaaGreatCore8
import Derived.Test.YtliglpiofomelaaGreatCore9
import Derived.Test.YtliglpiofomelaaGreatEvMore
import Derived.Test.YtliglpiofomelaaGreatSym
import Derived.Test.YtliglpiofomelaaGreatSysF
import Derived.Test.YtliglpiofomelaaGreatLess2
import Derived.Test.YtliglpiofomelaaGreatFloCod
import Derived.Test.YtliglpiofomelaaGreatGs
import Derived.Test.YtliglpiofomelaaGreatPup
import Derived.Test.YtliglpiofomelaaGreatR0
import Derived.Test.YtliglpiofomelaaGreatG0
import Derived.Test.YtliglpiofomelaaGreatEvCod
import Derived.Test.YtliglpiofomelaaGreatEvRet
import Derived.Test.YtliglpiofomelaaGreatProg
namespace Go.Proofs.YtliglpiofomelaaGreat
open Go Go.RowKit Ev
set_option maxRecDepth 100000
set_option linter.unusedVariables false
set_option linter.unusedSimpArgs false

/-! pupil.sized -/
theorem t_pupil_sized (t0a : Unit) (t0b : Iv) (t1 : Int) (r0 : List Surf) :
    evFn Tryz.prog Env.nil Laws.nil 200 Tryz.f77 (((sc 2 [0, 1] (tAgg 0 0 ccNil ccNil_ok ccIv ccIv_ok (tCod 1 cInt tNil)) (rL_surf rNil)).enc ((t0a, t0b, t1, ()), (r0, ()))).tmps.map Prod.snd) ((sc 2 [0, 1] (tAgg 0 0 ccNil ccNil_ok ccIv ccIv_ok (tCod 1 cInt tNil)) (rL_surf rNil)).enc ((t0a, t0b, t1, ()), (r0, ()))).mem cBool.dec =
      .br (decide ((@Nat.cast Int _ r0.length) > 0)) (.br (decide (t1 ≥ 1)) (.ret (decide (t1 ≤ 16))) (.ret (false))) (.ret (false)) := by kernel_rfl
theorem c_pupil_sized : PlainS Tryz.prog 77 (sc 2 [0, 1] (tAgg 0 0 ccNil ccNil_ok ccIv ccIv_ok (tCod 1 cInt tNil)) (rL_surf rNil)) cBool (fun _ => true) ((fun x => sizedC x.2.1 x.1.2.2.1)) := by
  intro x h N w vs hM hv
  obtain ⟨⟨t0a, t0b, t1, ⟨⟩⟩, ⟨r0, ⟨⟩⟩⟩ := x
  refine calls_of_tree (n := 200) EnvOK.nil Tryz.func77 hv (Nat.le_of_ble_eq_true (by kernel_rfl)) LFn.nil hM cBool ?_
  rw [t_pupil_sized]
  simp only [den_br, den_bind, den_ret, den_fail, den_get, den_inl, den_inr, decide_eq_true_eq, gt_iff_lt, ge_iff_le, beq_iff_eq]
  simp only [sizedC]
  by_cases c1 : 0 < (r0.length : Int)
  · have c1' : decide (0 < (r0.length : Int)) = true := decide_eq_true c1
    rw [if_pos c1, c1']
    by_cases c2 : 1 ≤ t1 <;> simp [c2]
  · have c1' : decide (0 < (r0.length : Int)) = false := decide_eq_false c1
    rw [if_neg c1, c1']; rfl
theorem s_pupil_sized : Ev.Spec Tryz.prog 77 (FS (sc 2 [0, 1] (tAgg 0 0 ccNil ccNil_ok ccIv ccIv_ok (tCod 1 cInt tNil)) (rL_surf rNil)) cBool (fun _ => true) ((fun x => sizedC x.2.1 x.1.2.2.1))) := specS rfl (fun vs w => Tryz.call77 vs w) c_pupil_sized

/-! pupil.edge -/
theorem t_pupil_edge (x0 : Iv) (x1 : Int) (x2 : Int) :
    evFn Tryz.prog (Env.add 39 (F2 cIv cIv cIv Iv.div) (Env.add 40 (F2 cIv cInt cIv Iv.times) (Env.add 41 (F1 cInt cIv Iv.whole) (Env.add 55 (F2 cIv cIv cIv Iv.hull) Env.nil)))) Laws.nil 200 Tryz.f84 [cIv.av x0, cInt.av x1, cInt.av x2] [] cIv.dec =
      .bind (x0.times x1) fun viv0 => .bind (x0.times (IntKind.i64.wrap (x1 + 1))) fun viv1 => .bind (viv0.hull viv1) fun viv2 => .bind (Iv.whole x2) fun viv3 => .bind (viv2.div viv3) fun viv4 => .ret (viv4) := by kernel_rfl
theorem c_pupil_edge (x0 : Iv) (x1 : Int) (x2 : Int) : Plain Tryz.prog 84 [cIv.enc x0, cInt.enc x1, cInt.enc x2] (cIv.enc (edgeC x0 x1 x2)) :=
  plain_of_tree (n := 200) (EnvOK.add s_iv_Div (EnvOK.add s_iv_Times (EnvOK.add s_iv_Whole (EnvOK.add s_iv_Hull EnvOK.nil)))) Tryz.func84 (args := [cIv.av x0, cInt.av x1, cInt.av x2]) (by simp only [AV.vals, Cod.av_val]) (Nat.le_of_ble_eq_true (by kernel_rfl)) LFn.nil cIv (by
    rw [t_pupil_edge]
    rfl)
theorem s_pupil_edge : Ev.Spec Tryz.prog 84 (F3 cIv cInt cInt cIv edgeC) := spec3 (fun vs w => Tryz.call84 vs w) c_pupil_edge

/-! pupil.Aim -/
theorem t_pupil_Aim (t0a : Unit) (t0b : Iv) (t1 : Iv) (t2 : Iv) (t3 : Cx) (t4 : Int) (r0 : List Surf) :
    evFn Tryz.prog (Env.add 18 (F1 cInt cIv Iv.point) (Env.add 42 (F1 cV cV V.unit) (Env.add 43 (F3 cIv cIv cIv cV V.mk) (Env.add 44 (F2 cIv cIv cIv Iv.sub) (Env.add 47 (F1 cV cBool V.right) (Env.add 69 (F1 cCx cBool cWhole) (Env.add 77 (FS (sc 2 [0, 1] (tAgg 0 0 ccNil ccNil_ok ccIv ccIv_ok (tCod 1 cInt tNil)) (rL_surf rNil)) cBool (fun _ => true) ((fun x => sizedC x.2.1 x.1.2.2.1))) (Env.add 84 (F3 cIv cInt cInt cIv edgeC) Env.nil)))))))) Laws.nil 200 Tryz.f30 (((sc 5 [0, 1, 2, 3, 4] (tAgg 0 0 ccNil ccNil_ok ccIv ccIv_ok (tCod 1 cIv (tCod 2 cIv (tCod 3 cCx (tCod 4 cInt tNil))))) (rL_surf rNil)).enc ((t0a, t0b, t1, t2, t3, t4, ()), (r0, ()))).tmps.map Prod.snd) ((sc 5 [0, 1, 2, 3, 4] (tAgg 0 0 ccNil ccNil_ok ccIv ccIv_ok (tCod 1 cIv (tCod 2 cIv (tCod 3 cCx (tCod 4 cInt tNil))))) (rL_surf rNil)).enc ((t0a, t0b, t1, t2, t3, t4, ()), (r0, ()))).mem (cTwo cRay cBool).dec =
      .br (true) (.bind (sizedC r0 t4) fun vb0 => .br (!vb0) (.ret ((Ray.mk (V.mk (Iv.mk 0 0 false) (Iv.mk 0 0 false) (Iv.mk 0 0 false)) (V.mk (Iv.mk 0 0 false) (Iv.mk 0 0 false) (Iv.mk 0 0 false)), false))) (.bind (cWhole t3) fun vb1 => .br (!vb1) (.ret ((Ray.mk (V.mk (Iv.mk 0 0 false) (Iv.mk 0 0 false) (Iv.mk 0 0 false)) (V.mk (Iv.mk 0 0 false) (Iv.mk 0 0 false) (Iv.mk 0 0 false)), false))) (.get (Ev.fTo t3.1) fun vn2 => .bind (edgeC t0b vn2 t4) fun viv3 => .get (Ev.fTo t3.2) fun vn4 => .bind (edgeC t0b vn4 t4) fun viv5 => .bind (Iv.point 0) fun viv6 => .bind (V.mk t1 t2 viv6) fun vv7 => .bind (viv3.sub t1) fun viv8 => .bind (viv5.sub t2) fun viv9 => .br (decide ((0 : Int) ≤ 0 ∧ 0 < (@Nat.cast Int _ r0.length))) (.get (r0[Int.toNat 0]?) fun vt10 => .bind (V.mk viv8 viv9 vt10.at_) fun vv11 => .bind (vv11.unit) fun vv12 => .bind (vv7.right) fun vb13 => .br (!vb13) (.ret ((Ray.mk (V.mk (Iv.mk 0 0 false) (Iv.mk 0 0 false) (Iv.mk 0 0 false)) (V.mk (Iv.mk 0 0 false) (Iv.mk 0 0 false) (Iv.mk 0 0 false)), false))) (.bind (vv12.right) fun vb14 => .br (!vb14) (.ret ((Ray.mk (V.mk (Iv.mk 0 0 false) (Iv.mk 0 0 false) (Iv.mk 0 0 false)) (V.mk (Iv.mk 0 0 false) (Iv.mk 0 0 false) (Iv.mk 0 0 false)), false))) (.ret ((Ray.mk vv7 vv12, true))))) (.fail)))) (.fail) := by kernel_rfl
theorem c_pupil_Aim : PlainS Tryz.prog 30 (sc 5 [0, 1, 2, 3, 4] (tAgg 0 0 ccNil ccNil_ok ccIv ccIv_ok (tCod 1 cIv (tCod 2 cIv (tCod 3 cCx (tCod 4 cInt tNil))))) (rL_surf rNil)) (cTwo cRay cBool) (fun _ => true) ((fun x => aimP x.1.2.1 x.2.1 x.1.2.2.1 x.1.2.2.2.1 x.1.2.2.2.2.1 x.1.2.2.2.2.2.1)) := by
  intro x h N w vs hM hv
  obtain ⟨⟨t0a, t0b, t1, t2, t3, t4, ⟨⟩⟩, ⟨r0, ⟨⟩⟩⟩ := x
  refine calls_of_tree (n := 200) (EnvOK.add s_iv_Point (EnvOK.add s_vec_Unit (EnvOK.add s_vec_Of (EnvOK.add s_iv_Sub (EnvOK.add s_vec_Right (EnvOK.add s_gauss_Whole (EnvOK.add s_pupil_sized (EnvOK.add s_pupil_edge EnvOK.nil)))))))) Tryz.func30 hv (Nat.le_of_ble_eq_true (by kernel_rfl)) LFn.nil hM (cTwo cRay cBool) ?_
  rw [t_pupil_Aim]
  simp only [den_br, den_bind, den_ret, den_fail]
  have hz : (⟨⟨⟨0, 0, false⟩, ⟨0, 0, false⟩, ⟨0, 0, false⟩⟩, ⟨⟨0, 0, false⟩, ⟨0, 0, false⟩, ⟨0, 0, false⟩⟩⟩ : Ray) = Ray.zero := rfl
  simp only [aimP, aimOf]
  by_cases hs : sizedC r0 t4 = true
  case neg => simp [hs, hz]
  have hs' := sizedC_iff.1 hs
  obtain ⟨s, hg⟩ : ∃ s, r0[0]? = some s := ⟨_, List.getElem?_eq_getElem (by omega)⟩
  have hg' : r0[Int.toNat 0]? = some s := hg
  have hf : firstAt r0 = s.at_ := by unfold firstAt; rw [hg]
  have h0 : (0 : Int) ≤ 0 ∧ 0 < (r0.length : Int) := ⟨by decide, hs'.1⟩
  rcases Bool.eq_false_or_eq_true (cWhole t3) with hw | hw
  case inr => simp [hs, hw, hz]
  obtain ⟨p, hp, hps⟩ := whole_spec hw
  simp only [hs, hw, hz, if_true, Bool.not_true, Bool.false_eq_true, if_false, to_FI hp.1, to_FI hp.2, den_get, den_br, den_bind, den_ret, h0, and_self, decide_true, hg', cV_CI hp, true_and]
  rw [show (V.mk ((edgeC t0b p.x t4).sub t1) ((edgeC t0b p.y t4).sub t2) s.at_).unit = (aimRay t0b r0 t1 t2 p t4).d by unfold aimRay; rw [hf], show V.mk t1 t2 (Iv.point 0) = (aimRay t0b r0 t1 t2 p t4).o from rfl]
  cases c1 : (aimRay t0b r0 t1 t2 p t4).o.right <;> cases c2 : (aimRay t0b r0 t1 t2 p t4).d.right <;> simp
theorem s_pupil_Aim : Ev.Spec Tryz.prog 30 (FS (sc 5 [0, 1, 2, 3, 4] (tAgg 0 0 ccNil ccNil_ok ccIv ccIv_ok (tCod 1 cIv (tCod 2 cIv (tCod 3 cCx (tCod 4 cInt tNil))))) (rL_surf rNil)) (cTwo cRay cBool) (fun _ => true) ((fun x => aimP x.1.2.1 x.2.1 x.1.2.2.1 x.1.2.2.2.1 x.1.2.2.2.2.1 x.1.2.2.2.2.2.1))) := specS rfl (fun vs w => Tryz.call30 vs w) c_pupil_Aim

/-! pupil.kind -/
theorem t_pupil_kind (t0a : Unit) (t0b : Iv) (t1 : Iv) (t2 : Iv) (t3 : Cx) (t4 : Int) (r0 : List Surf) :
    evFn Tryz.prog (Env.add 30 (FS (sc 5 [0, 1, 2, 3, 4] (tAgg 0 0 ccNil ccNil_ok ccIv ccIv_ok (tCod 1 cIv (tCod 2 cIv (tCod 3 cCx (tCod 4 cInt tNil))))) (rL_surf rNil)) (cTwo cRay cBool) (fun _ => true) ((fun x => aimP x.1.2.1 x.2.1 x.1.2.2.1 x.1.2.2.2.1 x.1.2.2.2.2.1 x.1.2.2.2.2.2.1))) (Env.add 35 (FS (sc 2 [0, 1] (tAgg 0 0 ccNil ccNil_ok ccIv ccIv_ok (tCod 1 cRay tNil)) (rL_surf rNil)) cRes ((fun x => lenOk x.2.1)) ((fun x => traceOf x.2.1 x.1.2.2.1))) Env.nil)) Laws.nil 200 Tryz.f78 (((sc 5 [0, 1, 2, 3, 4] (tAgg 0 0 ccNil ccNil_ok ccIv ccIv_ok (tCod 1 cIv (tCod 2 cIv (tCod 3 cCx (tCod 4 cInt tNil))))) (rL_surf rNil)).enc ((t0a, t0b, t1, t2, t3, t4, ()), (r0, ()))).tmps.map Prod.snd) ((sc 5 [0, 1, 2, 3, 4] (tAgg 0 0 ccNil ccNil_ok ccIv ccIv_ok (tCod 1 cIv (tCod 2 cIv (tCod 3 cCx (tCod 4 cInt tNil))))) (rL_surf rNil)).enc ((t0a, t0b, t1, t2, t3, t4, ()), (r0, ()))).mem cInt.dec =
      .br (true) (.bind (aimP t0b r0 t1 t2 t3 t4) fun vy0 => .br (!vy0.2) (.ret (3)) (.br (Ev.lenOk r0) (.bind (traceOf r0 vy0.1) fun vre1 => .ret (vre1.1)) (.fail))) (.fail) := by kernel_rfl
theorem c_pupil_kind : PlainS Tryz.prog 78 (sc 5 [0, 1, 2, 3, 4] (tAgg 0 0 ccNil ccNil_ok ccIv ccIv_ok (tCod 1 cIv (tCod 2 cIv (tCod 3 cCx (tCod 4 cInt tNil))))) (rL_surf rNil)) cInt ((fun x => lenOk x.2.1)) ((fun x => kindP x.1.2.1 x.2.1 x.1.2.2.1 x.1.2.2.2.1 x.1.2.2.2.2.1 x.1.2.2.2.2.2.1)) := by
  intro x h N w vs hM hv
  obtain ⟨⟨t0a, t0b, t1, t2, t3, t4, ⟨⟩⟩, ⟨r0, ⟨⟩⟩⟩ := x
  refine calls_of_tree (n := 200) (EnvOK.add s_pupil_Aim (EnvOK.add s_trace_Trace EnvOK.nil)) Tryz.func78 hv (Nat.le_of_ble_eq_true (by kernel_rfl)) LFn.nil hM cInt ?_
  rw [t_pupil_kind]
  simp only at h
  simp only [den_br, den_bind, den_ret, den_fail, den_get, den_inl, den_inr, decide_eq_true_eq, gt_iff_lt, ge_iff_le, beq_iff_eq]
  simp only [h, if_true, kindP]
  cases (aimP t0b r0 t1 t2 t3 t4).2 <;> simp
theorem s_pupil_kind : Ev.Spec Tryz.prog 78 (FS (sc 5 [0, 1, 2, 3, 4] (tAgg 0 0 ccNil ccNil_ok ccIv ccIv_ok (tCod 1 cIv (tCod 2 cIv (tCod 3 cCx (tCod 4 cInt tNil))))) (rL_surf rNil)) cInt ((fun x => lenOk x.2.1)) ((fun x => kindP x.1.2.1 x.2.1 x.1.2.2.1 x.1.2.2.2.1 x.1.2.2.2.2.1 x.1.2.2.2.2.2.1))) := specS rfl (fun vs w => Tryz.call78 vs w) c_pupil_kind

/-! pupil.Scan -/
theorem tl_pupil_Scan_5 (t33 : Int) (t32 : Int) (t3 : Int) (r0 : List Cx) (r1 : Iv) (r2 : Iv) (r3 : Iv) (r4 : RepV) (r5 : RepV) (r6 : List Surf) :
    ev Tryz.prog (Env.add 19 (FR (sc 1 [0] (tCod 0 cInt tNil) rNil) (sc 1 [0] (tSl 0 0 tNil) (rG_cx 41 rNil)) (fun _ => true) ((fun x => ((), ((cellsP (cellsR x.1.1)).map cxOf, ()))))) (Env.add 20 (F2 cCx cInt cInt cInDisc) (Env.add 56 (F1 cIv cBool Iv.right) (Env.add 77 (FS (sc 2 [0, 1] (tAgg 0 0 ccNil ccNil_ok ccIv ccIv_ok (tCod 1 cInt tNil)) (rL_surf rNil)) cBool (fun _ => true) ((fun x => sizedC x.2.1 x.1.2.2.1))) (Env.add 78 (FS (sc 5 [0, 1, 2, 3, 4] (tAgg 0 0 ccNil ccNil_ok ccIv ccIv_ok (tCod 1 cIv (tCod 2 cIv (tCod 3 cCx (tCod 4 cInt tNil))))) (rL_surf rNil)) cInt ((fun x => lenOk x.2.1)) ((fun x => kindP x.1.2.1 x.2.1 x.1.2.2.1 x.1.2.2.2.1 x.1.2.2.2.2.1 x.1.2.2.2.2.2.1))) (Env.addT 79 (inl Tryz.prog Env.nil 60 Tryz.f79) Env.nil)))))) Laws.nil 200 none (loopAt Tryz.f28 5) ((sc 74 [33, 32, 3, 31, 4, 5, 6, 10, 8] (tCod 33 cInt (tCod 32 cInt (tCod 3 cInt (tSl 31 0 (tOwn 4 1 (tOwn 5 2 (tOwn 6 3 (tOwn 10 4 (tOwn 8 5 tNil))))))))) (rG_cx 41 (rBoxSl 6 ccIv ccIv_ok (rBox ccIv ccIv_ok (rBox ccIv ccIv_ok (rBox ccRep ccRep_ok (rBox ccRep ccRep_ok (rL_surf rNil)))))))).enc ((t33, t32, t3, ()), (r0, r1, r2, r3, r4, r5, r6, ()))) (backK (sc 74 [33, 32, 3, 31, 4, 5, 6, 10, 8] (tCod 33 cInt (tCod 32 cInt (tCod 3 cInt (tSl 31 0 (tOwn 4 1 (tOwn 5 2 (tOwn 6 3 (tOwn 10 4 (tOwn 8 5 tNil))))))))) (rG_cx 41 (rBoxSl 6 ccIv ccIv_ok (rBox ccIv ccIv_ok (rBox ccIv ccIv_ok (rBox ccRep ccRep_ok (rBox ccRep ccRep_ok (rL_surf rNil)))))))) (ocExit 0 (sc 74 [10, 8] (tOwn 10 0 (tOwn 8 1 tNil)) (rBox ccRep ccRep_ok (rBox ccRep ccRep_ok rNil))))) =
      .br (decide (t33 < t32)) (.br (decide (0 ≤ t33 ∧ t33 < (@Nat.cast Int _ r0.length))) (.get (r0[t33.toNat]?) fun vt0 => .bind (cInDisc vt0 t3) fun vn1 => .br (vn1 == 2) (.ret (Sum.inl ((IntKind.i64.wrap (t33 + 1), t32, t3, ()), r0, r1, r2, r3, r4, r5, r6, ()))) (.br (Ev.lenOk r6) (.bind (kindP r1 r6 r2 r3 vt0 t3) fun vn2 => .br (vn2 == 2) (.ret (Sum.inl ((IntKind.i64.wrap (t33 + 1), t32, t3, ()), r0, r1, r2, r3, (r4.1, r4.2.1, IntKind.i64.wrap (r4.2.2.1 + 1), r4.2.2.2), r5, r6, ()))) (.br (vn2 == 1) (.br (vn1 == 1) (.get (cSumBits BinOp.add FloatKind.f64 vt0.1 vt0.2 4607182418800017408 0) fun vy3 => .get (cSumBits BinOp.add FloatKind.f64 vy3.1 vy3.2 0 4607182418800017408) fun vy4 => .br (r4.2.2.2.1) (.get (Ev.fMin r4.2.2.2.2.1.1 vt0.1) fun vna5 => .get (Ev.fMin r4.2.2.2.2.1.2 vt0.2) fun vna6 => .get (Ev.fMax r4.2.2.2.2.2.1 vy4.1) fun vna7 => .get (Ev.fMax r4.2.2.2.2.2.2 vy4.2) fun vna8 => .ret (Sum.inl ((IntKind.i64.wrap (t33 + 1), t32, t3, ()), r0, r1, r2, r3, (IntKind.i64.wrap (r4.1 + 1), r4.2.1, IntKind.i64.wrap (r4.2.2.1 + 1), true, (vna5, vna6), vna7, vna8), r5, r6, ()))) (.ret (Sum.inl ((IntKind.i64.wrap (t33 + 1), t32, t3, ()), r0, r1, r2, r3, (IntKind.i64.wrap (r4.1 + 1), r4.2.1, IntKind.i64.wrap (r4.2.2.1 + 1), true, vt0, vy4), r5, r6, ())))) (.get (cSumBits BinOp.add FloatKind.f64 vt0.1 vt0.2 4607182418800017408 0) fun vy9 => .get (cSumBits BinOp.add FloatKind.f64 vy9.1 vy9.2 0 4607182418800017408) fun vy10 => .br (r4.2.2.2.1) (.get (Ev.fMin r4.2.2.2.2.1.1 vt0.1) fun vna11 => .get (Ev.fMin r4.2.2.2.2.1.2 vt0.2) fun vna12 => .get (Ev.fMax r4.2.2.2.2.2.1 vy10.1) fun vna13 => .get (Ev.fMax r4.2.2.2.2.2.2 vy10.2) fun vna14 => .ret (Sum.inl ((IntKind.i64.wrap (t33 + 1), t32, t3, ()), r0, r1, r2, r3, (r4.1, IntKind.i64.wrap (r4.2.1 + 1), IntKind.i64.wrap (r4.2.2.1 + 1), true, (vna11, vna12), vna13, vna14), r5, r6, ()))) (.ret (Sum.inl ((IntKind.i64.wrap (t33 + 1), t32, t3, ()), r0, r1, r2, r3, (r4.1, IntKind.i64.wrap (r4.2.1 + 1), IntKind.i64.wrap (r4.2.2.1 + 1), true, vt0, vy10), r5, r6, ()))))) (.get (cSumBits BinOp.add FloatKind.f64 vt0.1 vt0.2 4607182418800017408 0) fun vy15 => .get (cSumBits BinOp.add FloatKind.f64 vy15.1 vy15.2 0 4607182418800017408) fun vy16 => .br (r4.2.2.2.1) (.get (Ev.fMin r4.2.2.2.2.1.1 vt0.1) fun vna17 => .get (Ev.fMin r4.2.2.2.2.1.2 vt0.2) fun vna18 => .get (Ev.fMax r4.2.2.2.2.2.1 vy16.1) fun vna19 => .get (Ev.fMax r4.2.2.2.2.2.2 vy16.2) fun vna20 => .ret (Sum.inl ((IntKind.i64.wrap (t33 + 1), t32, t3, ()), r0, r1, r2, r3, (r4.1, IntKind.i64.wrap (r4.2.1 + 1), IntKind.i64.wrap (r4.2.2.1 + 1), true, (vna17, vna18), vna19, vna20), r5, r6, ()))) (.ret (Sum.inl ((IntKind.i64.wrap (t33 + 1), t32, t3, ()), r0, r1, r2, r3, (r4.1, IntKind.i64.wrap (r4.2.1 + 1), IntKind.i64.wrap (r4.2.2.1 + 1), true, vt0, vy16), r5, r6, ())))))) (.fail))) (.fail)) (.ret (Sum.inr ((), r4, r5, ()))) := by kernel_rfl
theorem ok_pupil_Scan_5 : LOK Tryz.prog (LoopR.of (sc 74 [33, 32, 3, 31, 4, 5, 6, 10, 8] (tCod 33 cInt (tCod 32 cInt (tCod 3 cInt (tSl 31 0 (tOwn 4 1 (tOwn 5 2 (tOwn 6 3 (tOwn 10 4 (tOwn 8 5 tNil))))))))) (rG_cx 41 (rBoxSl 6 ccIv ccIv_ok (rBox ccIv ccIv_ok (rBox ccIv ccIv_ok (rBox ccRep ccRep_ok (rBox ccRep ccRep_ok (rL_surf rNil)))))))) (ocExit 0 (sc 74 [10, 8] (tOwn 10 0 (tOwn 8 1 tNil)) (rBox ccRep ccRep_ok (rBox ccRep ccRep_ok rNil)))) (runBy scanPStep scanPM)) (loopAt Tryz.f28 5) := by
  refine loop_ok (EnvOK.add s_gauss_Cells (EnvOK.add s_gauss_InDisc (EnvOK.add s_iv_Right (EnvOK.add s_pupil_sized (EnvOK.add s_pupil_kind (EnvOK.addT (n := 60) EnvOK.nil Tryz.func79 (fun vs w => Tryz.call79 vs w) EnvOK.nil)))))) (LFn.at (fn := Tryz.f28) LFn.nil 5) scanPStep (n := 200) (fun x z h => ?_) (runBy_ok _ _)
  obtain ⟨⟨t33, t32, t3, ⟨⟩⟩, ⟨r0, r1, r2, r3, r4, r5, r6, ⟨⟩⟩⟩ := x
  rw [tl_pupil_Scan_5]
  rw [← h]
  simp only [scanPStep]
  simp only [den_br, den_bind, den_ret, den_fail, decide_eq_true_eq, gt_iff_lt, ge_iff_le, beq_iff_eq]
  by_cases h0 : t33 < t32 <;> simp only [h0, if_true, if_false]
  by_cases h1 : 0 ≤ t33 ∧ t33 < (r0.length : Int) <;> simp only [h1, and_self, if_true, if_false]
  cases hg : r0[t33.toNat]? with
  | none => rfl
  | some z =>
    simp only [den_br, den_bind, den_ret, den_fail, den_get, beq_iff_eq]
    by_cases d2 : cInDisc z t3 = 2
    · simp only [d2, if_true]
    simp only [d2, if_false]
    by_cases hl : Ev.lenOk r6 = true
    case neg => simp only [hl, if_false, Bool.false_eq_true]
    simp only [hl, if_true]
    simp only [tallyP, keepP]
    by_cases k2 : kindP r1 r6 r2 r3 z t3 = 2
    · simp only [k2, if_true]; rfl
    simp only [k2, if_false]
    rw [show (4607182418800017408 : Nat) = oneF from rfl]
    have key : ∀ (a b : Int), (Tr.get (cSumBits .add .f64 z.1 z.2 oneF 0) fun u => Tr.get (cSumBits .add .f64 u.1 u.2 0 oneF) fun v => Tr.br r4.2.2.2.1 (Tr.get (fMin r4.2.2.2.2.1.1 z.1) fun c => Tr.get (fMin r4.2.2.2.2.1.2 z.2) fun d => Tr.get (fMax r4.2.2.2.2.2.1 v.1) fun e => Tr.get (fMax r4.2.2.2.2.2.2 v.2) fun f => Tr.ret (Sum.inl ((IntKind.i64.wrap (t33 + 1), t32, t3, ()), r0, r1, r2, r3, (a, b, IntKind.i64.wrap (r4.2.2.1 + 1), true, (c, d), (e, f)), r5, r6, ()) : ScanPX ⊕ (Unit × (RepV × RepV × Unit)))) (Tr.ret (Sum.inl ((IntKind.i64.wrap (t33 + 1), t32, t3, ()), r0, r1, r2, r3, (a, b, IntKind.i64.wrap (r4.2.2.1 + 1), true, z, v), r5, r6, ())))).den = (keepP r4 z).bind fun q => some (Sum.inl ((IntKind.i64.wrap (t33 + 1), t32, t3, ()), r0, r1, r2, r3, (a, b, IntKind.i64.wrap (r4.2.2.1 + 1), true, q.1, q.2), r5, r6, ())) := by
      intro a b
      simp only [keepP]
      cases cSumBits .add .f64 z.1 z.2 oneF 0 with
      | none => rfl
      | some u =>
        simp only [den_get, Option.bind_some]
        cases cSumBits .add .f64 u.1 u.2 0 oneF with
        | none => rfl
        | some v =>
          simp only [den_get, den_br, Option.bind_some]
          rcases Bool.eq_false_or_eq_true r4.2.2.2.1 with hb | hb
          · simp only [hb, if_true]
            cases fMin r4.2.2.2.2.1.1 z.1 with
            | none => rfl
            | some c =>
              cases fMin r4.2.2.2.2.1.2 z.2 with
              | none => rfl
              | some d =>
                cases fMax r4.2.2.2.2.2.1 v.1 with
                | none => rfl
                | some e =>
                  cases fMax r4.2.2.2.2.2.2 v.2 <;> rfl
          · simp only [hb, Bool.false_eq_true, if_false]; rfl
    by_cases k1 : kindP r1 r6 r2 r3 z t3 = 1
    · by_cases d1 : cInDisc z t3 = 1
      · simp only [k1, d1, and_self, if_true]
        refine (key _ _).trans ?_
        simp only [keepP, Option.bind_assoc, Option.bind_some]
      · simp only [k1, d1, and_false, if_true, if_false]
        refine (key _ _).trans ?_
        simp only [keepP, Option.bind_assoc, Option.bind_some]
    · simp only [k1, false_and, if_false]
      refine (key _ _).trans ?_
      simp only [keepP, Option.bind_assoc, Option.bind_some]
theorem t_pupil_Scan (t0a : Unit) (t0b : Iv) (t1 : Iv) (t2 : Iv) (t3 : Int) (r0 : List Surf) :
    evFn Tryz.prog (Env.add 19 (FR (sc 1 [0] (tCod 0 cInt tNil) rNil) (sc 1 [0] (tSl 0 0 tNil) (rG_cx 41 rNil)) (fun _ => true) ((fun x => ((), ((cellsP (cellsR x.1.1)).map cxOf, ()))))) (Env.add 20 (F2 cCx cInt cInt cInDisc) (Env.add 56 (F1 cIv cBool Iv.right) (Env.add 77 (FS (sc 2 [0, 1] (tAgg 0 0 ccNil ccNil_ok ccIv ccIv_ok (tCod 1 cInt tNil)) (rL_surf rNil)) cBool (fun _ => true) ((fun x => sizedC x.2.1 x.1.2.2.1))) (Env.add 78 (FS (sc 5 [0, 1, 2, 3, 4] (tAgg 0 0 ccNil ccNil_ok ccIv ccIv_ok (tCod 1 cIv (tCod 2 cIv (tCod 3 cCx (tCod 4 cInt tNil))))) (rL_surf rNil)) cInt ((fun x => lenOk x.2.1)) ((fun x => kindP x.1.2.1 x.2.1 x.1.2.2.1 x.1.2.2.2.1 x.1.2.2.2.2.1 x.1.2.2.2.2.2.1))) (Env.addT 79 (inl Tryz.prog Env.nil 60 Tryz.f79) Env.nil)))))) (Laws.add 5 (LoopR.of (sc 74 [33, 32, 3, 31, 4, 5, 6, 10, 8] (tCod 33 cInt (tCod 32 cInt (tCod 3 cInt (tSl 31 0 (tOwn 4 1 (tOwn 5 2 (tOwn 6 3 (tOwn 10 4 (tOwn 8 5 tNil))))))))) (rG_cx 41 (rBoxSl 6 ccIv ccIv_ok (rBox ccIv ccIv_ok (rBox ccIv ccIv_ok (rBox ccRep ccRep_ok (rBox ccRep ccRep_ok (rL_surf rNil)))))))) (ocExit 0 (sc 74 [10, 8] (tOwn 10 0 (tOwn 8 1 tNil)) (rBox ccRep ccRep_ok (rBox ccRep ccRep_ok rNil)))) (runBy scanPStep scanPM)) Laws.nil) 200 Tryz.f28 (((sc 4 [0, 1, 2, 3] (tAgg 0 0 ccNil ccNil_ok ccIv ccIv_ok (tCod 1 cIv (tCod 2 cIv (tCod 3 cInt tNil)))) (rL_surf rNil)).enc ((t0a, t0b, t1, t2, t3, ()), (r0, ()))).tmps.map Prod.snd) ((sc 4 [0, 1, 2, 3] (tAgg 0 0 ccNil ccNil_ok ccIv ccIv_ok (tCod 1 cIv (tCod 2 cIv (tCod 3 cInt tNil)))) (rL_surf rNil)).enc ((t0a, t0b, t1, t2, t3, ()), (r0, ()))).mem (cTwo cRep cInt).dec =
      .br (true) (.bind (sizedC r0 t3) fun vb0 => .br (!vb0) (.ret (((0, 0, 0, false, (0, 0), 0, 0), 1))) (.bind (t1.right) fun vb1 => .br (!vb1) (.ret (((0, 0, 0, false, (0, 0), 0, 0), 1))) (.bind (t2.right) fun vb2 => .br (!vb2) (.ret (((0, 0, 0, false, (0, 0), 0, 0), 1))) (.br (true) (.bind (((), List.map cxOf (cellsP (cellsR t3)), ())) fun vy3 => .get (runBy scanPStep scanPM ((0, (@Nat.cast Int _ vy3.2.1.length), t3, ()), vy3.2.1, t0b, t1, t2, (0, 0, 0, false, (0, 0), 0, 0), (0, 0, 0, false, (0, 0), 0, 0), r0, ())) fun vy4 => .ret ((vy4.2.1, 0))) (.fail))))) (.fail) := by kernel_rfl
theorem c_pupil_Scan : PlainS Tryz.prog 28 (sc 4 [0, 1, 2, 3] (tAgg 0 0 ccNil ccNil_ok ccIv ccIv_ok (tCod 1 cIv (tCod 2 cIv (tCod 3 cInt tNil)))) (rL_surf rNil)) (cTwo cRep cInt) ((fun x => lenOk x.2.1)) ((fun x => (repC (scanOf x.1.2.1 x.2.1 x.1.2.2.1 x.1.2.2.2.1 x.1.2.2.2.2.1).1, (scanOf x.1.2.1 x.2.1 x.1.2.2.1 x.1.2.2.2.1 x.1.2.2.2.2.1).2))) := by
  intro x h N w vs hM hv
  obtain ⟨⟨t0a, t0b, t1, t2, t3, ⟨⟩⟩, ⟨r0, ⟨⟩⟩⟩ := x
  refine calls_of_tree (n := 200) (EnvOK.add s_gauss_Cells (EnvOK.add s_gauss_InDisc (EnvOK.add s_iv_Right (EnvOK.add s_pupil_sized (EnvOK.add s_pupil_kind (EnvOK.addT (n := 60) EnvOK.nil Tryz.func79 (fun vs w => Tryz.call79 vs w) EnvOK.nil)))))) Tryz.func28 hv (Nat.le_of_ble_eq_true (by kernel_rfl)) (LFn.add (fn := Tryz.f28) (i := 5) (by kernel_rfl) ok_pupil_Scan_5 LFn.nil) hM (cTwo cRep cInt) ?_
  rw [t_pupil_Scan]
  simp only at h
  simp only [den_br, den_bind, den_ret, den_fail, den_get, den_inl, den_inr, decide_eq_true_eq, gt_iff_lt, ge_iff_le, beq_iff_eq]
  simp only [h, if_true]
  by_cases hs : sizedC r0 t3 = true
  case neg => simp [hs, scanOf, repC, zeroD]; rfl
  by_cases c1 : t1.right = true
  case neg => simp [hs, c1, scanOf, repC, zeroD]; rfl
  by_cases c2 : t2.right = true
  case neg => simp [hs, c1, c2, scanOf, repC, zeroD]; rfl
  have hs' := sizedC_iff.1 hs
  have hr := scanP_run (o := t0b) (x := t1) (y := t2) (res := (0, 0, 0, false, (0, 0), (0, 0))) h hs'.2
  simp only [hs, c1, c2, Bool.not_true, Bool.false_eq_true, if_false, hr, den_get, den_ret, scanOf, if_true, and_self]
  rw [repOf_fin (scanFold_ok _ _ _ _ (by omega))]
theorem s_pupil_Scan : Ev.Spec Tryz.prog 28 (FS (sc 4 [0, 1, 2, 3] (tAgg 0 0 ccNil ccNil_ok ccIv ccIv_ok (tCod 1 cIv (tCod 2 cIv (tCod 3 cInt tNil)))) (rL_surf rNil)) (cTwo cRep cInt) ((fun x => lenOk x.2.1)) ((fun x => (repC (scanOf x.1.2.1 x.2.1 x.1.2.2.1 x.1.2.2.2.1 x.1.2.2.2.2.1).1, (scanOf x.1.2.1 x.2.1 x.1.2.2.1 x.1.2.2.2.1 x.1.2.2.2.2.1).2)))) := specS rfl (fun vs w => Tryz.call28 vs w) c_pupil_Scan

/-! meniscusref20.part -/
theorem t_meniscusref20_part (x0 : Iv) (x1 : Int) (x2 : Int) :
    evFn Tryz.prog (Env.add 99 (F2 cIv cIv cIv Iv.div) (Env.add 100 (F1 cInt cIv Iv.whole) (Env.add 126 (F2 cIv cIv cIv Iv.hull) (Env.add 127 (F2 cIv cInt cIv Iv.times) Env.nil)))) Laws.nil 200 Tryz.f87 [cIv.av x0, cInt.av x1, cInt.av x2] [] cIv.dec =
      .bind (x0.times x1) fun viv0 => .bind (x0.times (IntKind.i64.wrap (x1 + 1))) fun viv1 => .bind (viv0.hull viv1) fun viv2 => .bind (Iv.whole x2) fun viv3 => .bind (viv2.div viv3) fun viv4 => .ret (viv4) := by kernel_rfl
theorem c_meniscusref20_part (x0 : Iv) (x1 : Int) (x2 : Int) : Plain Tryz.prog 87 [cIv.enc x0, cInt.enc x1, cInt.enc x2] (cIv.enc (edgeC x0 x1 x2)) :=
  plain_of_tree (n := 200) (EnvOK.add s_meniscusref1_DivIv (EnvOK.add s_meniscusref1_Whole (EnvOK.add s_meniscusref1_Hull (EnvOK.add s_meniscusref1_Times EnvOK.nil)))) Tryz.func87 (args := [cIv.av x0, cInt.av x1, cInt.av x2]) (by simp only [AV.vals, Cod.av_val]) (Nat.le_of_ble_eq_true (by kernel_rfl)) LFn.nil cIv (by
    rw [t_meniscusref20_part]
    rfl)
theorem s_meniscusref20_part : Ev.Spec Tryz.prog 87 (F3 cIv cInt cInt cIv edgeC) := spec3 (fun vs w => Tryz.call87 vs w) c_meniscusref20_part

/-! meniscusref20.Aim -/
theorem t_meniscusref20_Aim (t0a : Unit) (t0b : Iv) (t1 : Iv) (t2 : Iv) (t3 : Pair) (t4 : Int) (r0 : List Surf) :
    evFn Tryz.prog (Env.add 85 (F1 cV cV V.unit) (Env.add 86 (F2 cIv cIv cIv Iv.sub) (Env.add 87 (F3 cIv cInt cInt cIv edgeC) (Env.add 88 (F1 cInt cIv Iv.point) (Env.add 89 (F1 cV cBool V.right) Env.nil))))) Laws.nil 200 Tryz.f32 (((sc 5 [0, 1, 2, 3, 4] (tAgg 0 0 ccNil ccNil_ok ccIv ccIv_ok (tCod 1 cIv (tCod 2 cIv (tCod 3 cPair (tCod 4 cInt tNil))))) (rL_surf rNil)).enc ((t0a, t0b, t1, t2, t3, t4, ()), (r0, ()))).tmps.map Prod.snd) ((sc 5 [0, 1, 2, 3, 4] (tAgg 0 0 ccNil ccNil_ok ccIv ccIv_ok (tCod 1 cIv (tCod 2 cIv (tCod 3 cPair (tCod 4 cInt tNil))))) (rL_surf rNil)).enc ((t0a, t0b, t1, t2, t3, t4, ()), (r0, ()))).mem (cTwo cRay cBool).dec =
      .br ((@Nat.cast Int _ r0.length) == 0) (.ret ((Ray.mk (V.mk (Iv.mk 0 0 false) (Iv.mk 0 0 false) (Iv.mk 0 0 false)) (V.mk (Iv.mk 0 0 false) (Iv.mk 0 0 false) (Iv.mk 0 0 false)), false))) (.br (decide (t4 < 1)) (.ret ((Ray.mk (V.mk (Iv.mk 0 0 false) (Iv.mk 0 0 false) (Iv.mk 0 0 false)) (V.mk (Iv.mk 0 0 false) (Iv.mk 0 0 false) (Iv.mk 0 0 false)), false))) (.br (decide (t4 > 16)) (.ret ((Ray.mk (V.mk (Iv.mk 0 0 false) (Iv.mk 0 0 false) (Iv.mk 0 0 false)) (V.mk (Iv.mk 0 0 false) (Iv.mk 0 0 false) (Iv.mk 0 0 false)), false))) (.bind (edgeC t0b t3.x t4) fun viv0 => .bind (viv0.sub t1) fun viv1 => .bind (edgeC t0b t3.y t4) fun viv2 => .bind (viv2.sub t2) fun viv3 => .br (decide ((0 : Int) ≤ 0 ∧ 0 < (@Nat.cast Int _ r0.length))) (.get (r0[Int.toNat 0]?) fun vt4 => .bind ((V.mk viv1 viv3 vt4.at_).unit) fun vv5 => .bind (Iv.point 0) fun viv6 => .bind ((V.mk t1 t2 viv6).right) fun vb7 => .br (!vb7) (.ret ((Ray.mk (V.mk (Iv.mk 0 0 false) (Iv.mk 0 0 false) (Iv.mk 0 0 false)) (V.mk (Iv.mk 0 0 false) (Iv.mk 0 0 false) (Iv.mk 0 0 false)), false))) (.bind (vv5.right) fun vb8 => .br (!vb8) (.ret ((Ray.mk (V.mk (Iv.mk 0 0 false) (Iv.mk 0 0 false) (Iv.mk 0 0 false)) (V.mk (Iv.mk 0 0 false) (Iv.mk 0 0 false) (Iv.mk 0 0 false)), false))) (.ret ((Ray.mk (V.mk t1 t2 viv6) vv5, true))))) (.fail)))) := by kernel_rfl
theorem c_meniscusref20_Aim : PlainS Tryz.prog 32 (sc 5 [0, 1, 2, 3, 4] (tAgg 0 0 ccNil ccNil_ok ccIv ccIv_ok (tCod 1 cIv (tCod 2 cIv (tCod 3 cPair (tCod 4 cInt tNil))))) (rL_surf rNil)) (cTwo cRay cBool) (fun _ => true) ((fun x => aimOf x.1.2.1 x.2.1 x.1.2.2.1 x.1.2.2.2.1 x.1.2.2.2.2.1 x.1.2.2.2.2.2.1)) := by
  intro x h N w vs hM hv
  obtain ⟨⟨t0a, t0b, t1, t2, t3, t4, ⟨⟩⟩, ⟨r0, ⟨⟩⟩⟩ := x
  refine calls_of_tree (n := 200) (EnvOK.add s_meniscusref1_Unit (EnvOK.add s_meniscusref1_Sub (EnvOK.add s_meniscusref20_part (EnvOK.add s_meniscusref1_Point (EnvOK.add s_meniscusref1_RightV EnvOK.nil))))) Tryz.func32 hv (Nat.le_of_ble_eq_true (by kernel_rfl)) LFn.nil hM (cTwo cRay cBool) ?_
  rw [t_meniscusref20_Aim]
  simp only [den_br, den_bind, den_ret, den_fail, decide_eq_true_eq, gt_iff_lt, beq_iff_eq]
  have hz : (⟨⟨⟨0, 0, false⟩, ⟨0, 0, false⟩, ⟨0, 0, false⟩⟩, ⟨⟨0, 0, false⟩, ⟨0, 0, false⟩, ⟨0, 0, false⟩⟩⟩ : Ray) = Ray.zero := rfl
  simp only [aimOf]
  by_cases hs : sizedC r0 t4 = true
  case neg =>
    have hs2 : ¬ (0 < (r0.length : Int) ∧ 1 ≤ t4 ∧ t4 ≤ 16) := fun e => hs (sizedC_iff.2 e)
    by_cases c1 : (r0.length : Int) = 0
    · simp [hs, hz, c1]
    by_cases c2 : t4 < 1
    · simp [hs, hz, c1, c2]
    have c3 : 16 < t4 := by omega
    simp [hs, hz, c1, c2, c3]
  have hs' := sizedC_iff.1 hs
  obtain ⟨s, hg⟩ : ∃ s, r0[0]? = some s := ⟨_, List.getElem?_eq_getElem (by omega)⟩
  have hg' : r0[Int.toNat 0]? = some s := hg
  have hf : firstAt r0 = s.at_ := by unfold firstAt; rw [hg]
  have h0 : (0 : Int) ≤ 0 ∧ 0 < (r0.length : Int) := ⟨by decide, hs'.1⟩
  simp only [hs, hz, show ¬ (r0.length : Int) = 0 by omega, show ¬ t4 < 1 by omega, show ¬ 16 < t4 by omega, if_true, if_false, den_get, den_br, den_bind, den_ret, h0, and_self, hg', true_and]
  rw [show (V.mk ((edgeC t0b t3.x t4).sub t1) ((edgeC t0b t3.y t4).sub t2) s.at_).unit = (aimRay t0b r0 t1 t2 t3 t4).d by unfold aimRay; rw [hf], show V.mk t1 t2 (Iv.point 0) = (aimRay t0b r0 t1 t2 t3 t4).o from rfl]
  cases c1 : (aimRay t0b r0 t1 t2 t3 t4).o.right <;> cases c2 : (aimRay t0b r0 t1 t2 t3 t4).d.right <;> simp
theorem s_meniscusref20_Aim : Ev.Spec Tryz.prog 32 (FS (sc 5 [0, 1, 2, 3, 4] (tAgg 0 0 ccNil ccNil_ok ccIv ccIv_ok (tCod 1 cIv (tCod 2 cIv (tCod 3 cPair (tCod 4 cInt tNil))))) (rL_surf rNil)) (cTwo cRay cBool) (fun _ => true) ((fun x => aimOf x.1.2.1 x.2.1 x.1.2.2.1 x.1.2.2.2.1 x.1.2.2.2.2.1 x.1.2.2.2.2.2.1))) := specS rfl (fun vs w => Tryz.call32 vs w) c_meniscusref20_Aim

/-! meniscusref8.near -/
theorem t_meniscusref8_near (x0 : Int) :
    evFn Tryz.prog Env.nil Laws.nil 200 Tryz.f121 [cInt.av x0] [] cInt.dec =
      .br (decide (x0 ≥ 0)) (.ret (x0)) (.ret (Min.min (IntKind.i64.wrap (x0 + 1)) 0)) := by kernel_rfl
theorem c_meniscusref8_near (x0 : Int) (h : near30 x0 = true) : Plain Tryz.prog 121 [cInt.enc x0] (cInt.enc (nearI x0)) :=
  plain_of_tree (n := 200) EnvOK.nil Tryz.func121 (args := [cInt.av x0]) (by simp only [AV.vals, Cod.av_val]) (Nat.le_of_ble_eq_true (by kernel_rfl)) LFn.nil cInt (by
    rw [t_meniscusref8_near]
    have hb := of_decide_eq_true h
    simp only [den_br, den_bind, den_ret, den_fail, den_get, den_inl, den_inr, decide_eq_true_eq, gt_iff_lt, ge_iff_le, beq_iff_eq]
    unfold nearI
    by_cases c : x0 < 0
    · have c' : ¬ 0 ≤ x0 := by omega
      simp only [c, c', if_true, if_false]
      rw [wr (by omega), Int.min_eq_left (by omega)]
    · have c' : 0 ≤ x0 := by omega
      simp only [c, c', if_true, if_false])
theorem s_meniscusref8_near : Ev.Spec Tryz.prog 121 (F1p cInt cInt near30 nearI) := spec1p (fun vs w => Tryz.call121 vs w) c_meniscusref8_near

/-! (meniscus/meniscusref8.Pair).Norm -/
theorem t_meniscusref8_Pair_Norm (x0 : Pair) :
    evFn Tryz.prog Env.nil Laws.nil 200 Tryz.f120 [cPair.av x0] [] cInt.dec =
      .ret (IntKind.i64.wrap (IntKind.i64.wrap (x0.x * x0.x) + IntKind.i64.wrap (x0.y * x0.y))) := by kernel_rfl
theorem c_meniscusref8_Pair_Norm (x0 : Pair) (h : pair30 x0 = true) : Plain Tryz.prog 120 [cPair.enc x0] (cInt.enc (Pair.norm x0)) :=
  plain_of_tree (n := 200) EnvOK.nil Tryz.func120 (args := [cPair.av x0]) (by simp only [AV.vals, Cod.av_val]) (Nat.le_of_ble_eq_true (by kernel_rfl)) LFn.nil cInt (by
    rw [t_meniscusref8_Pair_Norm]
    simp only [pair30, near30, Bool.and_eq_true, decide_eq_true_eq] at h
    have b1 := sq_bd (a := x0.x) (B := 1073741824) (by omega) (by decide)
    have b2 := sq_bd (a := x0.y) (B := 1073741824) (by omega) (by decide)
    rw [wr (n := x0.x * x0.x) (by omega), wr (n := x0.y * x0.y) (by omega), wr (n := x0.x * x0.x + x0.y * x0.y) (by omega)]
    rfl)
theorem s_meniscusref8_Pair_Norm : Ev.Spec Tryz.prog 120 (F1p cPair cInt pair30 Pair.norm) := spec1p (fun vs w => Tryz.call120 vs w) c_meniscusref8_Pair_Norm

/-! (meniscus/meniscusref8.Pair).InDisc -/
theorem t_meniscusref8_Pair_InDisc (x0 : Pair) (x1 : Int) :
    evFn Tryz.prog (Env.add 116 (F3 cInt cInt cInt cInt within) (Env.add 120 (F1p cPair cInt pair30 Pair.norm) (Env.add 121 (F1p cInt cInt near30 nearI) Env.nil))) Laws.nil 200 Tryz.f82 [cPair.av x0, cInt.av x1] [] cInt.dec =
      .bind (within x1 0 1048576) fun vn0 => .br (pair30 (Pair.mk (IntKind.i64.wrap (x0.x + Int.tmod 0 2)) (IntKind.i64.wrap (x0.y + IntKind.i64.wrap (Int.tdiv 0 2))))) (.bind ((Pair.mk (IntKind.i64.wrap (x0.x + Int.tmod 0 2)) (IntKind.i64.wrap (x0.y + IntKind.i64.wrap (Int.tdiv 0 2)))).norm) fun vn1 => .br (pair30 (Pair.mk (IntKind.i64.wrap (x0.x + (IntKind.i64.wrap (0 + 1)).tmod 2)) (IntKind.i64.wrap (x0.y + IntKind.i64.wrap ((IntKind.i64.wrap (0 + 1)).tdiv 2))))) (.bind ((Pair.mk (IntKind.i64.wrap (x0.x + (IntKind.i64.wrap (0 + 1)).tmod 2)) (IntKind.i64.wrap (x0.y + IntKind.i64.wrap ((IntKind.i64.wrap (0 + 1)).tdiv 2)))).norm) fun vn2 => .br (pair30 (Pair.mk (IntKind.i64.wrap (x0.x + (IntKind.i64.wrap (IntKind.i64.wrap (0 + 1) + 1)).tmod 2)) (IntKind.i64.wrap (x0.y + IntKind.i64.wrap ((IntKind.i64.wrap (IntKind.i64.wrap (0 + 1) + 1)).tdiv 2))))) (.bind ((Pair.mk (IntKind.i64.wrap (x0.x + (IntKind.i64.wrap (IntKind.i64.wrap (0 + 1) + 1)).tmod 2)) (IntKind.i64.wrap (x0.y + IntKind.i64.wrap ((IntKind.i64.wrap (IntKind.i64.wrap (0 + 1) + 1)).tdiv 2)))).norm) fun vn3 => .br (pair30 (Pair.mk (IntKind.i64.wrap (x0.x + (IntKind.i64.wrap (IntKind.i64.wrap (IntKind.i64.wrap (0 + 1) + 1) + 1)).tmod 2)) (IntKind.i64.wrap (x0.y + IntKind.i64.wrap ((IntKind.i64.wrap (IntKind.i64.wrap (IntKind.i64.wrap (0 + 1) + 1) + 1)).tdiv 2))))) (.bind ((Pair.mk (IntKind.i64.wrap (x0.x + (IntKind.i64.wrap (IntKind.i64.wrap (IntKind.i64.wrap (0 + 1) + 1) + 1)).tmod 2)) (IntKind.i64.wrap (x0.y + IntKind.i64.wrap ((IntKind.i64.wrap (IntKind.i64.wrap (IntKind.i64.wrap (0 + 1) + 1) + 1)).tdiv 2)))).norm) fun vn4 => .br (decide (Max.max (Max.max (Max.max (Max.max 0 vn1) vn2) vn3) vn4 ≤ IntKind.i64.wrap (vn0 * vn0))) (.ret (1)) (.br (near30 x0.x) (.bind (nearI x0.x) fun vn5 => .br (near30 x0.y) (.bind (nearI x0.y) fun vn6 => .br (pair30 (Pair.mk vn5 vn6)) (.bind ((Pair.mk vn5 vn6).norm) fun vn7 => .br (decide (vn7 > IntKind.i64.wrap (vn0 * vn0))) (.ret (2)) (.ret (0))) (.fail)) (.fail)) (.fail))) (.fail)) (.fail)) (.fail)) (.fail) := by kernel_rfl
theorem c_meniscusref8_Pair_InDisc (x0 : Pair) (x1 : Int) (h : ((fun p _ => pair20 p)) x0 x1 = true) : Plain Tryz.prog 82 [cPair.enc x0, cInt.enc x1] (cInt.enc (discOf x0 x1)) :=
  plain_of_tree (n := 200) (EnvOK.add s_meniscusref8_Within (EnvOK.add s_meniscusref8_Pair_Norm (EnvOK.add s_meniscusref8_near EnvOK.nil))) Tryz.func82 (args := [cPair.av x0, cInt.av x1]) (by simp only [AV.vals, Cod.av_val]) (Nat.le_of_ble_eq_true (by kernel_rfl)) LFn.nil cInt (by
    rw [t_meniscusref8_Pair_InDisc]
    have hp := h
    simp only [pair20, Bool.and_eq_true, decide_eq_true_eq] at hp
    obtain ⟨hx, hy⟩ := hp
    have q0 : (0 : Int).tmod 2 = 0 := by decide
    have q1 : (IntKind.i64.wrap (0 + 1)).tmod 2 = 1 := by decide +kernel
    have q2 : (IntKind.i64.wrap (IntKind.i64.wrap (0 + 1) + 1)).tmod 2 = 0 := by decide +kernel
    have q3 : (IntKind.i64.wrap (IntKind.i64.wrap (IntKind.i64.wrap (0 + 1) + 1) + 1)).tmod 2 = 1 := by decide +kernel
    have p0 : IntKind.i64.wrap ((0 : Int).tdiv 2) = 0 := by decide +kernel
    have p1 : IntKind.i64.wrap ((IntKind.i64.wrap (0 + 1)).tdiv 2) = 0 := by decide +kernel
    have p2 : IntKind.i64.wrap ((IntKind.i64.wrap (IntKind.i64.wrap (0 + 1) + 1)).tdiv 2) = 1 := by decide +kernel
    have p3 : IntKind.i64.wrap ((IntKind.i64.wrap (IntKind.i64.wrap (IntKind.i64.wrap (0 + 1) + 1) + 1)).tdiv 2) = 1 := by decide +kernel
    have wx0 : IntKind.i64.wrap (x0.x + 0) = x0.x := by rw [Int.add_zero]; exact wr (by omega)
    have wy0 : IntKind.i64.wrap (x0.y + 0) = x0.y := by rw [Int.add_zero]; exact wr (by omega)
    have wx1 : IntKind.i64.wrap (x0.x + 1) = x0.x + 1 := wr (by omega)
    have wy1 : IntKind.i64.wrap (x0.y + 1) = x0.y + 1 := wr (by omega)
    have nr : ∀ a b : Int, -1048577 ≤ a ∧ a ≤ 1048577 → -1048577 ≤ b ∧ b ≤ 1048577 → pair30 ⟨a, b⟩ = true := fun a b ha hb => by unfold pair30 near30; rw [decide_eq_true (by simp only; omega), decide_eq_true (by simp only; omega)]; rfl
    have n1 : near30 x0.x = true := decide_eq_true (by omega)
    have n2 : near30 x0.y = true := decide_eq_true (by omega)
    have m1 : -1048577 ≤ nearI x0.x ∧ nearI x0.x ≤ 1048577 := by unfold nearI; split <;> (try rw [wx1]) <;> omega
    have m2 : -1048577 ≤ nearI x0.y ∧ nearI x0.y ≤ 1048577 := by unfold nearI; split <;> (try rw [wy1]) <;> omega
    have hd : within x1 0 1048576 = discR x1 := by unfold within discR; rw [Int.min_comm]
    have hdb : 0 ≤ discR x1 ∧ discR x1 ≤ 1048576 := by unfold discR; omega
    have hw2 : IntKind.i64.wrap (discR x1 * discR x1) = discR x1 * discR x1 := wr (by have := sq_bd (a := discR x1) (B := 1048576) (by omega) (by decide); omega)
    simp only [den_br, den_bind, den_ret, den_fail, q0, q1, q2, q3, p0, p1, p2, p3, wx0, wy0, wx1, wy1, nr _ _ (show -1048577 ≤ x0.x ∧ x0.x ≤ 1048577 by omega) (show -1048577 ≤ x0.y ∧ x0.y ≤ 1048577 by omega), nr _ _ (show -1048577 ≤ x0.x + 1 ∧ x0.x + 1 ≤ 1048577 by omega) (show -1048577 ≤ x0.y ∧ x0.y ≤ 1048577 by omega), nr _ _ (show -1048577 ≤ x0.x ∧ x0.x ≤ 1048577 by omega) (show -1048577 ≤ x0.y + 1 ∧ x0.y + 1 ≤ 1048577 by omega), nr _ _ (show -1048577 ≤ x0.x + 1 ∧ x0.x + 1 ≤ 1048577 by omega) (show -1048577 ≤ x0.y + 1 ∧ x0.y + 1 ≤ 1048577 by omega), nr _ _ m1 m2, n1, n2, hd, hw2, if_true, decide_eq_true_eq, gt_iff_lt]
    rw [disc_doc h x1]
    have a0 : (x0.add ⟨1, 0⟩) = ⟨x0.x + 1, x0.y⟩ := by simp [Pair.add]
    have a1 : (x0.add ⟨0, 1⟩) = ⟨x0.x, x0.y + 1⟩ := by simp [Pair.add]
    have a2 : (x0.add ⟨1, 1⟩) = ⟨x0.x + 1, x0.y + 1⟩ := by simp [Pair.add]
    rw [a0, a1, a2, show (⟨x0.x, x0.y⟩ : Pair) = x0 from rfl]
    split
    · rfl
    · split <;> rfl)
theorem s_meniscusref8_Pair_InDisc : Ev.Spec Tryz.prog 82 (F2p cPair cInt cInt ((fun p _ => pair20 p)) discOf) := spec2p (fun vs w => Tryz.call82 vs w) c_meniscusref8_Pair_InDisc

/-! (meniscus/meniscusref8.Pair).Complex -/
theorem t_meniscusref8_Pair_Complex (x0 : Pair) :
    evFn Tryz.prog Env.nil Laws.nil 200 Tryz.f31 [cPair.av x0] [] cCx.dec =
      .ret ((Ev.fInt x0.x, Ev.fInt x0.y)) := by kernel_rfl
theorem c_meniscusref8_Pair_Complex (x0 : Pair) : Plain Tryz.prog 31 [cPair.enc x0] (cCx.enc (cxOf x0)) :=
  plain_of_tree (n := 200) EnvOK.nil Tryz.func31 (args := [cPair.av x0]) (by simp only [AV.vals, Cod.av_val]) (Nat.le_of_ble_eq_true (by kernel_rfl)) LFn.nil cCx (by
    rw [t_meniscusref8_Pair_Complex]
    rfl)
theorem s_meniscusref8_Pair_Complex : Ev.Spec Tryz.prog 31 (F1 cPair cCx cxOf) := spec1 (fun vs w => Tryz.call31 vs w) c_meniscusref8_Pair_Complex

/-! meniscusref8.Cells -/
theorem tl_meniscusref8_Cells_7 (t5 : Int) (t0 : Int) (t4 : Int) (r0 : List Pair) :
    ev Tryz.prog (Env.add 116 (F3 cInt cInt cInt cInt within) Env.nil) Laws.nil 200 none (loopAt Tryz.f81 7) ((sc 29 [5, 0, 4, 3] (tCod 5 cInt (tCod 0 cInt (tCod 4 cInt (tSl 3 0 tNil)))) (rG_pair 60 rNil)).enc ((t5, t0, t4, ()), (r0, ()))) (backK (sc 29 [5, 0, 4, 3] (tCod 5 cInt (tCod 0 cInt (tCod 4 cInt (tSl 3 0 tNil)))) (rG_pair 60 rNil)) (ocExit 2 (sc 29 [0, 4, 3] (tCod 0 cInt (tCod 4 cInt (tSl 3 0 tNil))) (rG_pair 60 rNil)))) =
      .br (decide (t5 < t0)) (.br (Ev.lenOk (r0 ++ [Pair.mk t5 t4])) (.ret (Sum.inl ((IntKind.i64.wrap (t5 + 1), t0, t4, ()), r0 ++ [Pair.mk t5 t4], ()))) (.fail)) (.ret (Sum.inr ((t0, t4, ()), r0, ()))) := by kernel_rfl
theorem ok_meniscusref8_Cells_7 : LOK Tryz.prog (LoopR.of (sc 29 [5, 0, 4, 3] (tCod 5 cInt (tCod 0 cInt (tCod 4 cInt (tSl 3 0 tNil)))) (rG_pair 60 rNil)) (ocExit 2 (sc 29 [0, 4, 3] (tCod 0 cInt (tCod 4 cInt (tSl 3 0 tNil))) (rG_pair 60 rNil))) (runBy cellInD cellInDM)) (loopAt Tryz.f81 7) := by
  refine loop_ok (EnvOK.add s_meniscusref8_Within EnvOK.nil) (LFn.at (fn := Tryz.f81) LFn.nil 7) cellInD (n := 200) (fun x z h => ?_) (runBy_ok _ _)
  obtain ⟨⟨t5, t0, t4, ⟨⟩⟩, ⟨r0, ⟨⟩⟩⟩ := x
  rw [tl_meniscusref8_Cells_7]
  rw [← h]
  simp only [den_br, den_bind, den_ret, den_fail, den_inl, den_inr, decide_eq_true_eq, gt_iff_lt, ge_iff_le, beq_iff_eq]
  simp only [cellInD]
theorem tl_meniscusref8_Cells_4 (t4 : Int) (t0 : Int) (r0 : List Pair) :
    ev Tryz.prog (Env.add 116 (F3 cInt cInt cInt cInt within) Env.nil) (Laws.add 7 (LoopR.of (sc 29 [5, 0, 4, 3] (tCod 5 cInt (tCod 0 cInt (tCod 4 cInt (tSl 3 0 tNil)))) (rG_pair 60 rNil)) (ocExit 2 (sc 29 [0, 4, 3] (tCod 0 cInt (tCod 4 cInt (tSl 3 0 tNil))) (rG_pair 60 rNil))) (runBy cellInD cellInDM)) Laws.nil) 200 none (loopAt Tryz.f81 4) ((sc 29 [4, 0, 3] (tCod 4 cInt (tCod 0 cInt (tSl 3 0 tNil))) (rG_pair 60 rNil)).enc ((t4, t0, ()), (r0, ()))) (backK (sc 29 [4, 0, 3] (tCod 4 cInt (tCod 0 cInt (tSl 3 0 tNil))) (rG_pair 60 rNil)) (ocExit 0 (sc 29 [3] (tSl 3 0 tNil) (rG_pair 60 rNil)))) =
      .br (decide (t4 < t0)) (.get (runBy cellInD cellInDM ((IntKind.i64.wrap (0 - t0), t0, t4, ()), r0, ())) fun vy0 => .ret (Sum.inl ((IntKind.i64.wrap (vy0.1.2.1 + 1), vy0.1.1, ()), vy0.2.1, ()))) (.ret (Sum.inr ((), r0, ()))) := by kernel_rfl
theorem ok_meniscusref8_Cells_4 : LOK Tryz.prog (LoopR.of (sc 29 [4, 0, 3] (tCod 4 cInt (tCod 0 cInt (tSl 3 0 tNil))) (rG_pair 60 rNil)) (ocExit 0 (sc 29 [3] (tSl 3 0 tNil) (rG_pair 60 rNil))) (runBy cellOutD cellOutDM)) (loopAt Tryz.f81 4) := by
  refine loop_ok (EnvOK.add s_meniscusref8_Within EnvOK.nil) (LFn.at (fn := Tryz.f81) (LFn.add (fn := Tryz.f81) (i := 7) (by kernel_rfl) ok_meniscusref8_Cells_7 LFn.nil) 4) cellOutD (n := 200) (fun x z h => ?_) (runBy_ok _ _)
  obtain ⟨⟨t4, t0, ⟨⟩⟩, ⟨r0, ⟨⟩⟩⟩ := x
  rw [tl_meniscusref8_Cells_4]
  rw [← h]
  simp only [den_br, den_bind, den_ret, den_fail, den_inl, den_inr, decide_eq_true_eq, gt_iff_lt, ge_iff_le, beq_iff_eq]
  simp only [cellOutD]
  by_cases h0 : t4 < t0 <;> simp only [h0, if_true, if_false]
  cases runBy cellInD cellInDM ((IntKind.i64.wrap (0 - t0), t0, t4, ()), (r0, ())) <;> rfl
theorem t_meniscusref8_Cells (t0 : Int) :
    evFnR Tryz.prog (Env.add 116 (F3 cInt cInt cInt cInt within) Env.nil) (Laws.add 4 (LoopR.of (sc 29 [4, 0, 3] (tCod 4 cInt (tCod 0 cInt (tSl 3 0 tNil))) (rG_pair 60 rNil)) (ocExit 0 (sc 29 [3] (tSl 3 0 tNil) (rG_pair 60 rNil))) (runBy cellOutD cellOutDM)) (Laws.add 7 (LoopR.of (sc 29 [5, 0, 4, 3] (tCod 5 cInt (tCod 0 cInt (tCod 4 cInt (tSl 3 0 tNil)))) (rG_pair 60 rNil)) (ocExit 2 (sc 29 [0, 4, 3] (tCod 0 cInt (tCod 4 cInt (tSl 3 0 tNil))) (rG_pair 60 rNil))) (runBy cellInD cellInDM)) Laws.nil)) 200 Tryz.f81 (((sc 1 [0] (tCod 0 cInt tNil) rNil).enc ((t0, ()), (()))).tmps.map Prod.snd) ((sc 1 [0] (tCod 0 cInt tNil) rNil).enc ((t0, ()), (()))).mem (sc 1 [0] (tSl 0 0 tNil) (rG_pair 60 rNil)).ts (sc 1 [0] (tSl 0 0 tNil) (rG_pair 60 rNil)).dec =
      .bind (within t0 0 16) fun vn0 => .get (runBy cellOutD cellOutDM ((IntKind.i64.wrap (0 - vn0), vn0, ()), [], ())) fun vy1 => .ret (((), vy1.2.1, ())) := by kernel_rfl
theorem c_meniscusref8_Cells : PlainR Tryz.prog 81 (sc 1 [0] (tCod 0 cInt tNil) rNil) (sc 1 [0] (tSl 0 0 tNil) (rG_pair 60 rNil)) (fun _ => true) ((fun x => ((), (cellsP (cellsR x.1.1), ())))) := by
  intro x h N w vs hM hv
  obtain ⟨⟨t0, ⟨⟩⟩, ⟨⟩⟩ := x
  refine calls_of_treeR (n := 200) (EnvOK.add s_meniscusref8_Within EnvOK.nil) Tryz.func81 hv (Nat.le_of_ble_eq_true (by kernel_rfl)) (LFn.add (fn := Tryz.f81) (i := 4) (by kernel_rfl) ok_meniscusref8_Cells_4 (LFn.add (fn := Tryz.f81) (i := 7) (by kernel_rfl) ok_meniscusref8_Cells_7 LFn.nil)) hM (sc 1 [0] (tSl 0 0 tNil) (rG_pair 60 rNil)) rfl ?_
  rw [t_meniscusref8_Cells]
  have hr := cellsD_run (n := cellsR t0) (by unfold cellsR; omega)
  have hw : within t0 0 16 = cellsR t0 := by unfold within cellsR; rw [Int.min_comm]
  simp only [den_bind, hw, hr]
  rfl
theorem s_meniscusref8_Cells : Ev.Spec Tryz.prog 81 (FR (sc 1 [0] (tCod 0 cInt tNil) rNil) (sc 1 [0] (tSl 0 0 tNil) (rG_pair 60 rNil)) (fun _ => true) ((fun x => ((), (cellsP (cellsR x.1.1), ()))))) := specR rfl (fun _ => rfl) (fun vs w => Tryz.call81 vs w) c_meniscusref8_Cells

/-! meniscusref20.Scan -/
theorem tl_meniscusref20_Scan_6 (t12 : Int) (t3 : Int) (r0 : List Pair) (r1 : Iv) (r2 : Iv) (r3 : Iv) (r4 : DRep) (r5 : DRep) (r6 : List Surf) :
    ev Tryz.prog (Env.add 32 (FS (sc 5 [0, 1, 2, 3, 4] (tAgg 0 0 ccNil ccNil_ok ccIv ccIv_ok (tCod 1 cIv (tCod 2 cIv (tCod 3 cPair (tCod 4 cInt tNil))))) (rL_surf rNil)) (cTwo cRay cBool) (fun _ => true) ((fun x => aimOf x.1.2.1 x.2.1 x.1.2.2.1 x.1.2.2.2.1 x.1.2.2.2.2.1 x.1.2.2.2.2.2.1))) (Env.add 80 (F1 cIv cBool Iv.right) (Env.add 81 (FR (sc 1 [0] (tCod 0 cInt tNil) rNil) (sc 1 [0] (tSl 0 0 tNil) (rG_pair 60 rNil)) (fun _ => true) ((fun x => ((), (cellsP (cellsR x.1.1), ()))))) (Env.add 82 (F2p cPair cInt cInt ((fun p _ => pair20 p)) discOf) (Env.add 83 (FS (sc 2 [0, 1] (tAgg 0 0 ccNil ccNil_ok ccIv ccIv_ok (tCod 1 cRay tNil)) (rL_surf rNil)) cRes ((fun x => lenOk x.2.1)) ((fun x => traceOf x.2.1 x.1.2.2.1))) Env.nil))))) Laws.nil 200 none (loopAt Tryz.f29 6) ((sc 163 [12, 3, 11, 4, 5, 6, 10, 8] (tCod 12 cInt (tCod 3 cInt (tSl 11 0 (tOwn 4 1 (tOwn 5 2 (tOwn 6 3 (tOwn 10 4 (tOwn 8 5 tNil)))))))) (rG_pair 60 (rBoxSl 6 ccIv ccIv_ok (rBox ccIv ccIv_ok (rBox ccIv ccIv_ok (rBox ccDRep ccDRep_ok (rBox ccDRep ccDRep_ok (rL_surf rNil)))))))).enc ((t12, t3, ()), (r0, r1, r2, r3, r4, r5, r6, ()))) (backK (sc 163 [12, 3, 11, 4, 5, 6, 10, 8] (tCod 12 cInt (tCod 3 cInt (tSl 11 0 (tOwn 4 1 (tOwn 5 2 (tOwn 6 3 (tOwn 10 4 (tOwn 8 5 tNil)))))))) (rG_pair 60 (rBoxSl 6 ccIv ccIv_ok (rBox ccIv ccIv_ok (rBox ccIv ccIv_ok (rBox ccDRep ccDRep_ok (rBox ccDRep ccDRep_ok (rL_surf rNil)))))))) (ocExit 0 (sc 163 [10, 8] (tOwn 10 0 (tOwn 8 1 tNil)) (rBox ccDRep ccDRep_ok (rBox ccDRep ccDRep_ok rNil))))) =
      .br (decide (t12 < (@Nat.cast Int _ r0.length))) (.br (decide (0 ≤ t12 ∧ t12 < (@Nat.cast Int _ r0.length))) (.get (r0[t12.toNat]?) fun vt0 => .br (pair20 vt0) (.bind (discOf vt0 t3) fun vn1 => .br (vn1 == 2) (.ret (Sum.inl ((IntKind.i64.wrap (t12 + 1), t3, ()), r0, r1, r2, r3, r4, r5, r6, ()))) (.br (decide (0 ≤ t12 ∧ t12 < (@Nat.cast Int _ r0.length))) (.get (r0[t12.toNat]?) fun vt2 => .br (true) (.bind (aimOf r1 r6 r2 r3 vt2 t3) fun vy3 => .br (vy3.2) (.br (Ev.lenOk r6) (.bind (traceOf r6 vy3.1) fun vre4 => .br (vre4.1 == 2) (.ret (Sum.inl ((IntKind.i64.wrap (t12 + 1), t3, ()), r0, r1, r2, r3, (r4.1, r4.2.1, IntKind.i64.wrap (r4.2.2.1 + 1), r4.2.2.2), r5, r6, ()))) (.br (vre4.1 == 1) (.br (vn1 == 1) (.br (!r4.2.2.2.1) (.br (decide (0 ≤ t12 ∧ t12 < (@Nat.cast Int _ r0.length))) (.get (r0[t12.toNat]?) fun vt5 => .br (decide (0 ≤ t12 ∧ t12 < (@Nat.cast Int _ r0.length))) (.get (r0[t12.toNat]?) fun vt6 => .br (decide (0 ≤ t12 ∧ t12 < (@Nat.cast Int _ r0.length))) (.get (r0[t12.toNat]?) fun vt7 => .br (decide (0 ≤ t12 ∧ t12 < (@Nat.cast Int _ r0.length))) (.get (r0[t12.toNat]?) fun vt8 => .br (decide (0 ≤ t12 ∧ t12 < (@Nat.cast Int _ r0.length))) (.get (r0[t12.toNat]?) fun vt9 => .br (decide (0 ≤ t12 ∧ t12 < (@Nat.cast Int _ r0.length))) (.get (r0[t12.toNat]?) fun vt10 => .ret (Sum.inl ((IntKind.i64.wrap (t12 + 1), t3, ()), r0, r1, r2, r3, (IntKind.i64.wrap (r4.1 + 1), r4.2.1, IntKind.i64.wrap (r4.2.2.1 + 1), true, Pair.mk (Min.min vt5.x vt7.x) (Min.min vt5.y vt8.y), Pair.mk (Max.max vt6.x vt9.x) (Max.max vt6.y vt10.y)), r5, r6, ()))) (.fail)) (.fail)) (.fail)) (.fail)) (.fail)) (.fail)) (.br (decide (0 ≤ t12 ∧ t12 < (@Nat.cast Int _ r0.length))) (.get (r0[t12.toNat]?) fun vt11 => .br (decide (0 ≤ t12 ∧ t12 < (@Nat.cast Int _ r0.length))) (.get (r0[t12.toNat]?) fun vt12 => .br (decide (0 ≤ t12 ∧ t12 < (@Nat.cast Int _ r0.length))) (.get (r0[t12.toNat]?) fun vt13 => .br (decide (0 ≤ t12 ∧ t12 < (@Nat.cast Int _ r0.length))) (.get (r0[t12.toNat]?) fun vt14 => .ret (Sum.inl ((IntKind.i64.wrap (t12 + 1), t3, ()), r0, r1, r2, r3, (IntKind.i64.wrap (r4.1 + 1), r4.2.1, IntKind.i64.wrap (r4.2.2.1 + 1), true, Pair.mk (Min.min r4.2.2.2.2.1.x vt11.x) (Min.min r4.2.2.2.2.1.y vt12.y), Pair.mk (Max.max r4.2.2.2.2.2.x vt13.x) (Max.max r4.2.2.2.2.2.y vt14.y)), r5, r6, ()))) (.fail)) (.fail)) (.fail)) (.fail))) (.br (!r4.2.2.2.1) (.br (decide (0 ≤ t12 ∧ t12 < (@Nat.cast Int _ r0.length))) (.get (r0[t12.toNat]?) fun vt15 => .br (decide (0 ≤ t12 ∧ t12 < (@Nat.cast Int _ r0.length))) (.get (r0[t12.toNat]?) fun vt16 => .br (decide (0 ≤ t12 ∧ t12 < (@Nat.cast Int _ r0.length))) (.get (r0[t12.toNat]?) fun vt17 => .br (decide (0 ≤ t12 ∧ t12 < (@Nat.cast Int _ r0.length))) (.get (r0[t12.toNat]?) fun vt18 => .br (decide (0 ≤ t12 ∧ t12 < (@Nat.cast Int _ r0.length))) (.get (r0[t12.toNat]?) fun vt19 => .br (decide (0 ≤ t12 ∧ t12 < (@Nat.cast Int _ r0.length))) (.get (r0[t12.toNat]?) fun vt20 => .ret (Sum.inl ((IntKind.i64.wrap (t12 + 1), t3, ()), r0, r1, r2, r3, (r4.1, IntKind.i64.wrap (r4.2.1 + 1), IntKind.i64.wrap (r4.2.2.1 + 1), true, Pair.mk (Min.min vt15.x vt17.x) (Min.min vt15.y vt18.y), Pair.mk (Max.max vt16.x vt19.x) (Max.max vt16.y vt20.y)), r5, r6, ()))) (.fail)) (.fail)) (.fail)) (.fail)) (.fail)) (.fail)) (.br (decide (0 ≤ t12 ∧ t12 < (@Nat.cast Int _ r0.length))) (.get (r0[t12.toNat]?) fun vt21 => .br (decide (0 ≤ t12 ∧ t12 < (@Nat.cast Int _ r0.length))) (.get (r0[t12.toNat]?) fun vt22 => .br (decide (0 ≤ t12 ∧ t12 < (@Nat.cast Int _ r0.length))) (.get (r0[t12.toNat]?) fun vt23 => .br (decide (0 ≤ t12 ∧ t12 < (@Nat.cast Int _ r0.length))) (.get (r0[t12.toNat]?) fun vt24 => .ret (Sum.inl ((IntKind.i64.wrap (t12 + 1), t3, ()), r0, r1, r2, r3, (r4.1, IntKind.i64.wrap (r4.2.1 + 1), IntKind.i64.wrap (r4.2.2.1 + 1), true, Pair.mk (Min.min r4.2.2.2.2.1.x vt21.x) (Min.min r4.2.2.2.2.1.y vt22.y), Pair.mk (Max.max r4.2.2.2.2.2.x vt23.x) (Max.max r4.2.2.2.2.2.y vt24.y)), r5, r6, ()))) (.fail)) (.fail)) (.fail)) (.fail)))) (.br (!r4.2.2.2.1) (.br (decide (0 ≤ t12 ∧ t12 < (@Nat.cast Int _ r0.length))) (.get (r0[t12.toNat]?) fun vt25 => .br (decide (0 ≤ t12 ∧ t12 < (@Nat.cast Int _ r0.length))) (.get (r0[t12.toNat]?) fun vt26 => .br (decide (0 ≤ t12 ∧ t12 < (@Nat.cast Int _ r0.length))) (.get (r0[t12.toNat]?) fun vt27 => .br (decide (0 ≤ t12 ∧ t12 < (@Nat.cast Int _ r0.length))) (.get (r0[t12.toNat]?) fun vt28 => .br (decide (0 ≤ t12 ∧ t12 < (@Nat.cast Int _ r0.length))) (.get (r0[t12.toNat]?) fun vt29 => .br (decide (0 ≤ t12 ∧ t12 < (@Nat.cast Int _ r0.length))) (.get (r0[t12.toNat]?) fun vt30 => .ret (Sum.inl ((IntKind.i64.wrap (t12 + 1), t3, ()), r0, r1, r2, r3, (r4.1, IntKind.i64.wrap (r4.2.1 + 1), IntKind.i64.wrap (r4.2.2.1 + 1), true, Pair.mk (Min.min vt25.x vt27.x) (Min.min vt25.y vt28.y), Pair.mk (Max.max vt26.x vt29.x) (Max.max vt26.y vt30.y)), r5, r6, ()))) (.fail)) (.fail)) (.fail)) (.fail)) (.fail)) (.fail)) (.br (decide (0 ≤ t12 ∧ t12 < (@Nat.cast Int _ r0.length))) (.get (r0[t12.toNat]?) fun vt31 => .br (decide (0 ≤ t12 ∧ t12 < (@Nat.cast Int _ r0.length))) (.get (r0[t12.toNat]?) fun vt32 => .br (decide (0 ≤ t12 ∧ t12 < (@Nat.cast Int _ r0.length))) (.get (r0[t12.toNat]?) fun vt33 => .br (decide (0 ≤ t12 ∧ t12 < (@Nat.cast Int _ r0.length))) (.get (r0[t12.toNat]?) fun vt34 => .ret (Sum.inl ((IntKind.i64.wrap (t12 + 1), t3, ()), r0, r1, r2, r3, (r4.1, IntKind.i64.wrap (r4.2.1 + 1), IntKind.i64.wrap (r4.2.2.1 + 1), true, Pair.mk (Min.min r4.2.2.2.2.1.x vt31.x) (Min.min r4.2.2.2.2.1.y vt32.y), Pair.mk (Max.max r4.2.2.2.2.2.x vt33.x) (Max.max r4.2.2.2.2.2.y vt34.y)), r5, r6, ()))) (.fail)) (.fail)) (.fail)) (.fail))))) (.fail)) (.br (!r4.2.2.2.1) (.br (decide (0 ≤ t12 ∧ t12 < (@Nat.cast Int _ r0.length))) (.get (r0[t12.toNat]?) fun vt35 => .br (decide (0 ≤ t12 ∧ t12 < (@Nat.cast Int _ r0.length))) (.get (r0[t12.toNat]?) fun vt36 => .br (decide (0 ≤ t12 ∧ t12 < (@Nat.cast Int _ r0.length))) (.get (r0[t12.toNat]?) fun vt37 => .br (decide (0 ≤ t12 ∧ t12 < (@Nat.cast Int _ r0.length))) (.get (r0[t12.toNat]?) fun vt38 => .br (decide (0 ≤ t12 ∧ t12 < (@Nat.cast Int _ r0.length))) (.get (r0[t12.toNat]?) fun vt39 => .br (decide (0 ≤ t12 ∧ t12 < (@Nat.cast Int _ r0.length))) (.get (r0[t12.toNat]?) fun vt40 => .ret (Sum.inl ((IntKind.i64.wrap (t12 + 1), t3, ()), r0, r1, r2, r3, (r4.1, IntKind.i64.wrap (r4.2.1 + 1), IntKind.i64.wrap (r4.2.2.1 + 1), true, Pair.mk (Min.min vt35.x vt37.x) (Min.min vt35.y vt38.y), Pair.mk (Max.max vt36.x vt39.x) (Max.max vt36.y vt40.y)), r5, r6, ()))) (.fail)) (.fail)) (.fail)) (.fail)) (.fail)) (.fail)) (.br (decide (0 ≤ t12 ∧ t12 < (@Nat.cast Int _ r0.length))) (.get (r0[t12.toNat]?) fun vt41 => .br (decide (0 ≤ t12 ∧ t12 < (@Nat.cast Int _ r0.length))) (.get (r0[t12.toNat]?) fun vt42 => .br (decide (0 ≤ t12 ∧ t12 < (@Nat.cast Int _ r0.length))) (.get (r0[t12.toNat]?) fun vt43 => .br (decide (0 ≤ t12 ∧ t12 < (@Nat.cast Int _ r0.length))) (.get (r0[t12.toNat]?) fun vt44 => .ret (Sum.inl ((IntKind.i64.wrap (t12 + 1), t3, ()), r0, r1, r2, r3, (r4.1, IntKind.i64.wrap (r4.2.1 + 1), IntKind.i64.wrap (r4.2.2.1 + 1), true, Pair.mk (Min.min r4.2.2.2.2.1.x vt41.x) (Min.min r4.2.2.2.2.1.y vt42.y), Pair.mk (Max.max r4.2.2.2.2.2.x vt43.x) (Max.max r4.2.2.2.2.2.y vt44.y)), r5, r6, ()))) (.fail)) (.fail)) (.fail)) (.fail)))) (.fail)) (.fail))) (.fail)) (.fail)) (.ret (Sum.inr ((), r4, r5, ()))) := by kernel_rfl
theorem ok_meniscusref20_Scan_6 : LOK Tryz.prog (LoopR.of (sc 163 [12, 3, 11, 4, 5, 6, 10, 8] (tCod 12 cInt (tCod 3 cInt (tSl 11 0 (tOwn 4 1 (tOwn 5 2 (tOwn 6 3 (tOwn 10 4 (tOwn 8 5 tNil)))))))) (rG_pair 60 (rBoxSl 6 ccIv ccIv_ok (rBox ccIv ccIv_ok (rBox ccIv ccIv_ok (rBox ccDRep ccDRep_ok (rBox ccDRep ccDRep_ok (rL_surf rNil)))))))) (ocExit 0 (sc 163 [10, 8] (tOwn 10 0 (tOwn 8 1 tNil)) (rBox ccDRep ccDRep_ok (rBox ccDRep ccDRep_ok rNil)))) (runBy scanDStep scanDM)) (loopAt Tryz.f29 6) := by
  refine loop_ok (EnvOK.add s_meniscusref20_Aim (EnvOK.add s_meniscusref1_Right (EnvOK.add s_meniscusref8_Cells (EnvOK.add s_meniscusref8_Pair_InDisc (EnvOK.add s_meniscusref14_Trace EnvOK.nil))))) (LFn.at (fn := Tryz.f29) LFn.nil 6) scanDStep (n := 200) (fun x z h => ?_) (runBy_ok _ _)
  obtain ⟨⟨t12, t3, ⟨⟩⟩, ⟨r0, r1, r2, r3, r4, r5, r6, ⟨⟩⟩⟩ := x
  rw [tl_meniscusref20_Scan_6]
  have h9 := h
  rw [← h]
  simp only [scanDStep]
  simp only [den_br, den_bind, den_ret, den_fail, decide_eq_true_eq, gt_iff_lt, ge_iff_le, beq_iff_eq]
  by_cases h0 : t12 < (r0.length : Int) <;> simp only [h0, if_true, if_false]
  by_cases h1 : 0 ≤ t12
  case neg => simp only [h1, false_and, if_false]
  simp only [h1, true_and, if_true, and_self, and_true]
  obtain ⟨z, hg⟩ : ∃ z, r0[t12.toNat]? = some z := ⟨_, List.getElem?_eq_getElem (by omega)⟩
  simp only [hg, den_br, den_bind, den_ret, den_fail, den_get, beq_iff_eq]
  by_cases hp : pair20 z = true
  case neg => simp only [hp, false_and, if_false, Bool.false_eq_true]
  simp only [hp, true_and, if_true]
  by_cases hl : Ev.lenOk r6 = true
  case neg => simp [scanDStep, h0, h1, hg, hp, hl] at h9
  simp only [hl, if_true, scanOne]
  by_cases d2 : discOf z t3 = 2
  · simp only [d2, if_true]
  simp only [d2, if_false, tallyD, cellKind, keepLo, keepHi]
  rcases Bool.eq_false_or_eq_true (aimOf r1 r6 r2 r3 z t3).2 with ha | ha
  · simp only [ha, if_true]
    by_cases k2 : (traceOf r6 (aimOf r1 r6 r2 r3 z t3).1).1 = 2
    · simp only [k2, if_true]; rfl
    simp only [k2, if_false]
    rcases Bool.eq_false_or_eq_true r4.2.2.2.1 with hb | hb <;> by_cases k1 : (traceOf r6 (aimOf r1 r6 r2 r3 z t3).1).1 = 1 <;> by_cases d1 : discOf z t3 = 1 <;> simp [hb, k1, d1, hg, den_get, den_br, den_ret, Int.min_self, Int.max_self]
  · simp only [ha, Bool.false_eq_true, if_false]
    rcases Bool.eq_false_or_eq_true r4.2.2.2.1 with hb | hb <;> simp [hb, hg, den_get, den_br, den_ret, Int.min_self, Int.max_self]
theorem t_meniscusref20_Scan (t0a : Unit) (t0b : Iv) (t1 : Iv) (t2 : Iv) (t3 : Int) (r0 : List Surf) :
    evFn Tryz.prog (Env.add 32 (FS (sc 5 [0, 1, 2, 3, 4] (tAgg 0 0 ccNil ccNil_ok ccIv ccIv_ok (tCod 1 cIv (tCod 2 cIv (tCod 3 cPair (tCod 4 cInt tNil))))) (rL_surf rNil)) (cTwo cRay cBool) (fun _ => true) ((fun x => aimOf x.1.2.1 x.2.1 x.1.2.2.1 x.1.2.2.2.1 x.1.2.2.2.2.1 x.1.2.2.2.2.2.1))) (Env.add 80 (F1 cIv cBool Iv.right) (Env.add 81 (FR (sc 1 [0] (tCod 0 cInt tNil) rNil) (sc 1 [0] (tSl 0 0 tNil) (rG_pair 60 rNil)) (fun _ => true) ((fun x => ((), (cellsP (cellsR x.1.1), ()))))) (Env.add 82 (F2p cPair cInt cInt ((fun p _ => pair20 p)) discOf) (Env.add 83 (FS (sc 2 [0, 1] (tAgg 0 0 ccNil ccNil_ok ccIv ccIv_ok (tCod 1 cRay tNil)) (rL_surf rNil)) cRes ((fun x => lenOk x.2.1)) ((fun x => traceOf x.2.1 x.1.2.2.1))) Env.nil))))) (Laws.add 6 (LoopR.of (sc 163 [12, 3, 11, 4, 5, 6, 10, 8] (tCod 12 cInt (tCod 3 cInt (tSl 11 0 (tOwn 4 1 (tOwn 5 2 (tOwn 6 3 (tOwn 10 4 (tOwn 8 5 tNil)))))))) (rG_pair 60 (rBoxSl 6 ccIv ccIv_ok (rBox ccIv ccIv_ok (rBox ccIv ccIv_ok (rBox ccDRep ccDRep_ok (rBox ccDRep ccDRep_ok (rL_surf rNil)))))))) (ocExit 0 (sc 163 [10, 8] (tOwn 10 0 (tOwn 8 1 tNil)) (rBox ccDRep ccDRep_ok (rBox ccDRep ccDRep_ok rNil)))) (runBy scanDStep scanDM)) Laws.nil) 200 Tryz.f29 (((sc 4 [0, 1, 2, 3] (tAgg 0 0 ccNil ccNil_ok ccIv ccIv_ok (tCod 1 cIv (tCod 2 cIv (tCod 3 cInt tNil)))) (rL_surf rNil)).enc ((t0a, t0b, t1, t2, t3, ()), (r0, ()))).tmps.map Prod.snd) ((sc 4 [0, 1, 2, 3] (tAgg 0 0 ccNil ccNil_ok ccIv ccIv_ok (tCod 1 cIv (tCod 2 cIv (tCod 3 cInt tNil)))) (rL_surf rNil)).enc ((t0a, t0b, t1, t2, t3, ()), (r0, ()))).mem (cTwo cDRep cInt).dec =
      .br ((@Nat.cast Int _ r0.length) == 0) (.ret (((0, 0, 0, false, Pair.mk 0 0, Pair.mk 0 0), 1))) (.br (decide (t3 < 1)) (.ret (((0, 0, 0, false, Pair.mk 0 0, Pair.mk 0 0), 1))) (.br (decide (t3 > 16)) (.ret (((0, 0, 0, false, Pair.mk 0 0, Pair.mk 0 0), 1))) (.bind (t1.right) fun vb0 => .br (!vb0) (.ret (((0, 0, 0, false, Pair.mk 0 0, Pair.mk 0 0), 1))) (.bind (t2.right) fun vb1 => .br (!vb1) (.ret (((0, 0, 0, false, Pair.mk 0 0, Pair.mk 0 0), 1))) (.br (true) (.bind (((), cellsP (cellsR t3), ())) fun vy2 => .get (runBy scanDStep scanDM ((0, t3, ()), vy2.2.1, t0b, t1, t2, (0, 0, 0, false, Pair.mk 0 0, Pair.mk 0 0), (0, 0, 0, false, Pair.mk 0 0, Pair.mk 0 0), r0, ())) fun vy3 => .br (vy3.2.1.2.2.2.1) (.ret (((vy3.2.1.1, vy3.2.1.2.1, vy3.2.1.2.2.1, vy3.2.1.2.2.2.1, vy3.2.1.2.2.2.2.1, Pair.mk (IntKind.i64.wrap (vy3.2.1.2.2.2.2.2.x + 1)) (IntKind.i64.wrap (vy3.2.1.2.2.2.2.2.y + 1))), 0))) (.ret ((vy3.2.1, 0)))) (.fail)))))) := by kernel_rfl
theorem c_meniscusref20_Scan : PlainS Tryz.prog 29 (sc 4 [0, 1, 2, 3] (tAgg 0 0 ccNil ccNil_ok ccIv ccIv_ok (tCod 1 cIv (tCod 2 cIv (tCod 3 cInt tNil)))) (rL_surf rNil)) (cTwo cDRep cInt) ((fun x => lenOk x.2.1)) ((fun x => scanOf x.1.2.1 x.2.1 x.1.2.2.1 x.1.2.2.2.1 x.1.2.2.2.2.1)) := by
  intro x h N w vs hM hv
  obtain ⟨⟨t0a, t0b, t1, t2, t3, ⟨⟩⟩, ⟨r0, ⟨⟩⟩⟩ := x
  refine calls_of_tree (n := 200) (EnvOK.add s_meniscusref20_Aim (EnvOK.add s_meniscusref1_Right (EnvOK.add s_meniscusref8_Cells (EnvOK.add s_meniscusref8_Pair_InDisc (EnvOK.add s_meniscusref14_Trace EnvOK.nil))))) Tryz.func29 hv (Nat.le_of_ble_eq_true (by kernel_rfl)) (LFn.add (fn := Tryz.f29) (i := 6) (by kernel_rfl) ok_meniscusref20_Scan_6 LFn.nil) hM (cTwo cDRep cInt) ?_
  rw [t_meniscusref20_Scan]
  simp only at h
  simp only [den_br, den_bind, den_ret, den_fail, den_get, den_inl, den_inr, decide_eq_true_eq, gt_iff_lt, ge_iff_le, beq_iff_eq]
  simp only [h, if_true]
  have hz : ((0, 0, 0, false, Pair.mk 0 0, Pair.mk 0 0) : DRep) = zeroD := rfl
  simp only [hz]
  by_cases hs : sizedC r0 t3 = true
  case neg =>
    have hs2 : ¬ (0 < (r0.length : Int) ∧ 1 ≤ t3 ∧ t3 ≤ 16) := fun e => hs (sizedC_iff.2 e)
    by_cases c1 : (r0.length : Int) = 0
    · simp [hs, c1, scanOf]
    by_cases c2 : t3 < 1
    · simp [hs, c1, c2, scanOf]
    have c3 : 16 < t3 := by omega
    simp [hs, c1, c2, c3, scanOf]
  have hs' := sizedC_iff.1 hs
  simp only [show ¬ (r0.length : Int) = 0 by omega, show ¬ t3 < 1 by omega, show ¬ 16 < t3 by omega, if_false]
  by_cases c1 : t1.right = true
  case neg => simp [hs, c1, scanOf]
  by_cases c2 : t2.right = true
  case neg => simp [hs, c1, c2, scanOf]
  have hr := scanD_run (o := t0b) (x := t1) (y := t2) (res := zeroD) h hs'.2
  simp only [c1, c2, Bool.not_true, Bool.false_eq_true, if_false, hr, den_get, den_br, den_ret, scanOf, hs, and_self, if_true, finD]
  cases hsm : (scanFold t0b r0 t1 t2 t3).2.2.2.1 <;> simp [hsm]
theorem s_meniscusref20_Scan : Ev.Spec Tryz.prog 29 (FS (sc 4 [0, 1, 2, 3] (tAgg 0 0 ccNil ccNil_ok ccIv ccIv_ok (tCod 1 cIv (tCod 2 cIv (tCod 3 cInt tNil)))) (rL_surf rNil)) (cTwo cDRep cInt) ((fun x => lenOk x.2.1)) ((fun x => scanOf x.1.2.1 x.2.1 x.1.2.2.1 x.1.2.2.2.1 x.1.2.2.2.2.1))) := specS rfl (fun vs w => Tryz.call29 vs w) c_meniscusref20_Scan
end Go.Proofs.YtliglpiofomelaaGreat
