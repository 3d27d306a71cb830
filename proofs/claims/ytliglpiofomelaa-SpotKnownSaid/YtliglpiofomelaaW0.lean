/-
  Contracts of calls, written by a small program of this session out of the evaluator's trees.
-/
import Derived.Test.YtliglpiofomelaaCore
import Derived.Test.YtliglpiofomelaaCoreLoops
import Derived.Test.YtliglpiofomelaaCore2
import Derived.Test.YtliglpiofomelaaCore3
import Derived.Test.YtliglpiofomelaaCore4
import Derived.Test.YtliglpiofomelaaCore5
import Derived.Test.YtliglpiofomelaaCore6
import Derived.Test.YtliglpiofomelaaCore7
import Derived.Test.YtliglpiofomelaaCore8
import Derived.Test.YtliglpiofomelaaCore9
import Derived.Test.YtliglpiofomelaaEvMore
import Derived.Test.YtliglpiofomelaaSym
import Derived.Test.YtliglpiofomelaaSysF
import Derived.Test.YtliglpiofomelaaLess2
import Derived.Test.YtliglpiofomelaaFloCod
import Derived.Test.YtliglpiofomelaaGs
import Derived.Test.YtliglpiofomelaaPup
import Derived.Test.YtliglpiofomelaaR0
import Derived.Test.YtliglpiofomelaaG0
import Derived.Test.YtliglpiofomelaaEvCod
import Derived.Test.YtliglpiofomelaaEvRet
import Derived.Test.YtliglpiofomelaaProg
namespace Go.Proofs.Ytliglpiofomelaa
open Go Go.RowKit Ev
set_option maxRecDepth 100000
set_option linter.unusedVariables false
set_option linter.unusedSimpArgs false

/-! pupil.sized -/
theorem t_pupil_sized (t0a : Unit) (t0b : Iv) (t1 : Int) (r0 : List Surf) :
    evFn Try.prog Env.nil Laws.nil 200 Try.f20 (((sc 2 [0, 1] (tAgg 0 0 ccNil ccNil_ok ccIv ccIv_ok (tCod 1 cInt tNil)) (rL_surf rNil)).enc ((t0a, t0b, t1, ()), (r0, ()))).tmps.map Prod.snd) ((sc 2 [0, 1] (tAgg 0 0 ccNil ccNil_ok ccIv ccIv_ok (tCod 1 cInt tNil)) (rL_surf rNil)).enc ((t0a, t0b, t1, ()), (r0, ()))).mem cBool.dec =
      .br (Decidable.decide ((@Nat.cast Int _ r0.length) > 0))
       (
        .br (Decidable.decide (t1 ≥ 1))
         (
          .ret (Decidable.decide (t1 ≤ 16)))
         (
          .ret (Bool.false)))
       (
        .ret (Bool.false)) := by kernel_rfl
theorem c_pupil_sized : PlainS Try.prog 20 (sc 2 [0, 1] (tAgg 0 0 ccNil ccNil_ok ccIv ccIv_ok (tCod 1 cInt tNil)) (rL_surf rNil)) cBool (fun _ => true) ((fun x => sizedC x.2.1 x.1.2.2.1)) := by
  intro x h N w vs hM hv
  obtain ⟨⟨t0a, t0b, t1, ⟨⟩⟩, ⟨r0, ⟨⟩⟩⟩ := x
  refine calls_of_tree (n := 200) EnvOK.nil Try.func20 hv (Nat.le_of_ble_eq_true (by kernel_rfl)) LFn.nil hM cBool ?_
  rw [t_pupil_sized]
  simp only [den_br, den_bind, den_ret, den_fail, den_get, den_inl, den_inr, decide_eq_true_eq, gt_iff_lt, ge_iff_le, beq_iff_eq]
  simp only [sizedC]
  by_cases c1 : 0 < (r0.length : Int)
  · have c1' : decide (0 < (r0.length : Int)) = true := decide_eq_true c1
    rw [if_pos c1, c1']
    by_cases c2 : 1 ≤ t1 <;> simp [c2]
  · have c1' : decide (0 < (r0.length : Int)) = false := decide_eq_false c1
    rw [if_neg c1, c1']; rfl
theorem s_pupil_sized : Ev.Spec Try.prog 20 (FS (sc 2 [0, 1] (tAgg 0 0 ccNil ccNil_ok ccIv ccIv_ok (tCod 1 cInt tNil)) (rL_surf rNil)) cBool (fun _ => true) ((fun x => sizedC x.2.1 x.1.2.2.1))) := specS rfl (fun vs w => Try.call20 vs w) c_pupil_sized

/-! pupil.edge -/
theorem t_pupil_edge (x0 : Iv) (x1 : Int) (x2 : Int) :
    evFn Try.prog (Env.add 9 (F1 cInt cIv Iv.whole) (Env.add 34 (F2 cIv cIv cIv Iv.div) (Env.add 53 (F2 cIv cIv cIv Iv.hull) (Env.add 54 (F2 cIv cInt cIv Iv.times) Env.nil)))) Laws.nil 200 Try.f30 [cIv.av x0, cInt.av x1, cInt.av x2] [] cIv.dec =
      .bind (x0.times x1) fun viv0 =>
      .bind (x0.times (Go.IntKind.i64.wrap (x1 + 1))) fun viv1 =>
      .bind (viv0.hull viv1) fun viv2 =>
      .bind (Iv.whole x2) fun viv3 =>
      .bind (viv2.div viv3) fun viv4 =>
      .ret (viv4) := by kernel_rfl
theorem c_pupil_edge (x0 : Iv) (x1 : Int) (x2 : Int) : Plain Try.prog 30 [cIv.enc x0, cInt.enc x1, cInt.enc x2] (cIv.enc (edgeC x0 x1 x2)) :=
  plain_of_tree (n := 200) (EnvOK.add s_iv_Whole (EnvOK.add s_iv_Div (EnvOK.add s_iv_Hull (EnvOK.add s_iv_Times EnvOK.nil)))) Try.func30 (args := [cIv.av x0, cInt.av x1, cInt.av x2]) (by simp only [AV.vals, Cod.av_val]) (Nat.le_of_ble_eq_true (by kernel_rfl)) LFn.nil cIv (by
    rw [t_pupil_edge]
    rfl)
theorem s_pupil_edge : Ev.Spec Try.prog 30 (F3 cIv cInt cInt cIv edgeC) := spec3 (fun vs w => Try.call30 vs w) c_pupil_edge

/-! pupil.Aim -/
theorem t_pupil_Aim (t0a : Unit) (t0b : Iv) (t1 : Iv) (t2 : Iv) (t3 : Cx) (t4 : Int) (r0 : List Surf) :
    evFn Try.prog (Env.add 8 (F1 cInt cIv Iv.point) (Env.add 13 (F3 cIv cIv cIv cV V.mk) (Env.add 20 (FS (sc 2 [0, 1] (tAgg 0 0 ccNil ccNil_ok ccIv ccIv_ok (tCod 1 cInt tNil)) (rL_surf rNil)) cBool (fun _ => true) ((fun x => sizedC x.2.1 x.1.2.2.1))) (Env.add 29 (F1 cCx cBool cWhole) (Env.add 30 (F3 cIv cInt cInt cIv edgeC) (Env.add 31 (F1 cV cV V.unit) (Env.add 32 (F2 cIv cIv cIv Iv.sub) (Env.add 33 (F1 cV cBool V.right) Env.nil)))))))) Laws.nil 200 Try.f11 (((sc 5 [0, 1, 2, 3, 4] (tAgg 0 0 ccNil ccNil_ok ccIv ccIv_ok (tCod 1 cIv (tCod 2 cIv (tCod 3 cCx (tCod 4 cInt tNil))))) (rL_surf rNil)).enc ((t0a, t0b, t1, t2, t3, t4, ()), (r0, ()))).tmps.map Prod.snd) ((sc 5 [0, 1, 2, 3, 4] (tAgg 0 0 ccNil ccNil_ok ccIv ccIv_ok (tCod 1 cIv (tCod 2 cIv (tCod 3 cCx (tCod 4 cInt tNil))))) (rL_surf rNil)).enc ((t0a, t0b, t1, t2, t3, t4, ()), (r0, ()))).mem (cTwo cRay cBool).dec =
      .br (Bool.true)
       (
        .bind (sizedC r0 t4) fun vb0 =>
        .br (!vb0)
         (
          .ret ((Ray.mk (V.mk (Iv.mk 0 0 Bool.false) (Iv.mk 0 0 Bool.false) (Iv.mk 0 0 Bool.false)) (V.mk (Iv.mk 0 0 Bool.false) (Iv.mk 0 0 Bool.false) (Iv.mk 0 0 Bool.false)), Bool.false)))
         (
          .bind (cWhole t3) fun vb1 =>
          .br (!vb1)
           (
            .ret ((Ray.mk (V.mk (Iv.mk 0 0 Bool.false) (Iv.mk 0 0 Bool.false) (Iv.mk 0 0 Bool.false)) (V.mk (Iv.mk 0 0 Bool.false) (Iv.mk 0 0 Bool.false) (Iv.mk 0 0 Bool.false)), Bool.false)))
           (
            .get (Ev.fTo t3.fst) fun vn2 =>
            .bind (edgeC t0b vn2 t4) fun viv3 =>
            .get (Ev.fTo t3.snd) fun vn4 =>
            .bind (edgeC t0b vn4 t4) fun viv5 =>
            .bind (Iv.point 0) fun viv6 =>
            .bind (V.mk t1 t2 viv6) fun vv7 =>
            .bind (viv3.sub t1) fun viv8 =>
            .bind (viv5.sub t2) fun viv9 =>
            .br (Decidable.decide ((0 : Int) ≤ 0 ∧ 0 < (@Nat.cast Int _ r0.length)))
             (
              .get (r0[Int.toNat 0]?) fun vt10 =>
              .bind (V.mk viv8 viv9 vt10.at_) fun vv11 =>
              .bind (vv11.unit) fun vv12 =>
              .bind (vv7.right) fun vb13 =>
              .br (!vb13)
               (
                .ret ((Ray.mk (V.mk (Iv.mk 0 0 Bool.false) (Iv.mk 0 0 Bool.false) (Iv.mk 0 0 Bool.false)) (V.mk (Iv.mk 0 0 Bool.false) (Iv.mk 0 0 Bool.false) (Iv.mk 0 0 Bool.false)), Bool.false)))
               (
                .bind (vv12.right) fun vb14 =>
                .br (!vb14)
                 (
                  .ret ((Ray.mk (V.mk (Iv.mk 0 0 Bool.false) (Iv.mk 0 0 Bool.false) (Iv.mk 0 0 Bool.false)) (V.mk (Iv.mk 0 0 Bool.false) (Iv.mk 0 0 Bool.false) (Iv.mk 0 0 Bool.false)), Bool.false)))
                 (
                  .ret ((Ray.mk vv7 vv12, Bool.true)))))
             (
              .fail))))
       (
        .fail) := by kernel_rfl
theorem c_pupil_Aim : PlainS Try.prog 11 (sc 5 [0, 1, 2, 3, 4] (tAgg 0 0 ccNil ccNil_ok ccIv ccIv_ok (tCod 1 cIv (tCod 2 cIv (tCod 3 cCx (tCod 4 cInt tNil))))) (rL_surf rNil)) (cTwo cRay cBool) (fun _ => true) ((fun x => aimP x.1.2.1 x.2.1 x.1.2.2.1 x.1.2.2.2.1 x.1.2.2.2.2.1 x.1.2.2.2.2.2.1)) := by
  intro x h N w vs hM hv
  obtain ⟨⟨t0a, t0b, t1, t2, t3, t4, ⟨⟩⟩, ⟨r0, ⟨⟩⟩⟩ := x
  refine calls_of_tree (n := 200) (EnvOK.add s_iv_Point (EnvOK.add s_vec_Of (EnvOK.add s_pupil_sized (EnvOK.add s_gauss_Whole (EnvOK.add s_pupil_edge (EnvOK.add s_vec_Unit (EnvOK.add s_iv_Sub (EnvOK.add s_vec_Right EnvOK.nil)))))))) Try.func11 hv (Nat.le_of_ble_eq_true (by kernel_rfl)) LFn.nil hM (cTwo cRay cBool) ?_
  rw [t_pupil_Aim]
  simp only [den_br, den_bind, den_ret, den_fail]
  have hz : (⟨⟨⟨0, 0, false⟩, ⟨0, 0, false⟩, ⟨0, 0, false⟩⟩, ⟨⟨0, 0, false⟩, ⟨0, 0, false⟩, ⟨0, 0, false⟩⟩⟩ : Ray) = Ray.zero := rfl
  simp only [aimP, aimOf]
  by_cases hs : sizedC r0 t4 = true
  case neg => simp [hs, hz]
  have hs' := sizedC_iff.1 hs
  obtain ⟨s, hg⟩ : ∃ s, r0[0]? = some s := ⟨_, List.getElem?_eq_getElem (by omega)⟩
  have hg' : r0[Int.toNat 0]? = some s := hg
  have hf : firstAt r0 = s.at_ := by unfold firstAt; rw [hg]
  have h0 : (0 : Int) ≤ 0 ∧ 0 < (r0.length : Int) := ⟨by decide, hs'.1⟩
  rcases Bool.eq_false_or_eq_true (cWhole t3) with hw | hw
  case inr => simp [hs, hw, hz]
  obtain ⟨p, hp, hps⟩ := whole_spec hw
  simp only [hs, hw, hz, if_true, Bool.not_true, Bool.false_eq_true, if_false, to_FI hp.1, to_FI hp.2, den_get, den_br, den_bind, den_ret, h0, and_self, decide_true, hg', cV_CI hp, true_and]
  rw [show (V.mk ((edgeC t0b p.x t4).sub t1) ((edgeC t0b p.y t4).sub t2) s.at_).unit = (aimRay t0b r0 t1 t2 p t4).d by unfold aimRay; rw [hf], show V.mk t1 t2 (Iv.point 0) = (aimRay t0b r0 t1 t2 p t4).o from rfl]
  cases c1 : (aimRay t0b r0 t1 t2 p t4).o.right <;> cases c2 : (aimRay t0b r0 t1 t2 p t4).d.right <;> simp
theorem s_pupil_Aim : Ev.Spec Try.prog 11 (FS (sc 5 [0, 1, 2, 3, 4] (tAgg 0 0 ccNil ccNil_ok ccIv ccIv_ok (tCod 1 cIv (tCod 2 cIv (tCod 3 cCx (tCod 4 cInt tNil))))) (rL_surf rNil)) (cTwo cRay cBool) (fun _ => true) ((fun x => aimP x.1.2.1 x.2.1 x.1.2.2.1 x.1.2.2.2.1 x.1.2.2.2.2.1 x.1.2.2.2.2.2.1))) := specS rfl (fun vs w => Try.call11 vs w) c_pupil_Aim

/-! pupil.kind -/
theorem t_pupil_kind (t0a : Unit) (t0b : Iv) (t1 : Iv) (t2 : Iv) (t3 : Cx) (t4 : Int) (r0 : List Surf) :
    evFn Try.prog (Env.add 11 (FS (sc 5 [0, 1, 2, 3, 4] (tAgg 0 0 ccNil ccNil_ok ccIv ccIv_ok (tCod 1 cIv (tCod 2 cIv (tCod 3 cCx (tCod 4 cInt tNil))))) (rL_surf rNil)) (cTwo cRay cBool) (fun _ => true) ((fun x => aimP x.1.2.1 x.2.1 x.1.2.2.1 x.1.2.2.2.1 x.1.2.2.2.2.1 x.1.2.2.2.2.2.1))) (Env.add 48 (FS (sc 2 [0, 1] (tAgg 0 0 ccNil ccNil_ok ccIv ccIv_ok (tCod 1 cRay tNil)) (rL_surf rNil)) cRes ((fun x => lenOk x.2.1)) ((fun x => traceOf x.2.1 x.1.2.2.1))) Env.nil)) Laws.nil 200 Try.f24 (((sc 5 [0, 1, 2, 3, 4] (tAgg 0 0 ccNil ccNil_ok ccIv ccIv_ok (tCod 1 cIv (tCod 2 cIv (tCod 3 cCx (tCod 4 cInt tNil))))) (rL_surf rNil)).enc ((t0a, t0b, t1, t2, t3, t4, ()), (r0, ()))).tmps.map Prod.snd) ((sc 5 [0, 1, 2, 3, 4] (tAgg 0 0 ccNil ccNil_ok ccIv ccIv_ok (tCod 1 cIv (tCod 2 cIv (tCod 3 cCx (tCod 4 cInt tNil))))) (rL_surf rNil)).enc ((t0a, t0b, t1, t2, t3, t4, ()), (r0, ()))).mem cInt.dec =
      .br (Bool.true)
       (
        .bind (aimP t0b r0 t1 t2 t3 t4) fun vy0 =>
        .br (!vy0.snd)
         (
          .ret (3))
         (
          .br (Ev.lenOk r0)
           (
            .bind (traceOf r0 vy0.fst) fun vre1 =>
            .ret (vre1.fst))
           (
            .fail)))
       (
        .fail) := by kernel_rfl
theorem c_pupil_kind : PlainS Try.prog 24 (sc 5 [0, 1, 2, 3, 4] (tAgg 0 0 ccNil ccNil_ok ccIv ccIv_ok (tCod 1 cIv (tCod 2 cIv (tCod 3 cCx (tCod 4 cInt tNil))))) (rL_surf rNil)) cInt ((fun x => lenOk x.2.1)) ((fun x => kindP x.1.2.1 x.2.1 x.1.2.2.1 x.1.2.2.2.1 x.1.2.2.2.2.1 x.1.2.2.2.2.2.1)) := by
  intro x h N w vs hM hv
  obtain ⟨⟨t0a, t0b, t1, t2, t3, t4, ⟨⟩⟩, ⟨r0, ⟨⟩⟩⟩ := x
  refine calls_of_tree (n := 200) (EnvOK.add s_pupil_Aim (EnvOK.add s_trace_Trace EnvOK.nil)) Try.func24 hv (Nat.le_of_ble_eq_true (by kernel_rfl)) LFn.nil hM cInt ?_
  rw [t_pupil_kind]
  simp only at h
  simp only [den_br, den_bind, den_ret, den_fail, den_get, den_inl, den_inr, decide_eq_true_eq, gt_iff_lt, ge_iff_le, beq_iff_eq]
  simp only [h, if_true, kindP]
  cases (aimP t0b r0 t1 t2 t3 t4).2 <;> simp
theorem s_pupil_kind : Ev.Spec Try.prog 24 (FS (sc 5 [0, 1, 2, 3, 4] (tAgg 0 0 ccNil ccNil_ok ccIv ccIv_ok (tCod 1 cIv (tCod 2 cIv (tCod 3 cCx (tCod 4 cInt tNil))))) (rL_surf rNil)) cInt ((fun x => lenOk x.2.1)) ((fun x => kindP x.1.2.1 x.2.1 x.1.2.2.1 x.1.2.2.2.1 x.1.2.2.2.2.1 x.1.2.2.2.2.2.1))) := specS rfl (fun vs w => Try.call24 vs w) c_pupil_kind

/-! pupil.Scan -/
theorem tl_pupil_Scan_5 (t33 : Int) (t32 : Int) (t3 : Int) (r0 : List Cx) (r1 : Iv) (r2 : Iv) (r3 : Iv) (r4 : RepV) (r5 : RepV) (r6 : List Surf) :
    ev Try.prog (Env.add 20 (FS (sc 2 [0, 1] (tAgg 0 0 ccNil ccNil_ok ccIv ccIv_ok (tCod 1 cInt tNil)) (rL_surf rNil)) cBool (fun _ => true) ((fun x => sizedC x.2.1 x.1.2.2.1))) (Env.add 21 (F1 cIv cBool Iv.right) (Env.add 22 (FR (sc 1 [0] (tCod 0 cInt tNil) rNil) (sc 1 [0] (tSl 0 0 tNil) (rG_cx 22 rNil)) (fun _ => true) ((fun x => ((), ((cellsP (cellsR x.1.1)).map cxOf, ()))))) (Env.add 23 (F2 cCx cInt cInt cInDisc) (Env.add 24 (FS (sc 5 [0, 1, 2, 3, 4] (tAgg 0 0 ccNil ccNil_ok ccIv ccIv_ok (tCod 1 cIv (tCod 2 cIv (tCod 3 cCx (tCod 4 cInt tNil))))) (rL_surf rNil)) cInt ((fun x => lenOk x.2.1)) ((fun x => kindP x.1.2.1 x.2.1 x.1.2.2.1 x.1.2.2.2.1 x.1.2.2.2.2.1 x.1.2.2.2.2.2.1))) (Env.addT 25 (inl Try.prog Env.nil 60 Try.f25) Env.nil)))))) Laws.nil 200 none (loopAt Try.f6 5) ((sc 74 [33, 32, 3, 31, 4, 5, 6, 10, 8] (tCod 33 cInt (tCod 32 cInt (tCod 3 cInt (tSl 31 0 (tOwn 4 1 (tOwn 5 2 (tOwn 6 3 (tOwn 10 4 (tOwn 8 5 tNil))))))))) (rG_cx 22 (rBoxSl 6 ccIv ccIv_ok (rBox ccIv ccIv_ok (rBox ccIv ccIv_ok (rBox ccRep ccRep_ok (rBox ccRep ccRep_ok (rL_surf rNil)))))))).enc ((t33, t32, t3, ()), (r0, r1, r2, r3, r4, r5, r6, ()))) (backK (sc 74 [33, 32, 3, 31, 4, 5, 6, 10, 8] (tCod 33 cInt (tCod 32 cInt (tCod 3 cInt (tSl 31 0 (tOwn 4 1 (tOwn 5 2 (tOwn 6 3 (tOwn 10 4 (tOwn 8 5 tNil))))))))) (rG_cx 22 (rBoxSl 6 ccIv ccIv_ok (rBox ccIv ccIv_ok (rBox ccIv ccIv_ok (rBox ccRep ccRep_ok (rBox ccRep ccRep_ok (rL_surf rNil)))))))) (ocExit 0 (sc 74 [10, 8] (tOwn 10 0 (tOwn 8 1 tNil)) (rBox ccRep ccRep_ok (rBox ccRep ccRep_ok rNil))))) =
      .br (Decidable.decide (t33 < t32))
       (
        .br (Decidable.decide (0 ≤ t33 ∧ t33 < (@Nat.cast Int _ r0.length)))
         (
          .get (r0[t33.toNat]?) fun vt0 =>
          .bind (cInDisc vt0 t3) fun vn1 =>
          .br (vn1 == 2)
           (
            .ret (Sum.inl ((Go.IntKind.i64.wrap (t33 + 1), t32, t3, ()), r0, r1, r2, r3, r4, r5, r6, ())))
           (
            .br (Ev.lenOk r6)
             (
              .bind (kindP r1 r6 r2 r3 vt0 t3) fun vn2 =>
              .br (vn2 == 2)
               (
                .ret (Sum.inl ((Go.IntKind.i64.wrap (t33 + 1), t32, t3, ()), r0, r1, r2, r3, (r4.fst, r4.snd.fst, Go.IntKind.i64.wrap (r4.snd.snd.fst + 1), r4.snd.snd.snd), r5, r6, ())))
               (
                .br (vn2 == 1)
                 (
                  .br (vn1 == 1)
                   (
                    .get (Go.cSumBits Go.BinOp.add Go.FloatKind.f64 vt0.fst vt0.snd 4607182418800017408 0) fun vy3 =>
                    .get (Go.cSumBits Go.BinOp.add Go.FloatKind.f64 vy3.fst vy3.snd 0 4607182418800017408) fun vy4 =>
                    .br (r4.snd.snd.snd.fst)
                     (
                      .get (Ev.fMin r4.snd.snd.snd.snd.fst.fst vt0.fst) fun vna5 =>
                      .get (Ev.fMin r4.snd.snd.snd.snd.fst.snd vt0.snd) fun vna6 =>
                      .get (Ev.fMax r4.snd.snd.snd.snd.snd.fst vy4.fst) fun vna7 =>
                      .get (Ev.fMax r4.snd.snd.snd.snd.snd.snd vy4.snd) fun vna8 =>
                      .ret (Sum.inl ((Go.IntKind.i64.wrap (t33 + 1), t32, t3, ()), r0, r1, r2, r3, (Go.IntKind.i64.wrap (r4.fst + 1), r4.snd.fst, Go.IntKind.i64.wrap (r4.snd.snd.fst + 1), Bool.true, (vna5, vna6), vna7, vna8), r5, r6, ())))
                     (
                      .ret (Sum.inl ((Go.IntKind.i64.wrap (t33 + 1), t32, t3, ()), r0, r1, r2, r3, (Go.IntKind.i64.wrap (r4.fst + 1), r4.snd.fst, Go.IntKind.i64.wrap (r4.snd.snd.fst + 1), Bool.true, vt0, vy4), r5, r6, ()))))
                   (
                    .get (Go.cSumBits Go.BinOp.add Go.FloatKind.f64 vt0.fst vt0.snd 4607182418800017408 0) fun vy9 =>
                    .get (Go.cSumBits Go.BinOp.add Go.FloatKind.f64 vy9.fst vy9.snd 0 4607182418800017408) fun vy10 =>
                    .br (r4.snd.snd.snd.fst)
                     (
                      .get (Ev.fMin r4.snd.snd.snd.snd.fst.fst vt0.fst) fun vna11 =>
                      .get (Ev.fMin r4.snd.snd.snd.snd.fst.snd vt0.snd) fun vna12 =>
                      .get (Ev.fMax r4.snd.snd.snd.snd.snd.fst vy10.fst) fun vna13 =>
                      .get (Ev.fMax r4.snd.snd.snd.snd.snd.snd vy10.snd) fun vna14 =>
                      .ret (Sum.inl ((Go.IntKind.i64.wrap (t33 + 1), t32, t3, ()), r0, r1, r2, r3, (r4.fst, Go.IntKind.i64.wrap (r4.snd.fst + 1), Go.IntKind.i64.wrap (r4.snd.snd.fst + 1), Bool.true, (vna11, vna12), vna13, vna14), r5, r6, ())))
                     (
                      .ret (Sum.inl ((Go.IntKind.i64.wrap (t33 + 1), t32, t3, ()), r0, r1, r2, r3, (r4.fst, Go.IntKind.i64.wrap (r4.snd.fst + 1), Go.IntKind.i64.wrap (r4.snd.snd.fst + 1), Bool.true, vt0, vy10), r5, r6, ())))))
                 (
                  .get (Go.cSumBits Go.BinOp.add Go.FloatKind.f64 vt0.fst vt0.snd 4607182418800017408 0) fun vy15 =>
                  .get (Go.cSumBits Go.BinOp.add Go.FloatKind.f64 vy15.fst vy15.snd 0 4607182418800017408) fun vy16 =>
                  .br (r4.snd.snd.snd.fst)
                   (
                    .get (Ev.fMin r4.snd.snd.snd.snd.fst.fst vt0.fst) fun vna17 =>
                    .get (Ev.fMin r4.snd.snd.snd.snd.fst.snd vt0.snd) fun vna18 =>
                    .get (Ev.fMax r4.snd.snd.snd.snd.snd.fst vy16.fst) fun vna19 =>
                    .get (Ev.fMax r4.snd.snd.snd.snd.snd.snd vy16.snd) fun vna20 =>
                    .ret (Sum.inl ((Go.IntKind.i64.wrap (t33 + 1), t32, t3, ()), r0, r1, r2, r3, (r4.fst, Go.IntKind.i64.wrap (r4.snd.fst + 1), Go.IntKind.i64.wrap (r4.snd.snd.fst + 1), Bool.true, (vna17, vna18), vna19, vna20), r5, r6, ())))
                   (
                    .ret (Sum.inl ((Go.IntKind.i64.wrap (t33 + 1), t32, t3, ()), r0, r1, r2, r3, (r4.fst, Go.IntKind.i64.wrap (r4.snd.fst + 1), Go.IntKind.i64.wrap (r4.snd.snd.fst + 1), Bool.true, vt0, vy16), r5, r6, ()))))))
             (
              .fail)))
         (
          .fail))
       (
        .ret (Sum.inr ((), r4, r5, ()))) := by kernel_rfl
theorem ok_pupil_Scan_5 : LOK Try.prog (LoopR.of (sc 74 [33, 32, 3, 31, 4, 5, 6, 10, 8] (tCod 33 cInt (tCod 32 cInt (tCod 3 cInt (tSl 31 0 (tOwn 4 1 (tOwn 5 2 (tOwn 6 3 (tOwn 10 4 (tOwn 8 5 tNil))))))))) (rG_cx 22 (rBoxSl 6 ccIv ccIv_ok (rBox ccIv ccIv_ok (rBox ccIv ccIv_ok (rBox ccRep ccRep_ok (rBox ccRep ccRep_ok (rL_surf rNil)))))))) (ocExit 0 (sc 74 [10, 8] (tOwn 10 0 (tOwn 8 1 tNil)) (rBox ccRep ccRep_ok (rBox ccRep ccRep_ok rNil)))) (runBy scanPStep scanPM)) (loopAt Try.f6 5) := by
  refine loop_ok (EnvOK.add s_pupil_sized (EnvOK.add s_iv_Right (EnvOK.add s_gauss_Cells (EnvOK.add s_gauss_InDisc (EnvOK.add s_pupil_kind (EnvOK.addT (n := 60) EnvOK.nil Try.func25 (fun vs w => Try.call25 vs w) EnvOK.nil)))))) (LFn.at (fn := Try.f6) LFn.nil 5) scanPStep (n := 200) (fun x z h => ?_) (runBy_ok _ _)
  obtain ⟨⟨t33, t32, t3, ⟨⟩⟩, ⟨r0, r1, r2, r3, r4, r5, r6, ⟨⟩⟩⟩ := x
  rw [tl_pupil_Scan_5]
  rw [← h]
  simp only [scanPStep]
  simp only [den_br, den_bind, den_ret, den_fail, decide_eq_true_eq, gt_iff_lt, ge_iff_le, beq_iff_eq]
  by_cases h0 : t33 < t32 <;> simp only [h0, if_true, if_false]
  by_cases h1 : 0 ≤ t33 ∧ t33 < (r0.length : Int) <;> simp only [h1, and_self, if_true, if_false]
  cases hg : r0[t33.toNat]? with
  | none => rfl
  | some z =>
    simp only [den_br, den_bind, den_ret, den_fail, den_get, beq_iff_eq]
    by_cases d2 : cInDisc z t3 = 2
    · simp only [d2, if_true]
    simp only [d2, if_false]
    by_cases hl : Ev.lenOk r6 = true
    case neg => simp only [hl, if_false, Bool.false_eq_true]
    simp only [hl, if_true]
    simp only [tallyP, keepP]
    by_cases k2 : kindP r1 r6 r2 r3 z t3 = 2
    · simp only [k2, if_true]; rfl
    simp only [k2, if_false]
    rw [show (4607182418800017408 : Nat) = oneF from rfl]
    have key : ∀ (a b : Int), (Tr.get (cSumBits .add .f64 z.1 z.2 oneF 0) fun u => Tr.get (cSumBits .add .f64 u.1 u.2 0 oneF) fun v => Tr.br r4.2.2.2.1 (Tr.get (fMin r4.2.2.2.2.1.1 z.1) fun c => Tr.get (fMin r4.2.2.2.2.1.2 z.2) fun d => Tr.get (fMax r4.2.2.2.2.2.1 v.1) fun e => Tr.get (fMax r4.2.2.2.2.2.2 v.2) fun f => Tr.ret (Sum.inl ((IntKind.i64.wrap (t33 + 1), t32, t3, ()), r0, r1, r2, r3, (a, b, IntKind.i64.wrap (r4.2.2.1 + 1), true, (c, d), (e, f)), r5, r6, ()) : ScanPX ⊕ (Unit × (RepV × RepV × Unit)))) (Tr.ret (Sum.inl ((IntKind.i64.wrap (t33 + 1), t32, t3, ()), r0, r1, r2, r3, (a, b, IntKind.i64.wrap (r4.2.2.1 + 1), true, z, v), r5, r6, ())))).den = (keepP r4 z).bind fun q => some (Sum.inl ((IntKind.i64.wrap (t33 + 1), t32, t3, ()), r0, r1, r2, r3, (a, b, IntKind.i64.wrap (r4.2.2.1 + 1), true, q.1, q.2), r5, r6, ())) := by
      intro a b
      simp only [keepP]
      cases cSumBits .add .f64 z.1 z.2 oneF 0 with
      | none => rfl
      | some u =>
        simp only [den_get, Option.bind_some]
        cases cSumBits .add .f64 u.1 u.2 0 oneF with
        | none => rfl
        | some v =>
          simp only [den_get, den_br, Option.bind_some]
          rcases Bool.eq_false_or_eq_true r4.2.2.2.1 with hb | hb
          · simp only [hb, if_true]
            cases fMin r4.2.2.2.2.1.1 z.1 with
            | none => rfl
            | some c =>
              cases fMin r4.2.2.2.2.1.2 z.2 with
              | none => rfl
              | some d =>
                cases fMax r4.2.2.2.2.2.1 v.1 with
                | none => rfl
                | some e =>
                  cases fMax r4.2.2.2.2.2.2 v.2 <;> rfl
          · simp only [hb, Bool.false_eq_true, if_false]; rfl
    by_cases k1 : kindP r1 r6 r2 r3 z t3 = 1
    · by_cases d1 : cInDisc z t3 = 1
      · simp only [k1, d1, and_self, if_true]
        refine (key _ _).trans ?_
        simp only [keepP, Option.bind_assoc, Option.bind_some]
      · simp only [k1, d1, and_false, if_true, if_false]
        refine (key _ _).trans ?_
        simp only [keepP, Option.bind_assoc, Option.bind_some]
    · simp only [k1, false_and, if_false]
      refine (key _ _).trans ?_
      simp only [keepP, Option.bind_assoc, Option.bind_some]
theorem t_pupil_Scan (t0a : Unit) (t0b : Iv) (t1 : Iv) (t2 : Iv) (t3 : Int) (r0 : List Surf) :
    evFn Try.prog (Env.add 20 (FS (sc 2 [0, 1] (tAgg 0 0 ccNil ccNil_ok ccIv ccIv_ok (tCod 1 cInt tNil)) (rL_surf rNil)) cBool (fun _ => true) ((fun x => sizedC x.2.1 x.1.2.2.1))) (Env.add 21 (F1 cIv cBool Iv.right) (Env.add 22 (FR (sc 1 [0] (tCod 0 cInt tNil) rNil) (sc 1 [0] (tSl 0 0 tNil) (rG_cx 22 rNil)) (fun _ => true) ((fun x => ((), ((cellsP (cellsR x.1.1)).map cxOf, ()))))) (Env.add 23 (F2 cCx cInt cInt cInDisc) (Env.add 24 (FS (sc 5 [0, 1, 2, 3, 4] (tAgg 0 0 ccNil ccNil_ok ccIv ccIv_ok (tCod 1 cIv (tCod 2 cIv (tCod 3 cCx (tCod 4 cInt tNil))))) (rL_surf rNil)) cInt ((fun x => lenOk x.2.1)) ((fun x => kindP x.1.2.1 x.2.1 x.1.2.2.1 x.1.2.2.2.1 x.1.2.2.2.2.1 x.1.2.2.2.2.2.1))) (Env.addT 25 (inl Try.prog Env.nil 60 Try.f25) Env.nil)))))) (Laws.add 5 (LoopR.of (sc 74 [33, 32, 3, 31, 4, 5, 6, 10, 8] (tCod 33 cInt (tCod 32 cInt (tCod 3 cInt (tSl 31 0 (tOwn 4 1 (tOwn 5 2 (tOwn 6 3 (tOwn 10 4 (tOwn 8 5 tNil))))))))) (rG_cx 22 (rBoxSl 6 ccIv ccIv_ok (rBox ccIv ccIv_ok (rBox ccIv ccIv_ok (rBox ccRep ccRep_ok (rBox ccRep ccRep_ok (rL_surf rNil)))))))) (ocExit 0 (sc 74 [10, 8] (tOwn 10 0 (tOwn 8 1 tNil)) (rBox ccRep ccRep_ok (rBox ccRep ccRep_ok rNil)))) (runBy scanPStep scanPM)) Laws.nil) 200 Try.f6 (((sc 4 [0, 1, 2, 3] (tAgg 0 0 ccNil ccNil_ok ccIv ccIv_ok (tCod 1 cIv (tCod 2 cIv (tCod 3 cInt tNil)))) (rL_surf rNil)).enc ((t0a, t0b, t1, t2, t3, ()), (r0, ()))).tmps.map Prod.snd) ((sc 4 [0, 1, 2, 3] (tAgg 0 0 ccNil ccNil_ok ccIv ccIv_ok (tCod 1 cIv (tCod 2 cIv (tCod 3 cInt tNil)))) (rL_surf rNil)).enc ((t0a, t0b, t1, t2, t3, ()), (r0, ()))).mem (cTwo cRep cInt).dec =
      .br (Bool.true)
       (
        .bind (sizedC r0 t3) fun vb0 =>
        .br (!vb0)
         (
          .ret (((0, 0, 0, Bool.false, (0, 0), 0, 0), 1)))
         (
          .bind (t1.right) fun vb1 =>
          .br (!vb1)
           (
            .ret (((0, 0, 0, Bool.false, (0, 0), 0, 0), 1)))
           (
            .bind (t2.right) fun vb2 =>
            .br (!vb2)
             (
              .ret (((0, 0, 0, Bool.false, (0, 0), 0, 0), 1)))
             (
              .br (Bool.true)
               (
                .bind (((), List.map cxOf (cellsP (cellsR t3)), ())) fun vy3 =>
                .get (runBy scanPStep scanPM ((0, (@Nat.cast Int _ vy3.snd.fst.length), t3, ()), vy3.snd.fst, t0b, t1, t2, (0, 0, 0, Bool.false, (0, 0), 0, 0), (0, 0, 0, Bool.false, (0, 0), 0, 0), r0, ())) fun vy4 =>
                .ret ((vy4.snd.fst, 0)))
               (
                .fail)))))
       (
        .fail) := by kernel_rfl
theorem c_pupil_Scan : PlainS Try.prog 6 (sc 4 [0, 1, 2, 3] (tAgg 0 0 ccNil ccNil_ok ccIv ccIv_ok (tCod 1 cIv (tCod 2 cIv (tCod 3 cInt tNil)))) (rL_surf rNil)) (cTwo cRep cInt) ((fun x => lenOk x.2.1)) ((fun x => (repC (scanOf x.1.2.1 x.2.1 x.1.2.2.1 x.1.2.2.2.1 x.1.2.2.2.2.1).1, (scanOf x.1.2.1 x.2.1 x.1.2.2.1 x.1.2.2.2.1 x.1.2.2.2.2.1).2))) := by
  intro x h N w vs hM hv
  obtain ⟨⟨t0a, t0b, t1, t2, t3, ⟨⟩⟩, ⟨r0, ⟨⟩⟩⟩ := x
  refine calls_of_tree (n := 200) (EnvOK.add s_pupil_sized (EnvOK.add s_iv_Right (EnvOK.add s_gauss_Cells (EnvOK.add s_gauss_InDisc (EnvOK.add s_pupil_kind (EnvOK.addT (n := 60) EnvOK.nil Try.func25 (fun vs w => Try.call25 vs w) EnvOK.nil)))))) Try.func6 hv (Nat.le_of_ble_eq_true (by kernel_rfl)) (LFn.add (fn := Try.f6) (i := 5) (by kernel_rfl) ok_pupil_Scan_5 LFn.nil) hM (cTwo cRep cInt) ?_
  rw [t_pupil_Scan]
  simp only at h
  simp only [den_br, den_bind, den_ret, den_fail, den_get, den_inl, den_inr, decide_eq_true_eq, gt_iff_lt, ge_iff_le, beq_iff_eq]
  simp only [h, if_true]
  by_cases hs : sizedC r0 t3 = true
  case neg => simp [hs, scanOf, repC, zeroD]; rfl
  by_cases c1 : t1.right = true
  case neg => simp [hs, c1, scanOf, repC, zeroD]; rfl
  by_cases c2 : t2.right = true
  case neg => simp [hs, c1, c2, scanOf, repC, zeroD]; rfl
  have hs' := sizedC_iff.1 hs
  have hr := scanP_run (o := t0b) (x := t1) (y := t2) (res := (0, 0, 0, false, (0, 0), (0, 0))) h hs'.2
  simp only [hs, c1, c2, Bool.not_true, Bool.false_eq_true, if_false, hr, den_get, den_ret, scanOf, if_true, and_self]
  rw [repOf_fin (scanFold_ok _ _ _ _ (by omega))]
theorem s_pupil_Scan : Ev.Spec Try.prog 6 (FS (sc 4 [0, 1, 2, 3] (tAgg 0 0 ccNil ccNil_ok ccIv ccIv_ok (tCod 1 cIv (tCod 2 cIv (tCod 3 cInt tNil)))) (rL_surf rNil)) (cTwo cRep cInt) ((fun x => lenOk x.2.1)) ((fun x => (repC (scanOf x.1.2.1 x.2.1 x.1.2.2.1 x.1.2.2.2.1 x.1.2.2.2.2.1).1, (scanOf x.1.2.1 x.2.1 x.1.2.2.1 x.1.2.2.2.1 x.1.2.2.2.2.1).2)))) := specS rfl (fun vs w => Try.call6 vs w) c_pupil_Scan
end Go.Proofs.Ytliglpiofomelaa
