/-
  Contracts of calls, written by a small program of this session out of the evaluator's trees.
-/
import Derived.Test.YthdpjmkknodmpaaGreatCore
import Derived.Test.YthdpjmkknodmpaaGreatCoreLoops
import Derived.Test.YthdpjmkknodmpaaGreatCore2
import Derived.Test.YthdpjmkknodmpaaGreatCore3
import Derived.Test.YthdpjmkknodmpaaGreatCore4
import Derived.Test.YthdpjmkknodmpaaGreatCore5
import Derived.Test.YthdpjmkknodmpaaGreatCore6
import Derived.Test.YthdpjmkknodmpaaGreatCore7
import Derived.Test.YthdpjmkknodmpaaGreatCore8
import Derived.Test.YthdpjmkknodmpaaGreatCore9
import Derived.Test.YthdpjmkknodmpaaGreatEvMore
import Derived.Test.YthdpjmkknodmpaaGreatSym
import Derived.Test.YthdpjmkknodmpaaGreatSysF
import Derived.Test.YthdpjmkknodmpaaGreatLess2
import Derived.Test.YthdpjmkknodmpaaGreatFoc
import Derived.Test.YthdpjmkknodmpaaGreatR1
import Derived.Test.YthdpjmkknodmpaaGreatEvCod
import Derived.Test.YthdpjmkknodmpaaGreatEvRet
import Derived.Test.YthdpjmkknodmpaaGreatProg
namespace Go.Proofs.YthdpjmkknodmpaaGreat
open Go Go.RowKit Ev
set_option maxRecDepth 100000
set_option linter.unusedVariables false
set_option linter.unusedSimpArgs false

/-! system.Last -/
theorem t_system_Last (t0a : Unit) (t0b : Iv) (r0 : List Surf) :
    evFn Tryz.prog (Env.add 44 (F0 cIv Iv.none) Env.nil) Laws.nil 200 Tryz.f28 (((sc 1 [0] (tAgg 0 0 ccNil ccNil_ok ccIv ccIv_ok tNil) (rL_surf rNil)).enc ((t0a, t0b, ()), (r0, ()))).tmps.map Prod.snd) ((sc 1 [0] (tAgg 0 0 ccNil ccNil_ok ccIv ccIv_ok tNil) (rL_surf rNil)).enc ((t0a, t0b, ()), (r0, ()))).mem cIv.dec =
      .br ((@Nat.cast Int _ r0.length) == 0)
       (
        .bind (Go.Proofs.YthdpjmkknodmpaaGreat.Iv.none) fun viv0 =>
        .ret (viv0))
       (
        .br (Decidable.decide (0 ≤ Go.IntKind.i64.wrap ((@Nat.cast Int _ r0.length) - 1) ∧ Go.IntKind.i64.wrap ((@Nat.cast Int _ r0.length) - 1) < (@Nat.cast Int _ r0.length)))
         (
          .get (r0[(Go.IntKind.i64.wrap ((@Nat.cast Int _ r0.length) - 1)).toNat]?) fun vt1 =>
          .ret (vt1.at_))
         (
          .fail)) := by kernel_rfl
theorem c_system_Last : PlainS Tryz.prog 28 (sc 1 [0] (tAgg 0 0 ccNil ccNil_ok ccIv ccIv_ok tNil) (rL_surf rNil)) cIv ((fun x => lenOk x.2.1)) ((fun x => lastOf x.2.1)) := by
  intro x h N w vs hM hv
  obtain ⟨⟨t0a, t0b, ⟨⟩⟩, ⟨r0, ⟨⟩⟩⟩ := x
  refine calls_of_tree (n := 200) (EnvOK.add s_iv_None EnvOK.nil) Tryz.func28 hv (Nat.le_of_ble_eq_true (by kernel_rfl)) LFn.nil hM cIv ?_
  rw [t_system_Last]
  simp only at h
  have hl := lenOk_iff.1 h
  have hw : r0.length ≠ 0 → IntKind.i64.wrap ((r0.length : Int) - 1) = (r0.length : Int) - 1 := fun _ => wr (by omega)
  simp only [den_br, den_bind, den_ret, den_fail, den_inl, den_inr, decide_eq_true_eq, gt_iff_lt, ge_iff_le, beq_iff_eq]
  unfold lastOf
  by_cases c : r0.length = 0
  · simp [c]
  · have c' : ¬ ((r0.length : Int) = 0) := by omega
    have c2 : (0 : Int) ≤ (r0.length : Int) - 1 ∧ (r0.length : Int) - 1 < (r0.length : Int) := by omega
    simp only [c, c', if_false, hw c, c2, and_self, if_true]
    obtain ⟨v, hv⟩ : ∃ v, r0[((r0.length : Int) - 1).toNat]? = some v := ⟨_, List.getElem?_eq_getElem (by omega)⟩
    rw [hv]; rfl
theorem s_system_Last : Ev.Spec Tryz.prog 28 (FS (sc 1 [0] (tAgg 0 0 ccNil ccNil_ok ccIv ccIv_ok tNil) (rL_surf rNil)) cIv ((fun x => lenOk x.2.1)) ((fun x => lastOf x.2.1))) := specS rfl (fun vs w => Tryz.call28 vs w) c_system_Last

/-! meniscusref8.Last -/
theorem t_meniscusref8_Last (t0a : Unit) (t0b : Iv) (r0 : List Surf) :
    evFn Tryz.prog (Env.add 56 (F0 cIv Iv.none) Env.nil) Laws.nil 200 Tryz.f33 (((sc 1 [0] (tAgg 0 0 ccNil ccNil_ok ccIv ccIv_ok tNil) (rL_surf rNil)).enc ((t0a, t0b, ()), (r0, ()))).tmps.map Prod.snd) ((sc 1 [0] (tAgg 0 0 ccNil ccNil_ok ccIv ccIv_ok tNil) (rL_surf rNil)).enc ((t0a, t0b, ()), (r0, ()))).mem cIv.dec =
      .br ((@Nat.cast Int _ r0.length) == 0)
       (
        .bind (Go.Proofs.YthdpjmkknodmpaaGreat.Iv.none) fun viv0 =>
        .ret (viv0))
       (
        .br (Decidable.decide (0 ≤ Go.IntKind.i64.wrap ((@Nat.cast Int _ r0.length) - 1) ∧ Go.IntKind.i64.wrap ((@Nat.cast Int _ r0.length) - 1) < (@Nat.cast Int _ r0.length)))
         (
          .get (r0[(Go.IntKind.i64.wrap ((@Nat.cast Int _ r0.length) - 1)).toNat]?) fun vt1 =>
          .ret (vt1.at_))
         (
          .fail)) := by kernel_rfl
theorem c_meniscusref8_Last : PlainS Tryz.prog 33 (sc 1 [0] (tAgg 0 0 ccNil ccNil_ok ccIv ccIv_ok tNil) (rL_surf rNil)) cIv ((fun x => lenOk x.2.1)) ((fun x => lastOf x.2.1)) := by
  intro x h N w vs hM hv
  obtain ⟨⟨t0a, t0b, ⟨⟩⟩, ⟨r0, ⟨⟩⟩⟩ := x
  refine calls_of_tree (n := 200) (EnvOK.add s_meniscusref1_None EnvOK.nil) Tryz.func33 hv (Nat.le_of_ble_eq_true (by kernel_rfl)) LFn.nil hM cIv ?_
  rw [t_meniscusref8_Last]
  simp only at h
  have hl := lenOk_iff.1 h
  have hw : r0.length ≠ 0 → IntKind.i64.wrap ((r0.length : Int) - 1) = (r0.length : Int) - 1 := fun _ => wr (by omega)
  simp only [den_br, den_bind, den_ret, den_fail, den_inl, den_inr, decide_eq_true_eq, gt_iff_lt, ge_iff_le, beq_iff_eq]
  unfold lastOf
  by_cases c : r0.length = 0
  · simp [c]
  · have c' : ¬ ((r0.length : Int) = 0) := by omega
    have c2 : (0 : Int) ≤ (r0.length : Int) - 1 ∧ (r0.length : Int) - 1 < (r0.length : Int) := by omega
    simp only [c, c', if_false, hw c, c2, and_self, if_true]
    obtain ⟨v, hv⟩ : ∃ v, r0[((r0.length : Int) - 1).toNat]? = some v := ⟨_, List.getElem?_eq_getElem (by omega)⟩
    rw [hv]; rfl
theorem s_meniscusref8_Last : Ev.Spec Tryz.prog 33 (FS (sc 1 [0] (tAgg 0 0 ccNil ccNil_ok ccIv ccIv_ok tNil) (rL_surf rNil)) cIv ((fun x => lenOk x.2.1)) ((fun x => lastOf x.2.1))) := specS rfl (fun vs w => Tryz.call33 vs w) c_meniscusref8_Last

/-! focus.Cross -/
theorem t_focus_Cross (t0a : Unit) (t0b : Iv) (t1 : Iv) (t2 : Iv) (r0 : List Surf) :
    evFn Tryz.prog (Env.add 15 (F1 cInt cIv Iv.point) (Env.add 25 (F3 cIv cIv cIv cV V.mk) (Env.add 26 (FS (sc 3 [0, 1, 2] (tAgg 0 0 ccNil ccNil_ok ccIv ccIv_ok (tCod 1 cRay (tCod 2 cIv tNil))) (rL_surf rNil)) (cThree cIv cIv cInt) ((fun x => lenOk x.2.1)) ((fun x => throughOf x.2.1 x.1.2.2.1 x.1.2.2.2.1))) (Env.add 27 (F2 cIv cIv cIv Iv.add) (Env.add 28 (FS (sc 1 [0] (tAgg 0 0 ccNil ccNil_ok ccIv ccIv_ok tNil) (rL_surf rNil)) cIv ((fun x => lenOk x.2.1)) ((fun x => lastOf x.2.1))) Env.nil))))) Laws.nil 200 Tryz.f9 (((sc 3 [0, 1, 2] (tAgg 0 0 ccNil ccNil_ok ccIv ccIv_ok (tCod 1 cIv (tCod 2 cIv tNil))) (rL_surf rNil)).enc ((t0a, t0b, t1, t2, ()), (r0, ()))).tmps.map Prod.snd) ((sc 3 [0, 1, 2] (tAgg 0 0 ccNil ccNil_ok ccIv ccIv_ok (tCod 1 cIv (tCod 2 cIv tNil))) (rL_surf rNil)).enc ((t0a, t0b, t1, t2, ()), (r0, ()))).mem (cTwo cIv cInt).dec =
      .bind (Go.Proofs.YthdpjmkknodmpaaGreat.Iv.point 0) fun viv0 =>
      .bind (Go.Proofs.YthdpjmkknodmpaaGreat.V.mk t1 viv0 viv0) fun vv1 =>
      .bind (Go.Proofs.YthdpjmkknodmpaaGreat.Iv.point 65536) fun viv2 =>
      .bind (Go.Proofs.YthdpjmkknodmpaaGreat.V.mk viv0 viv0 viv2) fun vv3 =>
      .br (Go.Proofs.YthdpjmkknodmpaaGreat.Ev.lenOk r0)
       (
        .bind (Go.Proofs.YthdpjmkknodmpaaGreat.lastOf r0) fun viv4 =>
        .bind (viv4.add t2) fun viv5 =>
        .br (Go.Proofs.YthdpjmkknodmpaaGreat.Ev.lenOk r0)
         (
          .bind (Go.Proofs.YthdpjmkknodmpaaGreat.throughOf r0 (Go.Proofs.YthdpjmkknodmpaaGreat.Ray.mk vv1 vv3) viv5) fun vy6 =>
          .ret ((vy6.fst, vy6.snd.snd)))
         (
          .fail))
       (
        .fail) := by kernel_rfl
theorem c_focus_Cross : PlainS Tryz.prog 9 (sc 3 [0, 1, 2] (tAgg 0 0 ccNil ccNil_ok ccIv ccIv_ok (tCod 1 cIv (tCod 2 cIv tNil))) (rL_surf rNil)) (cTwo cIv cInt) ((fun x => lenOk x.2.1)) ((fun x => crossOf x.2.1 x.1.2.2.1 x.1.2.2.2.1)) := by
  intro x h N w vs hM hv
  obtain ⟨⟨t0a, t0b, t1, t2, ⟨⟩⟩, ⟨r0, ⟨⟩⟩⟩ := x
  refine calls_of_tree (n := 200) (EnvOK.add s_iv_Point (EnvOK.add s_vec_Of (EnvOK.add s_trace_Through (EnvOK.add s_iv_Add (EnvOK.add s_system_Last EnvOK.nil))))) Tryz.func9 hv (Nat.le_of_ble_eq_true (by kernel_rfl)) LFn.nil hM (cTwo cIv cInt) ?_
  rw [t_focus_Cross]
  simp only at h
  simp only [den_br, den_bind, den_ret, den_fail, den_inl, den_inr, decide_eq_true_eq, gt_iff_lt, ge_iff_le, beq_iff_eq]
  simp only [h, if_true]
  rfl
theorem s_focus_Cross : Ev.Spec Tryz.prog 9 (FS (sc 3 [0, 1, 2] (tAgg 0 0 ccNil ccNil_ok ccIv ccIv_ok (tCod 1 cIv (tCod 2 cIv tNil))) (rL_surf rNil)) (cTwo cIv cInt) ((fun x => lenOk x.2.1)) ((fun x => crossOf x.2.1 x.1.2.2.1 x.1.2.2.2.1))) := specS rfl (fun vs w => Tryz.call9 vs w) c_focus_Cross

/-! meniscusref20.Cross -/
theorem t_meniscusref20_Cross (t0a : Unit) (t0b : Iv) (t1 : Iv) (t2 : Iv) (r0 : List Surf) :
    evFn Tryz.prog (Env.add 30 (F1 cInt cIv Iv.point) (Env.add 31 (FS (sc 3 [0, 1, 2] (tAgg 0 0 ccNil ccNil_ok ccIv ccIv_ok (tCod 1 cRay (tCod 2 cIv tNil))) (rL_surf rNil)) (cThree cIv cIv cInt) ((fun x => lenOk x.2.1)) ((fun x => throughOf x.2.1 x.1.2.2.1 x.1.2.2.2.1))) (Env.add 32 (F2 cIv cIv cIv Iv.add) (Env.add 33 (FS (sc 1 [0] (tAgg 0 0 ccNil ccNil_ok ccIv ccIv_ok tNil) (rL_surf rNil)) cIv ((fun x => lenOk x.2.1)) ((fun x => lastOf x.2.1))) Env.nil)))) Laws.nil 200 Tryz.f11 (((sc 3 [0, 1, 2] (tAgg 0 0 ccNil ccNil_ok ccIv ccIv_ok (tCod 1 cIv (tCod 2 cIv tNil))) (rL_surf rNil)).enc ((t0a, t0b, t1, t2, ()), (r0, ()))).tmps.map Prod.snd) ((sc 3 [0, 1, 2] (tAgg 0 0 ccNil ccNil_ok ccIv ccIv_ok (tCod 1 cIv (tCod 2 cIv tNil))) (rL_surf rNil)).enc ((t0a, t0b, t1, t2, ()), (r0, ()))).mem (cTwo cIv cInt).dec =
      .bind (Go.Proofs.YthdpjmkknodmpaaGreat.Iv.point 0) fun viv0 =>
      .bind (Go.Proofs.YthdpjmkknodmpaaGreat.Iv.point 65536) fun viv1 =>
      .br (Go.Proofs.YthdpjmkknodmpaaGreat.Ev.lenOk r0)
       (
        .bind (Go.Proofs.YthdpjmkknodmpaaGreat.lastOf r0) fun viv2 =>
        .bind (viv2.add t2) fun viv3 =>
        .br (Go.Proofs.YthdpjmkknodmpaaGreat.Ev.lenOk r0)
         (
          .bind (Go.Proofs.YthdpjmkknodmpaaGreat.throughOf r0 (Go.Proofs.YthdpjmkknodmpaaGreat.Ray.mk (Go.Proofs.YthdpjmkknodmpaaGreat.V.mk t1 viv0 viv0) (Go.Proofs.YthdpjmkknodmpaaGreat.V.mk viv0 viv0 viv1)) viv3) fun vy4 =>
          .ret ((vy4.fst, vy4.snd.snd)))
         (
          .fail))
       (
        .fail) := by kernel_rfl
theorem c_meniscusref20_Cross : PlainS Tryz.prog 11 (sc 3 [0, 1, 2] (tAgg 0 0 ccNil ccNil_ok ccIv ccIv_ok (tCod 1 cIv (tCod 2 cIv tNil))) (rL_surf rNil)) (cTwo cIv cInt) ((fun x => lenOk x.2.1)) ((fun x => crossOf x.2.1 x.1.2.2.1 x.1.2.2.2.1)) := by
  intro x h N w vs hM hv
  obtain ⟨⟨t0a, t0b, t1, t2, ⟨⟩⟩, ⟨r0, ⟨⟩⟩⟩ := x
  refine calls_of_tree (n := 200) (EnvOK.add s_meniscusref1_Point (EnvOK.add s_meniscusref14_Reach (EnvOK.add s_meniscusref1_Add (EnvOK.add s_meniscusref8_Last EnvOK.nil)))) Tryz.func11 hv (Nat.le_of_ble_eq_true (by kernel_rfl)) LFn.nil hM (cTwo cIv cInt) ?_
  rw [t_meniscusref20_Cross]
  simp only at h
  simp only [den_br, den_bind, den_ret, den_fail, den_inl, den_inr, decide_eq_true_eq, gt_iff_lt, ge_iff_le, beq_iff_eq]
  simp only [h, if_true]
  rfl
theorem s_meniscusref20_Cross : Ev.Spec Tryz.prog 11 (FS (sc 3 [0, 1, 2] (tAgg 0 0 ccNil ccNil_ok ccIv ccIv_ok (tCod 1 cIv (tCod 2 cIv tNil))) (rL_surf rNil)) (cTwo cIv cInt) ((fun x => lenOk x.2.1)) ((fun x => crossOf x.2.1 x.1.2.2.1 x.1.2.2.2.1))) := specS rfl (fun vs w => Tryz.call11 vs w) c_meniscusref20_Cross

/-! focus.sign -/
theorem t_focus_sign (t0a : Unit) (t0b : Iv) (t1 : Iv) (t2 : Int) (r0 : List Surf) :
    evFn Tryz.prog (Env.add 9 (FS (sc 3 [0, 1, 2] (tAgg 0 0 ccNil ccNil_ok ccIv ccIv_ok (tCod 1 cIv (tCod 2 cIv tNil))) (rL_surf rNil)) (cTwo cIv cInt) ((fun x => lenOk x.2.1)) ((fun x => crossOf x.2.1 x.1.2.2.1 x.1.2.2.2.1))) (Env.add 15 (F1 cInt cIv Iv.point) Env.nil)) Laws.nil 200 Tryz.f35 (((sc 3 [0, 1, 2] (tAgg 0 0 ccNil ccNil_ok ccIv ccIv_ok (tCod 1 cIv (tCod 2 cInt tNil))) (rL_surf rNil)).enc ((t0a, t0b, t1, t2, ()), (r0, ()))).tmps.map Prod.snd) ((sc 3 [0, 1, 2] (tAgg 0 0 ccNil ccNil_ok ccIv ccIv_ok (tCod 1 cIv (tCod 2 cInt tNil))) (rL_surf rNil)).enc ((t0a, t0b, t1, t2, ()), (r0, ()))).mem cInt.dec =
      .bind (Go.Proofs.YthdpjmkknodmpaaGreat.Iv.point t2) fun viv0 =>
      .br (Go.Proofs.YthdpjmkknodmpaaGreat.Ev.lenOk r0)
       (
        .bind (Go.Proofs.YthdpjmkknodmpaaGreat.crossOf r0 t1 viv0) fun vy1 =>
        .br (vy1.snd != 1)
         (
          .ret (0))
         (
          .br (Decidable.decide (vy1.fst.lo > 0))
           (
            .ret (1))
           (
            .br (Decidable.decide (vy1.fst.hi < 0))
             (
              .ret (-1))
             (
              .ret (0)))))
       (
        .fail) := by kernel_rfl
theorem c_focus_sign : PlainS Tryz.prog 35 (sc 3 [0, 1, 2] (tAgg 0 0 ccNil ccNil_ok ccIv ccIv_ok (tCod 1 cIv (tCod 2 cInt tNil))) (rL_surf rNil)) cInt ((fun x => lenOk x.2.1)) ((fun x => signOf x.2.1 x.1.2.2.1 x.1.2.2.2.1)) := by
  intro x h N w vs hM hv
  obtain ⟨⟨t0a, t0b, t1, t2, ⟨⟩⟩, ⟨r0, ⟨⟩⟩⟩ := x
  refine calls_of_tree (n := 200) (EnvOK.add s_focus_Cross (EnvOK.add s_iv_Point EnvOK.nil)) Tryz.func35 hv (Nat.le_of_ble_eq_true (by kernel_rfl)) LFn.nil hM cInt ?_
  rw [t_focus_sign]
  simp only at h
  simp only [den_br, den_bind, den_ret, den_fail, den_inl, den_inr, decide_eq_true_eq, gt_iff_lt, ge_iff_le, beq_iff_eq]
  simp only [h, if_true, signOf, signIv]
  by_cases c : (crossOf r0 t1 (Iv.point t2)).2 = 1
  · have c' : ((crossOf r0 t1 (Iv.point t2)).2 != 1) = false := by simp [c]
    simp only [c, c', bne_self_eq_false, if_true, if_false, Bool.false_eq_true]
    split
    · rfl
    · split <;> rfl
  · have c' : ((crossOf r0 t1 (Iv.point t2)).2 != 1) = true := by simp [c]
    simp only [c, c', if_true, if_false]
theorem s_focus_sign : Ev.Spec Tryz.prog 35 (FS (sc 3 [0, 1, 2] (tAgg 0 0 ccNil ccNil_ok ccIv ccIv_ok (tCod 1 cIv (tCod 2 cInt tNil))) (rL_surf rNil)) cInt ((fun x => lenOk x.2.1)) ((fun x => signOf x.2.1 x.1.2.2.1 x.1.2.2.2.1))) := specS rfl (fun vs w => Tryz.call35 vs w) c_focus_sign

/-! meniscusref20.sign -/
theorem t_meniscusref20_sign (t0a : Unit) (t0b : Iv) (t1 : Iv) (t2 : Int) (r0 : List Surf) :
    evFn Tryz.prog (Env.add 11 (FS (sc 3 [0, 1, 2] (tAgg 0 0 ccNil ccNil_ok ccIv ccIv_ok (tCod 1 cIv (tCod 2 cIv tNil))) (rL_surf rNil)) (cTwo cIv cInt) ((fun x => lenOk x.2.1)) ((fun x => crossOf x.2.1 x.1.2.2.1 x.1.2.2.2.1))) (Env.add 30 (F1 cInt cIv Iv.point) Env.nil)) Laws.nil 200 Tryz.f38 (((sc 3 [0, 1, 2] (tAgg 0 0 ccNil ccNil_ok ccIv ccIv_ok (tCod 1 cIv (tCod 2 cInt tNil))) (rL_surf rNil)).enc ((t0a, t0b, t1, t2, ()), (r0, ()))).tmps.map Prod.snd) ((sc 3 [0, 1, 2] (tAgg 0 0 ccNil ccNil_ok ccIv ccIv_ok (tCod 1 cIv (tCod 2 cInt tNil))) (rL_surf rNil)).enc ((t0a, t0b, t1, t2, ()), (r0, ()))).mem cInt.dec =
      .bind (Go.Proofs.YthdpjmkknodmpaaGreat.Iv.point t2) fun viv0 =>
      .br (Go.Proofs.YthdpjmkknodmpaaGreat.Ev.lenOk r0)
       (
        .bind (Go.Proofs.YthdpjmkknodmpaaGreat.crossOf r0 t1 viv0) fun vy1 =>
        .br (vy1.snd != 1)
         (
          .ret (0))
         (
          .br (Decidable.decide (vy1.fst.lo > 0))
           (
            .ret (1))
           (
            .br (Decidable.decide (vy1.fst.hi < 0))
             (
              .ret (-1))
             (
              .ret (0)))))
       (
        .fail) := by kernel_rfl
theorem c_meniscusref20_sign : PlainS Tryz.prog 38 (sc 3 [0, 1, 2] (tAgg 0 0 ccNil ccNil_ok ccIv ccIv_ok (tCod 1 cIv (tCod 2 cInt tNil))) (rL_surf rNil)) cInt ((fun x => lenOk x.2.1)) ((fun x => signOf x.2.1 x.1.2.2.1 x.1.2.2.2.1)) := by
  intro x h N w vs hM hv
  obtain ⟨⟨t0a, t0b, t1, t2, ⟨⟩⟩, ⟨r0, ⟨⟩⟩⟩ := x
  refine calls_of_tree (n := 200) (EnvOK.add s_meniscusref20_Cross (EnvOK.add s_meniscusref1_Point EnvOK.nil)) Tryz.func38 hv (Nat.le_of_ble_eq_true (by kernel_rfl)) LFn.nil hM cInt ?_
  rw [t_meniscusref20_sign]
  simp only at h
  simp only [den_br, den_bind, den_ret, den_fail, den_inl, den_inr, decide_eq_true_eq, gt_iff_lt, ge_iff_le, beq_iff_eq]
  simp only [h, if_true, signOf, signIv]
  by_cases c : (crossOf r0 t1 (Iv.point t2)).2 = 1
  · have c' : ((crossOf r0 t1 (Iv.point t2)).2 != 1) = false := by simp [c]
    simp only [c, c', bne_self_eq_false, if_true, if_false, Bool.false_eq_true]
    split
    · rfl
    · split <;> rfl
  · have c' : ((crossOf r0 t1 (Iv.point t2)).2 != 1) = true := by simp [c]
    simp only [c, c', if_true, if_false]
theorem s_meniscusref20_sign : Ev.Spec Tryz.prog 38 (FS (sc 3 [0, 1, 2] (tAgg 0 0 ccNil ccNil_ok ccIv ccIv_ok (tCod 1 cIv (tCod 2 cInt tNil))) (rL_surf rNil)) cInt ((fun x => lenOk x.2.1)) ((fun x => signOf x.2.1 x.1.2.2.1 x.1.2.2.2.1))) := specS rfl (fun vs w => Tryz.call38 vs w) c_meniscusref20_sign

/-! focus.Focus -/
theorem tl_focus_Focus_8 (t2 : Int) (t3 : Int) (t4 : Int) (t12 : Int) (r0 : Iv) (r1 : Iv) (r2 : Iv) (r3 : List Surf) :
    ev Tryz.prog (Env.add 34 (F1 cInt cBool numIn) (Env.add 35 (FS (sc 3 [0, 1, 2] (tAgg 0 0 ccNil ccNil_ok ccIv ccIv_ok (tCod 1 cIv (tCod 2 cInt tNil))) (rL_surf rNil)) cInt ((fun x => lenOk x.2.1)) ((fun x => signOf x.2.1 x.1.2.2.1 x.1.2.2.2.1))) (Env.add 36 (F2 cInt cInt cIv Iv.of) Env.nil))) Laws.nil 200 none (loopAt Tryz.f12 8) ((sc 78 [2, 3, 4, 12, 5, 6, 10] (tCod 2 cInt (tCod 3 cInt (tCod 4 cInt (tCod 12 cInt (tOwn 5 0 (tOwn 6 1 (tOwn 10 2 tNil))))))) (rBoxSl 3 ccIv ccIv_ok (rBox ccIv ccIv_ok (rBox ccIv ccIv_ok (rL_surf rNil))))).enc ((t2, t3, t4, t12, ()), (r0, r1, r2, r3, ()))) (backK (sc 78 [2, 3, 4, 12, 5, 6, 10] (tCod 2 cInt (tCod 3 cInt (tCod 4 cInt (tCod 12 cInt (tOwn 5 0 (tOwn 6 1 (tOwn 10 2 tNil))))))) (rBoxSl 3 ccIv ccIv_ok (rBox ccIv ccIv_ok (rBox ccIv ccIv_ok (rL_surf rNil))))) (ocOr (ocExit 1 (sc 78 [2, 3, 10] (tCod 2 cInt (tCod 3 cInt (tOwn 10 0 tNil))) (rBox ccIv ccIv_ok rNil))) (ocRet (sc 78 [11, 10] (tCod 11 cInt (tOwn 10 0 tNil)) (rBox ccIv ccIv_ok rNil))))) =
      .br (Decidable.decide (Go.IntKind.i64.wrap (t3 - t2) > t4))
       (
        .br (Decidable.decide (0 ≤ 1))
         (
          .br (Go.Proofs.YthdpjmkknodmpaaGreat.Ev.lenOk r3)
           (
            .bind (Go.Proofs.YthdpjmkknodmpaaGreat.signOf r3 r1 ((Go.IntKind.i64.wrap (t2 + t3)).fdiv (2 ^ Min.min (Int.toNat 1) 64))) fun vn0 =>
            .br (vn0 == 0)
             (
              .ret (Sum.inr (Sum.inr ((8, ()), Go.Proofs.YthdpjmkknodmpaaGreat.Iv.mk 0 0 Bool.false, ()))))
             (
              .br (vn0 == t12)
               (
                .ret (Sum.inl (((Go.IntKind.i64.wrap (t2 + t3)).fdiv (2 ^ Min.min (Int.toNat 1) 64), t3, t4, t12, ()), r0, r1, r2, r3, ())))
               (
                .ret (Sum.inl ((t2, (Go.IntKind.i64.wrap (t2 + t3)).fdiv (2 ^ Min.min (Int.toNat 1) 64), t4, t12, ()), r0, r1, r2, r3, ())))))
           (
            .fail))
         (
          .fail))
       (
        .ret (Sum.inr (Sum.inl ((t2, t3, ()), r2, ())))) := by kernel_rfl
theorem ok_focus_Focus_8 : LOK Tryz.prog (LoopR.of (sc 78 [2, 3, 4, 12, 5, 6, 10] (tCod 2 cInt (tCod 3 cInt (tCod 4 cInt (tCod 12 cInt (tOwn 5 0 (tOwn 6 1 (tOwn 10 2 tNil))))))) (rBoxSl 3 ccIv ccIv_ok (rBox ccIv ccIv_ok (rBox ccIv ccIv_ok (rL_surf rNil))))) (ocOr (ocExit 1 (sc 78 [2, 3, 10] (tCod 2 cInt (tCod 3 cInt (tOwn 10 0 tNil))) (rBox ccIv ccIv_ok rNil))) (ocRet (sc 78 [11, 10] (tCod 11 cInt (tOwn 10 0 tNil)) (rBox ccIv ccIv_ok rNil)))) (runBy (focStep midA okA) focM)) (loopAt Tryz.f12 8) := by
  refine loop_ok (EnvOK.add s_num_In (EnvOK.add s_focus_sign (EnvOK.add s_iv_Of EnvOK.nil))) (LFn.at (fn := Tryz.f12) LFn.nil 8) ((focStep midA okA)) (n := 200) (fun x z h => ?_) (runBy_ok _ _)
  obtain ⟨⟨t2, t3, t4, t12, ⟨⟩⟩, ⟨r0, r1, r2, r3, ⟨⟩⟩⟩ := x
  rw [tl_focus_Focus_8]
  rw [← h]
  rw [show (IntKind.i64.wrap (t2 + t3)).fdiv (2 ^ min (Int.toNat 1) 64) = midA t2 t3 from rfl]
  simp only [den_br, den_bind, den_ret, den_fail, den_inl, den_inr, decide_eq_true_eq, gt_iff_lt, ge_iff_le, beq_iff_eq]
  simp only [focStep]
  by_cases c0 : t4 < IntKind.i64.wrap (t3 - t2)
  case neg => simp only [c0, if_false]
  simp only [c0, if_true]
  simp only [show ((0 : Int) ≤ 1) = True from by simp, okA, if_true]
  by_cases c1 : Ev.lenOk r3 = true
  case neg => simp [c1]
  simp only [c1, if_true]
  generalize signOf r3 r1 (midA t2 t3) = w
  by_cases d1 : w = 0
  · rw [if_pos d1, if_pos d1]; rfl
  by_cases d2 : w = t12
  · subst d2; simp [d1]
  · simp [d1, d2]
theorem t_focus_Focus (t0a : Unit) (t0b : Iv) (t1 : Iv) (t2 : Int) (t3 : Int) (t4 : Int) (r0 : List Surf) :
    evFn Tryz.prog (Env.add 34 (F1 cInt cBool numIn) (Env.add 35 (FS (sc 3 [0, 1, 2] (tAgg 0 0 ccNil ccNil_ok ccIv ccIv_ok (tCod 1 cIv (tCod 2 cInt tNil))) (rL_surf rNil)) cInt ((fun x => lenOk x.2.1)) ((fun x => signOf x.2.1 x.1.2.2.1 x.1.2.2.2.1))) (Env.add 36 (F2 cInt cInt cIv Iv.of) Env.nil))) (Laws.add 8 (LoopR.of (sc 78 [2, 3, 4, 12, 5, 6, 10] (tCod 2 cInt (tCod 3 cInt (tCod 4 cInt (tCod 12 cInt (tOwn 5 0 (tOwn 6 1 (tOwn 10 2 tNil))))))) (rBoxSl 3 ccIv ccIv_ok (rBox ccIv ccIv_ok (rBox ccIv ccIv_ok (rL_surf rNil))))) (ocOr (ocExit 1 (sc 78 [2, 3, 10] (tCod 2 cInt (tCod 3 cInt (tOwn 10 0 tNil))) (rBox ccIv ccIv_ok rNil))) (ocRet (sc 78 [11, 10] (tCod 11 cInt (tOwn 10 0 tNil)) (rBox ccIv ccIv_ok rNil)))) (runBy (focStep midA okA) focM)) Laws.nil) 200 Tryz.f12 (((sc 5 [0, 1, 2, 3, 4] (tAgg 0 0 ccNil ccNil_ok ccIv ccIv_ok (tCod 1 cIv (tCod 2 cInt (tCod 3 cInt (tCod 4 cInt tNil))))) (rL_surf rNil)).enc ((t0a, t0b, t1, t2, t3, t4, ()), (r0, ()))).tmps.map Prod.snd) ((sc 5 [0, 1, 2, 3, 4] (tAgg 0 0 ccNil ccNil_ok ccIv ccIv_ok (tCod 1 cIv (tCod 2 cInt (tCod 3 cInt (tCod 4 cInt tNil))))) (rL_surf rNil)).enc ((t0a, t0b, t1, t2, t3, t4, ()), (r0, ()))).mem (cTwo cIv cInt).dec =
      .br (Decidable.decide (t2 ≥ t3))
       (
        .ret ((Go.Proofs.YthdpjmkknodmpaaGreat.Iv.mk 0 0 Bool.false, 1)))
       (
        .bind (Go.Proofs.YthdpjmkknodmpaaGreat.numIn t2) fun vb0 =>
        .br (!vb0)
         (
          .ret ((Go.Proofs.YthdpjmkknodmpaaGreat.Iv.mk 0 0 Bool.false, 1)))
         (
          .bind (Go.Proofs.YthdpjmkknodmpaaGreat.numIn t3) fun vb1 =>
          .br (!vb1)
           (
            .ret ((Go.Proofs.YthdpjmkknodmpaaGreat.Iv.mk 0 0 Bool.false, 1)))
           (
            .br (Decidable.decide (t4 < 1))
             (
              .ret ((Go.Proofs.YthdpjmkknodmpaaGreat.Iv.mk 0 0 Bool.false, 1)))
             (
              .br (Go.Proofs.YthdpjmkknodmpaaGreat.Ev.lenOk r0)
               (
                .bind (Go.Proofs.YthdpjmkknodmpaaGreat.signOf r0 t1 t2) fun vn2 =>
                .br (Go.Proofs.YthdpjmkknodmpaaGreat.Ev.lenOk r0)
                 (
                  .bind (Go.Proofs.YthdpjmkknodmpaaGreat.signOf r0 t1 t3) fun vn3 =>
                  .br (vn2 == 0)
                   (
                    .ret ((Go.Proofs.YthdpjmkknodmpaaGreat.Iv.mk 0 0 Bool.false, 8)))
                   (
                    .br (vn3 == 0)
                     (
                      .ret ((Go.Proofs.YthdpjmkknodmpaaGreat.Iv.mk 0 0 Bool.false, 8)))
                     (
                      .br (vn2 == vn3)
                       (
                        .ret ((Go.Proofs.YthdpjmkknodmpaaGreat.Iv.mk 0 0 Bool.false, 7)))
                       (
                        .get (Go.Proofs.YthdpjmkknodmpaaGreat.runBy (Go.Proofs.YthdpjmkknodmpaaGreat.focStep Go.Proofs.YthdpjmkknodmpaaGreat.midA Go.Proofs.YthdpjmkknodmpaaGreat.okA) Go.Proofs.YthdpjmkknodmpaaGreat.focM ((t2, t3, t4, vn2, ()), t0b, t1, Go.Proofs.YthdpjmkknodmpaaGreat.Iv.mk 0 0 Bool.false, r0, ())) fun vy4 =>
                        .sum (vy4)
                         (fun vs5 =>
                          .bind (Go.Proofs.YthdpjmkknodmpaaGreat.Iv.of vs5.fst.fst vs5.fst.snd.fst) fun viv6 =>
                          .ret ((viv6, 0)))
                         (fun vs7 =>
                          .ret ((vs7.snd.fst, vs7.fst.fst)))))))
                 (
                  .fail))
               (
                .fail))))) := by kernel_rfl
theorem c_focus_Focus : PlainS Tryz.prog 12 (sc 5 [0, 1, 2, 3, 4] (tAgg 0 0 ccNil ccNil_ok ccIv ccIv_ok (tCod 1 cIv (tCod 2 cInt (tCod 3 cInt (tCod 4 cInt tNil))))) (rL_surf rNil)) (cTwo cIv cInt) ((fun x => lenOk x.2.1)) ((fun x => focusOf x.2.1 x.1.2.2.1 x.1.2.2.2.1 x.1.2.2.2.2.1 x.1.2.2.2.2.2.1)) := by
  intro x h N w vs hM hv
  obtain ⟨⟨t0a, t0b, t1, t2, t3, t4, ⟨⟩⟩, ⟨r0, ⟨⟩⟩⟩ := x
  refine calls_of_tree (n := 200) (EnvOK.add s_num_In (EnvOK.add s_focus_sign (EnvOK.add s_iv_Of EnvOK.nil))) Tryz.func12 hv (Nat.le_of_ble_eq_true (by kernel_rfl)) (LFn.add (fn := Tryz.f12) (i := 8) (by kernel_rfl) ok_focus_Focus_8 LFn.nil) hM (cTwo cIv cInt) ?_
  rw [t_focus_Focus]
  simp only at h
  simp only [den_br, den_bind, den_ret, den_fail, den_inl, den_inr, decide_eq_true_eq, gt_iff_lt, ge_iff_le, beq_iff_eq]
  simp only [h, if_true]
  unfold focusOf
  by_cases hc : t3 ≤ t2 ∨ numIn t2 = false ∨ numIn t3 = false ∨ t4 < 1
  · rw [if_pos hc]
    by_cases c0 : t3 ≤ t2
    · simp only [c0, if_true]; rfl
    · cases c1 : numIn t2
      · simp [c0]; rfl
      · cases c2 : numIn t3
        · simp [c0]; rfl
        · have c3 : t4 < 1 := by simp_all
          simp [c0, c3]; rfl
  · rw [if_neg hc]
    have hr := foc_run mdA t0b t1 ⟨0, 0, false⟩ h (signOf r0 t1 t2) hc
    have c0 : ¬ t3 ≤ t2 := fun e => hc (.inl e)
    have c1 : numIn t2 = true := by cases e : numIn t2 <;> simp_all
    have c2 : numIn t3 = true := by cases e : numIn t3 <;> simp_all
    have c3 : ¬ t4 < 1 := fun e => hc (.inr (.inr (.inr e)))
    simp only [c0, c1, c2, c3, if_false, Bool.not_true, Bool.false_eq_true]
    by_cases d1 : signOf r0 t1 t2 = 0
    · simp only [d1, true_or, if_true]; rfl
    by_cases d2 : signOf r0 t1 t3 = 0
    · simp only [d1, d2, or_true, if_true, if_false]; rfl
    by_cases d3 : signOf r0 t1 t2 = signOf r0 t1 t3
    · simp only [d1, d2, or_self, if_false]
      rw [if_pos d3, if_pos d3]; rfl
    simp only [d1, d2, or_self, if_false]
    rw [if_neg d3, if_neg d3, hr]
    cases focGo (signOf r0 t1) t4 (signOf r0 t1 t2) (t3 - t2).toNat t2 t3 <;> rfl
theorem s_focus_Focus : Ev.Spec Tryz.prog 12 (FS (sc 5 [0, 1, 2, 3, 4] (tAgg 0 0 ccNil ccNil_ok ccIv ccIv_ok (tCod 1 cIv (tCod 2 cInt (tCod 3 cInt (tCod 4 cInt tNil))))) (rL_surf rNil)) (cTwo cIv cInt) ((fun x => lenOk x.2.1)) ((fun x => focusOf x.2.1 x.1.2.2.1 x.1.2.2.2.1 x.1.2.2.2.2.1 x.1.2.2.2.2.2.1))) := specS rfl (fun vs w => Tryz.call12 vs w) c_focus_Focus

/-! meniscusref20.Focus -/
theorem tl_meniscusref20_Focus_11 (t2 : Int) (t3 : Int) (t4 : Int) (t12 : Int) (r0 : Iv) (r1 : Iv) (r2 : Iv) (r3 : List Surf) :
    ev Tryz.prog (Env.add 37 (F1 cInt cBool numIn) (Env.add 38 (FS (sc 3 [0, 1, 2] (tAgg 0 0 ccNil ccNil_ok ccIv ccIv_ok (tCod 1 cIv (tCod 2 cInt tNil))) (rL_surf rNil)) cInt ((fun x => lenOk x.2.1)) ((fun x => signOf x.2.1 x.1.2.2.1 x.1.2.2.2.1))) (Env.add 39 (F2p cInt cInt cInt flOk fl) (Env.add 40 (F2 cInt cInt cIv Iv.of) Env.nil)))) Laws.nil 200 none (loopAt Tryz.f13 11) ((sc 75 [2, 3, 4, 12, 5, 6, 10] (tCod 2 cInt (tCod 3 cInt (tCod 4 cInt (tCod 12 cInt (tOwn 5 0 (tOwn 6 1 (tOwn 10 2 tNil))))))) (rBoxSl 3 ccIv ccIv_ok (rBox ccIv ccIv_ok (rBox ccIv ccIv_ok (rL_surf rNil))))).enc ((t2, t3, t4, t12, ()), (r0, r1, r2, r3, ()))) (backK (sc 75 [2, 3, 4, 12, 5, 6, 10] (tCod 2 cInt (tCod 3 cInt (tCod 4 cInt (tCod 12 cInt (tOwn 5 0 (tOwn 6 1 (tOwn 10 2 tNil))))))) (rBoxSl 3 ccIv ccIv_ok (rBox ccIv ccIv_ok (rBox ccIv ccIv_ok (rL_surf rNil))))) (ocOr (ocExit 0 (sc 75 [2, 3, 10] (tCod 2 cInt (tCod 3 cInt (tOwn 10 0 tNil))) (rBox ccIv ccIv_ok rNil))) (ocRet (sc 75 [11, 10] (tCod 11 cInt (tOwn 10 0 tNil)) (rBox ccIv ccIv_ok rNil))))) =
      .br (Decidable.decide (Go.IntKind.i64.wrap (t3 - t2) > t4))
       (
        .br (Go.Proofs.YthdpjmkknodmpaaGreat.flOk (Go.IntKind.i64.wrap (t2 + t3)) 2)
         (
          .bind (Go.Proofs.YthdpjmkknodmpaaGreat.fl (Go.IntKind.i64.wrap (t2 + t3)) 2) fun vn0 =>
          .br (Go.Proofs.YthdpjmkknodmpaaGreat.Ev.lenOk r3)
           (
            .bind (Go.Proofs.YthdpjmkknodmpaaGreat.signOf r3 r1 vn0) fun vn1 =>
            .br (vn1 == 0)
             (
              .ret (Sum.inr (Sum.inr ((8, ()), Go.Proofs.YthdpjmkknodmpaaGreat.Iv.mk 0 0 Bool.false, ()))))
             (
              .br (vn1 == t12)
               (
                .ret (Sum.inl ((vn0, t3, t4, t12, ()), r0, r1, r2, r3, ())))
               (
                .ret (Sum.inl ((t2, vn0, t4, t12, ()), r0, r1, r2, r3, ())))))
           (
            .fail))
         (
          .fail))
       (
        .ret (Sum.inr (Sum.inl ((t2, t3, ()), r2, ())))) := by kernel_rfl
theorem ok_meniscusref20_Focus_11 : LOK Tryz.prog (LoopR.of (sc 75 [2, 3, 4, 12, 5, 6, 10] (tCod 2 cInt (tCod 3 cInt (tCod 4 cInt (tCod 12 cInt (tOwn 5 0 (tOwn 6 1 (tOwn 10 2 tNil))))))) (rBoxSl 3 ccIv ccIv_ok (rBox ccIv ccIv_ok (rBox ccIv ccIv_ok (rL_surf rNil))))) (ocOr (ocExit 0 (sc 75 [2, 3, 10] (tCod 2 cInt (tCod 3 cInt (tOwn 10 0 tNil))) (rBox ccIv ccIv_ok rNil))) (ocRet (sc 75 [11, 10] (tCod 11 cInt (tOwn 10 0 tNil)) (rBox ccIv ccIv_ok rNil)))) (runBy (focStep midB okB) focM)) (loopAt Tryz.f13 11) := by
  refine loop_ok (EnvOK.add s_meniscusref1_In (EnvOK.add s_meniscusref20_sign (EnvOK.add s_meniscusref1_Floor (EnvOK.add s_meniscusref1_Of EnvOK.nil)))) (LFn.at (fn := Tryz.f13) LFn.nil 11) ((focStep midB okB)) (n := 200) (fun x z h => ?_) (runBy_ok _ _)
  obtain ⟨⟨t2, t3, t4, t12, ⟨⟩⟩, ⟨r0, r1, r2, r3, ⟨⟩⟩⟩ := x
  rw [tl_meniscusref20_Focus_11]
  rw [← h]
  rw [show fl (IntKind.i64.wrap (t2 + t3)) 2 = midB t2 t3 from rfl, show flOk (IntKind.i64.wrap (t2 + t3)) 2 = okB t2 t3 from rfl]
  simp only [den_br, den_bind, den_ret, den_fail, den_inl, den_inr, decide_eq_true_eq, gt_iff_lt, ge_iff_le, beq_iff_eq]
  simp only [focStep]
  by_cases c0 : t4 < IntKind.i64.wrap (t3 - t2)
  case neg => simp only [c0, if_false]
  simp only [c0, if_true]
  by_cases ck : okB t2 t3 = true
  case neg => simp [ck]
  simp only [ck, if_true]
  by_cases c1 : Ev.lenOk r3 = true
  case neg => simp [c1]
  simp only [c1, if_true]
  generalize signOf r3 r1 (midB t2 t3) = w
  by_cases d1 : w = 0
  · rw [if_pos d1, if_pos d1]; rfl
  by_cases d2 : w = t12
  · subst d2; simp [d1]
  · simp [d1, d2]
theorem t_meniscusref20_Focus (t0a : Unit) (t0b : Iv) (t1 : Iv) (t2 : Int) (t3 : Int) (t4 : Int) (r0 : List Surf) :
    evFn Tryz.prog (Env.add 37 (F1 cInt cBool numIn) (Env.add 38 (FS (sc 3 [0, 1, 2] (tAgg 0 0 ccNil ccNil_ok ccIv ccIv_ok (tCod 1 cIv (tCod 2 cInt tNil))) (rL_surf rNil)) cInt ((fun x => lenOk x.2.1)) ((fun x => signOf x.2.1 x.1.2.2.1 x.1.2.2.2.1))) (Env.add 39 (F2p cInt cInt cInt flOk fl) (Env.add 40 (F2 cInt cInt cIv Iv.of) Env.nil)))) (Laws.add 11 (LoopR.of (sc 75 [2, 3, 4, 12, 5, 6, 10] (tCod 2 cInt (tCod 3 cInt (tCod 4 cInt (tCod 12 cInt (tOwn 5 0 (tOwn 6 1 (tOwn 10 2 tNil))))))) (rBoxSl 3 ccIv ccIv_ok (rBox ccIv ccIv_ok (rBox ccIv ccIv_ok (rL_surf rNil))))) (ocOr (ocExit 0 (sc 75 [2, 3, 10] (tCod 2 cInt (tCod 3 cInt (tOwn 10 0 tNil))) (rBox ccIv ccIv_ok rNil))) (ocRet (sc 75 [11, 10] (tCod 11 cInt (tOwn 10 0 tNil)) (rBox ccIv ccIv_ok rNil)))) (runBy (focStep midB okB) focM)) Laws.nil) 200 Tryz.f13 (((sc 5 [0, 1, 2, 3, 4] (tAgg 0 0 ccNil ccNil_ok ccIv ccIv_ok (tCod 1 cIv (tCod 2 cInt (tCod 3 cInt (tCod 4 cInt tNil))))) (rL_surf rNil)).enc ((t0a, t0b, t1, t2, t3, t4, ()), (r0, ()))).tmps.map Prod.snd) ((sc 5 [0, 1, 2, 3, 4] (tAgg 0 0 ccNil ccNil_ok ccIv ccIv_ok (tCod 1 cIv (tCod 2 cInt (tCod 3 cInt (tCod 4 cInt tNil))))) (rL_surf rNil)).enc ((t0a, t0b, t1, t2, t3, t4, ()), (r0, ()))).mem (cTwo cIv cInt).dec =
      .br (Decidable.decide (t2 ≥ t3))
       (
        .ret ((Go.Proofs.YthdpjmkknodmpaaGreat.Iv.mk 0 0 Bool.false, 1)))
       (
        .bind (Go.Proofs.YthdpjmkknodmpaaGreat.numIn t2) fun vb0 =>
        .br (!vb0)
         (
          .ret ((Go.Proofs.YthdpjmkknodmpaaGreat.Iv.mk 0 0 Bool.false, 1)))
         (
          .bind (Go.Proofs.YthdpjmkknodmpaaGreat.numIn t3) fun vb1 =>
          .br (!vb1)
           (
            .ret ((Go.Proofs.YthdpjmkknodmpaaGreat.Iv.mk 0 0 Bool.false, 1)))
           (
            .br (Decidable.decide (t4 < 1))
             (
              .ret ((Go.Proofs.YthdpjmkknodmpaaGreat.Iv.mk 0 0 Bool.false, 1)))
             (
              .br (Go.Proofs.YthdpjmkknodmpaaGreat.Ev.lenOk r0)
               (
                .bind (Go.Proofs.YthdpjmkknodmpaaGreat.signOf r0 t1 t2) fun vn2 =>
                .br (vn2 == 0)
                 (
                  .ret ((Go.Proofs.YthdpjmkknodmpaaGreat.Iv.mk 0 0 Bool.false, 8)))
                 (
                  .br (Go.Proofs.YthdpjmkknodmpaaGreat.Ev.lenOk r0)
                   (
                    .bind (Go.Proofs.YthdpjmkknodmpaaGreat.signOf r0 t1 t3) fun vn3 =>
                    .br (vn3 == 0)
                     (
                      .ret ((Go.Proofs.YthdpjmkknodmpaaGreat.Iv.mk 0 0 Bool.false, 8)))
                     (
                      .br (vn2 == vn3)
                       (
                        .ret ((Go.Proofs.YthdpjmkknodmpaaGreat.Iv.mk 0 0 Bool.false, 7)))
                       (
                        .get (Go.Proofs.YthdpjmkknodmpaaGreat.runBy (Go.Proofs.YthdpjmkknodmpaaGreat.focStep Go.Proofs.YthdpjmkknodmpaaGreat.midB Go.Proofs.YthdpjmkknodmpaaGreat.okB) Go.Proofs.YthdpjmkknodmpaaGreat.focM ((t2, t3, t4, vn2, ()), t0b, t1, Go.Proofs.YthdpjmkknodmpaaGreat.Iv.mk 0 0 Bool.false, r0, ())) fun vy4 =>
                        .sum (vy4)
                         (fun vs5 =>
                          .bind (Go.Proofs.YthdpjmkknodmpaaGreat.Iv.of vs5.fst.fst vs5.fst.snd.fst) fun viv6 =>
                          .ret ((viv6, 0)))
                         (fun vs7 =>
                          .ret ((vs7.snd.fst, vs7.fst.fst))))))
                   (
                    .fail)))
               (
                .fail))))) := by kernel_rfl
theorem c_meniscusref20_Focus : PlainS Tryz.prog 13 (sc 5 [0, 1, 2, 3, 4] (tAgg 0 0 ccNil ccNil_ok ccIv ccIv_ok (tCod 1 cIv (tCod 2 cInt (tCod 3 cInt (tCod 4 cInt tNil))))) (rL_surf rNil)) (cTwo cIv cInt) ((fun x => lenOk x.2.1)) ((fun x => focusOf x.2.1 x.1.2.2.1 x.1.2.2.2.1 x.1.2.2.2.2.1 x.1.2.2.2.2.2.1)) := by
  intro x h N w vs hM hv
  obtain ⟨⟨t0a, t0b, t1, t2, t3, t4, ⟨⟩⟩, ⟨r0, ⟨⟩⟩⟩ := x
  refine calls_of_tree (n := 200) (EnvOK.add s_meniscusref1_In (EnvOK.add s_meniscusref20_sign (EnvOK.add s_meniscusref1_Floor (EnvOK.add s_meniscusref1_Of EnvOK.nil)))) Tryz.func13 hv (Nat.le_of_ble_eq_true (by kernel_rfl)) (LFn.add (fn := Tryz.f13) (i := 11) (by kernel_rfl) ok_meniscusref20_Focus_11 LFn.nil) hM (cTwo cIv cInt) ?_
  rw [t_meniscusref20_Focus]
  simp only at h
  simp only [den_br, den_bind, den_ret, den_fail, den_inl, den_inr, decide_eq_true_eq, gt_iff_lt, ge_iff_le, beq_iff_eq]
  simp only [h, if_true]
  unfold focusOf
  by_cases hc : t3 ≤ t2 ∨ numIn t2 = false ∨ numIn t3 = false ∨ t4 < 1
  · rw [if_pos hc]
    by_cases c0 : t3 ≤ t2
    · simp only [c0, if_true]; rfl
    · cases c1 : numIn t2
      · simp [c0]; rfl
      · cases c2 : numIn t3
        · simp [c0]; rfl
        · have c3 : t4 < 1 := by simp_all
          simp [c0, c3]; rfl
  · rw [if_neg hc]
    have hr := foc_run mdB t0b t1 ⟨0, 0, false⟩ h (signOf r0 t1 t2) hc
    have c0 : ¬ t3 ≤ t2 := fun e => hc (.inl e)
    have c1 : numIn t2 = true := by cases e : numIn t2 <;> simp_all
    have c2 : numIn t3 = true := by cases e : numIn t3 <;> simp_all
    have c3 : ¬ t4 < 1 := fun e => hc (.inr (.inr (.inr e)))
    simp only [c0, c1, c2, c3, if_false, Bool.not_true, Bool.false_eq_true]
    by_cases d1 : signOf r0 t1 t2 = 0
    · simp only [d1, true_or, if_true]; rfl
    by_cases d2 : signOf r0 t1 t3 = 0
    · simp only [d1, d2, or_true, if_true, if_false]; rfl
    by_cases d3 : signOf r0 t1 t2 = signOf r0 t1 t3
    · simp only [d1, d2, or_self, if_false]
      rw [if_pos d3, if_pos d3]; rfl
    simp only [d1, d2, or_self, if_false]
    rw [if_neg d3, if_neg d3, hr]
    cases focGo (signOf r0 t1) t4 (signOf r0 t1 t2) (t3 - t2).toNat t2 t3 <;> rfl
theorem s_meniscusref20_Focus : Ev.Spec Tryz.prog 13 (FS (sc 5 [0, 1, 2, 3, 4] (tAgg 0 0 ccNil ccNil_ok ccIv ccIv_ok (tCod 1 cIv (tCod 2 cInt (tCod 3 cInt (tCod 4 cInt tNil))))) (rL_surf rNil)) (cTwo cIv cInt) ((fun x => lenOk x.2.1)) ((fun x => focusOf x.2.1 x.1.2.2.1 x.1.2.2.2.1 x.1.2.2.2.2.1 x.1.2.2.2.2.2.1))) := specS rfl (fun vs w => Tryz.call13 vs w) c_meniscusref20_Focus

/-! meniscuslaw21.half -/
theorem t_meniscuslaw21_half  :
    evFnR Tryz.prog (Env.add 15 (F1 cInt cIv Iv.point) (Env.add 42 (F1 cInt cIv Iv.whole) (Env.add 59 (F2 cIv cIv cIv Iv.div) Env.nil))) Laws.nil 200 Tryz.f67 (((sc 0 [] tNil rNil).enc ((()), (()))).tmps.map Prod.snd) ((sc 0 [] tNil rNil).enc ((()), (()))).mem (sc 1 [0] (tAgg 0 0 ccNil ccNil_ok ccIv ccIv_ok tNil) (rG_surf 86 rNil)).ts (sc 1 [0] (tAgg 0 0 ccNil ccNil_ok ccIv ccIv_ok tNil) (rG_surf 86 rNil)).dec =
      .bind (Go.Proofs.YthdpjmkknodmpaaGreat.Iv.whole 1) fun viv0 =>
      .bind (Go.Proofs.YthdpjmkknodmpaaGreat.Iv.whole 8) fun viv1 =>
      .bind (viv0.div viv1) fun viv2 =>
      .bind (Go.Proofs.YthdpjmkknodmpaaGreat.Iv.whole 1) fun viv3 =>
      .bind (Go.Proofs.YthdpjmkknodmpaaGreat.Iv.point 0) fun viv4 =>
      .bind (Go.Proofs.YthdpjmkknodmpaaGreat.Iv.point 0) fun viv5 =>
      .bind (Go.Proofs.YthdpjmkknodmpaaGreat.Iv.whole 10) fun viv6 =>
      .bind (Go.Proofs.YthdpjmkknodmpaaGreat.Iv.whole 9) fun viv7 =>
      .bind (Go.Proofs.YthdpjmkknodmpaaGreat.Iv.whole 1) fun viv8 =>
      .bind (Go.Proofs.YthdpjmkknodmpaaGreat.Iv.whole 2) fun viv9 =>
      .bind (viv8.div viv9) fun viv10 =>
      .bind (Go.Proofs.YthdpjmkknodmpaaGreat.Iv.whole 3) fun viv11 =>
      .ret ((((), viv11, ()), [Go.Proofs.YthdpjmkknodmpaaGreat.Surf.mk Bool.false Bool.false viv2 viv3 viv4 viv5 viv6 viv7 viv10], ())) := by kernel_rfl
theorem c_meniscuslaw21_half : PlainR Tryz.prog 67 (sc 0 [] tNil rNil) (sc 1 [0] (tAgg 0 0 ccNil ccNil_ok ccIv ccIv_ok tNil) (rG_surf 86 rNil)) (fun _ => true) ((fun _ => (((), Iv.whole 3, ()), ([halfS], ())))) := by
  intro x h N w vs hM hv
  obtain ⟨⟨⟩, ⟨⟩⟩ := x
  refine calls_of_treeR (n := 200) (EnvOK.add s_iv_Point (EnvOK.add s_iv_Whole (EnvOK.add s_iv_Div EnvOK.nil))) Tryz.func67 hv (Nat.le_of_ble_eq_true (by kernel_rfl)) LFn.nil hM (sc 1 [0] (tAgg 0 0 ccNil ccNil_ok ccIv ccIv_ok tNil) (rG_surf 86 rNil)) rfl ?_
  rw [t_meniscuslaw21_half]
  rfl
theorem s_meniscuslaw21_half : Ev.Spec Tryz.prog 67 (FR (sc 0 [] tNil rNil) (sc 1 [0] (tAgg 0 0 ccNil ccNil_ok ccIv ccIv_ok tNil) (rG_surf 86 rNil)) (fun _ => true) ((fun _ => (((), Iv.whole 3, ()), ([halfS], ()))))) := specR rfl (fun _ => rfl) (fun vs w => Tryz.call67 vs w) c_meniscuslaw21_half

/-! meniscuslaw21.flat -/
theorem t_meniscuslaw21_flat  :
    evFnR Tryz.prog (Env.add 15 (F1 cInt cIv Iv.point) (Env.add 42 (F1 cInt cIv Iv.whole) (Env.add 67 (FR (sc 0 [] tNil rNil) (sc 1 [0] (tAgg 0 0 ccNil ccNil_ok ccIv ccIv_ok tNil) (rG_surf 86 rNil)) (fun _ => true) ((fun _ => (((), Iv.whole 3, ()), ([halfS], ()))))) Env.nil))) Laws.nil 200 Tryz.f41 (((sc 0 [] tNil rNil).enc ((()), (()))).tmps.map Prod.snd) ((sc 0 [] tNil rNil).enc ((()), (()))).mem (sc 1 [0] (tAgg 0 0 ccNil ccNil_ok ccIv ccIv_ok tNil) (rG_surf 86 rNil)).ts (sc 1 [0] (tAgg 0 0 ccNil ccNil_ok ccIv ccIv_ok tNil) (rG_surf 86 rNil)).dec =
      .br (Bool.true)
       (
        .bind ((((), Go.Proofs.YthdpjmkknodmpaaGreat.Iv.whole 3, ()), [Go.Proofs.YthdpjmkknodmpaaGreat.halfS], ())) fun vy0 =>
        .bind (Go.Proofs.YthdpjmkknodmpaaGreat.Iv.point 0) fun viv1 =>
        .br (Decidable.decide ((0 : Int) ≤ 0 ∧ 0 < (@Nat.cast Int _ vy0.snd.fst.length)))
         (
          .get (vy0.snd.fst[Int.toNat 0]?) fun vt2 =>
          .bind (Go.Proofs.YthdpjmkknodmpaaGreat.Iv.whole 1) fun viv3 =>
          .br (Decidable.decide ((0 : Int) ≤ 0 ∧ 0 < (@Nat.cast Int _ (vy0.snd.fst.set (Int.toNat 0) (Go.Proofs.YthdpjmkknodmpaaGreat.Surf.mk vt2.stop vt2.bent viv1 vt2.conic vt2.a4 vt2.a6 vt2.at_ vt2.open2 vt2.ratio)).length)))
           (
            .get ((vy0.snd.fst.set (Int.toNat 0) (Go.Proofs.YthdpjmkknodmpaaGreat.Surf.mk vt2.stop vt2.bent viv1 vt2.conic vt2.a4 vt2.a6 vt2.at_ vt2.open2 vt2.ratio))[Int.toNat 0]?) fun vt4 =>
            .ret ((((), vy0.fst.snd.fst, ()), (vy0.snd.fst.set (Int.toNat 0) (Go.Proofs.YthdpjmkknodmpaaGreat.Surf.mk vt2.stop vt2.bent viv1 vt2.conic vt2.a4 vt2.a6 vt2.at_ vt2.open2 vt2.ratio)).set (Int.toNat 0) (Go.Proofs.YthdpjmkknodmpaaGreat.Surf.mk vt4.stop vt4.bent vt4.curve vt4.conic vt4.a4 vt4.a6 vt4.at_ vt4.open2 viv3), ())))
           (
            .fail))
         (
          .fail))
       (
        .fail) := by kernel_rfl
theorem c_meniscuslaw21_flat : PlainR Tryz.prog 41 (sc 0 [] tNil rNil) (sc 1 [0] (tAgg 0 0 ccNil ccNil_ok ccIv ccIv_ok tNil) (rG_surf 86 rNil)) (fun _ => true) ((fun _ => (((), Iv.whole 3, ()), ([flatS], ())))) := by
  intro x h N w vs hM hv
  obtain ⟨⟨⟩, ⟨⟩⟩ := x
  refine calls_of_treeR (n := 200) (EnvOK.add s_iv_Point (EnvOK.add s_iv_Whole (EnvOK.add s_meniscuslaw21_half EnvOK.nil))) Tryz.func41 hv (Nat.le_of_ble_eq_true (by kernel_rfl)) LFn.nil hM (sc 1 [0] (tAgg 0 0 ccNil ccNil_ok ccIv ccIv_ok tNil) (rG_surf 86 rNil)) rfl ?_
  rw [t_meniscuslaw21_flat]
  rfl
theorem s_meniscuslaw21_flat : Ev.Spec Tryz.prog 41 (FR (sc 0 [] tNil rNil) (sc 1 [0] (tAgg 0 0 ccNil ccNil_ok ccIv ccIv_ok tNil) (rG_surf 86 rNil)) (fun _ => true) ((fun _ => (((), Iv.whole 3, ()), ([flatS], ()))))) := specR rfl (fun _ => rfl) (fun vs w => Tryz.call41 vs w) c_meniscuslaw21_flat

/-! meniscuslaw21.known -/
theorem t_meniscuslaw21_known  :
    evFn Tryz.prog (Env.add 9 (FS (sc 3 [0, 1, 2] (tAgg 0 0 ccNil ccNil_ok ccIv ccIv_ok (tCod 1 cIv (tCod 2 cIv tNil))) (rL_surf rNil)) (cTwo cIv cInt) ((fun x => lenOk x.2.1)) ((fun x => crossOf x.2.1 x.1.2.2.1 x.1.2.2.2.1))) (Env.add 12 (FS (sc 5 [0, 1, 2, 3, 4] (tAgg 0 0 ccNil ccNil_ok ccIv ccIv_ok (tCod 1 cIv (tCod 2 cInt (tCod 3 cInt (tCod 4 cInt tNil))))) (rL_surf rNil)) (cTwo cIv cInt) ((fun x => lenOk x.2.1)) ((fun x => focusOf x.2.1 x.1.2.2.1 x.1.2.2.2.1 x.1.2.2.2.2.1 x.1.2.2.2.2.2.1))) (Env.add 41 (FR (sc 0 [] tNil rNil) (sc 1 [0] (tAgg 0 0 ccNil ccNil_ok ccIv ccIv_ok tNil) (rG_surf 86 rNil)) (fun _ => true) ((fun _ => (((), Iv.whole 3, ()), ([flatS], ()))))) (Env.add 42 (F1 cInt cIv Iv.whole) Env.nil)))) Laws.nil 200 Tryz.f14 [] [] cBool.dec =
      .br (Bool.true)
       (
        .bind ((((), Go.Proofs.YthdpjmkknodmpaaGreat.Iv.whole 3, ()), [Go.Proofs.YthdpjmkknodmpaaGreat.flatS], ())) fun vy0 =>
        .bind (Go.Proofs.YthdpjmkknodmpaaGreat.Iv.whole 1) fun viv1 =>
        .br (Go.Proofs.YthdpjmkknodmpaaGreat.Ev.lenOk vy0.snd.fst)
         (
          .bind (Go.Proofs.YthdpjmkknodmpaaGreat.focusOf vy0.snd.fst viv1 0 1310720 1) fun vy2 =>
          .br (Bool.true)
           (
            .bind ((((), Go.Proofs.YthdpjmkknodmpaaGreat.Iv.whole 3, ()), [Go.Proofs.YthdpjmkknodmpaaGreat.flatS], ())) fun vy3 =>
            .bind (Go.Proofs.YthdpjmkknodmpaaGreat.Iv.whole 1) fun viv4 =>
            .bind (Go.Proofs.YthdpjmkknodmpaaGreat.Iv.whole 5) fun viv5 =>
            .br (Go.Proofs.YthdpjmkknodmpaaGreat.Ev.lenOk vy3.snd.fst)
             (
              .bind (Go.Proofs.YthdpjmkknodmpaaGreat.crossOf vy3.snd.fst viv4 viv5) fun vy6 =>
              .br (vy2.snd == 7)
               (
                .br (vy6.snd == 1)
                 (
                  .bind (Go.Proofs.YthdpjmkknodmpaaGreat.Iv.whole 1) fun viv7 =>
                  .ret (vy6.fst.lo == viv7.lo && (vy6.fst.hi == viv7.hi && vy6.fst.no == viv7.no)))
                 (
                  .ret (Bool.false)))
               (
                .ret (Bool.false)))
             (
              .fail))
           (
            .fail))
         (
          .fail))
       (
        .fail) := by kernel_rfl
theorem c_meniscuslaw21_known  : Plain Tryz.prog 14 [] (cBool.enc (true)) :=
  plain_of_tree (n := 200) (EnvOK.add s_focus_Cross (EnvOK.add s_focus_Focus (EnvOK.add s_meniscuslaw21_flat (EnvOK.add s_iv_Whole EnvOK.nil)))) Tryz.func14 (args := []) rfl (Nat.le_of_ble_eq_true (by kernel_rfl)) LFn.nil cBool (by
    rw [t_meniscuslaw21_known]
    decide +kernel)
theorem s_meniscuslaw21_known : Ev.Spec Tryz.prog 14 (F0 cBool true) := spec0 (fun vs w => Tryz.call14 vs w) c_meniscuslaw21_known

/-! meniscushand.Tame -/
theorem t_meniscushand_Tame (x0 : Int) (x1 : Int) :
    evFn Tryz.prog (Env.add 7 (F2 cInt cInt cIv wide) (Env.add 8 (F2p cInt cInt cInt pickOk pick) Env.nil)) Laws.nil 200 Tryz.f17 [cInt.av x0, cInt.av x1] [] cIv.dec =
      .br (Go.Proofs.YthdpjmkknodmpaaGreat.pickOk x0 2621440)
       (
        .bind (Go.Proofs.YthdpjmkknodmpaaGreat.pick x0 2621440) fun vn0 =>
        .br (Go.Proofs.YthdpjmkknodmpaaGreat.pickOk x1 3000)
         (
          .bind (Go.Proofs.YthdpjmkknodmpaaGreat.pick x1 3000) fun vn1 =>
          .bind (Go.Proofs.YthdpjmkknodmpaaGreat.wide (Go.IntKind.i64.wrap (vn0 - 1310720)) vn1) fun viv2 =>
          .ret (viv2))
         (
          .fail))
       (
        .fail) := by kernel_rfl
theorem c_meniscushand_Tame (x0 : Int) (x1 : Int) : Plain Tryz.prog 17 [cInt.enc x0, cInt.enc x1] (cIv.enc (tame x0 x1)) :=
  plain_of_tree (n := 200) (EnvOK.add s_meniscushand_Wide (EnvOK.add s_meniscushand_Pick EnvOK.nil)) Tryz.func17 (args := [cInt.av x0, cInt.av x1]) (by simp only [AV.vals, Cod.av_val]) (Nat.le_of_ble_eq_true (by kernel_rfl)) LFn.nil cIv (by
    rw [t_meniscushand_Tame]
    have b := pick_bd x0 (m := 2621440) (by decide)
    simp [Tr.den, pickOk, tame]
    simp (disch := omega) only [IntWalk.i64_in])
theorem s_meniscushand_Tame : Ev.Spec Tryz.prog 17 (F2 cInt cInt cIv tame) := spec2 (fun vs w => Tryz.call17 vs w) c_meniscushand_Tame

/-! meniscuslaw21.FocusTells -/
theorem t_meniscuslaw21_FocusTells (t0 : Int) (t2 : Int) (t3 : Int) (t4 : Int) (t5 : Int) (t6 : Int) (t7 : Int) (t8 : Int) (t9 : Bool) (r0 : List RawFace) :
    evFn Tryz.prog (Env.add 6 (FR (sc 5 [0, 1, 2, 3, 4] (tCod 0 cInt (tSl 1 0 (tSl 2 1 (tCod 3 cInt (tCod 4 cBool tNil))))) (rL_rface (rL_int rNil))) (sc 1 [0] (tAgg 0 0 ccNil ccNil_ok ccIv ccIv_ok tNil) (rG_surf 86 rNil)) ((fun x => mostOk x.1.2.1)) ((fun x => (fun r : SysV => (((), r.1, ()), (r.2, ()))) (systemOf x.1.1 x.2.1 x.2.2.1 x.1.2.1 x.1.2.2.1)))) (Env.add 7 (F2 cInt cInt cIv wide) (Env.add 8 (F2p cInt cInt cInt pickOk pick) (Env.add 9 (FS (sc 3 [0, 1, 2] (tAgg 0 0 ccNil ccNil_ok ccIv ccIv_ok (tCod 1 cIv (tCod 2 cIv tNil))) (rL_surf rNil)) (cTwo cIv cInt) ((fun x => lenOk x.2.1)) ((fun x => crossOf x.2.1 x.1.2.2.1 x.1.2.2.2.1))) (Env.add 10 (F2 cInt cInt cIv rawIv) (Env.add 11 (FS (sc 3 [0, 1, 2] (tAgg 0 0 ccNil ccNil_ok ccIv ccIv_ok (tCod 1 cIv (tCod 2 cIv tNil))) (rL_surf rNil)) (cTwo cIv cInt) ((fun x => lenOk x.2.1)) ((fun x => crossOf x.2.1 x.1.2.2.1 x.1.2.2.2.1))) (Env.add 12 (FS (sc 5 [0, 1, 2, 3, 4] (tAgg 0 0 ccNil ccNil_ok ccIv ccIv_ok (tCod 1 cIv (tCod 2 cInt (tCod 3 cInt (tCod 4 cInt tNil))))) (rL_surf rNil)) (cTwo cIv cInt) ((fun x => lenOk x.2.1)) ((fun x => focusOf x.2.1 x.1.2.2.1 x.1.2.2.2.1 x.1.2.2.2.2.1 x.1.2.2.2.2.2.1))) (Env.add 13 (FS (sc 5 [0, 1, 2, 3, 4] (tAgg 0 0 ccNil ccNil_ok ccIv ccIv_ok (tCod 1 cIv (tCod 2 cInt (tCod 3 cInt (tCod 4 cInt tNil))))) (rL_surf rNil)) (cTwo cIv cInt) ((fun x => lenOk x.2.1)) ((fun x => focusOf x.2.1 x.1.2.2.1 x.1.2.2.2.1 x.1.2.2.2.2.1 x.1.2.2.2.2.2.1))) (Env.add 14 (F0 cBool true) Env.nil))))))))) Laws.nil 200 Tryz.f3 (((sc 10 [0, 1, 2, 3, 4, 5, 6, 7, 8, 9] (tCod 0 cInt (tSl 1 0 (tCod 2 cInt (tCod 3 cInt (tCod 4 cInt (tCod 5 cInt (tCod 6 cInt (tCod 7 cInt (tCod 8 cInt (tCod 9 cBool tNil)))))))))) (rL_rface rNil)).enc ((t0, t2, t3, t4, t5, t6, t7, t8, t9, ()), (r0, ()))).tmps.map Prod.snd) ((sc 10 [0, 1, 2, 3, 4, 5, 6, 7, 8, 9] (tCod 0 cInt (tSl 1 0 (tCod 2 cInt (tCod 3 cInt (tCod 4 cInt (tCod 5 cInt (tCod 6 cInt (tCod 7 cInt (tCod 8 cInt (tCod 9 cBool tNil)))))))))) (rL_rface rNil)).enc ((t0, t2, t3, t4, t5, t6, t7, t8, t9, ()), (r0, ()))).mem cBool.dec =
      .br (Go.Proofs.YthdpjmkknodmpaaGreat.mostOk 4)
       (
        .bind ((((), (Go.Proofs.YthdpjmkknodmpaaGreat.systemOf t0 r0 [] 4 Bool.false).fst, ()), (Go.Proofs.YthdpjmkknodmpaaGreat.systemOf t0 r0 [] 4 Bool.false).snd, ())) fun vy0 =>
        .br (Go.Proofs.YthdpjmkknodmpaaGreat.pickOk t2 393216)
         (
          .bind (Go.Proofs.YthdpjmkknodmpaaGreat.pick t2 393216) fun vn1 =>
          .br (Go.Proofs.YthdpjmkknodmpaaGreat.pickOk t3 30)
           (
            .bind (Go.Proofs.YthdpjmkknodmpaaGreat.pick t3 30) fun vn2 =>
            .bind (Go.Proofs.YthdpjmkknodmpaaGreat.wide (Go.IntKind.i64.wrap (vn1 - 196608)) vn2) fun viv3 =>
            .br (!t9)
             (
              .br (Go.Proofs.YthdpjmkknodmpaaGreat.pickOk t6 6553600)
               (
                .bind (Go.Proofs.YthdpjmkknodmpaaGreat.pick t6 6553600) fun vn4 =>
                .br (Go.Proofs.YthdpjmkknodmpaaGreat.pickOk t7 26214400)
                 (
                  .bind (Go.Proofs.YthdpjmkknodmpaaGreat.pick t7 26214400) fun vn5 =>
                  .br (Go.Proofs.YthdpjmkknodmpaaGreat.pickOk t8 9000)
                   (
                    .bind (Go.Proofs.YthdpjmkknodmpaaGreat.pick t8 9000) fun vn6 =>
                    .bind (Go.Proofs.YthdpjmkknodmpaaGreat.rawIv t4 t5) fun viv7 =>
                    .br (Go.Proofs.YthdpjmkknodmpaaGreat.Ev.lenOk vy0.snd.fst)
                     (
                      .bind (Go.Proofs.YthdpjmkknodmpaaGreat.crossOf vy0.snd.fst viv3 viv7) fun vy8 =>
                      .bind (Go.Proofs.YthdpjmkknodmpaaGreat.rawIv t4 t5) fun viv9 =>
                      .br (Go.Proofs.YthdpjmkknodmpaaGreat.Ev.lenOk vy0.snd.fst)
                       (
                        .bind (Go.Proofs.YthdpjmkknodmpaaGreat.crossOf vy0.snd.fst viv3 viv9) fun vy10 =>
                        .br (Go.Proofs.YthdpjmkknodmpaaGreat.Ev.lenOk vy0.snd.fst)
                         (
                          .bind (Go.Proofs.YthdpjmkknodmpaaGreat.focusOf vy0.snd.fst viv3 (Go.IntKind.i64.wrap (vn4 - 3276800)) (Go.IntKind.i64.wrap (Go.IntKind.i64.wrap (vn4 - 3276800) + vn5)) (Go.IntKind.i64.wrap (1 + vn6))) fun vy11 =>
                          .br (Go.Proofs.YthdpjmkknodmpaaGreat.Ev.lenOk vy0.snd.fst)
                           (
                            .bind (Go.Proofs.YthdpjmkknodmpaaGreat.focusOf vy0.snd.fst viv3 (Go.IntKind.i64.wrap (vn4 - 3276800)) (Go.IntKind.i64.wrap (Go.IntKind.i64.wrap (vn4 - 3276800) + vn5)) (Go.IntKind.i64.wrap (1 + vn6))) fun vy12 =>
                            .bind (Bool.true) fun vb13 =>
                            .br (vb13)
                             (
                              .br (vy8.fst.lo == vy10.fst.lo && (vy8.fst.hi == vy10.fst.hi && vy8.fst.no == vy10.fst.no))
                               (
                                .br (vy8.snd == vy10.snd)
                                 (
                                  .br (vy11.fst.lo == vy12.fst.lo && (vy11.fst.hi == vy12.fst.hi && vy11.fst.no == vy12.fst.no))
                                   (
                                    .ret (vy11.snd == vy12.snd))
                                   (
                                    .ret (Bool.false)))
                                 (
                                  .ret (Bool.false)))
                               (
                                .ret (Bool.false)))
                             (
                              .ret (Bool.false)))
                           (
                            .fail))
                         (
                          .fail))
                       (
                        .fail))
                     (
                      .fail))
                   (
                    .fail))
                 (
                  .fail))
               (
                .fail))
             (
              .bind (Go.Proofs.YthdpjmkknodmpaaGreat.rawIv t4 t5) fun viv14 =>
              .br (Go.Proofs.YthdpjmkknodmpaaGreat.Ev.lenOk vy0.snd.fst)
               (
                .bind (Go.Proofs.YthdpjmkknodmpaaGreat.crossOf vy0.snd.fst viv3 viv14) fun vy15 =>
                .bind (Go.Proofs.YthdpjmkknodmpaaGreat.rawIv t4 t5) fun viv16 =>
                .br (Go.Proofs.YthdpjmkknodmpaaGreat.Ev.lenOk vy0.snd.fst)
                 (
                  .bind (Go.Proofs.YthdpjmkknodmpaaGreat.crossOf vy0.snd.fst viv3 viv16) fun vy17 =>
                  .br (Go.Proofs.YthdpjmkknodmpaaGreat.Ev.lenOk vy0.snd.fst)
                   (
                    .bind (Go.Proofs.YthdpjmkknodmpaaGreat.focusOf vy0.snd.fst viv3 t6 t7 t8) fun vy18 =>
                    .br (Go.Proofs.YthdpjmkknodmpaaGreat.Ev.lenOk vy0.snd.fst)
                     (
                      .bind (Go.Proofs.YthdpjmkknodmpaaGreat.focusOf vy0.snd.fst viv3 t6 t7 t8) fun vy19 =>
                      .bind (Bool.true) fun vb20 =>
                      .br (vb20)
                       (
                        .br (vy15.fst.lo == vy17.fst.lo && (vy15.fst.hi == vy17.fst.hi && vy15.fst.no == vy17.fst.no))
                         (
                          .br (vy15.snd == vy17.snd)
                           (
                            .br (vy18.fst.lo == vy19.fst.lo && (vy18.fst.hi == vy19.fst.hi && vy18.fst.no == vy19.fst.no))
                             (
                              .ret (vy18.snd == vy19.snd))
                             (
                              .ret (Bool.false)))
                           (
                            .ret (Bool.false)))
                         (
                          .ret (Bool.false)))
                       (
                        .ret (Bool.false)))
                     (
                      .fail))
                   (
                    .fail))
                 (
                  .fail))
               (
                .fail)))
           (
            .fail))
         (
          .fail))
       (
        .fail) := by kernel_rfl
theorem c_meniscuslaw21_FocusTells : PlainS Tryz.prog 3 (sc 10 [0, 1, 2, 3, 4, 5, 6, 7, 8, 9] (tCod 0 cInt (tSl 1 0 (tCod 2 cInt (tCod 3 cInt (tCod 4 cInt (tCod 5 cInt (tCod 6 cInt (tCod 7 cInt (tCod 8 cInt (tCod 9 cBool tNil)))))))))) (rL_rface rNil)) cBool (fun _ => true) ((fun _ => true)) := by
  intro x h N w vs hM hv
  obtain ⟨⟨t0, t2, t3, t4, t5, t6, t7, t8, t9, ⟨⟩⟩, ⟨r0, ⟨⟩⟩⟩ := x
  refine calls_of_tree (n := 200) (EnvOK.add s_meniscushand_System (EnvOK.add s_meniscushand_Wide (EnvOK.add s_meniscushand_Pick (EnvOK.add s_focus_Cross (EnvOK.add s_meniscushand_Iv (EnvOK.add s_meniscusref20_Cross (EnvOK.add s_focus_Focus (EnvOK.add s_meniscusref20_Focus (EnvOK.add s_meniscuslaw21_known EnvOK.nil))))))))) Tryz.func3 hv (Nat.le_of_ble_eq_true (by kernel_rfl)) LFn.nil hM cBool ?_
  rw [t_meniscuslaw21_FocusTells]
  have hR := systemOf_R t0 r0 [] false (most := 4) rfl
  have hlo : Ev.lenOk (systemOf t0 r0 [] 4 false).2 = true := lenOk_iff.2 (by have := hR.len; omega)
  have pk393216 : ∀ n : Int, pickOk n 393216 = true := fun _ => by simp [pickOk]
  have pk30 : ∀ n : Int, pickOk n 30 = true := fun _ => by simp [pickOk]
  have pk6553600 : ∀ n : Int, pickOk n 6553600 = true := fun _ => by simp [pickOk]
  have pk26214400 : ∀ n : Int, pickOk n 26214400 = true := fun _ => by simp [pickOk]
  have pk9000 : ∀ n : Int, pickOk n 9000 = true := fun _ => by simp [pickOk]
  simp only [show mostOk 4 = true from rfl, hlo, pk393216, pk30, pk6553600, pk26214400, pk9000, if_true, den_br, den_bind, den_get, den_ret, den_fail]
  cases t9 <;> simp
theorem s_meniscuslaw21_FocusTells : Ev.Spec Tryz.prog 3 (FS (sc 10 [0, 1, 2, 3, 4, 5, 6, 7, 8, 9] (tCod 0 cInt (tSl 1 0 (tCod 2 cInt (tCod 3 cInt (tCod 4 cInt (tCod 5 cInt (tCod 6 cInt (tCod 7 cInt (tCod 8 cInt (tCod 9 cBool tNil)))))))))) (rL_rface rNil)) cBool (fun _ => true) ((fun _ => true))) := specS rfl (fun vs w => Tryz.call3 vs w) c_meniscuslaw21_FocusTells
end Go.Proofs.YthdpjmkknodmpaaGreat
