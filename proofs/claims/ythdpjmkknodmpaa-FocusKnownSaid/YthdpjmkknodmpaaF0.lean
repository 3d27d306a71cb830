/-
  Contracts of calls, written by a small program of this session out of the evaluator's trees.
-/
import Derived.Test.YthdpjmkknodmpaaCore
import Derived.Test.YthdpjmkknodmpaaCoreLoops
import Derived.Test.YthdpjmkknodmpaaCore2
import Derived.Test.YthdpjmkknodmpaaCore3
import Derived.Test.YthdpjmkknodmpaaCore4
import Derived.Test.YthdpjmkknodmpaaCore5
import Derived.Test.YthdpjmkknodmpaaCore6
import Derived.Test.YthdpjmkknodmpaaCore7
import Derived.Test.YthdpjmkknodmpaaCore8
import Derived.Test.YthdpjmkknodmpaaCore9
import Derived.Test.YthdpjmkknodmpaaEvMore
import Derived.Test.YthdpjmkknodmpaaSym
import Derived.Test.YthdpjmkknodmpaaSysF
import Derived.Test.YthdpjmkknodmpaaLess2
import Derived.Test.YthdpjmkknodmpaaFoc
import Derived.Test.YthdpjmkknodmpaaPar
import Derived.Test.YthdpjmkknodmpaaFocB
import Derived.Test.YthdpjmkknodmpaaR1
import Derived.Test.YthdpjmkknodmpaaEvCod
import Derived.Test.YthdpjmkknodmpaaEvRet
import Derived.Test.YthdpjmkknodmpaaProg
namespace Go.Proofs.Ythdpjmkknodmpaa
open Go Go.RowKit Ev
set_option maxRecDepth 100000
set_option linter.unusedVariables false
set_option linter.unusedSimpArgs false

/-! system.Last -/
theorem t_system_Last (t0a : Unit) (t0b : Iv) (r0 : List Surf) :
    evFn Try.prog (Env.add 19 (F0 cIv Iv.none) Env.nil) Laws.nil 200 Try.f23 (((sc 1 [0] (tAgg 0 0 ccNil ccNil_ok ccIv ccIv_ok tNil) (rL_surf rNil)).enc ((t0a, t0b, ()), (r0, ()))).tmps.map Prod.snd) ((sc 1 [0] (tAgg 0 0 ccNil ccNil_ok ccIv ccIv_ok tNil) (rL_surf rNil)).enc ((t0a, t0b, ()), (r0, ()))).mem cIv.dec =
      .br ((@Nat.cast Int _ r0.length) == 0)
       (
        .bind (Go.Proofs.Ythdpjmkknodmpaa.Iv.none) fun viv0 =>
        .ret (viv0))
       (
        .br (Decidable.decide (0 ≤ Go.IntKind.i64.wrap ((@Nat.cast Int _ r0.length) - 1) ∧ Go.IntKind.i64.wrap ((@Nat.cast Int _ r0.length) - 1) < (@Nat.cast Int _ r0.length)))
         (
          .get (r0[(Go.IntKind.i64.wrap ((@Nat.cast Int _ r0.length) - 1)).toNat]?) fun vt1 =>
          .ret (vt1.at_))
         (
          .fail)) := by kernel_rfl
theorem c_system_Last : PlainS Try.prog 23 (sc 1 [0] (tAgg 0 0 ccNil ccNil_ok ccIv ccIv_ok tNil) (rL_surf rNil)) cIv ((fun x => lenOk x.2.1)) ((fun x => lastOf x.2.1)) := by
  intro x h N w vs hM hv
  obtain ⟨⟨t0a, t0b, ⟨⟩⟩, ⟨r0, ⟨⟩⟩⟩ := x
  refine calls_of_tree (n := 200) (EnvOK.add s_iv_None EnvOK.nil) Try.func23 hv (Nat.le_of_ble_eq_true (by kernel_rfl)) LFn.nil hM cIv ?_
  rw [t_system_Last]
  simp only at h
  have hl := lenOk_iff.1 h
  have hw : r0.length ≠ 0 → IntKind.i64.wrap ((r0.length : Int) - 1) = (r0.length : Int) - 1 := fun _ => wr (by omega)
  simp only [den_br, den_bind, den_ret, den_fail, den_inl, den_inr, decide_eq_true_eq, gt_iff_lt, ge_iff_le, beq_iff_eq]
  unfold lastOf
  by_cases c : r0.length = 0
  · simp [c]
  · have c' : ¬ ((r0.length : Int) = 0) := by omega
    have c2 : (0 : Int) ≤ (r0.length : Int) - 1 ∧ (r0.length : Int) - 1 < (r0.length : Int) := by omega
    simp only [c, c', if_false, hw c, c2, and_self, if_true]
    obtain ⟨v, hv⟩ : ∃ v, r0[((r0.length : Int) - 1).toNat]? = some v := ⟨_, List.getElem?_eq_getElem (by omega)⟩
    rw [hv]; rfl
theorem s_system_Last : Ev.Spec Try.prog 23 (FS (sc 1 [0] (tAgg 0 0 ccNil ccNil_ok ccIv ccIv_ok tNil) (rL_surf rNil)) cIv ((fun x => lenOk x.2.1)) ((fun x => lastOf x.2.1))) := specS rfl (fun vs w => Try.call23 vs w) c_system_Last

/-! focus.Cross -/
theorem t_focus_Cross (t0a : Unit) (t0b : Iv) (t1 : Iv) (t2 : Iv) (r0 : List Surf) :
    evFn Try.prog (Env.add 8 (F1 cInt cIv Iv.point) (Env.add 20 (F3 cIv cIv cIv cV V.mk) (Env.add 21 (FS (sc 3 [0, 1, 2] (tAgg 0 0 ccNil ccNil_ok ccIv ccIv_ok (tCod 1 cRay (tCod 2 cIv tNil))) (rL_surf rNil)) (cThree cIv cIv cInt) ((fun x => lenOk x.2.1)) ((fun x => throughOf x.2.1 x.1.2.2.1 x.1.2.2.2.1))) (Env.add 22 (F2 cIv cIv cIv Iv.add) (Env.add 23 (FS (sc 1 [0] (tAgg 0 0 ccNil ccNil_ok ccIv ccIv_ok tNil) (rL_surf rNil)) cIv ((fun x => lenOk x.2.1)) ((fun x => lastOf x.2.1))) Env.nil))))) Laws.nil 200 Try.f9 (((sc 3 [0, 1, 2] (tAgg 0 0 ccNil ccNil_ok ccIv ccIv_ok (tCod 1 cIv (tCod 2 cIv tNil))) (rL_surf rNil)).enc ((t0a, t0b, t1, t2, ()), (r0, ()))).tmps.map Prod.snd) ((sc 3 [0, 1, 2] (tAgg 0 0 ccNil ccNil_ok ccIv ccIv_ok (tCod 1 cIv (tCod 2 cIv tNil))) (rL_surf rNil)).enc ((t0a, t0b, t1, t2, ()), (r0, ()))).mem (cTwo cIv cInt).dec =
      .bind (Go.Proofs.Ythdpjmkknodmpaa.Iv.point 0) fun viv0 =>
      .bind (Go.Proofs.Ythdpjmkknodmpaa.V.mk t1 viv0 viv0) fun vv1 =>
      .bind (Go.Proofs.Ythdpjmkknodmpaa.Iv.point 65536) fun viv2 =>
      .bind (Go.Proofs.Ythdpjmkknodmpaa.V.mk viv0 viv0 viv2) fun vv3 =>
      .br (Go.Proofs.Ythdpjmkknodmpaa.Ev.lenOk r0)
       (
        .bind (Go.Proofs.Ythdpjmkknodmpaa.lastOf r0) fun viv4 =>
        .bind (viv4.add t2) fun viv5 =>
        .br (Go.Proofs.Ythdpjmkknodmpaa.Ev.lenOk r0)
         (
          .bind (Go.Proofs.Ythdpjmkknodmpaa.throughOf r0 (Go.Proofs.Ythdpjmkknodmpaa.Ray.mk vv1 vv3) viv5) fun vy6 =>
          .ret ((vy6.fst, vy6.snd.snd)))
         (
          .fail))
       (
        .fail) := by kernel_rfl
theorem c_focus_Cross : PlainS Try.prog 9 (sc 3 [0, 1, 2] (tAgg 0 0 ccNil ccNil_ok ccIv ccIv_ok (tCod 1 cIv (tCod 2 cIv tNil))) (rL_surf rNil)) (cTwo cIv cInt) ((fun x => lenOk x.2.1)) ((fun x => crossOf x.2.1 x.1.2.2.1 x.1.2.2.2.1)) := by
  intro x h N w vs hM hv
  obtain ⟨⟨t0a, t0b, t1, t2, ⟨⟩⟩, ⟨r0, ⟨⟩⟩⟩ := x
  refine calls_of_tree (n := 200) (EnvOK.add s_iv_Point (EnvOK.add s_vec_Of (EnvOK.add s_trace_Through (EnvOK.add s_iv_Add (EnvOK.add s_system_Last EnvOK.nil))))) Try.func9 hv (Nat.le_of_ble_eq_true (by kernel_rfl)) LFn.nil hM (cTwo cIv cInt) ?_
  rw [t_focus_Cross]
  simp only at h
  simp only [den_br, den_bind, den_ret, den_fail, den_inl, den_inr, decide_eq_true_eq, gt_iff_lt, ge_iff_le, beq_iff_eq]
  simp only [h, if_true]
  rfl
theorem s_focus_Cross : Ev.Spec Try.prog 9 (FS (sc 3 [0, 1, 2] (tAgg 0 0 ccNil ccNil_ok ccIv ccIv_ok (tCod 1 cIv (tCod 2 cIv tNil))) (rL_surf rNil)) (cTwo cIv cInt) ((fun x => lenOk x.2.1)) ((fun x => crossOf x.2.1 x.1.2.2.1 x.1.2.2.2.1))) := specS rfl (fun vs w => Try.call9 vs w) c_focus_Cross

/-! focus.sign -/
theorem t_focus_sign (t0a : Unit) (t0b : Iv) (t1 : Iv) (t2 : Int) (r0 : List Surf) :
    evFn Try.prog (Env.add 8 (F1 cInt cIv Iv.point) (Env.add 9 (FS (sc 3 [0, 1, 2] (tAgg 0 0 ccNil ccNil_ok ccIv ccIv_ok (tCod 1 cIv (tCod 2 cIv tNil))) (rL_surf rNil)) (cTwo cIv cInt) ((fun x => lenOk x.2.1)) ((fun x => crossOf x.2.1 x.1.2.2.1 x.1.2.2.2.1))) Env.nil)) Laws.nil 200 Try.f16 (((sc 3 [0, 1, 2] (tAgg 0 0 ccNil ccNil_ok ccIv ccIv_ok (tCod 1 cIv (tCod 2 cInt tNil))) (rL_surf rNil)).enc ((t0a, t0b, t1, t2, ()), (r0, ()))).tmps.map Prod.snd) ((sc 3 [0, 1, 2] (tAgg 0 0 ccNil ccNil_ok ccIv ccIv_ok (tCod 1 cIv (tCod 2 cInt tNil))) (rL_surf rNil)).enc ((t0a, t0b, t1, t2, ()), (r0, ()))).mem cInt.dec =
      .bind (Go.Proofs.Ythdpjmkknodmpaa.Iv.point t2) fun viv0 =>
      .br (Go.Proofs.Ythdpjmkknodmpaa.Ev.lenOk r0)
       (
        .bind (Go.Proofs.Ythdpjmkknodmpaa.crossOf r0 t1 viv0) fun vy1 =>
        .br (vy1.snd != 1)
         (
          .ret (0))
         (
          .br (Decidable.decide (vy1.fst.lo > 0))
           (
            .ret (1))
           (
            .br (Decidable.decide (vy1.fst.hi < 0))
             (
              .ret (-1))
             (
              .ret (0)))))
       (
        .fail) := by kernel_rfl
theorem c_focus_sign : PlainS Try.prog 16 (sc 3 [0, 1, 2] (tAgg 0 0 ccNil ccNil_ok ccIv ccIv_ok (tCod 1 cIv (tCod 2 cInt tNil))) (rL_surf rNil)) cInt ((fun x => lenOk x.2.1)) ((fun x => signOf x.2.1 x.1.2.2.1 x.1.2.2.2.1)) := by
  intro x h N w vs hM hv
  obtain ⟨⟨t0a, t0b, t1, t2, ⟨⟩⟩, ⟨r0, ⟨⟩⟩⟩ := x
  refine calls_of_tree (n := 200) (EnvOK.add s_iv_Point (EnvOK.add s_focus_Cross EnvOK.nil)) Try.func16 hv (Nat.le_of_ble_eq_true (by kernel_rfl)) LFn.nil hM cInt ?_
  rw [t_focus_sign]
  simp only at h
  simp only [den_br, den_bind, den_ret, den_fail, den_inl, den_inr, decide_eq_true_eq, gt_iff_lt, ge_iff_le, beq_iff_eq]
  simp only [h, if_true, signOf, signIv]
  by_cases c : (crossOf r0 t1 (Iv.point t2)).2 = 1
  · have c' : ((crossOf r0 t1 (Iv.point t2)).2 != 1) = false := by simp [c]
    simp only [c, c', bne_self_eq_false, if_true, if_false, Bool.false_eq_true]
    split
    · rfl
    · split <;> rfl
  · have c' : ((crossOf r0 t1 (Iv.point t2)).2 != 1) = true := by simp [c]
    simp only [c, c', if_true, if_false]
theorem s_focus_sign : Ev.Spec Try.prog 16 (FS (sc 3 [0, 1, 2] (tAgg 0 0 ccNil ccNil_ok ccIv ccIv_ok (tCod 1 cIv (tCod 2 cInt tNil))) (rL_surf rNil)) cInt ((fun x => lenOk x.2.1)) ((fun x => signOf x.2.1 x.1.2.2.1 x.1.2.2.2.1))) := specS rfl (fun vs w => Try.call16 vs w) c_focus_sign

/-! focus.Focus -/
theorem tl_focus_Focus_8 (t2 : Int) (t3 : Int) (t4 : Int) (t12 : Int) (r0 : Iv) (r1 : Iv) (r2 : Iv) (r3 : List Surf) :
    ev Try.prog (Env.add 15 (F1 cInt cBool numIn) (Env.add 16 (FS (sc 3 [0, 1, 2] (tAgg 0 0 ccNil ccNil_ok ccIv ccIv_ok (tCod 1 cIv (tCod 2 cInt tNil))) (rL_surf rNil)) cInt ((fun x => lenOk x.2.1)) ((fun x => signOf x.2.1 x.1.2.2.1 x.1.2.2.2.1))) (Env.add 17 (F2 cInt cInt cIv Iv.of) Env.nil))) Laws.nil 200 none (loopAt Try.f5 8) ((sc 78 [2, 3, 4, 12, 5, 6, 10] (tCod 2 cInt (tCod 3 cInt (tCod 4 cInt (tCod 12 cInt (tOwn 5 0 (tOwn 6 1 (tOwn 10 2 tNil))))))) (rBoxSl 3 ccIv ccIv_ok (rBox ccIv ccIv_ok (rBox ccIv ccIv_ok (rL_surf rNil))))).enc ((t2, t3, t4, t12, ()), (r0, r1, r2, r3, ()))) (backK (sc 78 [2, 3, 4, 12, 5, 6, 10] (tCod 2 cInt (tCod 3 cInt (tCod 4 cInt (tCod 12 cInt (tOwn 5 0 (tOwn 6 1 (tOwn 10 2 tNil))))))) (rBoxSl 3 ccIv ccIv_ok (rBox ccIv ccIv_ok (rBox ccIv ccIv_ok (rL_surf rNil))))) (ocOr (ocExit 1 (sc 78 [2, 3, 10] (tCod 2 cInt (tCod 3 cInt (tOwn 10 0 tNil))) (rBox ccIv ccIv_ok rNil))) (ocRet (sc 78 [11, 10] (tCod 11 cInt (tOwn 10 0 tNil)) (rBox ccIv ccIv_ok rNil))))) =
      .br (Decidable.decide (Go.IntKind.i64.wrap (t3 - t2) > t4))
       (
        .br (Decidable.decide (0 ≤ 1))
         (
          .br (Go.Proofs.Ythdpjmkknodmpaa.Ev.lenOk r3)
           (
            .bind (Go.Proofs.Ythdpjmkknodmpaa.signOf r3 r1 ((Go.IntKind.i64.wrap (t2 + t3)).fdiv (2 ^ Min.min (Int.toNat 1) 64))) fun vn0 =>
            .br (vn0 == 0)
             (
              .ret (Sum.inr (Sum.inr ((8, ()), Go.Proofs.Ythdpjmkknodmpaa.Iv.mk 0 0 Bool.false, ()))))
             (
              .br (vn0 == t12)
               (
                .ret (Sum.inl (((Go.IntKind.i64.wrap (t2 + t3)).fdiv (2 ^ Min.min (Int.toNat 1) 64), t3, t4, t12, ()), r0, r1, r2, r3, ())))
               (
                .ret (Sum.inl ((t2, (Go.IntKind.i64.wrap (t2 + t3)).fdiv (2 ^ Min.min (Int.toNat 1) 64), t4, t12, ()), r0, r1, r2, r3, ())))))
           (
            .fail))
         (
          .fail))
       (
        .ret (Sum.inr (Sum.inl ((t2, t3, ()), r2, ())))) := by kernel_rfl
theorem ok_focus_Focus_8 : LOK Try.prog (LoopR.of (sc 78 [2, 3, 4, 12, 5, 6, 10] (tCod 2 cInt (tCod 3 cInt (tCod 4 cInt (tCod 12 cInt (tOwn 5 0 (tOwn 6 1 (tOwn 10 2 tNil))))))) (rBoxSl 3 ccIv ccIv_ok (rBox ccIv ccIv_ok (rBox ccIv ccIv_ok (rL_surf rNil))))) (ocOr (ocExit 1 (sc 78 [2, 3, 10] (tCod 2 cInt (tCod 3 cInt (tOwn 10 0 tNil))) (rBox ccIv ccIv_ok rNil))) (ocRet (sc 78 [11, 10] (tCod 11 cInt (tOwn 10 0 tNil)) (rBox ccIv ccIv_ok rNil)))) (runBy (focStep midA okA) focM)) (loopAt Try.f5 8) := by
  refine loop_ok (EnvOK.add s_num_In (EnvOK.add s_focus_sign (EnvOK.add s_iv_Of EnvOK.nil))) (LFn.at (fn := Try.f5) LFn.nil 8) ((focStep midA okA)) (n := 200) (fun x z h => ?_) (runBy_ok _ _)
  obtain ⟨⟨t2, t3, t4, t12, ⟨⟩⟩, ⟨r0, r1, r2, r3, ⟨⟩⟩⟩ := x
  rw [tl_focus_Focus_8]
  rw [← h]
  rw [show (IntKind.i64.wrap (t2 + t3)).fdiv (2 ^ min (Int.toNat 1) 64) = midA t2 t3 from rfl]
  simp only [den_br, den_bind, den_ret, den_fail, den_inl, den_inr, decide_eq_true_eq, gt_iff_lt, ge_iff_le, beq_iff_eq]
  simp only [focStep]
  by_cases c0 : t4 < IntKind.i64.wrap (t3 - t2)
  case neg => simp only [c0, if_false]
  simp only [c0, if_true]
  simp only [show ((0 : Int) ≤ 1) = True from by simp, okA, if_true]
  by_cases c1 : Ev.lenOk r3 = true
  case neg => simp [c1]
  simp only [c1, if_true]
  generalize signOf r3 r1 (midA t2 t3) = w
  by_cases d1 : w = 0
  · rw [if_pos d1, if_pos d1]; rfl
  by_cases d2 : w = t12
  · subst d2; simp [d1]
  · simp [d1, d2]
theorem t_focus_Focus (t0a : Unit) (t0b : Iv) (t1 : Iv) (t2 : Int) (t3 : Int) (t4 : Int) (r0 : List Surf) :
    evFn Try.prog (Env.add 15 (F1 cInt cBool numIn) (Env.add 16 (FS (sc 3 [0, 1, 2] (tAgg 0 0 ccNil ccNil_ok ccIv ccIv_ok (tCod 1 cIv (tCod 2 cInt tNil))) (rL_surf rNil)) cInt ((fun x => lenOk x.2.1)) ((fun x => signOf x.2.1 x.1.2.2.1 x.1.2.2.2.1))) (Env.add 17 (F2 cInt cInt cIv Iv.of) Env.nil))) (Laws.add 8 (LoopR.of (sc 78 [2, 3, 4, 12, 5, 6, 10] (tCod 2 cInt (tCod 3 cInt (tCod 4 cInt (tCod 12 cInt (tOwn 5 0 (tOwn 6 1 (tOwn 10 2 tNil))))))) (rBoxSl 3 ccIv ccIv_ok (rBox ccIv ccIv_ok (rBox ccIv ccIv_ok (rL_surf rNil))))) (ocOr (ocExit 1 (sc 78 [2, 3, 10] (tCod 2 cInt (tCod 3 cInt (tOwn 10 0 tNil))) (rBox ccIv ccIv_ok rNil))) (ocRet (sc 78 [11, 10] (tCod 11 cInt (tOwn 10 0 tNil)) (rBox ccIv ccIv_ok rNil)))) (runBy (focStep midA okA) focM)) Laws.nil) 200 Try.f5 (((sc 5 [0, 1, 2, 3, 4] (tAgg 0 0 ccNil ccNil_ok ccIv ccIv_ok (tCod 1 cIv (tCod 2 cInt (tCod 3 cInt (tCod 4 cInt tNil))))) (rL_surf rNil)).enc ((t0a, t0b, t1, t2, t3, t4, ()), (r0, ()))).tmps.map Prod.snd) ((sc 5 [0, 1, 2, 3, 4] (tAgg 0 0 ccNil ccNil_ok ccIv ccIv_ok (tCod 1 cIv (tCod 2 cInt (tCod 3 cInt (tCod 4 cInt tNil))))) (rL_surf rNil)).enc ((t0a, t0b, t1, t2, t3, t4, ()), (r0, ()))).mem (cTwo cIv cInt).dec =
      .br (Decidable.decide (t2 ≥ t3))
       (
        .ret ((Go.Proofs.Ythdpjmkknodmpaa.Iv.mk 0 0 Bool.false, 1)))
       (
        .bind (Go.Proofs.Ythdpjmkknodmpaa.numIn t2) fun vb0 =>
        .br (!vb0)
         (
          .ret ((Go.Proofs.Ythdpjmkknodmpaa.Iv.mk 0 0 Bool.false, 1)))
         (
          .bind (Go.Proofs.Ythdpjmkknodmpaa.numIn t3) fun vb1 =>
          .br (!vb1)
           (
            .ret ((Go.Proofs.Ythdpjmkknodmpaa.Iv.mk 0 0 Bool.false, 1)))
           (
            .br (Decidable.decide (t4 < 1))
             (
              .ret ((Go.Proofs.Ythdpjmkknodmpaa.Iv.mk 0 0 Bool.false, 1)))
             (
              .br (Go.Proofs.Ythdpjmkknodmpaa.Ev.lenOk r0)
               (
                .bind (Go.Proofs.Ythdpjmkknodmpaa.signOf r0 t1 t2) fun vn2 =>
                .br (Go.Proofs.Ythdpjmkknodmpaa.Ev.lenOk r0)
                 (
                  .bind (Go.Proofs.Ythdpjmkknodmpaa.signOf r0 t1 t3) fun vn3 =>
                  .br (vn2 == 0)
                   (
                    .ret ((Go.Proofs.Ythdpjmkknodmpaa.Iv.mk 0 0 Bool.false, 8)))
                   (
                    .br (vn3 == 0)
                     (
                      .ret ((Go.Proofs.Ythdpjmkknodmpaa.Iv.mk 0 0 Bool.false, 8)))
                     (
                      .br (vn2 == vn3)
                       (
                        .ret ((Go.Proofs.Ythdpjmkknodmpaa.Iv.mk 0 0 Bool.false, 7)))
                       (
                        .get (Go.Proofs.Ythdpjmkknodmpaa.runBy (Go.Proofs.Ythdpjmkknodmpaa.focStep Go.Proofs.Ythdpjmkknodmpaa.midA Go.Proofs.Ythdpjmkknodmpaa.okA) Go.Proofs.Ythdpjmkknodmpaa.focM ((t2, t3, t4, vn2, ()), t0b, t1, Go.Proofs.Ythdpjmkknodmpaa.Iv.mk 0 0 Bool.false, r0, ())) fun vy4 =>
                        .sum (vy4)
                         (fun vs5 =>
                          .bind (Go.Proofs.Ythdpjmkknodmpaa.Iv.of vs5.fst.fst vs5.fst.snd.fst) fun viv6 =>
                          .ret ((viv6, 0)))
                         (fun vs7 =>
                          .ret ((vs7.snd.fst, vs7.fst.fst)))))))
                 (
                  .fail))
               (
                .fail))))) := by kernel_rfl
theorem c_focus_Focus : PlainS Try.prog 5 (sc 5 [0, 1, 2, 3, 4] (tAgg 0 0 ccNil ccNil_ok ccIv ccIv_ok (tCod 1 cIv (tCod 2 cInt (tCod 3 cInt (tCod 4 cInt tNil))))) (rL_surf rNil)) (cTwo cIv cInt) ((fun x => lenOk x.2.1)) ((fun x => focusOf x.2.1 x.1.2.2.1 x.1.2.2.2.1 x.1.2.2.2.2.1 x.1.2.2.2.2.2.1)) := by
  intro x h N w vs hM hv
  obtain ⟨⟨t0a, t0b, t1, t2, t3, t4, ⟨⟩⟩, ⟨r0, ⟨⟩⟩⟩ := x
  refine calls_of_tree (n := 200) (EnvOK.add s_num_In (EnvOK.add s_focus_sign (EnvOK.add s_iv_Of EnvOK.nil))) Try.func5 hv (Nat.le_of_ble_eq_true (by kernel_rfl)) (LFn.add (fn := Try.f5) (i := 8) (by kernel_rfl) ok_focus_Focus_8 LFn.nil) hM (cTwo cIv cInt) ?_
  rw [t_focus_Focus]
  simp only at h
  simp only [den_br, den_bind, den_ret, den_fail, den_inl, den_inr, decide_eq_true_eq, gt_iff_lt, ge_iff_le, beq_iff_eq]
  simp only [h, if_true]
  unfold focusOf
  by_cases hc : t3 ≤ t2 ∨ numIn t2 = false ∨ numIn t3 = false ∨ t4 < 1
  · rw [if_pos hc]
    by_cases c0 : t3 ≤ t2
    · simp only [c0, if_true]; rfl
    · cases c1 : numIn t2
      · simp [c0]; rfl
      · cases c2 : numIn t3
        · simp [c0]; rfl
        · have c3 : t4 < 1 := by simp_all
          simp [c0, c3]; rfl
  · rw [if_neg hc]
    have hr := foc_run mdA t0b t1 ⟨0, 0, false⟩ h (signOf r0 t1 t2) hc
    have c0 : ¬ t3 ≤ t2 := fun e => hc (.inl e)
    have c1 : numIn t2 = true := by cases e : numIn t2 <;> simp_all
    have c2 : numIn t3 = true := by cases e : numIn t3 <;> simp_all
    have c3 : ¬ t4 < 1 := fun e => hc (.inr (.inr (.inr e)))
    simp only [c0, c1, c2, c3, if_false, Bool.not_true, Bool.false_eq_true]
    by_cases d1 : signOf r0 t1 t2 = 0
    · simp only [d1, true_or, if_true]; rfl
    by_cases d2 : signOf r0 t1 t3 = 0
    · simp only [d1, d2, or_true, if_true, if_false]; rfl
    by_cases d3 : signOf r0 t1 t2 = signOf r0 t1 t3
    · simp only [d1, d2, or_self, if_false]
      rw [if_pos d3, if_pos d3]; rfl
    simp only [d1, d2, or_self, if_false]
    rw [if_neg d3, if_neg d3, hr]
    cases focGo (signOf r0 t1) t4 (signOf r0 t1 t2) (t3 - t2).toNat t2 t3 <;> rfl
theorem s_focus_Focus : Ev.Spec Try.prog 5 (FS (sc 5 [0, 1, 2, 3, 4] (tAgg 0 0 ccNil ccNil_ok ccIv ccIv_ok (tCod 1 cIv (tCod 2 cInt (tCod 3 cInt (tCod 4 cInt tNil))))) (rL_surf rNil)) (cTwo cIv cInt) ((fun x => lenOk x.2.1)) ((fun x => focusOf x.2.1 x.1.2.2.1 x.1.2.2.2.1 x.1.2.2.2.2.1 x.1.2.2.2.2.2.1))) := specS rfl (fun vs w => Try.call5 vs w) c_focus_Focus

/-! meniscuslaw21.half -/
theorem t_meniscuslaw21_half  :
    evFnR Try.prog (Env.add 7 (F1 cInt cIv Iv.whole) (Env.add 8 (F1 cInt cIv Iv.point) (Env.add 18 (F2 cIv cIv cIv Iv.div) Env.nil))) Laws.nil 200 Try.f6 (((sc 0 [] tNil rNil).enc ((()), (()))).tmps.map Prod.snd) ((sc 0 [] tNil rNil).enc ((()), (()))).mem (sc 1 [0] (tAgg 0 0 ccNil ccNil_ok ccIv ccIv_ok tNil) (rG_surf 48 rNil)).ts (sc 1 [0] (tAgg 0 0 ccNil ccNil_ok ccIv ccIv_ok tNil) (rG_surf 48 rNil)).dec =
      .bind (Go.Proofs.Ythdpjmkknodmpaa.Iv.whole 1) fun viv0 =>
      .bind (Go.Proofs.Ythdpjmkknodmpaa.Iv.whole 8) fun viv1 =>
      .bind (viv0.div viv1) fun viv2 =>
      .bind (Go.Proofs.Ythdpjmkknodmpaa.Iv.whole 1) fun viv3 =>
      .bind (Go.Proofs.Ythdpjmkknodmpaa.Iv.point 0) fun viv4 =>
      .bind (Go.Proofs.Ythdpjmkknodmpaa.Iv.point 0) fun viv5 =>
      .bind (Go.Proofs.Ythdpjmkknodmpaa.Iv.whole 10) fun viv6 =>
      .bind (Go.Proofs.Ythdpjmkknodmpaa.Iv.whole 9) fun viv7 =>
      .bind (Go.Proofs.Ythdpjmkknodmpaa.Iv.whole 1) fun viv8 =>
      .bind (Go.Proofs.Ythdpjmkknodmpaa.Iv.whole 2) fun viv9 =>
      .bind (viv8.div viv9) fun viv10 =>
      .bind (Go.Proofs.Ythdpjmkknodmpaa.Iv.whole 3) fun viv11 =>
      .ret ((((), viv11, ()), [Go.Proofs.Ythdpjmkknodmpaa.Surf.mk Bool.false Bool.false viv2 viv3 viv4 viv5 viv6 viv7 viv10], ())) := by kernel_rfl
theorem c_meniscuslaw21_half : PlainR Try.prog 6 (sc 0 [] tNil rNil) (sc 1 [0] (tAgg 0 0 ccNil ccNil_ok ccIv ccIv_ok tNil) (rG_surf 48 rNil)) (fun _ => true) ((fun _ => (((), Iv.whole 3, ()), ([halfS], ())))) := by
  intro x h N w vs hM hv
  obtain ⟨⟨⟩, ⟨⟩⟩ := x
  refine calls_of_treeR (n := 200) (EnvOK.add s_iv_Whole (EnvOK.add s_iv_Point (EnvOK.add s_iv_Div EnvOK.nil))) Try.func6 hv (Nat.le_of_ble_eq_true (by kernel_rfl)) LFn.nil hM (sc 1 [0] (tAgg 0 0 ccNil ccNil_ok ccIv ccIv_ok tNil) (rG_surf 48 rNil)) rfl ?_
  rw [t_meniscuslaw21_half]
  rfl
theorem s_meniscuslaw21_half : Ev.Spec Try.prog 6 (FR (sc 0 [] tNil rNil) (sc 1 [0] (tAgg 0 0 ccNil ccNil_ok ccIv ccIv_ok tNil) (rG_surf 48 rNil)) (fun _ => true) ((fun _ => (((), Iv.whole 3, ()), ([halfS], ()))))) := specR rfl (fun _ => rfl) (fun vs w => Try.call6 vs w) c_meniscuslaw21_half

/-! meniscuslaw21.flat -/
theorem t_meniscuslaw21_flat  :
    evFnR Try.prog (Env.add 6 (FR (sc 0 [] tNil rNil) (sc 1 [0] (tAgg 0 0 ccNil ccNil_ok ccIv ccIv_ok tNil) (rG_surf 48 rNil)) (fun _ => true) ((fun _ => (((), Iv.whole 3, ()), ([halfS], ()))))) (Env.add 7 (F1 cInt cIv Iv.whole) (Env.add 8 (F1 cInt cIv Iv.point) Env.nil))) Laws.nil 200 Try.f24 (((sc 0 [] tNil rNil).enc ((()), (()))).tmps.map Prod.snd) ((sc 0 [] tNil rNil).enc ((()), (()))).mem (sc 1 [0] (tAgg 0 0 ccNil ccNil_ok ccIv ccIv_ok tNil) (rG_surf 48 rNil)).ts (sc 1 [0] (tAgg 0 0 ccNil ccNil_ok ccIv ccIv_ok tNil) (rG_surf 48 rNil)).dec =
      .br (Bool.true)
       (
        .bind ((((), Go.Proofs.Ythdpjmkknodmpaa.Iv.whole 3, ()), [Go.Proofs.Ythdpjmkknodmpaa.halfS], ())) fun vy0 =>
        .bind (Go.Proofs.Ythdpjmkknodmpaa.Iv.point 0) fun viv1 =>
        .br (Decidable.decide ((0 : Int) ≤ 0 ∧ 0 < (@Nat.cast Int _ vy0.snd.fst.length)))
         (
          .get (vy0.snd.fst[Int.toNat 0]?) fun vt2 =>
          .bind (Go.Proofs.Ythdpjmkknodmpaa.Iv.whole 1) fun viv3 =>
          .br (Decidable.decide ((0 : Int) ≤ 0 ∧ 0 < (@Nat.cast Int _ (vy0.snd.fst.set (Int.toNat 0) (Go.Proofs.Ythdpjmkknodmpaa.Surf.mk vt2.stop vt2.bent viv1 vt2.conic vt2.a4 vt2.a6 vt2.at_ vt2.open2 vt2.ratio)).length)))
           (
            .get ((vy0.snd.fst.set (Int.toNat 0) (Go.Proofs.Ythdpjmkknodmpaa.Surf.mk vt2.stop vt2.bent viv1 vt2.conic vt2.a4 vt2.a6 vt2.at_ vt2.open2 vt2.ratio))[Int.toNat 0]?) fun vt4 =>
            .ret ((((), vy0.fst.snd.fst, ()), (vy0.snd.fst.set (Int.toNat 0) (Go.Proofs.Ythdpjmkknodmpaa.Surf.mk vt2.stop vt2.bent viv1 vt2.conic vt2.a4 vt2.a6 vt2.at_ vt2.open2 vt2.ratio)).set (Int.toNat 0) (Go.Proofs.Ythdpjmkknodmpaa.Surf.mk vt4.stop vt4.bent vt4.curve vt4.conic vt4.a4 vt4.a6 vt4.at_ vt4.open2 viv3), ())))
           (
            .fail))
         (
          .fail))
       (
        .fail) := by kernel_rfl
theorem c_meniscuslaw21_flat : PlainR Try.prog 24 (sc 0 [] tNil rNil) (sc 1 [0] (tAgg 0 0 ccNil ccNil_ok ccIv ccIv_ok tNil) (rG_surf 48 rNil)) (fun _ => true) ((fun _ => (((), Iv.whole 3, ()), ([flatS], ())))) := by
  intro x h N w vs hM hv
  obtain ⟨⟨⟩, ⟨⟩⟩ := x
  refine calls_of_treeR (n := 200) (EnvOK.add s_meniscuslaw21_half (EnvOK.add s_iv_Whole (EnvOK.add s_iv_Point EnvOK.nil))) Try.func24 hv (Nat.le_of_ble_eq_true (by kernel_rfl)) LFn.nil hM (sc 1 [0] (tAgg 0 0 ccNil ccNil_ok ccIv ccIv_ok tNil) (rG_surf 48 rNil)) rfl ?_
  rw [t_meniscuslaw21_flat]
  rfl
theorem s_meniscuslaw21_flat : Ev.Spec Try.prog 24 (FR (sc 0 [] tNil rNil) (sc 1 [0] (tAgg 0 0 ccNil ccNil_ok ccIv ccIv_ok tNil) (rG_surf 48 rNil)) (fun _ => true) ((fun _ => (((), Iv.whole 3, ()), ([flatS], ()))))) := specR rfl (fun _ => rfl) (fun vs w => Try.call24 vs w) c_meniscuslaw21_flat

/-! meniscuslaw21.known -/
theorem t_meniscuslaw21_known  :
    evFn Try.prog (Env.add 5 (FS (sc 5 [0, 1, 2, 3, 4] (tAgg 0 0 ccNil ccNil_ok ccIv ccIv_ok (tCod 1 cIv (tCod 2 cInt (tCod 3 cInt (tCod 4 cInt tNil))))) (rL_surf rNil)) (cTwo cIv cInt) ((fun x => lenOk x.2.1)) ((fun x => focusOf x.2.1 x.1.2.2.1 x.1.2.2.2.1 x.1.2.2.2.2.1 x.1.2.2.2.2.2.1))) (Env.add 7 (F1 cInt cIv Iv.whole) (Env.add 9 (FS (sc 3 [0, 1, 2] (tAgg 0 0 ccNil ccNil_ok ccIv ccIv_ok (tCod 1 cIv (tCod 2 cIv tNil))) (rL_surf rNil)) (cTwo cIv cInt) ((fun x => lenOk x.2.1)) ((fun x => crossOf x.2.1 x.1.2.2.1 x.1.2.2.2.1))) (Env.add 24 (FR (sc 0 [] tNil rNil) (sc 1 [0] (tAgg 0 0 ccNil ccNil_ok ccIv ccIv_ok tNil) (rG_surf 48 rNil)) (fun _ => true) ((fun _ => (((), Iv.whole 3, ()), ([flatS], ()))))) Env.nil)))) Laws.nil 200 Try.f10 [] [] cBool.dec =
      .br (Bool.true)
       (
        .bind ((((), Go.Proofs.Ythdpjmkknodmpaa.Iv.whole 3, ()), [Go.Proofs.Ythdpjmkknodmpaa.flatS], ())) fun vy0 =>
        .bind (Go.Proofs.Ythdpjmkknodmpaa.Iv.whole 1) fun viv1 =>
        .br (Go.Proofs.Ythdpjmkknodmpaa.Ev.lenOk vy0.snd.fst)
         (
          .bind (Go.Proofs.Ythdpjmkknodmpaa.focusOf vy0.snd.fst viv1 0 1310720 1) fun vy2 =>
          .br (Bool.true)
           (
            .bind ((((), Go.Proofs.Ythdpjmkknodmpaa.Iv.whole 3, ()), [Go.Proofs.Ythdpjmkknodmpaa.flatS], ())) fun vy3 =>
            .bind (Go.Proofs.Ythdpjmkknodmpaa.Iv.whole 1) fun viv4 =>
            .bind (Go.Proofs.Ythdpjmkknodmpaa.Iv.whole 5) fun viv5 =>
            .br (Go.Proofs.Ythdpjmkknodmpaa.Ev.lenOk vy3.snd.fst)
             (
              .bind (Go.Proofs.Ythdpjmkknodmpaa.crossOf vy3.snd.fst viv4 viv5) fun vy6 =>
              .br (vy2.snd == 7)
               (
                .br (vy6.snd == 1)
                 (
                  .bind (Go.Proofs.Ythdpjmkknodmpaa.Iv.whole 1) fun viv7 =>
                  .ret (vy6.fst.lo == viv7.lo && (vy6.fst.hi == viv7.hi && vy6.fst.no == viv7.no)))
                 (
                  .ret (Bool.false)))
               (
                .ret (Bool.false)))
             (
              .fail))
           (
            .fail))
         (
          .fail))
       (
        .fail) := by kernel_rfl
theorem c_meniscuslaw21_known  : Plain Try.prog 10 [] (cBool.enc (true)) :=
  plain_of_tree (n := 200) (EnvOK.add s_focus_Focus (EnvOK.add s_iv_Whole (EnvOK.add s_focus_Cross (EnvOK.add s_meniscuslaw21_flat EnvOK.nil)))) Try.func10 (args := []) rfl (Nat.le_of_ble_eq_true (by kernel_rfl)) LFn.nil cBool (by
    rw [t_meniscuslaw21_known]
    decide +kernel)
theorem s_meniscuslaw21_known : Ev.Spec Try.prog 10 (F0 cBool true) := spec0 (fun vs w => Try.call10 vs w) c_meniscuslaw21_known

/-! parax.Of -/
theorem tl_parax_Of_4 (t16 : Int) (t15 : Int) (r0 : Iv) (r1 : Card) (r2 : Iv) (r3 : Iv) (r4 : Iv) (r5 : List Surf) :
    ev Try.prog (Env.add 8 (F1 cInt cIv Iv.point) (Env.add 18 (F2 cIv cIv cIv Iv.div) (Env.add 22 (F2 cIv cIv cIv Iv.add) (Env.add 25 (F2 cIv cIv cIv Iv.sub) (Env.add 26 (F2 cIv cIv cIv Iv.mul) (Env.add 27 (F1 cIv cIv Iv.neg) (Env.add 28 (F2 cIv cInt cIv Iv.times) Env.nil))))))) Laws.nil 200 none (loopAt Try.f12 4) ((sc 78 [16, 15, 1, 2, 3, 4, 5, 14] (tCod 16 cInt (tCod 15 cInt (tOwn 1 0 (tOwn 2 1 (tOwn 3 2 (tOwn 4 3 (tOwn 5 4 (tSl 14 5 tNil)))))))) (rBoxSl 5 ccIv ccIv_ok (rBox ccCard ccCard_ok (rBox ccIv ccIv_ok (rBox ccIv ccIv_ok (rBox ccIv ccIv_ok (rL_surf rNil))))))).enc ((t16, t15, ()), (r0, r1, r2, r3, r4, r5, ()))) (backK (sc 78 [16, 15, 1, 2, 3, 4, 5, 14] (tCod 16 cInt (tCod 15 cInt (tOwn 1 0 (tOwn 2 1 (tOwn 3 2 (tOwn 4 3 (tOwn 5 4 (tSl 14 5 tNil)))))))) (rBoxSl 5 ccIv ccIv_ok (rBox ccCard ccCard_ok (rBox ccIv ccIv_ok (rBox ccIv ccIv_ok (rBox ccIv ccIv_ok (rL_surf rNil))))))) (ocExit 0 (sc 78 [1, 2, 3, 4, 5] (tOwn 1 0 (tOwn 2 1 (tOwn 3 2 (tOwn 4 3 (tOwn 5 4 tNil))))) (rBoxSl 5 ccIv ccIv_ok (rBox ccCard ccCard_ok (rBox ccIv ccIv_ok (rBox ccIv ccIv_ok (rBox ccIv ccIv_ok (rL_surf rNil))))))))) =
      .br (Decidable.decide (t16 < t15))
       (
        .br (Decidable.decide (0 ≤ t16 ∧ t16 < (@Nat.cast Int _ r5.length)))
         (
          .get (r5[t16.toNat]?) fun vt0 =>
          .br (!vt0.stop)
           (
            .bind (vt0.ratio.mul r4) fun viv1 =>
            .bind (r3.mul vt0.curve) fun viv2 =>
            .bind (r2.sub vt0.ratio) fun viv3 =>
            .bind (viv2.mul viv3) fun viv4 =>
            .bind (viv1.sub viv4) fun viv5 =>
            .br (Decidable.decide (Go.IntKind.i64.wrap (t16 + 1) < (@Nat.cast Int _ r5.length)))
             (
              .br (Decidable.decide (0 ≤ Go.IntKind.i64.wrap (t16 + 1) ∧ Go.IntKind.i64.wrap (t16 + 1) < (@Nat.cast Int _ r5.length)))
               (
                .get (r5[(Go.IntKind.i64.wrap (t16 + 1)).toNat]?) fun vt6 =>
                .bind (vt6.at_.sub vt0.at_) fun viv7 =>
                .bind (viv5.mul viv7) fun viv8 =>
                .bind (r3.add viv8) fun viv9 =>
                .ret (Sum.inl ((Go.IntKind.i64.wrap (t16 + 1), t15, ()), r0, r1, r2, viv9, viv5, r5, ())))
               (
                .fail))
             (
              .ret (Sum.inl ((Go.IntKind.i64.wrap (t16 + 1), t15, ()), r0, r1, r2, r3, viv5, r5, ()))))
           (
            .br (Decidable.decide (Go.IntKind.i64.wrap (t16 + 1) < (@Nat.cast Int _ r5.length)))
             (
              .br (Decidable.decide (0 ≤ Go.IntKind.i64.wrap (t16 + 1) ∧ Go.IntKind.i64.wrap (t16 + 1) < (@Nat.cast Int _ r5.length)))
               (
                .get (r5[(Go.IntKind.i64.wrap (t16 + 1)).toNat]?) fun vt10 =>
                .bind (vt10.at_.sub vt0.at_) fun viv11 =>
                .bind (r4.mul viv11) fun viv12 =>
                .bind (r3.add viv12) fun viv13 =>
                .ret (Sum.inl ((Go.IntKind.i64.wrap (t16 + 1), t15, ()), r0, r1, r2, viv13, r4, r5, ())))
               (
                .fail))
             (
              .ret (Sum.inl ((Go.IntKind.i64.wrap (t16 + 1), t15, ()), r0, r1, r2, r3, r4, r5, ())))))
         (
          .fail))
       (
        .ret (Sum.inr ((), r0, r1, r2, r3, r4, r5, ()))) := by kernel_rfl
theorem ok_parax_Of_4 : LOK Try.prog (LoopR.of (sc 78 [16, 15, 1, 2, 3, 4, 5, 14] (tCod 16 cInt (tCod 15 cInt (tOwn 1 0 (tOwn 2 1 (tOwn 3 2 (tOwn 4 3 (tOwn 5 4 (tSl 14 5 tNil)))))))) (rBoxSl 5 ccIv ccIv_ok (rBox ccCard ccCard_ok (rBox ccIv ccIv_ok (rBox ccIv ccIv_ok (rBox ccIv ccIv_ok (rL_surf rNil))))))) (ocExit 0 (sc 78 [1, 2, 3, 4, 5] (tOwn 1 0 (tOwn 2 1 (tOwn 3 2 (tOwn 4 3 (tOwn 5 4 tNil))))) (rBoxSl 5 ccIv ccIv_ok (rBox ccCard ccCard_ok (rBox ccIv ccIv_ok (rBox ccIv ccIv_ok (rBox ccIv ccIv_ok (rL_surf rNil)))))))) (runBy parStep parM)) (loopAt Try.f12 4) := by
  refine loop_ok (EnvOK.add s_iv_Point (EnvOK.add s_iv_Div (EnvOK.add s_iv_Add (EnvOK.add s_iv_Sub (EnvOK.add s_iv_Mul (EnvOK.add s_iv_Neg (EnvOK.add s_iv_Times EnvOK.nil))))))) (LFn.at (fn := Try.f12) LFn.nil 4) parStep (n := 200) (fun x z h => ?_) (runBy_ok _ _)
  obtain ⟨⟨t16, t15, ⟨⟩⟩, ⟨r0, r1, r2, r3, r4, r5, ⟨⟩⟩⟩ := x
  rw [tl_parax_Of_4]
  rw [← h]
  simp only [parStep, parNext, paraU]
  simp only [den_br, den_bind, den_ret, den_fail, den_inl, den_inr, decide_eq_true_eq, gt_iff_lt, ge_iff_le, beq_iff_eq]
  by_cases h0 : t16 < t15 <;> simp only [h0, if_true, if_false]
  by_cases h1 : 0 ≤ t16 ∧ t16 < (r5.length : Int) <;> simp only [h1, and_self, if_true, if_false]
  cases hg : r5[t16.toNat]? with
  | none => rfl
  | some f =>
    simp only [den_get, den_br, den_bind, den_ret, den_fail]
    cases hs : f.stop <;> simp only [Bool.not_true, Bool.not_false, Bool.false_eq_true, if_true, if_false] <;> by_cases h2 : IntKind.i64.wrap (t16 + 1) < (r5.length : Int) <;> simp only [h2, if_true, if_false] <;> by_cases h3 : 0 ≤ IntKind.i64.wrap (t16 + 1) <;> simp only [h2, h3, and_self, and_true, true_and, false_and, if_true, if_false, and_false, true_and, decide_true, decide_false, Bool.false_eq_true] <;> cases r5[(IntKind.i64.wrap (t16 + 1)).toNat]? <;> rfl
theorem t_parax_Of (t0a : Unit) (t0b : Iv) (r0 : List Surf) :
    evFn Try.prog (Env.add 8 (F1 cInt cIv Iv.point) (Env.add 18 (F2 cIv cIv cIv Iv.div) (Env.add 22 (F2 cIv cIv cIv Iv.add) (Env.add 25 (F2 cIv cIv cIv Iv.sub) (Env.add 26 (F2 cIv cIv cIv Iv.mul) (Env.add 27 (F1 cIv cIv Iv.neg) (Env.add 28 (F2 cIv cInt cIv Iv.times) Env.nil))))))) (Laws.add 4 (LoopR.of (sc 78 [16, 15, 1, 2, 3, 4, 5, 14] (tCod 16 cInt (tCod 15 cInt (tOwn 1 0 (tOwn 2 1 (tOwn 3 2 (tOwn 4 3 (tOwn 5 4 (tSl 14 5 tNil)))))))) (rBoxSl 5 ccIv ccIv_ok (rBox ccCard ccCard_ok (rBox ccIv ccIv_ok (rBox ccIv ccIv_ok (rBox ccIv ccIv_ok (rL_surf rNil))))))) (ocExit 0 (sc 78 [1, 2, 3, 4, 5] (tOwn 1 0 (tOwn 2 1 (tOwn 3 2 (tOwn 4 3 (tOwn 5 4 tNil))))) (rBoxSl 5 ccIv ccIv_ok (rBox ccCard ccCard_ok (rBox ccIv ccIv_ok (rBox ccIv ccIv_ok (rBox ccIv ccIv_ok (rL_surf rNil)))))))) (runBy parStep parM)) Laws.nil) 200 Try.f12 (((sc 1 [0] (tAgg 0 0 ccNil ccNil_ok ccIv ccIv_ok tNil) (rL_surf rNil)).enc ((t0a, t0b, ()), (r0, ()))).tmps.map Prod.snd) ((sc 1 [0] (tAgg 0 0 ccNil ccNil_ok ccIv ccIv_ok tNil) (rL_surf rNil)).enc ((t0a, t0b, ()), (r0, ()))).mem cCard.dec =
      .bind (Go.Proofs.Ythdpjmkknodmpaa.Iv.point 65536) fun viv0 =>
      .bind (Go.Proofs.Ythdpjmkknodmpaa.Iv.point 0) fun viv1 =>
      .get (Go.Proofs.Ythdpjmkknodmpaa.runBy Go.Proofs.Ythdpjmkknodmpaa.parStep Go.Proofs.Ythdpjmkknodmpaa.parM ((0, (@Nat.cast Int _ r0.length), ()), t0b, (Go.Proofs.Ythdpjmkknodmpaa.Iv.mk 0 0 Bool.false, Go.Proofs.Ythdpjmkknodmpaa.Iv.mk 0 0 Bool.false, Go.Proofs.Ythdpjmkknodmpaa.Iv.mk 0 0 Bool.false, Go.Proofs.Ythdpjmkknodmpaa.Iv.mk 0 0 Bool.false), viv0, viv0, viv1, r0, ())) fun vy2 =>
      .bind (vy2.snd.snd.snd.fst.div vy2.snd.snd.snd.snd.snd.fst) fun viv3 =>
      .bind (viv3.neg) fun viv4 =>
      .bind (vy2.snd.snd.snd.snd.fst.div vy2.snd.snd.snd.snd.snd.fst) fun viv5 =>
      .bind (viv5.neg) fun viv6 =>
      .bind (viv6.sub viv4) fun viv7 =>
      .bind (vy2.snd.fst.times 2) fun viv8 =>
      .bind (viv4.div viv8) fun viv9 =>
      .ret ((viv4, viv6, viv7, viv9)) := by kernel_rfl
theorem c_parax_Of : PlainS Try.prog 12 (sc 1 [0] (tAgg 0 0 ccNil ccNil_ok ccIv ccIv_ok tNil) (rL_surf rNil)) cCard ((fun x => lenOk x.2.1)) ((fun x => paraxOf x.1.2.1 x.2.1)) := by
  intro x h N w vs hM hv
  obtain ⟨⟨t0a, t0b, ⟨⟩⟩, ⟨r0, ⟨⟩⟩⟩ := x
  refine calls_of_tree (n := 200) (EnvOK.add s_iv_Point (EnvOK.add s_iv_Div (EnvOK.add s_iv_Add (EnvOK.add s_iv_Sub (EnvOK.add s_iv_Mul (EnvOK.add s_iv_Neg (EnvOK.add s_iv_Times EnvOK.nil))))))) Try.func12 hv (Nat.le_of_ble_eq_true (by kernel_rfl)) (LFn.add (fn := Try.f12) (i := 4) (by kernel_rfl) ok_parax_Of_4 LFn.nil) hM cCard ?_
  rw [t_parax_Of]
  simp only at h
  have hl := lenOk_iff.1 h
  have hr := par_run hl t0b (⟨0, 0, false⟩, ⟨0, 0, false⟩, ⟨0, 0, false⟩, ⟨0, 0, false⟩) (Iv.point 65536) (Iv.point 65536) (Iv.point 0)
  simp only [den_br, den_bind, den_ret, den_fail, den_inl, den_inr, hr, den_get]
  rfl
theorem s_parax_Of : Ev.Spec Try.prog 12 (FS (sc 1 [0] (tAgg 0 0 ccNil ccNil_ok ccIv ccIv_ok tNil) (rL_surf rNil)) cCard ((fun x => lenOk x.2.1)) ((fun x => paraxOf x.1.2.1 x.2.1))) := specS rfl (fun vs w => Try.call12 vs w) c_parax_Of

/-! meniscuslaw21.FocusKnown -/
theorem t_meniscuslaw21_FocusKnown  :
    evFn Try.prog (Env.add 5 (FS (sc 5 [0, 1, 2, 3, 4] (tAgg 0 0 ccNil ccNil_ok ccIv ccIv_ok (tCod 1 cIv (tCod 2 cInt (tCod 3 cInt (tCod 4 cInt tNil))))) (rL_surf rNil)) (cTwo cIv cInt) ((fun x => lenOk x.2.1)) ((fun x => focusOf x.2.1 x.1.2.2.1 x.1.2.2.2.1 x.1.2.2.2.2.1 x.1.2.2.2.2.2.1))) (Env.add 6 (FR (sc 0 [] tNil rNil) (sc 1 [0] (tAgg 0 0 ccNil ccNil_ok ccIv ccIv_ok tNil) (rG_surf 48 rNil)) (fun _ => true) ((fun _ => (((), Iv.whole 3, ()), ([halfS], ()))))) (Env.add 7 (F1 cInt cIv Iv.whole) (Env.add 8 (F1 cInt cIv Iv.point) (Env.add 9 (FS (sc 3 [0, 1, 2] (tAgg 0 0 ccNil ccNil_ok ccIv ccIv_ok (tCod 1 cIv (tCod 2 cIv tNil))) (rL_surf rNil)) (cTwo cIv cInt) ((fun x => lenOk x.2.1)) ((fun x => crossOf x.2.1 x.1.2.2.1 x.1.2.2.2.1))) (Env.add 10 (F0 cBool true) Env.nil)))))) Laws.nil 200 Try.f3 (((sc 0 [] tNil rNil).enc ((()), (()))).tmps.map Prod.snd) ((sc 0 [] tNil rNil).enc ((()), (()))).mem cBool.dec =
      .br (Bool.true)
       (
        .bind ((((), Go.Proofs.Ythdpjmkknodmpaa.Iv.whole 3, ()), [Go.Proofs.Ythdpjmkknodmpaa.halfS], ())) fun vy0 =>
        .bind (Go.Proofs.Ythdpjmkknodmpaa.Iv.whole 1) fun viv1 =>
        .br (Go.Proofs.Ythdpjmkknodmpaa.Ev.lenOk vy0.snd.fst)
         (
          .bind (Go.Proofs.Ythdpjmkknodmpaa.focusOf vy0.snd.fst viv1 0 2031616 65536) fun vy2 =>
          .br (Bool.true)
           (
            .bind ((((), Go.Proofs.Ythdpjmkknodmpaa.Iv.whole 3, ()), [Go.Proofs.Ythdpjmkknodmpaa.halfS], ())) fun vy3 =>
            .bind (Go.Proofs.Ythdpjmkknodmpaa.Iv.whole 1) fun viv4 =>
            .br (Go.Proofs.Ythdpjmkknodmpaa.Ev.lenOk vy3.snd.fst)
             (
              .bind (Go.Proofs.Ythdpjmkknodmpaa.focusOf vy3.snd.fst viv4 5 5 1) fun vy5 =>
              .br (Bool.true)
               (
                .bind ((((), Go.Proofs.Ythdpjmkknodmpaa.Iv.whole 3, ()), [Go.Proofs.Ythdpjmkknodmpaa.halfS], ())) fun vy6 =>
                .bind (Go.Proofs.Ythdpjmkknodmpaa.Iv.whole 1) fun viv7 =>
                .br (Go.Proofs.Ythdpjmkknodmpaa.Ev.lenOk vy6.snd.fst)
                 (
                  .bind (Go.Proofs.Ythdpjmkknodmpaa.focusOf vy6.snd.fst viv7 0 1073741825 1) fun vy8 =>
                  .br (Bool.true)
                   (
                    .bind ((((), Go.Proofs.Ythdpjmkknodmpaa.Iv.whole 3, ()), [Go.Proofs.Ythdpjmkknodmpaa.halfS], ())) fun vy9 =>
                    .bind (Go.Proofs.Ythdpjmkknodmpaa.Iv.whole 1) fun viv10 =>
                    .br (Go.Proofs.Ythdpjmkknodmpaa.Ev.lenOk vy9.snd.fst)
                     (
                      .bind (Go.Proofs.Ythdpjmkknodmpaa.focusOf vy9.snd.fst viv10 0 5 0) fun vy11 =>
                      .br (Bool.true)
                       (
                        .bind ((((), Go.Proofs.Ythdpjmkknodmpaa.Iv.whole 3, ()), [Go.Proofs.Ythdpjmkknodmpaa.halfS], ())) fun vy12 =>
                        .bind (Go.Proofs.Ythdpjmkknodmpaa.Iv.point 0) fun viv13 =>
                        .br (Go.Proofs.Ythdpjmkknodmpaa.Ev.lenOk vy12.snd.fst)
                         (
                          .bind (Go.Proofs.Ythdpjmkknodmpaa.focusOf vy12.snd.fst viv13 0 5 1) fun vy14 =>
                          .br (Bool.true)
                           (
                            .bind ((((), Go.Proofs.Ythdpjmkknodmpaa.Iv.whole 3, ()), [Go.Proofs.Ythdpjmkknodmpaa.halfS], ())) fun vy15 =>
                            .bind (Go.Proofs.Ythdpjmkknodmpaa.Iv.whole 5) fun viv16 =>
                            .br (Go.Proofs.Ythdpjmkknodmpaa.Ev.lenOk vy15.snd.fst)
                             (
                              .bind (Go.Proofs.Ythdpjmkknodmpaa.focusOf vy15.snd.fst viv16 0 5 1) fun vy17 =>
                              .br (Bool.true)
                               (
                                .bind ((((), Go.Proofs.Ythdpjmkknodmpaa.Iv.whole 3, ()), [Go.Proofs.Ythdpjmkknodmpaa.halfS], ())) fun vy18 =>
                                .bind (Go.Proofs.Ythdpjmkknodmpaa.Iv.whole 1) fun viv19 =>
                                .br (Go.Proofs.Ythdpjmkknodmpaa.Ev.lenOk vy18.snd.fst)
                                 (
                                  .bind (Go.Proofs.Ythdpjmkknodmpaa.focusOf vy18.snd.fst viv19 0 65536 1) fun vy20 =>
                                  .br (Bool.true)
                                   (
                                    .bind ((((), Go.Proofs.Ythdpjmkknodmpaa.Iv.whole 3, ()), [Go.Proofs.Ythdpjmkknodmpaa.halfS], ())) fun vy21 =>
                                    .bind (Go.Proofs.Ythdpjmkknodmpaa.Iv.whole 5) fun viv22 =>
                                    .bind (Go.Proofs.Ythdpjmkknodmpaa.Iv.whole 1) fun viv23 =>
                                    .br (Go.Proofs.Ythdpjmkknodmpaa.Ev.lenOk vy21.snd.fst)
                                     (
                                      .bind (Go.Proofs.Ythdpjmkknodmpaa.crossOf vy21.snd.fst viv22 viv23) fun vy24 =>
                                      .bind (Bool.true) fun vb25 =>
                                      .br (vb25)
                                       (
                                        .br (vy2.snd == 0)
                                         (
                                          .br (Decidable.decide (vy2.fst.lo > 983040))
                                           (
                                            .br (Decidable.decide (vy2.fst.hi < 1114112))
                                             (
                                              .br (Decidable.decide (Go.IntKind.i64.wrap (vy2.fst.hi - vy2.fst.lo) ≤ 65536))
                                               (
                                                .br (vy5.snd == 1)
                                                 (
                                                  .br (vy8.snd == 1)
                                                   (
                                                    .br (vy11.snd == 1)
                                                     (
                                                      .br (vy14.snd == 8)
                                                       (
                                                        .br (vy17.snd == 8)
                                                         (
                                                          .br (vy20.snd == 7)
                                                           (
                                                            .ret (vy24.snd == 2))
                                                           (
                                                            .ret (Bool.false)))
                                                         (
                                                          .ret (Bool.false)))
                                                       (
                                                        .ret (Bool.false)))
                                                     (
                                                      .ret (Bool.false)))
                                                   (
                                                    .ret (Bool.false)))
                                                 (
                                                  .ret (Bool.false)))
                                               (
                                                .ret (Bool.false)))
                                             (
                                              .ret (Bool.false)))
                                           (
                                            .ret (Bool.false)))
                                         (
                                          .ret (Bool.false)))
                                       (
                                        .ret (Bool.false)))
                                     (
                                      .fail))
                                   (
                                    .fail))
                                 (
                                  .fail))
                               (
                                .fail))
                             (
                              .fail))
                           (
                            .fail))
                         (
                          .fail))
                       (
                        .fail))
                     (
                      .fail))
                   (
                    .fail))
                 (
                  .fail))
               (
                .fail))
             (
              .fail))
           (
            .fail))
         (
          .fail))
       (
        .fail) := by kernel_rfl
theorem c_meniscuslaw21_FocusKnown : PlainS Try.prog 3 (sc 0 [] tNil rNil) cBool (fun _ => true) ((fun _ => true)) := by
  intro x h N w vs hM hv
  obtain ⟨⟨⟩, ⟨⟩⟩ := x
  refine calls_of_tree (n := 200) (EnvOK.add s_focus_Focus (EnvOK.add s_meniscuslaw21_half (EnvOK.add s_iv_Whole (EnvOK.add s_iv_Point (EnvOK.add s_focus_Cross (EnvOK.add s_meniscuslaw21_known EnvOK.nil)))))) Try.func3 hv (Nat.le_of_ble_eq_true (by kernel_rfl)) LFn.nil hM cBool ?_
  rw [t_meniscuslaw21_FocusKnown]
  decide +kernel
theorem s_meniscuslaw21_FocusKnown : Ev.Spec Try.prog 3 (FS (sc 0 [] tNil rNil) cBool (fun _ => true) ((fun _ => true))) := specS rfl (fun vs w => Try.call3 vs w) c_meniscuslaw21_FocusKnown

/-! meniscuslaw21.FocusFiner -/
theorem t_meniscuslaw21_FocusFiner (t0 : Int) (t1 : Int) (t2 : Int) (t3 : Int) :
    evFn Try.prog (Env.add 5 (FS (sc 5 [0, 1, 2, 3, 4] (tAgg 0 0 ccNil ccNil_ok ccIv ccIv_ok (tCod 1 cIv (tCod 2 cInt (tCod 3 cInt (tCod 4 cInt tNil))))) (rL_surf rNil)) (cTwo cIv cInt) ((fun x => lenOk x.2.1)) ((fun x => focusOf x.2.1 x.1.2.2.1 x.1.2.2.2.1 x.1.2.2.2.2.1 x.1.2.2.2.2.2.1))) (Env.add 6 (FR (sc 0 [] tNil rNil) (sc 1 [0] (tAgg 0 0 ccNil ccNil_ok ccIv ccIv_ok tNil) (rG_surf 48 rNil)) (fun _ => true) ((fun _ => (((), Iv.whole 3, ()), ([halfS], ()))))) (Env.add 7 (F1 cInt cIv Iv.whole) (Env.add 10 (F0 cBool true) (Env.add 11 (F2p cInt cInt cInt pickOk pick) (Env.add 12 (FS (sc 1 [0] (tAgg 0 0 ccNil ccNil_ok ccIv ccIv_ok tNil) (rL_surf rNil)) cCard ((fun x => lenOk x.2.1)) ((fun x => paraxOf x.1.2.1 x.2.1))) (Env.add 13 (F2 cIv cInt cBool Iv.has) (Env.add 14 (F2 cIv cIv cBool Iv.inside) Env.nil)))))))) Laws.nil 200 Try.f4 (((sc 4 [0, 1, 2, 3] (tCod 0 cInt (tCod 1 cInt (tCod 2 cInt (tCod 3 cInt tNil)))) rNil).enc ((t0, t1, t2, t3, ()), (()))).tmps.map Prod.snd) ((sc 4 [0, 1, 2, 3] (tCod 0 cInt (tCod 1 cInt (tCod 2 cInt (tCod 3 cInt tNil)))) rNil).enc ((t0, t1, t2, t3, ()), (()))).mem cBool.dec =
      .br (Bool.true)
       (
        .bind ((((), Go.Proofs.Ythdpjmkknodmpaa.Iv.whole 3, ()), [Go.Proofs.Ythdpjmkknodmpaa.halfS], ())) fun vy0 =>
        .br (Go.Proofs.Ythdpjmkknodmpaa.pickOk t0 655360)
         (
          .bind (Go.Proofs.Ythdpjmkknodmpaa.pick t0 655360) fun vn1 =>
          .br (Go.Proofs.Ythdpjmkknodmpaa.pickOk t1 1966080)
           (
            .bind (Go.Proofs.Ythdpjmkknodmpaa.pick t1 1966080) fun vn2 =>
            .br (Go.Proofs.Ythdpjmkknodmpaa.pickOk t2 90000)
             (
              .bind (Go.Proofs.Ythdpjmkknodmpaa.pick t2 90000) fun vn3 =>
              .br (Go.Proofs.Ythdpjmkknodmpaa.pickOk t3 (Go.IntKind.i64.wrap (1 + vn3)))
               (
                .bind (Go.Proofs.Ythdpjmkknodmpaa.pick t3 (Go.IntKind.i64.wrap (1 + vn3))) fun vn4 =>
                .bind (Go.Proofs.Ythdpjmkknodmpaa.Iv.whole 1) fun viv5 =>
                .br (Go.Proofs.Ythdpjmkknodmpaa.Ev.lenOk vy0.snd.fst)
                 (
                  .bind (Go.Proofs.Ythdpjmkknodmpaa.focusOf vy0.snd.fst viv5 vn1 (Go.IntKind.i64.wrap (1310720 + vn2)) (Go.IntKind.i64.wrap (1 + vn3))) fun vy6 =>
                  .bind (Go.Proofs.Ythdpjmkknodmpaa.Iv.whole 1) fun viv7 =>
                  .br (Go.Proofs.Ythdpjmkknodmpaa.Ev.lenOk vy0.snd.fst)
                   (
                    .bind (Go.Proofs.Ythdpjmkknodmpaa.focusOf vy0.snd.fst viv7 vn1 (Go.IntKind.i64.wrap (1310720 + vn2)) (Go.IntKind.i64.wrap (1 + vn4))) fun vy8 =>
                    .br (Go.Proofs.Ythdpjmkknodmpaa.Ev.lenOk vy0.snd.fst)
                     (
                      .bind (Go.Proofs.Ythdpjmkknodmpaa.paraxOf vy0.fst.snd.fst vy0.snd.fst) fun vca9 =>
                      .bind (Bool.true) fun vb10 =>
                      .br (!vb10)
                       (
                        .ret (Bool.false))
                       (
                        .bind (vca9.snd.fst.has 1048576) fun vb11 =>
                        .br (!vb11)
                         (
                          .ret (Bool.false))
                         (
                          .br (vy6.snd != 0)
                           (
                            .br (vy6.snd != 8)
                             (
                              .ret (Bool.false))
                             (
                              .br (vy6.snd != 0)
                               (
                                .ret (vy8.snd == vy6.snd))
                               (
                                .br (vy8.snd == 8)
                                 (
                                  .ret (Bool.true))
                                 (
                                  .br (vy8.snd == 0)
                                   (
                                    .bind (vy8.fst.inside vy6.fst) fun vb12 =>
                                    .ret (vb12))
                                   (
                                    .ret (Bool.false))))))
                           (
                            .br (vy6.snd != 0)
                             (
                              .ret (vy8.snd == vy6.snd))
                             (
                              .br (vy8.snd == 8)
                               (
                                .ret (Bool.true))
                               (
                                .br (vy8.snd == 0)
                                 (
                                  .bind (vy8.fst.inside vy6.fst) fun vb13 =>
                                  .ret (vb13))
                                 (
                                  .ret (Bool.false))))))))
                     (
                      .fail))
                   (
                    .fail))
                 (
                  .fail))
               (
                .fail))
             (
              .fail))
           (
            .fail))
         (
          .fail))
       (
        .fail) := by kernel_rfl
theorem c_meniscuslaw21_FocusFiner : PlainS Try.prog 4 (sc 4 [0, 1, 2, 3] (tCod 0 cInt (tCod 1 cInt (tCod 2 cInt (tCod 3 cInt tNil)))) rNil) cBool (fun _ => true) ((fun _ => true)) := by
  intro x h N w vs hM hv
  obtain ⟨⟨t0, t1, t2, t3, ⟨⟩⟩, ⟨⟩⟩ := x
  refine calls_of_tree (n := 200) (EnvOK.add s_focus_Focus (EnvOK.add s_meniscuslaw21_half (EnvOK.add s_iv_Whole (EnvOK.add s_meniscuslaw21_known (EnvOK.add s_meniscushand_Pick (EnvOK.add s_parax_Of (EnvOK.add s_iv_Has (EnvOK.add s_iv_Inside EnvOK.nil)))))))) Try.func4 hv (Nat.le_of_ble_eq_true (by kernel_rfl)) LFn.nil hM cBool ?_
  rw [t_meniscuslaw21_FocusFiner]
  have b0 := pick_bd t0 (m := 655360) (by decide)
  have b1 := pick_bd t1 (m := 1966080) (by decide)
  have b2 := pick_bd t2 (m := 90000) (by decide)
  have w1 : IntKind.i64.wrap (1310720 + pick t1 1966080) = 1310720 + pick t1 1966080 := wr (by omega)
  have w2 : IntKind.i64.wrap (1 + pick t2 90000) = 1 + pick t2 90000 := wr (by omega)
  have b3 := pick_bd t3 (m := 1 + pick t2 90000) (by omega)
  have w3 : IntKind.i64.wrap (1 + pick t3 (1 + pick t2 90000)) = 1 + pick t3 (1 + pick t2 90000) := wr (by omega)
  have p1 : ∀ n : Int, pickOk n 655360 = true := fun _ => by simp [pickOk]
  have p2 : ∀ n : Int, pickOk n 1966080 = true := fun _ => by simp [pickOk]
  have p3 : ∀ n : Int, pickOk n 90000 = true := fun _ => by simp [pickOk]
  have p4 : pickOk t3 (1 + pick t2 90000) = true := by simp [pickOk]; omega
  have hl : Ev.lenOk [halfS] = true := rfl
  have hf := half_finer (lo := pick t0 655360) (hi := 1310720 + pick t1 1966080) (most := 1 + pick t2 90000) (finer := 1 + pick t3 (1 + pick t2 90000)) (by omega) (by omega) (by omega) (by omega)
  simp only [den_br, den_bind, den_ret, den_fail, if_true, p1, p2, p3, w1, w2, p4, w3, hl, half_bfl, Bool.not_true, Bool.false_eq_true, if_false]
  rcases hf with ⟨e1, e2⟩ | ⟨e1, e2⟩ | ⟨e1, e2, e3⟩
  · simp [e1, e2]
  · simp [e1, e2]
  · simp [e1, e2, e3]
theorem s_meniscuslaw21_FocusFiner : Ev.Spec Try.prog 4 (FS (sc 4 [0, 1, 2, 3] (tCod 0 cInt (tCod 1 cInt (tCod 2 cInt (tCod 3 cInt tNil)))) rNil) cBool (fun _ => true) ((fun _ => true))) := specS rfl (fun vs w => Try.call4 vs w) c_meniscuslaw21_FocusFiner
end Go.Proofs.Ythdpjmkknodmpaa
