/-
  Contracts of calls, written by a small program of this session out of the evaluator's trees.
-/
import Derived.Test.YtliglpiofomelaaCore
import Derived.Test.YtliglpiofomelaaCoreLoops
import Derived.Test.YtliglpiofomelaaCore2
import Derived.Test.YtliglpiofomelaaCore3
import Derived.Test.YtliglpiofomelaaCore4
import Derived.Test.YtliglpiofomelaaCore5
import Derived.Test.YtliglpiofomelaaCore6
import Derived.Test.YtliglpiofomelaaCore7
import Derived.Test.YtliglpiofomelaaCore8
import Derived.Test.YtliglpiofomelaaCore9
import Derived.Test.YtliglpiofomelaaEvMore
import Derived.Test.YtliglpiofomelaaSym
import Derived.Test.YtliglpiofomelaaSysF
import Derived.Test.YtliglpiofomelaaLess2
import Derived.Test.YtliglpiofomelaaFloCod
import Derived.Test.YtliglpiofomelaaGs
import Derived.Test.YtliglpiofomelaaPup
import Derived.Test.YtliglpiofomelaaR0
import Derived.Test.YtliglpiofomelaaG0
import Derived.Test.YtliglpiofomelaaVig
import Derived.Test.YtliglpiofomelaaW0
import Derived.Test.YtliglpiofomelaaEvCod
import Derived.Test.YtliglpiofomelaaEvRet
import Derived.Test.YtliglpiofomelaaProg
namespace Go.Proofs.Ytliglpiofomelaa
open Go Go.RowKit Ev
set_option maxRecDepth 100000
set_option linter.unusedVariables false
set_option linter.unusedSimpArgs false

/-! system.Last -/
theorem t_system_Last (t0a : Unit) (t0b : Iv) (r0 : List Surf) :
    evFn Try.prog (Env.add 10 (F0 cIv Iv.none) Env.nil) Laws.nil 200 Try.f37 (((sc 1 [0] (tAgg 0 0 ccNil ccNil_ok ccIv ccIv_ok tNil) (rL_surf rNil)).enc ((t0a, t0b, ()), (r0, ()))).tmps.map Prod.snd) ((sc 1 [0] (tAgg 0 0 ccNil ccNil_ok ccIv ccIv_ok tNil) (rL_surf rNil)).enc ((t0a, t0b, ()), (r0, ()))).mem cIv.dec =
      .br ((@Nat.cast Int _ r0.length) == 0) (.bind (Iv.none) fun viv0 => .ret (viv0)) (.br (decide (0 ≤ IntKind.i64.wrap ((@Nat.cast Int _ r0.length) - 1) ∧ IntKind.i64.wrap ((@Nat.cast Int _ r0.length) - 1) < (@Nat.cast Int _ r0.length))) (.get (r0[(IntKind.i64.wrap ((@Nat.cast Int _ r0.length) - 1)).toNat]?) fun vt1 => .ret (vt1.at_)) (.fail)) := by kernel_rfl
theorem c_system_Last : PlainS Try.prog 37 (sc 1 [0] (tAgg 0 0 ccNil ccNil_ok ccIv ccIv_ok tNil) (rL_surf rNil)) cIv ((fun x => lenOk x.2.1)) ((fun x => lastOf x.2.1)) := by
  intro x h N w vs hM hv
  obtain ⟨⟨t0a, t0b, ⟨⟩⟩, ⟨r0, ⟨⟩⟩⟩ := x
  refine calls_of_tree (n := 200) (EnvOK.add s_iv_None EnvOK.nil) Try.func37 hv (Nat.le_of_ble_eq_true (by kernel_rfl)) LFn.nil hM cIv ?_
  rw [t_system_Last]
  simp only at h
  have hl := lenOk_iff.1 h
  have hw : r0.length ≠ 0 → IntKind.i64.wrap ((r0.length : Int) - 1) = (r0.length : Int) - 1 := fun _ => wr (by omega)
  simp only [den_br, den_bind, den_ret, den_fail, den_inl, den_inr, decide_eq_true_eq, gt_iff_lt, ge_iff_le, beq_iff_eq]
  unfold lastOf
  by_cases c : r0.length = 0
  · simp [c]
  · have c' : ¬ ((r0.length : Int) = 0) := by omega
    have c2 : (0 : Int) ≤ (r0.length : Int) - 1 ∧ (r0.length : Int) - 1 < (r0.length : Int) := by omega
    simp only [c, c', if_false, hw c, c2, and_self, if_true]
    obtain ⟨v, hv⟩ : ∃ v, r0[((r0.length : Int) - 1).toNat]? = some v := ⟨_, List.getElem?_eq_getElem (by omega)⟩
    rw [hv]; rfl
theorem s_system_Last : Ev.Spec Try.prog 37 (FS (sc 1 [0] (tAgg 0 0 ccNil ccNil_ok ccIv ccIv_ok tNil) (rL_surf rNil)) cIv ((fun x => lenOk x.2.1)) ((fun x => lastOf x.2.1))) := specS rfl (fun vs w => Try.call37 vs w) c_system_Last

/-! vignette.Table -/
theorem tl_vignette_Table_5 (t29 : Int) (t28 : Int) (t1 : Int) (t3 : Int) (r0 : Iv) (r1 : List RowV) (r2 : List Surf) :
    ev Try.prog (Env.add 6 (FS (sc 4 [0, 1, 2, 3] (tAgg 0 0 ccNil ccNil_ok ccIv ccIv_ok (tCod 1 cIv (tCod 2 cIv (tCod 3 cInt tNil)))) (rL_surf rNil)) (cTwo cRep cInt) ((fun x => lenOk x.2.1)) ((fun x => (repC (scanOf x.1.2.1 x.2.1 x.1.2.2.1 x.1.2.2.2.1 x.1.2.2.2.2.1).1, (scanOf x.1.2.1 x.2.1 x.1.2.2.1 x.1.2.2.2.1 x.1.2.2.2.2.1).2)))) (Env.add 8 (F1 cInt cIv Iv.point) (Env.add 9 (F1 cInt cIv Iv.whole) (Env.add 27 (F2 cInt cInt cIv Iv.of) (Env.add 34 (F2 cIv cIv cIv Iv.div) Env.nil))))) Laws.nil 200 none (loopAt Try.f15 5) ((sc 79 [29, 28, 1, 3, 4, 10] (tCod 29 cInt (tCod 28 cInt (tCod 1 cInt (tCod 3 cInt (tOwn 4 0 (tSl 10 1 tNil)))))) (rBoxSl 2 ccIv ccIv_ok (rG_row 50 (rL_surf rNil)))).enc ((t29, t28, t1, t3, ()), (r0, r1, r2, ()))) (backK (sc 79 [29, 28, 1, 3, 4, 10] (tCod 29 cInt (tCod 28 cInt (tCod 1 cInt (tCod 3 cInt (tOwn 4 0 (tSl 10 1 tNil)))))) (rBoxSl 2 ccIv ccIv_ok (rG_row 50 (rL_surf rNil)))) (ocOr (ocExit 0 (sc 79 [10] (tSl 10 0 tNil) (rG_row 50 rNil))) (ocRet (sc 79 [9, 8] (tCod 9 cInt (tSl 8 0 tNil)) (rG_row 50 rNil))))) =
      .br (decide (t29 < t28)) (.bind (Iv.of (IntKind.i64.wrap (t29 * t1)) (IntKind.i64.wrap (IntKind.i64.wrap (t29 + 1) * t1))) fun viv0 => .bind (Iv.point 0) fun viv1 => .br (Ev.lenOk r2) (.bind ((repC (scanOf r0 r2 viv0 viv1 t3).1, (scanOf r0 r2 viv0 viv1 t3).2)) fun vy2 => .br (vy2.2 != 0) (.ret (Sum.inr (Sum.inr ((vy2.2, ()), [], ())))) (.bind (Iv.of (IntKind.i64.wrap (vy2.1.1 * 65536)) (IntKind.i64.wrap (IntKind.i64.wrap (vy2.1.1 + vy2.1.2.1) * 65536))) fun viv3 => .bind (Iv.whole vy2.1.2.2.1) fun viv4 => .bind (viv3.div viv4) fun viv5 => .br (Ev.lenOk (r1 ++ [(viv0, viv5, vy2.1)])) (.ret (Sum.inl ((IntKind.i64.wrap (t29 + 1), t28, t1, t3, ()), r0, r1 ++ [(viv0, viv5, vy2.1)], r2, ()))) (.fail))) (.fail)) (.ret (Sum.inr (Sum.inl ((), r1, ())))) := by kernel_rfl
theorem ok_vignette_Table_5 : LOK Try.prog (LoopR.of (sc 79 [29, 28, 1, 3, 4, 10] (tCod 29 cInt (tCod 28 cInt (tCod 1 cInt (tCod 3 cInt (tOwn 4 0 (tSl 10 1 tNil)))))) (rBoxSl 2 ccIv ccIv_ok (rG_row 50 (rL_surf rNil)))) (ocOr (ocExit 0 (sc 79 [10] (tSl 10 0 tNil) (rG_row 50 rNil))) (ocRet (sc 79 [9, 8] (tCod 9 cInt (tSl 8 0 tNil)) (rG_row 50 rNil)))) (runBy (tabStep rowVC) tabM)) (loopAt Try.f15 5) := by
  refine loop_ok (EnvOK.add s_pupil_Scan (EnvOK.add s_iv_Point (EnvOK.add s_iv_Whole (EnvOK.add s_iv_Of (EnvOK.add s_iv_Div EnvOK.nil))))) (LFn.at (fn := Try.f15) LFn.nil 5) ((tabStep rowVC)) (n := 200) (fun x z h => ?_) (runBy_ok _ _)
  obtain ⟨⟨t29, t28, t1, t3, ⟨⟩⟩, ⟨r0, r1, r2, ⟨⟩⟩⟩ := x
  rw [tl_vignette_Table_5]
  rw [← h]
  simp only [tabStep]
  simp only [den_br, den_bind, den_ret, den_fail, decide_eq_true_eq, gt_iff_lt, ge_iff_le, beq_iff_eq]
  by_cases h0 : t29 < t28 <;> simp only [h0, if_true, if_false]
  by_cases hl : Ev.lenOk r2 = true <;> simp only [hl, if_true, if_false, Bool.false_eq_true]
  rw [show Iv.of (IntKind.i64.wrap (t29 * t1)) (IntKind.i64.wrap (IntKind.i64.wrap (t29 + 1) * t1)) = filmK t1 t29 from rfl]
  by_cases e : (scanOf r0 r2 (filmK t1 t29) (Iv.point 0) t3).2 = 0
  · simp only [e, bne_self_eq_false, Bool.false_eq_true, if_false, ne_eq, not_true_eq_false]
    rfl
  · have e' : ((scanOf r0 r2 (filmK t1 t29) (Iv.point 0) t3).2 != 0) = true := by simp [e]
    simp only [e, e', if_true, ne_eq, not_false_eq_true]
theorem t_vignette_Table (t0a : Unit) (t0b : Iv) (t1 : Int) (t2 : Int) (t3 : Int) (r0 : List Surf) :
    evFnR Try.prog (Env.add 6 (FS (sc 4 [0, 1, 2, 3] (tAgg 0 0 ccNil ccNil_ok ccIv ccIv_ok (tCod 1 cIv (tCod 2 cIv (tCod 3 cInt tNil)))) (rL_surf rNil)) (cTwo cRep cInt) ((fun x => lenOk x.2.1)) ((fun x => (repC (scanOf x.1.2.1 x.2.1 x.1.2.2.1 x.1.2.2.2.1 x.1.2.2.2.2.1).1, (scanOf x.1.2.1 x.2.1 x.1.2.2.1 x.1.2.2.2.1 x.1.2.2.2.2.1).2)))) (Env.add 8 (F1 cInt cIv Iv.point) (Env.add 9 (F1 cInt cIv Iv.whole) (Env.add 27 (F2 cInt cInt cIv Iv.of) (Env.add 34 (F2 cIv cIv cIv Iv.div) Env.nil))))) (Laws.add 5 (LoopR.of (sc 79 [29, 28, 1, 3, 4, 10] (tCod 29 cInt (tCod 28 cInt (tCod 1 cInt (tCod 3 cInt (tOwn 4 0 (tSl 10 1 tNil)))))) (rBoxSl 2 ccIv ccIv_ok (rG_row 50 (rL_surf rNil)))) (ocOr (ocExit 0 (sc 79 [10] (tSl 10 0 tNil) (rG_row 50 rNil))) (ocRet (sc 79 [9, 8] (tCod 9 cInt (tSl 8 0 tNil)) (rG_row 50 rNil)))) (runBy (tabStep rowVC) tabM)) Laws.nil) 200 Try.f15 (((sc 4 [0, 1, 2, 3] (tAgg 0 0 ccNil ccNil_ok ccIv ccIv_ok (tCod 1 cInt (tCod 2 cInt (tCod 3 cInt tNil)))) (rL_surf rNil)).enc ((t0a, t0b, t1, t2, t3, ()), (r0, ()))).tmps.map Prod.snd) ((sc 4 [0, 1, 2, 3] (tAgg 0 0 ccNil ccNil_ok ccIv ccIv_ok (tCod 1 cInt (tCod 2 cInt (tCod 3 cInt tNil)))) (rL_surf rNil)).enc ((t0a, t0b, t1, t2, t3, ()), (r0, ()))).mem (sc 2 [0, 1] (tSl 0 0 (tCod 1 cInt tNil)) (rG_row 50 rNil)).ts (sc 2 [0, 1] (tSl 0 0 (tCod 1 cInt tNil)) (rG_row 50 rNil)).dec =
      .br (decide (t1 < 1)) (.ret (((1, ()), [], ()))) (.br (decide (t1 > 1048576)) (.ret (((1, ()), [], ()))) (.br (decide (t2 < 1)) (.ret (((1, ()), [], ()))) (.br (decide (t2 > 16)) (.ret (((1, ()), [], ()))) (.get (runBy (tabStep rowVC) tabM ((0, t2, t1, t3, ()), t0b, [], r0, ())) fun vy0 => .sum (vy0) (fun vs1 => .ret (((0, ()), vs1.2.1, ()))) (fun vs2 => .ret (((vs2.1.1, ()), vs2.2.1, ()))))))) := by kernel_rfl
theorem c_vignette_Table : PlainR Try.prog 15 (sc 4 [0, 1, 2, 3] (tAgg 0 0 ccNil ccNil_ok ccIv ccIv_ok (tCod 1 cInt (tCod 2 cInt (tCod 3 cInt tNil)))) (rL_surf rNil)) (sc 2 [0, 1] (tSl 0 0 (tCod 1 cInt tNil)) (rG_row 50 rNil)) ((fun x => lenOk x.2.1)) ((fun x => (((tableOf x.1.2.1 x.2.1 x.1.2.2.1 x.1.2.2.2.1 x.1.2.2.2.2.1).2, ()), ((tableOf x.1.2.1 x.2.1 x.1.2.2.1 x.1.2.2.2.1 x.1.2.2.2.2.1).1.map rowVC, ())))) := by
  intro x h N w vs hM hv
  obtain ⟨⟨t0a, t0b, t1, t2, t3, ⟨⟩⟩, ⟨r0, ⟨⟩⟩⟩ := x
  refine calls_of_treeR (n := 200) (EnvOK.add s_pupil_Scan (EnvOK.add s_iv_Point (EnvOK.add s_iv_Whole (EnvOK.add s_iv_Of (EnvOK.add s_iv_Div EnvOK.nil))))) Try.func15 hv (Nat.le_of_ble_eq_true (by kernel_rfl)) (LFn.add (fn := Try.f15) (i := 5) (by kernel_rfl) ok_vignette_Table_5 LFn.nil) hM (sc 2 [0, 1] (tSl 0 0 (tCod 1 cInt tNil)) (rG_row 50 rNil)) rfl ?_
  rw [t_vignette_Table]
  simp only at h
  simp only [den_br, den_bind, den_ret, den_fail, decide_eq_true_eq, gt_iff_lt, ge_iff_le]
  by_cases ho : (1 ≤ t1 ∧ t1 ≤ 1048576) ∧ (1 ≤ t2 ∧ t2 ≤ 16)
  case neg =>
    have ht : tabOk r0 t1 t2 t3 = false := by
      cases e : tabOk r0 t1 t2 t3
      · rfl
      · simp only [tabOk, Bool.and_eq_true, decide_eq_true_eq] at e
        exact absurd ⟨e.1, e.2.1⟩ ho
    have e : tableOf t0b r0 t1 t2 t3 = ([], 1) := by unfold tableOf; rw [ht]; rfl
    by_cases c1 : t1 < 1
    · simp [c1, e]
    by_cases c2 : 1048576 < t1
    · simp [c1, c2, e]
    by_cases c3 : t2 < 1
    · simp [c1, c2, c3, e]
    have c4 : 16 < t2 := by omega
    simp [c1, c2, c3, c4, e]
  have hr := tab_run rowVC (o := t0b) (n := t3) h ho.1 ho.2
  simp only [show ¬ t1 < 1 by omega, show ¬ 1048576 < t1 by omega, show ¬ t2 < 1 by omega, show ¬ 16 < t2 by omega, if_false, hr, den_get]
  have ht : tabOk r0 t1 t2 t3 = sizedC r0 t3 := by
    unfold tabOk
    rw [decide_eq_true ho.1, decide_eq_true ho.2]; rfl
  by_cases c : sizedC r0 t3 = true
  · simp only [c, if_true, den_inl, den_ret, tableOf, ht]
    rw [List.map_map]; rfl
  · simp only [c, if_false, den_inr, den_ret, tableOf, ht, Bool.false_eq_true]; rfl
theorem s_vignette_Table : Ev.Spec Try.prog 15 (FR (sc 4 [0, 1, 2, 3] (tAgg 0 0 ccNil ccNil_ok ccIv ccIv_ok (tCod 1 cInt (tCod 2 cInt (tCod 3 cInt tNil)))) (rL_surf rNil)) (sc 2 [0, 1] (tSl 0 0 (tCod 1 cInt tNil)) (rG_row 50 rNil)) ((fun x => lenOk x.2.1)) ((fun x => (((tableOf x.1.2.1 x.2.1 x.1.2.2.1 x.1.2.2.2.1 x.1.2.2.2.2.1).2, ()), ((tableOf x.1.2.1 x.2.1 x.1.2.2.1 x.1.2.2.2.1 x.1.2.2.2.2.1).1.map rowVC, ()))))) := specR rfl (fun _ => rfl) (fun vs w => Try.call15 vs w) c_vignette_Table

/-! spot.Of$1 -/
theorem t_spot_Of_1 (x0 : Ivp) :
    evFn Try.prog Env.nil Laws.nil 200 Try.f40 [cIvp.av x0] [] cIv.dec =
      .ret (x0.1) := by kernel_rfl
theorem c_spot_Of_1 (x0 : Ivp) : Plain Try.prog 40 [cIvp.enc x0] (cIv.enc (((fun p => p.1)) x0)) :=
  plain_of_tree (n := 200) EnvOK.nil Try.func40 (args := [cIvp.av x0]) (by simp only [AV.vals, Cod.av_val]) (Nat.le_of_ble_eq_true (by kernel_rfl)) LFn.nil cIv (by
    rw [t_spot_Of_1]
    rfl)
theorem s_spot_Of_1 : Ev.Spec Try.prog 40 (F1 cIvp cIv ((fun p => p.1))) := spec1 (fun vs w => Try.call40 vs w) c_spot_Of_1

/-! spot.Of$2 -/
theorem t_spot_Of_2 (x0 : Ivp) :
    evFn Try.prog Env.nil Laws.nil 200 Try.f41 [cIvp.av x0] [] cIv.dec =
      .ret (x0.2) := by kernel_rfl
theorem c_spot_Of_2 (x0 : Ivp) : Plain Try.prog 41 [cIvp.enc x0] (cIv.enc (((fun p => p.2)) x0)) :=
  plain_of_tree (n := 200) EnvOK.nil Try.func41 (args := [cIvp.av x0]) (by simp only [AV.vals, Cod.av_val]) (Nat.le_of_ble_eq_true (by kernel_rfl)) LFn.nil cIv (by
    rw [t_spot_Of_2]
    rfl)
theorem s_spot_Of_2 : Ev.Spec Try.prog 41 (F1 cIvp cIv ((fun p => p.2))) := spec1 (fun vs w => Try.call41 vs w) c_spot_Of_2

/-! spot.Of$3 -/
theorem t_spot_Of_3 (t0 : Ivp) (r0 : SpotV) :
    evFn Try.prog (Env.add 32 (F2 cIv cIv cIv Iv.sub) (Env.add 36 (F2 cIv cIv cIv Iv.add) (Env.add 43 (F1 cIv cIv Iv.sqr) Env.nil))) Laws.nil 200 Try.f42 (((sc 2 [0, 1] (tCod 0 cIvp (tOwn 1 0 tNil)) (rRo ccSpot ccSpot_ok rNil)).enc ((t0, ()), (r0, ()))).tmps.map Prod.snd) ((sc 2 [0, 1] (tCod 0 cIvp (tOwn 1 0 tNil)) (rRo ccSpot ccSpot_ok rNil)).enc ((t0, ()), (r0, ()))).mem cIv.dec =
      .bind (t0.1.sub r0.2.2.1) fun viv0 => .bind (viv0.sqr) fun viv1 => .bind (t0.2.sub r0.2.2.2.1) fun viv2 => .bind (viv2.sqr) fun viv3 => .bind (viv1.add viv3) fun viv4 => .ret (viv4) := by kernel_rfl
theorem c_spot_Of_3 : PlainS Try.prog 42 (sc 2 [0, 1] (tCod 0 cIvp (tOwn 1 0 tNil)) (rRo ccSpot ccSpot_ok rNil)) cIv (fun _ => true) ((fun x => sqOf x.2.1 x.1.1)) := by
  intro x h N w vs hM hv
  obtain ⟨⟨t0, ⟨⟩⟩, ⟨r0, ⟨⟩⟩⟩ := x
  refine calls_of_tree (n := 200) (EnvOK.add s_iv_Sub (EnvOK.add s_iv_Add (EnvOK.add s_iv_Sqr EnvOK.nil))) Try.func42 hv (Nat.le_of_ble_eq_true (by kernel_rfl)) LFn.nil hM cIv ?_
  rw [t_spot_Of_3]
  rfl
theorem s_spot_Of_3 : Ev.Spec Try.prog 42 (FS (sc 2 [0, 1] (tCod 0 cIvp (tOwn 1 0 tNil)) (rRo ccSpot ccSpot_ok rNil)) cIv (fun _ => true) ((fun x => sqOf x.2.1 x.1.1))) := specS rfl (fun vs w => Try.call42 vs w) c_spot_Of_3

/-! spot.mean -/
theorem tl_spot_meanone_3 (t11 : Int) (t10 : Int) (r0 : List Ivp) (r1 : Iv) (r2 : Iv) :
    ev Try.prog (Env.add 8 (F1 cInt cIv Iv.point) (Env.add 9 (F1 cInt cIv Iv.whole) (Env.add 34 (F2 cIv cIv cIv Iv.div) (Env.add 36 (F2 cIv cIv cIv Iv.add) (Env.add 40 (F1 cIvp cIv ((fun p => p.1))) (Env.add 41 (F1 cIvp cIv ((fun p => p.2))) (Env.add 42 (FS (sc 2 [0, 1] (tCod 0 cIvp (tOwn 1 0 tNil)) (rRo ccSpot ccSpot_ok rNil)) cIv (fun _ => true) ((fun x => sqOf x.2.1 x.1.1))) Env.nil))))))) Laws.nil 200 none (loopAt Try.f39 3) ((sc 26 [11, 10, 9, 0, 1, 5, 4] (tCod 11 cInt (tCod 10 cInt (tSl 9 0 (tSl 0 0 (tClo 1 40 [] (tOwn 5 1 (tOwn 4 2 tNil))))))) (rL_ivp (rBox ccIv ccIv_ok (rBox ccIv ccIv_ok rNil)))).enc ((t11, t10, ()), (r0, r1, r2, ()))) (backK (sc 26 [11, 10, 9, 0, 1, 5, 4] (tCod 11 cInt (tCod 10 cInt (tSl 9 0 (tSl 0 0 (tClo 1 40 [] (tOwn 5 1 (tOwn 4 2 tNil))))))) (rL_ivp (rBox ccIv ccIv_ok (rBox ccIv ccIv_ok rNil)))) (ocExit 0 (sc 26 [0, 5, 4] (tSl 0 0 (tOwn 5 1 (tOwn 4 2 tNil))) (rL_ivp (rBox ccIv ccIv_ok (rBox ccIv ccIv_ok rNil)))))) =
      .br (decide (t11 < t10)) (.br (decide (0 ≤ t11 ∧ t11 < (@Nat.cast Int _ r0.length))) (.get (r0[t11.toNat]?) fun vt0 => .bind (vt0.1) fun viv1 => .bind (r1.add viv1) fun viv2 => .ret (Sum.inl ((IntKind.i64.wrap (t11 + 1), t10, ()), r0, viv2, r2, ()))) (.fail)) (.ret (Sum.inr ((), r0, r1, r2, ()))) := by kernel_rfl
theorem ok_spot_meanone_3 : LOK Try.prog (LoopR.of (sc 26 [11, 10, 9, 0, 1, 5, 4] (tCod 11 cInt (tCod 10 cInt (tSl 9 0 (tSl 0 0 (tClo 1 40 [] (tOwn 5 1 (tOwn 4 2 tNil))))))) (rL_ivp (rBox ccIv ccIv_ok (rBox ccIv ccIv_ok rNil)))) (ocExit 0 (sc 26 [0, 5, 4] (tSl 0 0 (tOwn 5 1 (tOwn 4 2 tNil))) (rL_ivp (rBox ccIv ccIv_ok (rBox ccIv ccIv_ok rNil))))) (runBy meanStep1 meanM1)) (loopAt Try.f39 3) := by
  refine loop_ok (EnvOK.add s_iv_Point (EnvOK.add s_iv_Whole (EnvOK.add s_iv_Div (EnvOK.add s_iv_Add (EnvOK.add s_spot_Of_1 (EnvOK.add s_spot_Of_2 (EnvOK.add s_spot_Of_3 EnvOK.nil))))))) (LFn.at (fn := Try.f39) LFn.nil 3) meanStep1 (n := 200) (fun x z h => ?_) (runBy_ok _ _)
  obtain ⟨⟨t11, t10, ⟨⟩⟩, ⟨r0, r1, r2, ⟨⟩⟩⟩ := x
  rw [tl_spot_meanone_3]
  rw [← h]
  simp only [meanStep1, meanStep]
  simp only [den_br, den_bind, den_ret, den_fail, decide_eq_true_eq, gt_iff_lt, ge_iff_le, beq_iff_eq]
  by_cases h0 : t11 < t10 <;> simp only [h0, if_true, if_false]
  by_cases h1 : 0 ≤ t11 ∧ t11 < (r0.length : Int) <;> simp only [h1, and_self, if_true, if_false]
  cases hg : r0[t11.toNat]? <;> rfl
theorem t_spot_meanone (r0 : List Ivp) :
    evFn Try.prog (Env.add 8 (F1 cInt cIv Iv.point) (Env.add 9 (F1 cInt cIv Iv.whole) (Env.add 34 (F2 cIv cIv cIv Iv.div) (Env.add 36 (F2 cIv cIv cIv Iv.add) (Env.add 40 (F1 cIvp cIv ((fun p => p.1))) (Env.add 41 (F1 cIvp cIv ((fun p => p.2))) (Env.add 42 (FS (sc 2 [0, 1] (tCod 0 cIvp (tOwn 1 0 tNil)) (rRo ccSpot ccSpot_ok rNil)) cIv (fun _ => true) ((fun x => sqOf x.2.1 x.1.1))) Env.nil))))))) (Laws.add 3 (LoopR.of (sc 26 [11, 10, 9, 0, 1, 5, 4] (tCod 11 cInt (tCod 10 cInt (tSl 9 0 (tSl 0 0 (tClo 1 40 [] (tOwn 5 1 (tOwn 4 2 tNil))))))) (rL_ivp (rBox ccIv ccIv_ok (rBox ccIv ccIv_ok rNil)))) (ocExit 0 (sc 26 [0, 5, 4] (tSl 0 0 (tOwn 5 1 (tOwn 4 2 tNil))) (rL_ivp (rBox ccIv ccIv_ok (rBox ccIv ccIv_ok rNil))))) (runBy meanStep1 meanM1)) Laws.nil) 200 Try.f39 (((sc 2 [0, 1] (tSl 0 0 (tClo 1 40 [] tNil)) (rL_ivp rNil)).enc ((()), (r0, ()))).tmps.map Prod.snd) ((sc 2 [0, 1] (tSl 0 0 (tClo 1 40 [] tNil)) (rL_ivp rNil)).enc ((()), (r0, ()))).mem cIv.dec =
      .bind (Iv.point 0) fun viv0 => .get (runBy meanStep1 meanM1 ((0, (@Nat.cast Int _ r0.length), ()), r0, viv0, Iv.mk 0 0 false, ())) fun vy1 => .bind (Iv.whole (@Nat.cast Int _ vy1.2.1.length)) fun viv2 => .bind (vy1.2.2.1.div viv2) fun viv3 => .ret (viv3) := by kernel_rfl
theorem c_spot_meanone : PlainS Try.prog 39 (sc 2 [0, 1] (tSl 0 0 (tClo 1 40 [] tNil)) (rL_ivp rNil)) cIv ((fun x => lenOk x.2.1)) ((fun x => meanOf Prod.fst x.2.1)) := by
  intro x h N w vs hM hv
  obtain ⟨⟨⟩, ⟨r0, ⟨⟩⟩⟩ := x
  refine calls_of_tree (n := 200) (EnvOK.add s_iv_Point (EnvOK.add s_iv_Whole (EnvOK.add s_iv_Div (EnvOK.add s_iv_Add (EnvOK.add s_spot_Of_1 (EnvOK.add s_spot_Of_2 (EnvOK.add s_spot_Of_3 EnvOK.nil))))))) Try.func39 hv (Nat.le_of_ble_eq_true (by kernel_rfl)) (LFn.add (fn := Try.f39) (i := 3) (by kernel_rfl) ok_spot_meanone_3 LFn.nil) hM cIv ?_
  rw [t_spot_meanone]
  simp only at h
  have hr : runBy meanStep1 meanM1 ((0, (r0.length : Int), ()), r0, Iv.point 0, ⟨0, 0, false⟩, ()) = _ := mean_run Prod.fst h _
  simp only [den_bind, hr, den_get, den_ret]
  rfl
theorem s_spot_meanone : Ev.Spec Try.prog 39 (FS (sc 2 [0, 1] (tSl 0 0 (tClo 1 40 [] tNil)) (rL_ivp rNil)) cIv ((fun x => lenOk x.2.1)) ((fun x => meanOf Prod.fst x.2.1))) := specS rfl (fun vs w => Try.call39 vs w) c_spot_meanone

/-! spot.mean -/
theorem tl_spot_meantwo_3 (t11 : Int) (t10 : Int) (r0 : List Ivp) (r1 : Iv) (r2 : Iv) :
    ev Try.prog (Env.add 8 (F1 cInt cIv Iv.point) (Env.add 9 (F1 cInt cIv Iv.whole) (Env.add 34 (F2 cIv cIv cIv Iv.div) (Env.add 36 (F2 cIv cIv cIv Iv.add) (Env.add 40 (F1 cIvp cIv ((fun p => p.1))) (Env.add 41 (F1 cIvp cIv ((fun p => p.2))) (Env.add 42 (FS (sc 2 [0, 1] (tCod 0 cIvp (tOwn 1 0 tNil)) (rRo ccSpot ccSpot_ok rNil)) cIv (fun _ => true) ((fun x => sqOf x.2.1 x.1.1))) Env.nil))))))) Laws.nil 200 none (loopAt Try.f39 3) ((sc 26 [11, 10, 9, 0, 1, 5, 4] (tCod 11 cInt (tCod 10 cInt (tSl 9 0 (tSl 0 0 (tClo 1 41 [] (tOwn 5 1 (tOwn 4 2 tNil))))))) (rL_ivp (rBox ccIv ccIv_ok (rBox ccIv ccIv_ok rNil)))).enc ((t11, t10, ()), (r0, r1, r2, ()))) (backK (sc 26 [11, 10, 9, 0, 1, 5, 4] (tCod 11 cInt (tCod 10 cInt (tSl 9 0 (tSl 0 0 (tClo 1 41 [] (tOwn 5 1 (tOwn 4 2 tNil))))))) (rL_ivp (rBox ccIv ccIv_ok (rBox ccIv ccIv_ok rNil)))) (ocExit 0 (sc 26 [0, 5, 4] (tSl 0 0 (tOwn 5 1 (tOwn 4 2 tNil))) (rL_ivp (rBox ccIv ccIv_ok (rBox ccIv ccIv_ok rNil)))))) =
      .br (decide (t11 < t10)) (.br (decide (0 ≤ t11 ∧ t11 < (@Nat.cast Int _ r0.length))) (.get (r0[t11.toNat]?) fun vt0 => .bind (vt0.2) fun viv1 => .bind (r1.add viv1) fun viv2 => .ret (Sum.inl ((IntKind.i64.wrap (t11 + 1), t10, ()), r0, viv2, r2, ()))) (.fail)) (.ret (Sum.inr ((), r0, r1, r2, ()))) := by kernel_rfl
theorem ok_spot_meantwo_3 : LOK Try.prog (LoopR.of (sc 26 [11, 10, 9, 0, 1, 5, 4] (tCod 11 cInt (tCod 10 cInt (tSl 9 0 (tSl 0 0 (tClo 1 41 [] (tOwn 5 1 (tOwn 4 2 tNil))))))) (rL_ivp (rBox ccIv ccIv_ok (rBox ccIv ccIv_ok rNil)))) (ocExit 0 (sc 26 [0, 5, 4] (tSl 0 0 (tOwn 5 1 (tOwn 4 2 tNil))) (rL_ivp (rBox ccIv ccIv_ok (rBox ccIv ccIv_ok rNil))))) (runBy meanStep2 meanM2)) (loopAt Try.f39 3) := by
  refine loop_ok (EnvOK.add s_iv_Point (EnvOK.add s_iv_Whole (EnvOK.add s_iv_Div (EnvOK.add s_iv_Add (EnvOK.add s_spot_Of_1 (EnvOK.add s_spot_Of_2 (EnvOK.add s_spot_Of_3 EnvOK.nil))))))) (LFn.at (fn := Try.f39) LFn.nil 3) meanStep2 (n := 200) (fun x z h => ?_) (runBy_ok _ _)
  obtain ⟨⟨t11, t10, ⟨⟩⟩, ⟨r0, r1, r2, ⟨⟩⟩⟩ := x
  rw [tl_spot_meantwo_3]
  rw [← h]
  simp only [meanStep2, meanStep]
  simp only [den_br, den_bind, den_ret, den_fail, decide_eq_true_eq, gt_iff_lt, ge_iff_le, beq_iff_eq]
  by_cases h0 : t11 < t10 <;> simp only [h0, if_true, if_false]
  by_cases h1 : 0 ≤ t11 ∧ t11 < (r0.length : Int) <;> simp only [h1, and_self, if_true, if_false]
  cases hg : r0[t11.toNat]? <;> rfl
theorem t_spot_meantwo (r0 : List Ivp) :
    evFn Try.prog (Env.add 8 (F1 cInt cIv Iv.point) (Env.add 9 (F1 cInt cIv Iv.whole) (Env.add 34 (F2 cIv cIv cIv Iv.div) (Env.add 36 (F2 cIv cIv cIv Iv.add) (Env.add 40 (F1 cIvp cIv ((fun p => p.1))) (Env.add 41 (F1 cIvp cIv ((fun p => p.2))) (Env.add 42 (FS (sc 2 [0, 1] (tCod 0 cIvp (tOwn 1 0 tNil)) (rRo ccSpot ccSpot_ok rNil)) cIv (fun _ => true) ((fun x => sqOf x.2.1 x.1.1))) Env.nil))))))) (Laws.add 3 (LoopR.of (sc 26 [11, 10, 9, 0, 1, 5, 4] (tCod 11 cInt (tCod 10 cInt (tSl 9 0 (tSl 0 0 (tClo 1 41 [] (tOwn 5 1 (tOwn 4 2 tNil))))))) (rL_ivp (rBox ccIv ccIv_ok (rBox ccIv ccIv_ok rNil)))) (ocExit 0 (sc 26 [0, 5, 4] (tSl 0 0 (tOwn 5 1 (tOwn 4 2 tNil))) (rL_ivp (rBox ccIv ccIv_ok (rBox ccIv ccIv_ok rNil))))) (runBy meanStep2 meanM2)) Laws.nil) 200 Try.f39 (((sc 2 [0, 1] (tSl 0 0 (tClo 1 41 [] tNil)) (rL_ivp rNil)).enc ((()), (r0, ()))).tmps.map Prod.snd) ((sc 2 [0, 1] (tSl 0 0 (tClo 1 41 [] tNil)) (rL_ivp rNil)).enc ((()), (r0, ()))).mem cIv.dec =
      .bind (Iv.point 0) fun viv0 => .get (runBy meanStep2 meanM2 ((0, (@Nat.cast Int _ r0.length), ()), r0, viv0, Iv.mk 0 0 false, ())) fun vy1 => .bind (Iv.whole (@Nat.cast Int _ vy1.2.1.length)) fun viv2 => .bind (vy1.2.2.1.div viv2) fun viv3 => .ret (viv3) := by kernel_rfl
theorem c_spot_meantwo : PlainS Try.prog 39 (sc 2 [0, 1] (tSl 0 0 (tClo 1 41 [] tNil)) (rL_ivp rNil)) cIv ((fun x => lenOk x.2.1)) ((fun x => meanOf Prod.snd x.2.1)) := by
  intro x h N w vs hM hv
  obtain ⟨⟨⟩, ⟨r0, ⟨⟩⟩⟩ := x
  refine calls_of_tree (n := 200) (EnvOK.add s_iv_Point (EnvOK.add s_iv_Whole (EnvOK.add s_iv_Div (EnvOK.add s_iv_Add (EnvOK.add s_spot_Of_1 (EnvOK.add s_spot_Of_2 (EnvOK.add s_spot_Of_3 EnvOK.nil))))))) Try.func39 hv (Nat.le_of_ble_eq_true (by kernel_rfl)) (LFn.add (fn := Try.f39) (i := 3) (by kernel_rfl) ok_spot_meantwo_3 LFn.nil) hM cIv ?_
  rw [t_spot_meantwo]
  simp only at h
  have hr : runBy meanStep2 meanM2 ((0, (r0.length : Int), ()), r0, Iv.point 0, ⟨0, 0, false⟩, ()) = _ := mean_run Prod.snd h _
  simp only [den_bind, hr, den_get, den_ret]
  rfl
theorem s_spot_meantwo : Ev.Spec Try.prog 39 (FS (sc 2 [0, 1] (tSl 0 0 (tClo 1 41 [] tNil)) (rL_ivp rNil)) cIv ((fun x => lenOk x.2.1)) ((fun x => meanOf Prod.snd x.2.1))) := specS rfl (fun vs w => Try.call39 vs w) c_spot_meantwo

/-! spot.mean -/
theorem tl_spot_meanthree_3 (t11 : Int) (t10 : Int) (r0 : List Ivp) (r1 : SpotV) (r2 : Iv) (r3 : Iv) :
    ev Try.prog (Env.add 8 (F1 cInt cIv Iv.point) (Env.add 9 (F1 cInt cIv Iv.whole) (Env.add 34 (F2 cIv cIv cIv Iv.div) (Env.add 36 (F2 cIv cIv cIv Iv.add) (Env.add 40 (F1 cIvp cIv ((fun p => p.1))) (Env.add 41 (F1 cIvp cIv ((fun p => p.2))) (Env.add 42 (FS (sc 2 [0, 1] (tCod 0 cIvp (tOwn 1 0 tNil)) (rRo ccSpot ccSpot_ok rNil)) cIv (fun _ => true) ((fun x => sqOf x.2.1 x.1.1))) Env.nil))))))) Laws.nil 200 none (loopAt Try.f39 3) ((sc 26 [11, 10, 9, 0, 1, 5, 4] (tCod 11 cInt (tCod 10 cInt (tSl 9 0 (tSl 0 0 (tClo 1 42 [1] (tOwn 5 2 (tOwn 4 3 tNil))))))) (rL_ivp (rRo ccSpot ccSpot_ok (rBox ccIv ccIv_ok (rBox ccIv ccIv_ok rNil))))).enc ((t11, t10, ()), (r0, r1, r2, r3, ()))) (backK (sc 26 [11, 10, 9, 0, 1, 5, 4] (tCod 11 cInt (tCod 10 cInt (tSl 9 0 (tSl 0 0 (tClo 1 42 [1] (tOwn 5 2 (tOwn 4 3 tNil))))))) (rL_ivp (rRo ccSpot ccSpot_ok (rBox ccIv ccIv_ok (rBox ccIv ccIv_ok rNil))))) (ocExit 0 (sc 26 [0, 5, 4] (tSl 0 0 (tOwn 5 1 (tOwn 4 2 tNil))) (rL_ivp (rBox ccIv ccIv_ok (rBox ccIv ccIv_ok rNil)))))) =
      .br (decide (t11 < t10)) (.br (decide (0 ≤ t11 ∧ t11 < (@Nat.cast Int _ r0.length))) (.get (r0[t11.toNat]?) fun vt0 => .br (true) (.bind (sqOf r1 vt0) fun viv1 => .bind (r2.add viv1) fun viv2 => .ret (Sum.inl ((IntKind.i64.wrap (t11 + 1), t10, ()), r0, r1, viv2, r3, ()))) (.fail)) (.fail)) (.ret (Sum.inr ((), r0, r2, r3, ()))) := by kernel_rfl
theorem ok_spot_meanthree_3 : LOK Try.prog (LoopR.of (sc 26 [11, 10, 9, 0, 1, 5, 4] (tCod 11 cInt (tCod 10 cInt (tSl 9 0 (tSl 0 0 (tClo 1 42 [1] (tOwn 5 2 (tOwn 4 3 tNil))))))) (rL_ivp (rRo ccSpot ccSpot_ok (rBox ccIv ccIv_ok (rBox ccIv ccIv_ok rNil))))) (ocExit 0 (sc 26 [0, 5, 4] (tSl 0 0 (tOwn 5 1 (tOwn 4 2 tNil))) (rL_ivp (rBox ccIv ccIv_ok (rBox ccIv ccIv_ok rNil))))) (runBy meanStep3 meanM3)) (loopAt Try.f39 3) := by
  refine loop_ok (EnvOK.add s_iv_Point (EnvOK.add s_iv_Whole (EnvOK.add s_iv_Div (EnvOK.add s_iv_Add (EnvOK.add s_spot_Of_1 (EnvOK.add s_spot_Of_2 (EnvOK.add s_spot_Of_3 EnvOK.nil))))))) (LFn.at (fn := Try.f39) LFn.nil 3) meanStep3 (n := 200) (fun x z h => ?_) (runBy_ok _ _)
  obtain ⟨⟨t11, t10, ⟨⟩⟩, ⟨r0, r1, r2, r3, ⟨⟩⟩⟩ := x
  rw [tl_spot_meanthree_3]
  rw [← h]
  simp only [meanStep3]
  simp only [den_br, den_bind, den_ret, den_fail, decide_eq_true_eq, gt_iff_lt, ge_iff_le, beq_iff_eq]
  by_cases h0 : t11 < t10 <;> simp only [h0, if_true, if_false]
  by_cases h1 : 0 ≤ t11 ∧ t11 < (r0.length : Int) <;> simp only [h1, and_self, if_true, if_false]
  cases hg : r0[t11.toNat]? <;> rfl
theorem t_spot_meanthree (r0 : List Ivp) (r1 : SpotV) :
    evFn Try.prog (Env.add 8 (F1 cInt cIv Iv.point) (Env.add 9 (F1 cInt cIv Iv.whole) (Env.add 34 (F2 cIv cIv cIv Iv.div) (Env.add 36 (F2 cIv cIv cIv Iv.add) (Env.add 40 (F1 cIvp cIv ((fun p => p.1))) (Env.add 41 (F1 cIvp cIv ((fun p => p.2))) (Env.add 42 (FS (sc 2 [0, 1] (tCod 0 cIvp (tOwn 1 0 tNil)) (rRo ccSpot ccSpot_ok rNil)) cIv (fun _ => true) ((fun x => sqOf x.2.1 x.1.1))) Env.nil))))))) (Laws.add 3 (LoopR.of (sc 26 [11, 10, 9, 0, 1, 5, 4] (tCod 11 cInt (tCod 10 cInt (tSl 9 0 (tSl 0 0 (tClo 1 42 [1] (tOwn 5 2 (tOwn 4 3 tNil))))))) (rL_ivp (rRo ccSpot ccSpot_ok (rBox ccIv ccIv_ok (rBox ccIv ccIv_ok rNil))))) (ocExit 0 (sc 26 [0, 5, 4] (tSl 0 0 (tOwn 5 1 (tOwn 4 2 tNil))) (rL_ivp (rBox ccIv ccIv_ok (rBox ccIv ccIv_ok rNil))))) (runBy meanStep3 meanM3)) Laws.nil) 200 Try.f39 (((sc 2 [0, 1] (tSl 0 0 (tClo 1 42 [1] tNil)) (rL_ivp (rRo ccSpot ccSpot_ok rNil))).enc ((()), (r0, r1, ()))).tmps.map Prod.snd) ((sc 2 [0, 1] (tSl 0 0 (tClo 1 42 [1] tNil)) (rL_ivp (rRo ccSpot ccSpot_ok rNil))).enc ((()), (r0, r1, ()))).mem cIv.dec =
      .bind (Iv.point 0) fun viv0 => .get (runBy meanStep3 meanM3 ((0, (@Nat.cast Int _ r0.length), ()), r0, r1, viv0, Iv.mk 0 0 false, ())) fun vy1 => .bind (Iv.whole (@Nat.cast Int _ vy1.2.1.length)) fun viv2 => .bind (vy1.2.2.1.div viv2) fun viv3 => .ret (viv3) := by kernel_rfl
theorem c_spot_meanthree : PlainS Try.prog 39 (sc 2 [0, 1] (tSl 0 0 (tClo 1 42 [1] tNil)) (rL_ivp (rRo ccSpot ccSpot_ok rNil))) cIv ((fun x => lenOk x.2.1)) ((fun x => meanOf (sqOf x.2.2.1) x.2.1)) := by
  intro x h N w vs hM hv
  obtain ⟨⟨⟩, ⟨r0, r1, ⟨⟩⟩⟩ := x
  refine calls_of_tree (n := 200) (EnvOK.add s_iv_Point (EnvOK.add s_iv_Whole (EnvOK.add s_iv_Div (EnvOK.add s_iv_Add (EnvOK.add s_spot_Of_1 (EnvOK.add s_spot_Of_2 (EnvOK.add s_spot_Of_3 EnvOK.nil))))))) Try.func39 hv (Nat.le_of_ble_eq_true (by kernel_rfl)) (LFn.add (fn := Try.f39) (i := 3) (by kernel_rfl) ok_spot_meanthree_3 LFn.nil) hM cIv ?_
  rw [t_spot_meanthree]
  simp only at h
  have hr : runBy meanStep3 meanM3 ((0, (r0.length : Int), ()), r0, r1, Iv.point 0, ⟨0, 0, false⟩, ()) = _ := mean3_run h _
  simp only [den_bind, hr, den_get, den_ret]
  rfl
theorem s_spot_meanthree : Ev.Spec Try.prog 39 (FS (sc 2 [0, 1] (tSl 0 0 (tClo 1 42 [1] tNil)) (rL_ivp (rRo ccSpot ccSpot_ok rNil))) cIv ((fun x => lenOk x.2.1)) ((fun x => meanOf (sqOf x.2.2.1) x.2.1))) := specS rfl (fun vs w => Try.call39 vs w) c_spot_meanthree

/-! spot.Of -/
theorem tl_spot_Of_7 (t51 : Int) (t50 : Int) (t3 : Int) (r0 : List Cx) (r1 : Iv) (r2 : Iv) (r3 : Iv) (r4 : Iv) (r5 : SpotV) (r6 : List Ivp) (r7 : SpotV) (r8 : List Surf) :
    ev Try.prog (Env.add 11 (FS (sc 5 [0, 1, 2, 3, 4] (tAgg 0 0 ccNil ccNil_ok ccIv ccIv_ok (tCod 1 cIv (tCod 2 cIv (tCod 3 cCx (tCod 4 cInt tNil))))) (rL_surf rNil)) (cTwo cRay cBool) (fun _ => true) ((fun x => aimP x.1.2.1 x.2.1 x.1.2.2.1 x.1.2.2.2.1 x.1.2.2.2.2.1 x.1.2.2.2.2.2.1))) (Env.add 21 (F1 cIv cBool Iv.right) (Env.add 22 (FR (sc 1 [0] (tCod 0 cInt tNil) rNil) (sc 1 [0] (tSl 0 0 tNil) (rG_cx 22 rNil)) (fun _ => true) ((fun x => ((), ((cellsP (cellsR x.1.1)).map cxOf, ()))))) (Env.add 23 (F2 cCx cInt cInt cInDisc) (Env.add 36 (F2 cIv cIv cIv Iv.add) (Env.add 37 (FS (sc 1 [0] (tAgg 0 0 ccNil ccNil_ok ccIv ccIv_ok tNil) (rL_surf rNil)) cIv ((fun x => lenOk x.2.1)) ((fun x => lastOf x.2.1))) (Env.add 38 (FS (sc 3 [0, 1, 2] (tAgg 0 0 ccNil ccNil_ok ccIv ccIv_ok (tCod 1 cRay (tCod 2 cIv tNil))) (rL_surf rNil)) (cThree cIv cIv cInt) ((fun x => lenOk x.2.1)) ((fun x => throughOf x.2.1 x.1.2.2.1 x.1.2.2.2.1))) (Env.add 39 (FS (sc 2 [0, 1] (tSl 0 0 (tClo 1 40 [] tNil)) (rL_ivp rNil)) cIv ((fun x => lenOk x.2.1)) ((fun x => meanOf Prod.fst x.2.1))) (Env.add 39 (FS (sc 2 [0, 1] (tSl 0 0 (tClo 1 41 [] tNil)) (rL_ivp rNil)) cIv ((fun x => lenOk x.2.1)) ((fun x => meanOf Prod.snd x.2.1))) (Env.add 39 (FS (sc 2 [0, 1] (tSl 0 0 (tClo 1 42 [1] tNil)) (rL_ivp (rRo ccSpot ccSpot_ok rNil))) cIv ((fun x => lenOk x.2.1)) ((fun x => meanOf (sqOf x.2.2.1) x.2.1))) (Env.add 40 (F1 cIvp cIv ((fun p => p.1))) (Env.add 41 (F1 cIvp cIv ((fun p => p.2))) (Env.add 42 (FS (sc 2 [0, 1] (tCod 0 cIvp (tOwn 1 0 tNil)) (rRo ccSpot ccSpot_ok rNil)) cIv (fun _ => true) ((fun x => sqOf x.2.1 x.1.1))) Env.nil))))))))))))) Laws.nil 200 none (loopAt Try.f18 7) ((sc 104 [51, 50, 3, 49, 5, 6, 7, 14, 12, 13, 10] (tCod 51 cInt (tCod 50 cInt (tCod 3 cInt (tSl 49 0 (tOwn 5 1 (tOwn 6 2 (tOwn 7 3 (tOwn 14 4 (tOwn 12 5 (tSl 13 6 (tOwn 10 7 tNil))))))))))) (rG_cx 22 (rBoxSl 8 ccIv ccIv_ok (rBox ccIv ccIv_ok (rBox ccIv ccIv_ok (rBox ccIv ccIv_ok (rBox ccSpot ccSpot_ok (rG_ivp 77 (rBox ccSpot ccSpot_ok (rL_surf rNil)))))))))).enc ((t51, t50, t3, ()), (r0, r1, r2, r3, r4, r5, r6, r7, r8, ()))) (backK (sc 104 [51, 50, 3, 49, 5, 6, 7, 14, 12, 13, 10] (tCod 51 cInt (tCod 50 cInt (tCod 3 cInt (tSl 49 0 (tOwn 5 1 (tOwn 6 2 (tOwn 7 3 (tOwn 14 4 (tOwn 12 5 (tSl 13 6 (tOwn 10 7 tNil))))))))))) (rG_cx 22 (rBoxSl 8 ccIv ccIv_ok (rBox ccIv ccIv_ok (rBox ccIv ccIv_ok (rBox ccIv ccIv_ok (rBox ccSpot ccSpot_ok (rG_ivp 77 (rBox ccSpot ccSpot_ok (rL_surf rNil)))))))))) (ocExit 0 (sc 104 [13, 12, 10] (tSl 13 0 (tOwn 12 1 (tOwn 10 2 tNil))) (rG_ivp 77 (rBox ccSpot ccSpot_ok (rBox ccSpot ccSpot_ok rNil)))))) =
      .br (decide (t51 < t50)) (.br (decide (0 ≤ t51 ∧ t51 < (@Nat.cast Int _ r0.length))) (.get (r0[t51.toNat]?) fun vt0 => .bind (cInDisc vt0 t3) fun vn1 => .br (vn1 != 1) (.ret (Sum.inl ((IntKind.i64.wrap (t51 + 1), t50, t3, ()), r0, r1, r2, r3, r4, r5, r6, r7, r8, ()))) (.br (true) (.bind (aimP r1 r8 r2 r3 vt0 t3) fun vy2 => .br (vy2.2) (.br (Ev.lenOk r8) (.bind (throughOf r8 vy2.1 r4) fun vy3 => .br (vy3.2.2 == 1) (.br (Ev.lenOk (r6 ++ [(vy3.1, vy3.2.1)])) (.ret (Sum.inl ((IntKind.i64.wrap (t51 + 1), t50, t3, ()), r0, r1, r2, r3, r4, r5, r6 ++ [(vy3.1, vy3.2.1)], r7, r8, ()))) (.fail)) (.ret (Sum.inl ((IntKind.i64.wrap (t51 + 1), t50, t3, ()), r0, r1, r2, r3, r4, (r5.1, IntKind.i64.wrap (r5.2.1 + 1), r5.2.2), r6, r7, r8, ())))) (.fail)) (.ret (Sum.inl ((IntKind.i64.wrap (t51 + 1), t50, t3, ()), r0, r1, r2, r3, r4, (r5.1, IntKind.i64.wrap (r5.2.1 + 1), r5.2.2), r6, r7, r8, ())))) (.fail))) (.fail)) (.ret (Sum.inr ((), r6, r5, r7, ()))) := by kernel_rfl
theorem ok_spot_Of_7 : LOK Try.prog (LoopR.of (sc 104 [51, 50, 3, 49, 5, 6, 7, 14, 12, 13, 10] (tCod 51 cInt (tCod 50 cInt (tCod 3 cInt (tSl 49 0 (tOwn 5 1 (tOwn 6 2 (tOwn 7 3 (tOwn 14 4 (tOwn 12 5 (tSl 13 6 (tOwn 10 7 tNil))))))))))) (rG_cx 22 (rBoxSl 8 ccIv ccIv_ok (rBox ccIv ccIv_ok (rBox ccIv ccIv_ok (rBox ccIv ccIv_ok (rBox ccSpot ccSpot_ok (rG_ivp 77 (rBox ccSpot ccSpot_ok (rL_surf rNil)))))))))) (ocExit 0 (sc 104 [13, 12, 10] (tSl 13 0 (tOwn 12 1 (tOwn 10 2 tNil))) (rG_ivp 77 (rBox ccSpot ccSpot_ok (rBox ccSpot ccSpot_ok rNil))))) (runBy spotPStep spotPM)) (loopAt Try.f18 7) := by
  refine loop_ok (EnvOK.add s_pupil_Aim (EnvOK.add s_iv_Right (EnvOK.add s_gauss_Cells (EnvOK.add s_gauss_InDisc (EnvOK.add s_iv_Add (EnvOK.add s_system_Last (EnvOK.add s_trace_Through (EnvOK.add s_spot_meanone (EnvOK.add s_spot_meantwo (EnvOK.add s_spot_meanthree (EnvOK.add s_spot_Of_1 (EnvOK.add s_spot_Of_2 (EnvOK.add s_spot_Of_3 EnvOK.nil))))))))))))) (LFn.at (fn := Try.f18) LFn.nil 7) spotPStep (n := 200) (fun x z h => ?_) (runBy_ok _ _)
  obtain ⟨⟨t51, t50, t3, ⟨⟩⟩, ⟨r0, r1, r2, r3, r4, r5, r6, r7, r8, ⟨⟩⟩⟩ := x
  rw [tl_spot_Of_7]
  rw [← h]
  simp only [spotPStep]
  simp only [den_br, den_bind, den_ret, den_fail, decide_eq_true_eq, gt_iff_lt, ge_iff_le, beq_iff_eq]
  by_cases h0 : t51 < t50 <;> simp only [h0, if_true, if_false]
  by_cases h1 : 0 ≤ t51 ∧ t51 < (r0.length : Int) <;> simp only [h1, and_self, if_true, if_false]
  cases hg : r0[t51.toNat]? with
  | none => rfl
  | some z =>
    simp only [den_br, den_bind, den_ret, den_fail, den_get, beq_iff_eq]
    by_cases d1 : cInDisc z t3 = 1
    case neg =>
      have d1' : (cInDisc z t3 != 1) = true := by simp [d1]
      simp only [d1, d1', ne_eq, not_false_eq_true, if_true]
    simp only [d1, bne_self_eq_false, ne_eq, not_true_eq_false, if_false, Bool.false_eq_true]
    rcases Bool.eq_false_or_eq_true (aimP r1 r8 r2 r3 z t3).2 with ha | ha
    · simp only [ha, if_true]
    · simp only [ha, if_true, if_false, Bool.false_eq_true]
theorem t_spot_Of (t0a : Unit) (t0b : Iv) (t1 : Iv) (t2 : Iv) (t3 : Int) (t4 : Iv) (r0 : List Surf) :
    evFn Try.prog (Env.add 11 (FS (sc 5 [0, 1, 2, 3, 4] (tAgg 0 0 ccNil ccNil_ok ccIv ccIv_ok (tCod 1 cIv (tCod 2 cIv (tCod 3 cCx (tCod 4 cInt tNil))))) (rL_surf rNil)) (cTwo cRay cBool) (fun _ => true) ((fun x => aimP x.1.2.1 x.2.1 x.1.2.2.1 x.1.2.2.2.1 x.1.2.2.2.2.1 x.1.2.2.2.2.2.1))) (Env.add 21 (F1 cIv cBool Iv.right) (Env.add 22 (FR (sc 1 [0] (tCod 0 cInt tNil) rNil) (sc 1 [0] (tSl 0 0 tNil) (rG_cx 22 rNil)) (fun _ => true) ((fun x => ((), ((cellsP (cellsR x.1.1)).map cxOf, ()))))) (Env.add 23 (F2 cCx cInt cInt cInDisc) (Env.add 36 (F2 cIv cIv cIv Iv.add) (Env.add 37 (FS (sc 1 [0] (tAgg 0 0 ccNil ccNil_ok ccIv ccIv_ok tNil) (rL_surf rNil)) cIv ((fun x => lenOk x.2.1)) ((fun x => lastOf x.2.1))) (Env.add 38 (FS (sc 3 [0, 1, 2] (tAgg 0 0 ccNil ccNil_ok ccIv ccIv_ok (tCod 1 cRay (tCod 2 cIv tNil))) (rL_surf rNil)) (cThree cIv cIv cInt) ((fun x => lenOk x.2.1)) ((fun x => throughOf x.2.1 x.1.2.2.1 x.1.2.2.2.1))) (Env.add 39 (FS (sc 2 [0, 1] (tSl 0 0 (tClo 1 40 [] tNil)) (rL_ivp rNil)) cIv ((fun x => lenOk x.2.1)) ((fun x => meanOf Prod.fst x.2.1))) (Env.add 39 (FS (sc 2 [0, 1] (tSl 0 0 (tClo 1 41 [] tNil)) (rL_ivp rNil)) cIv ((fun x => lenOk x.2.1)) ((fun x => meanOf Prod.snd x.2.1))) (Env.add 39 (FS (sc 2 [0, 1] (tSl 0 0 (tClo 1 42 [1] tNil)) (rL_ivp (rRo ccSpot ccSpot_ok rNil))) cIv ((fun x => lenOk x.2.1)) ((fun x => meanOf (sqOf x.2.2.1) x.2.1))) (Env.add 40 (F1 cIvp cIv ((fun p => p.1))) (Env.add 41 (F1 cIvp cIv ((fun p => p.2))) (Env.add 42 (FS (sc 2 [0, 1] (tCod 0 cIvp (tOwn 1 0 tNil)) (rRo ccSpot ccSpot_ok rNil)) cIv (fun _ => true) ((fun x => sqOf x.2.1 x.1.1))) Env.nil))))))))))))) (Laws.add 7 (LoopR.of (sc 104 [51, 50, 3, 49, 5, 6, 7, 14, 12, 13, 10] (tCod 51 cInt (tCod 50 cInt (tCod 3 cInt (tSl 49 0 (tOwn 5 1 (tOwn 6 2 (tOwn 7 3 (tOwn 14 4 (tOwn 12 5 (tSl 13 6 (tOwn 10 7 tNil))))))))))) (rG_cx 22 (rBoxSl 8 ccIv ccIv_ok (rBox ccIv ccIv_ok (rBox ccIv ccIv_ok (rBox ccIv ccIv_ok (rBox ccSpot ccSpot_ok (rG_ivp 77 (rBox ccSpot ccSpot_ok (rL_surf rNil)))))))))) (ocExit 0 (sc 104 [13, 12, 10] (tSl 13 0 (tOwn 12 1 (tOwn 10 2 tNil))) (rG_ivp 77 (rBox ccSpot ccSpot_ok (rBox ccSpot ccSpot_ok rNil))))) (runBy spotPStep spotPM)) Laws.nil) 200 Try.f18 (((sc 5 [0, 1, 2, 3, 4] (tAgg 0 0 ccNil ccNil_ok ccIv ccIv_ok (tCod 1 cIv (tCod 2 cIv (tCod 3 cInt (tCod 4 cIv tNil))))) (rL_surf rNil)).enc ((t0a, t0b, t1, t2, t3, t4, ()), (r0, ()))).tmps.map Prod.snd) ((sc 5 [0, 1, 2, 3, 4] (tAgg 0 0 ccNil ccNil_ok ccIv ccIv_ok (tCod 1 cIv (tCod 2 cIv (tCod 3 cInt (tCod 4 cIv tNil))))) (rL_surf rNil)).enc ((t0a, t0b, t1, t2, t3, t4, ()), (r0, ()))).mem (cTwo cSpot cInt).dec =
      .br ((@Nat.cast Int _ r0.length) == 0) (.ret (((0, 0, Iv.mk 0 0 false, Iv.mk 0 0 false, Iv.mk 0 0 false), 1))) (.br (decide (t3 < 1)) (.ret (((0, 0, Iv.mk 0 0 false, Iv.mk 0 0 false, Iv.mk 0 0 false), 1))) (.br (decide (t3 > 16)) (.ret (((0, 0, Iv.mk 0 0 false, Iv.mk 0 0 false, Iv.mk 0 0 false), 1))) (.bind (t1.right) fun vb0 => .br (!vb0) (.ret (((0, 0, Iv.mk 0 0 false, Iv.mk 0 0 false, Iv.mk 0 0 false), 1))) (.bind (t2.right) fun vb1 => .br (!vb1) (.ret (((0, 0, Iv.mk 0 0 false, Iv.mk 0 0 false, Iv.mk 0 0 false), 1))) (.br (Ev.lenOk r0) (.bind (lastOf r0) fun viv2 => .bind (viv2.add t4) fun viv3 => .br (true) (.bind (((), List.map cxOf (cellsP (cellsR t3)), ())) fun vy4 => .get (runBy spotPStep spotPM ((0, (@Nat.cast Int _ vy4.2.1.length), t3, ()), vy4.2.1, t0b, t1, t2, viv3, (0, 0, Iv.mk 0 0 false, Iv.mk 0 0 false, Iv.mk 0 0 false), [], (0, 0, Iv.mk 0 0 false, Iv.mk 0 0 false, Iv.mk 0 0 false), r0, ())) fun vy5 => .br (Ev.lenOk vy5.2.1) (.bind (meanOf Prod.fst vy5.2.1) fun viv6 => .br (Ev.lenOk vy5.2.1) (.bind (meanOf Prod.snd vy5.2.1) fun viv7 => .br (Ev.lenOk vy5.2.1) (.bind (meanOf (sqOf ((@Nat.cast Int _ vy5.2.1.length), vy5.2.2.1.2.1, viv6, viv7, vy5.2.2.1.2.2.2.2)) vy5.2.1) fun viv8 => .ret ((((@Nat.cast Int _ vy5.2.1.length), vy5.2.2.1.2.1, viv6, viv7, viv8), 0))) (.fail)) (.fail)) (.fail)) (.fail)) (.fail)))))) := by kernel_rfl
theorem c_spot_Of : PlainS Try.prog 18 (sc 5 [0, 1, 2, 3, 4] (tAgg 0 0 ccNil ccNil_ok ccIv ccIv_ok (tCod 1 cIv (tCod 2 cIv (tCod 3 cInt (tCod 4 cIv tNil))))) (rL_surf rNil)) (cTwo cSpot cInt) ((fun x => lenOk x.2.1)) ((fun x => spotOf x.1.2.1 x.2.1 x.1.2.2.1 x.1.2.2.2.1 x.1.2.2.2.2.1 x.1.2.2.2.2.2.1)) := by
  intro x h N w vs hM hv
  obtain ⟨⟨t0a, t0b, t1, t2, t3, t4, ⟨⟩⟩, ⟨r0, ⟨⟩⟩⟩ := x
  refine calls_of_tree (n := 200) (EnvOK.add s_pupil_Aim (EnvOK.add s_iv_Right (EnvOK.add s_gauss_Cells (EnvOK.add s_gauss_InDisc (EnvOK.add s_iv_Add (EnvOK.add s_system_Last (EnvOK.add s_trace_Through (EnvOK.add s_spot_meanone (EnvOK.add s_spot_meantwo (EnvOK.add s_spot_meanthree (EnvOK.add s_spot_Of_1 (EnvOK.add s_spot_Of_2 (EnvOK.add s_spot_Of_3 EnvOK.nil))))))))))))) Try.func18 hv (Nat.le_of_ble_eq_true (by kernel_rfl)) (LFn.add (fn := Try.f18) (i := 7) (by kernel_rfl) ok_spot_Of_7 LFn.nil) hM (cTwo cSpot cInt) ?_
  rw [t_spot_Of]
  simp only at h
  simp only [den_br, den_bind, den_ret, den_fail, decide_eq_true_eq, gt_iff_lt, ge_iff_le, beq_iff_eq, h, if_true]
  have hz : ((0, 0, ⟨0, 0, false⟩, ⟨0, 0, false⟩, ⟨0, 0, false⟩) : SpotV) = zeroS := rfl
  simp only [hz]
  by_cases hs : sizedC r0 t3 = true
  case neg =>
    have hs2 : ¬ (0 < (r0.length : Int) ∧ 1 ≤ t3 ∧ t3 ≤ 16) := fun e => hs (sizedC_iff.2 e)
    by_cases c1 : (r0.length : Int) = 0
    · simp [hs, c1, spotOf]
    by_cases c2 : t3 < 1
    · simp [hs, c1, c2, spotOf]
    have c3 : 16 < t3 := by omega
    simp [hs, c1, c2, c3, spotOf]
  have hs' := sizedC_iff.1 hs
  simp only [show ¬ (r0.length : Int) = 0 by omega, show ¬ t3 < 1 by omega, show ¬ 16 < t3 by omega, if_false]
  by_cases c1 : t1.right = true
  case neg => simp [hs, c1, spotOf]
  by_cases c2 : t2.right = true
  case neg => simp [hs, c1, c2, spotOf]
  simp only [c1, c2, Bool.not_true, Bool.false_eq_true, if_false]
  have hlen := lenOk_iff.2 (Nat.le_trans (spotFold_len t0b r0 t1 t2 ((lastOf r0).add t4) (n := t3) (by omega)) (by decide : 1024 ≤ 1048576))
  have hr := spotP_run (o := t0b) (x := t1) (y := t2) (at_ := (lastOf r0).add t4) (res := zeroS) h hs'.2
  simp only [hr, den_get, hlen, if_true, den_br, den_bind, den_ret, spotOf, hs, c1, c2, and_self]
  rfl
theorem s_spot_Of : Ev.Spec Try.prog 18 (FS (sc 5 [0, 1, 2, 3, 4] (tAgg 0 0 ccNil ccNil_ok ccIv ccIv_ok (tCod 1 cIv (tCod 2 cIv (tCod 3 cInt (tCod 4 cIv tNil))))) (rL_surf rNil)) (cTwo cSpot cInt) ((fun x => lenOk x.2.1)) ((fun x => spotOf x.1.2.1 x.2.1 x.1.2.2.1 x.1.2.2.2.1 x.1.2.2.2.2.1 x.1.2.2.2.2.2.1))) := specS rfl (fun vs w => Try.call18 vs w) c_spot_Of
end Go.Proofs.Ytliglpiofomelaa
