/-
  Contracts of calls, written by a small program of this session out of the evaluator's trees.
-/
import Derived.Test.YtliglpiofomelaaGreatCore
import Derived.Test.YtliglpiofomelaaGreatCoreLoops
import Derived.Test.YtliglpiofomelaaGreatCore2
import Derived.Test.YtliglpiofomelaaGreatCore3
import Derived.Test.YtliglpiofomelaaGreatCore4
import Derived.Test.YtliglpiofomelaaGreatCore5
import Derived.Test.YtliglpiofomelaaGreatCore6
import Derived.Test.YtliglpiofomelaaGreatCore7
import Derived.Test.YtliglpiofomelaaGreatCore8
import Derived.Test.YtliglpiofomelaaGreatCore9
import Derived.Test.YtliglpiofomelaaGreatEvMore
import Derived.Test.YtliglpiofomelaaGreatSym
import Derived.Test.YtliglpiofomelaaGreatSysF
import Derived.Test.YtliglpiofomelaaGreatLess2
import Derived.Test.YtliglpiofomelaaGreatFloCod
import Derived.Test.YtliglpiofomelaaGreatGs
import Derived.Test.YtliglpiofomelaaGreatPup
import Derived.Test.YtliglpiofomelaaGreatR0
import Derived.Test.YtliglpiofomelaaGreatG0
import Derived.Test.YtliglpiofomelaaGreatVig
import Derived.Test.YtliglpiofomelaaGreatW0
import Derived.Test.YtliglpiofomelaaGreatEvCod
import Derived.Test.YtliglpiofomelaaGreatEvRet
import Derived.Test.YtliglpiofomelaaGreatProg
namespace Go.Proofs.YtliglpiofomelaaGreat
open Go Go.RowKit Ev
set_option maxRecDepth 100000
set_option linter.unusedVariables false
set_option linter.unusedSimpArgs false

/-! vignette.Table -/
theorem tl_vignette_Table_5 (t29 : Int) (t28 : Int) (t1 : Int) (t3 : Int) (r0 : Iv) (r1 : List RowV) (r2 : List Surf) :
    ev Tryz.prog (Env.add 18 (F1 cInt cIv Iv.point) (Env.add 28 (FS (sc 4 [0, 1, 2, 3] (tAgg 0 0 ccNil ccNil_ok ccIv ccIv_ok (tCod 1 cIv (tCod 2 cIv (tCod 3 cInt tNil)))) (rL_surf rNil)) (cTwo cRep cInt) ((fun x => lenOk x.2.1)) ((fun x => (repC (scanOf x.1.2.1 x.2.1 x.1.2.2.1 x.1.2.2.2.1 x.1.2.2.2.2.1).1, (scanOf x.1.2.1 x.2.1 x.1.2.2.1 x.1.2.2.2.1 x.1.2.2.2.2.1).2)))) (Env.add 39 (F2 cIv cIv cIv Iv.div) (Env.add 41 (F1 cInt cIv Iv.whole) (Env.add 49 (F2 cInt cInt cIv Iv.of) Env.nil))))) Laws.nil 200 none (loopAt Tryz.f24 5) ((sc 79 [29, 28, 1, 3, 4, 10] (tCod 29 cInt (tCod 28 cInt (tCod 1 cInt (tCod 3 cInt (tOwn 4 0 (tSl 10 1 tNil)))))) (rBoxSl 2 ccIv ccIv_ok (rG_row 53 (rL_surf rNil)))).enc ((t29, t28, t1, t3, ()), (r0, r1, r2, ()))) (backK (sc 79 [29, 28, 1, 3, 4, 10] (tCod 29 cInt (tCod 28 cInt (tCod 1 cInt (tCod 3 cInt (tOwn 4 0 (tSl 10 1 tNil)))))) (rBoxSl 2 ccIv ccIv_ok (rG_row 53 (rL_surf rNil)))) (ocOr (ocExit 0 (sc 79 [10] (tSl 10 0 tNil) (rG_row 53 rNil))) (ocRet (sc 79 [9, 8] (tCod 9 cInt (tSl 8 0 tNil)) (rG_row 53 rNil))))) =
      .br (decide (t29 < t28)) (.bind (Iv.of (IntKind.i64.wrap (t29 * t1)) (IntKind.i64.wrap (IntKind.i64.wrap (t29 + 1) * t1))) fun viv0 => .bind (Iv.point 0) fun viv1 => .br (Ev.lenOk r2) (.bind ((repC (scanOf r0 r2 viv0 viv1 t3).1, (scanOf r0 r2 viv0 viv1 t3).2)) fun vy2 => .br (vy2.2 != 0) (.ret (Sum.inr (Sum.inr ((vy2.2, ()), [], ())))) (.bind (Iv.of (IntKind.i64.wrap (vy2.1.1 * 65536)) (IntKind.i64.wrap (IntKind.i64.wrap (vy2.1.1 + vy2.1.2.1) * 65536))) fun viv3 => .bind (Iv.whole vy2.1.2.2.1) fun viv4 => .bind (viv3.div viv4) fun viv5 => .br (Ev.lenOk (r1 ++ [(viv0, viv5, vy2.1)])) (.ret (Sum.inl ((IntKind.i64.wrap (t29 + 1), t28, t1, t3, ()), r0, r1 ++ [(viv0, viv5, vy2.1)], r2, ()))) (.fail))) (.fail)) (.ret (Sum.inr (Sum.inl ((), r1, ())))) := by kernel_rfl
theorem ok_vignette_Table_5 : LOK Tryz.prog (LoopR.of (sc 79 [29, 28, 1, 3, 4, 10] (tCod 29 cInt (tCod 28 cInt (tCod 1 cInt (tCod 3 cInt (tOwn 4 0 (tSl 10 1 tNil)))))) (rBoxSl 2 ccIv ccIv_ok (rG_row 53 (rL_surf rNil)))) (ocOr (ocExit 0 (sc 79 [10] (tSl 10 0 tNil) (rG_row 53 rNil))) (ocRet (sc 79 [9, 8] (tCod 9 cInt (tSl 8 0 tNil)) (rG_row 53 rNil)))) (runBy (tabStep rowVC) tabM)) (loopAt Tryz.f24 5) := by
  refine loop_ok (EnvOK.add s_iv_Point (EnvOK.add s_pupil_Scan (EnvOK.add s_iv_Div (EnvOK.add s_iv_Whole (EnvOK.add s_iv_Of EnvOK.nil))))) (LFn.at (fn := Tryz.f24) LFn.nil 5) ((tabStep rowVC)) (n := 200) (fun x z h => ?_) (runBy_ok _ _)
  obtain ⟨⟨t29, t28, t1, t3, ⟨⟩⟩, ⟨r0, r1, r2, ⟨⟩⟩⟩ := x
  rw [tl_vignette_Table_5]
  rw [← h]
  simp only [tabStep]
  simp only [den_br, den_bind, den_ret, den_fail, decide_eq_true_eq, gt_iff_lt, ge_iff_le, beq_iff_eq]
  by_cases h0 : t29 < t28 <;> simp only [h0, if_true, if_false]
  by_cases hl : Ev.lenOk r2 = true <;> simp only [hl, if_true, if_false, Bool.false_eq_true]
  rw [show Iv.of (IntKind.i64.wrap (t29 * t1)) (IntKind.i64.wrap (IntKind.i64.wrap (t29 + 1) * t1)) = filmK t1 t29 from rfl]
  by_cases e : (scanOf r0 r2 (filmK t1 t29) (Iv.point 0) t3).2 = 0
  · simp only [e, bne_self_eq_false, Bool.false_eq_true, if_false, ne_eq, not_true_eq_false]
    rfl
  · have e' : ((scanOf r0 r2 (filmK t1 t29) (Iv.point 0) t3).2 != 0) = true := by simp [e]
    simp only [e, e', if_true, ne_eq, not_false_eq_true]
theorem t_vignette_Table (t0a : Unit) (t0b : Iv) (t1 : Int) (t2 : Int) (t3 : Int) (r0 : List Surf) :
    evFnR Tryz.prog (Env.add 18 (F1 cInt cIv Iv.point) (Env.add 28 (FS (sc 4 [0, 1, 2, 3] (tAgg 0 0 ccNil ccNil_ok ccIv ccIv_ok (tCod 1 cIv (tCod 2 cIv (tCod 3 cInt tNil)))) (rL_surf rNil)) (cTwo cRep cInt) ((fun x => lenOk x.2.1)) ((fun x => (repC (scanOf x.1.2.1 x.2.1 x.1.2.2.1 x.1.2.2.2.1 x.1.2.2.2.2.1).1, (scanOf x.1.2.1 x.2.1 x.1.2.2.1 x.1.2.2.2.1 x.1.2.2.2.2.1).2)))) (Env.add 39 (F2 cIv cIv cIv Iv.div) (Env.add 41 (F1 cInt cIv Iv.whole) (Env.add 49 (F2 cInt cInt cIv Iv.of) Env.nil))))) (Laws.add 5 (LoopR.of (sc 79 [29, 28, 1, 3, 4, 10] (tCod 29 cInt (tCod 28 cInt (tCod 1 cInt (tCod 3 cInt (tOwn 4 0 (tSl 10 1 tNil)))))) (rBoxSl 2 ccIv ccIv_ok (rG_row 53 (rL_surf rNil)))) (ocOr (ocExit 0 (sc 79 [10] (tSl 10 0 tNil) (rG_row 53 rNil))) (ocRet (sc 79 [9, 8] (tCod 9 cInt (tSl 8 0 tNil)) (rG_row 53 rNil)))) (runBy (tabStep rowVC) tabM)) Laws.nil) 200 Tryz.f24 (((sc 4 [0, 1, 2, 3] (tAgg 0 0 ccNil ccNil_ok ccIv ccIv_ok (tCod 1 cInt (tCod 2 cInt (tCod 3 cInt tNil)))) (rL_surf rNil)).enc ((t0a, t0b, t1, t2, t3, ()), (r0, ()))).tmps.map Prod.snd) ((sc 4 [0, 1, 2, 3] (tAgg 0 0 ccNil ccNil_ok ccIv ccIv_ok (tCod 1 cInt (tCod 2 cInt (tCod 3 cInt tNil)))) (rL_surf rNil)).enc ((t0a, t0b, t1, t2, t3, ()), (r0, ()))).mem (sc 2 [0, 1] (tSl 0 0 (tCod 1 cInt tNil)) (rG_row 53 rNil)).ts (sc 2 [0, 1] (tSl 0 0 (tCod 1 cInt tNil)) (rG_row 53 rNil)).dec =
      .br (decide (t1 < 1)) (.ret (((1, ()), [], ()))) (.br (decide (t1 > 1048576)) (.ret (((1, ()), [], ()))) (.br (decide (t2 < 1)) (.ret (((1, ()), [], ()))) (.br (decide (t2 > 16)) (.ret (((1, ()), [], ()))) (.get (runBy (tabStep rowVC) tabM ((0, t2, t1, t3, ()), t0b, [], r0, ())) fun vy0 => .sum (vy0) (fun vs1 => .ret (((0, ()), vs1.2.1, ()))) (fun vs2 => .ret (((vs2.1.1, ()), vs2.2.1, ()))))))) := by kernel_rfl
theorem c_vignette_Table : PlainR Tryz.prog 24 (sc 4 [0, 1, 2, 3] (tAgg 0 0 ccNil ccNil_ok ccIv ccIv_ok (tCod 1 cInt (tCod 2 cInt (tCod 3 cInt tNil)))) (rL_surf rNil)) (sc 2 [0, 1] (tSl 0 0 (tCod 1 cInt tNil)) (rG_row 53 rNil)) ((fun x => lenOk x.2.1)) ((fun x => (((tableOf x.1.2.1 x.2.1 x.1.2.2.1 x.1.2.2.2.1 x.1.2.2.2.2.1).2, ()), ((tableOf x.1.2.1 x.2.1 x.1.2.2.1 x.1.2.2.2.1 x.1.2.2.2.2.1).1.map rowVC, ())))) := by
  intro x h N w vs hM hv
  obtain ⟨⟨t0a, t0b, t1, t2, t3, ⟨⟩⟩, ⟨r0, ⟨⟩⟩⟩ := x
  refine calls_of_treeR (n := 200) (EnvOK.add s_iv_Point (EnvOK.add s_pupil_Scan (EnvOK.add s_iv_Div (EnvOK.add s_iv_Whole (EnvOK.add s_iv_Of EnvOK.nil))))) Tryz.func24 hv (Nat.le_of_ble_eq_true (by kernel_rfl)) (LFn.add (fn := Tryz.f24) (i := 5) (by kernel_rfl) ok_vignette_Table_5 LFn.nil) hM (sc 2 [0, 1] (tSl 0 0 (tCod 1 cInt tNil)) (rG_row 53 rNil)) rfl ?_
  rw [t_vignette_Table]
  simp only at h
  simp only [den_br, den_bind, den_ret, den_fail, decide_eq_true_eq, gt_iff_lt, ge_iff_le]
  by_cases ho : (1 ≤ t1 ∧ t1 ≤ 1048576) ∧ (1 ≤ t2 ∧ t2 ≤ 16)
  case neg =>
    have ht : tabOk r0 t1 t2 t3 = false := by
      cases e : tabOk r0 t1 t2 t3
      · rfl
      · simp only [tabOk, Bool.and_eq_true, decide_eq_true_eq] at e
        exact absurd ⟨e.1, e.2.1⟩ ho
    have e : tableOf t0b r0 t1 t2 t3 = ([], 1) := by unfold tableOf; rw [ht]; rfl
    by_cases c1 : t1 < 1
    · simp [c1, e]
    by_cases c2 : 1048576 < t1
    · simp [c1, c2, e]
    by_cases c3 : t2 < 1
    · simp [c1, c2, c3, e]
    have c4 : 16 < t2 := by omega
    simp [c1, c2, c3, c4, e]
  have hr := tab_run rowVC (o := t0b) (n := t3) h ho.1 ho.2
  simp only [show ¬ t1 < 1 by omega, show ¬ 1048576 < t1 by omega, show ¬ t2 < 1 by omega, show ¬ 16 < t2 by omega, if_false, hr, den_get]
  have ht : tabOk r0 t1 t2 t3 = sizedC r0 t3 := by
    unfold tabOk
    rw [decide_eq_true ho.1, decide_eq_true ho.2]; rfl
  by_cases c : sizedC r0 t3 = true
  · simp only [c, if_true, den_inl, den_ret, tableOf, ht]
    rw [List.map_map]; rfl
  · simp only [c, if_false, den_inr, den_ret, tableOf, ht, Bool.false_eq_true]; try rfl
theorem s_vignette_Table : Ev.Spec Tryz.prog 24 (FR (sc 4 [0, 1, 2, 3] (tAgg 0 0 ccNil ccNil_ok ccIv ccIv_ok (tCod 1 cInt (tCod 2 cInt (tCod 3 cInt tNil)))) (rL_surf rNil)) (sc 2 [0, 1] (tSl 0 0 (tCod 1 cInt tNil)) (rG_row 53 rNil)) ((fun x => lenOk x.2.1)) ((fun x => (((tableOf x.1.2.1 x.2.1 x.1.2.2.1 x.1.2.2.2.1 x.1.2.2.2.2.1).2, ()), ((tableOf x.1.2.1 x.2.1 x.1.2.2.1 x.1.2.2.2.1 x.1.2.2.2.2.1).1.map rowVC, ()))))) := specR rfl (fun _ => rfl) (fun vs w => Tryz.call24 vs w) c_vignette_Table

/-! meniscusref20.Vignette -/
theorem tl_meniscusref20_Vignette_5 (t11 : Int) (t2 : Int) (t1 : Int) (t3 : Int) (r0 : Iv) (r1 : List DRow) (r2 : List Surf) :
    ev Tryz.prog (Env.add 29 (FS (sc 4 [0, 1, 2, 3] (tAgg 0 0 ccNil ccNil_ok ccIv ccIv_ok (tCod 1 cIv (tCod 2 cIv (tCod 3 cInt tNil)))) (rL_surf rNil)) (cTwo cDRep cInt) ((fun x => lenOk x.2.1)) ((fun x => scanOf x.1.2.1 x.2.1 x.1.2.2.1 x.1.2.2.2.1 x.1.2.2.2.2.1))) (Env.add 88 (F1 cInt cIv Iv.point) (Env.add 98 (F2 cInt cInt cIv Iv.of) (Env.add 99 (F2 cIv cIv cIv Iv.div) (Env.add 100 (F1 cInt cIv Iv.whole) Env.nil))))) Laws.nil 200 none (loopAt Tryz.f48 5) ((sc 77 [11, 2, 1, 3, 4, 10] (tCod 11 cInt (tCod 2 cInt (tCod 1 cInt (tCod 3 cInt (tOwn 4 0 (tSl 10 1 tNil)))))) (rBoxSl 2 ccIv ccIv_ok (rG_drow 96 (rL_surf rNil)))).enc ((t11, t2, t1, t3, ()), (r0, r1, r2, ()))) (backK (sc 77 [11, 2, 1, 3, 4, 10] (tCod 11 cInt (tCod 2 cInt (tCod 1 cInt (tCod 3 cInt (tOwn 4 0 (tSl 10 1 tNil)))))) (rBoxSl 2 ccIv ccIv_ok (rG_drow 96 (rL_surf rNil)))) (ocOr (ocExit 0 (sc 77 [10] (tSl 10 0 tNil) (rG_drow 96 rNil))) (ocRet (sc 77 [9, 8] (tCod 9 cInt (tSl 8 0 tNil)) (rG_drow 96 rNil))))) =
      .br (decide (t11 < t2)) (.bind (Iv.of (IntKind.i64.wrap (t11 * t1)) (IntKind.i64.wrap (IntKind.i64.wrap (t11 + 1) * t1))) fun viv0 => .bind (Iv.point 0) fun viv1 => .br (Ev.lenOk r2) (.bind (scanOf r0 r2 viv0 viv1 t3) fun vy2 => .br (vy2.2 != 0) (.ret (Sum.inr (Sum.inr ((vy2.2, ()), [], ())))) (.bind (Iv.of (IntKind.i64.wrap (vy2.1.1 * 65536)) (IntKind.i64.wrap (IntKind.i64.wrap (vy2.1.1 + vy2.1.2.1) * 65536))) fun viv3 => .bind (Iv.whole vy2.1.2.2.1) fun viv4 => .bind (viv3.div viv4) fun viv5 => .br (Ev.lenOk (r1 ++ [(viv0, viv5, vy2.1)])) (.ret (Sum.inl ((IntKind.i64.wrap (t11 + 1), t2, t1, t3, ()), r0, r1 ++ [(viv0, viv5, vy2.1)], r2, ()))) (.fail))) (.fail)) (.ret (Sum.inr (Sum.inl ((), r1, ())))) := by kernel_rfl
theorem ok_meniscusref20_Vignette_5 : LOK Tryz.prog (LoopR.of (sc 77 [11, 2, 1, 3, 4, 10] (tCod 11 cInt (tCod 2 cInt (tCod 1 cInt (tCod 3 cInt (tOwn 4 0 (tSl 10 1 tNil)))))) (rBoxSl 2 ccIv ccIv_ok (rG_drow 96 (rL_surf rNil)))) (ocOr (ocExit 0 (sc 77 [10] (tSl 10 0 tNil) (rG_drow 96 rNil))) (ocRet (sc 77 [9, 8] (tCod 9 cInt (tSl 8 0 tNil)) (rG_drow 96 rNil)))) (runBy (tabStep id) tabM)) (loopAt Tryz.f48 5) := by
  refine loop_ok (EnvOK.add s_meniscusref20_Scan (EnvOK.add s_meniscusref1_Point (EnvOK.add s_meniscusref1_Of (EnvOK.add s_meniscusref1_DivIv (EnvOK.add s_meniscusref1_Whole EnvOK.nil))))) (LFn.at (fn := Tryz.f48) LFn.nil 5) ((tabStep id)) (n := 200) (fun x z h => ?_) (runBy_ok _ _)
  obtain ⟨⟨t11, t2, t1, t3, ⟨⟩⟩, ⟨r0, r1, r2, ⟨⟩⟩⟩ := x
  rw [tl_meniscusref20_Vignette_5]
  rw [← h]
  simp only [tabStep]
  simp only [den_br, den_bind, den_ret, den_fail, decide_eq_true_eq, gt_iff_lt, ge_iff_le, beq_iff_eq]
  by_cases h0 : t11 < t2 <;> simp only [h0, if_true, if_false]
  by_cases hl : Ev.lenOk r2 = true <;> simp only [hl, if_true, if_false, Bool.false_eq_true]
  rw [show Iv.of (IntKind.i64.wrap (t11 * t1)) (IntKind.i64.wrap (IntKind.i64.wrap (t11 + 1) * t1)) = filmK t1 t11 from rfl]
  by_cases e : (scanOf r0 r2 (filmK t1 t11) (Iv.point 0) t3).2 = 0
  · simp only [e, bne_self_eq_false, Bool.false_eq_true, if_false, ne_eq, not_true_eq_false]
    rfl
  · have e' : ((scanOf r0 r2 (filmK t1 t11) (Iv.point 0) t3).2 != 0) = true := by simp [e]
    simp only [e, e', if_true, ne_eq, not_false_eq_true]
theorem t_meniscusref20_Vignette (t0a : Unit) (t0b : Iv) (t1 : Int) (t2 : Int) (t3 : Int) (r0 : List Surf) :
    evFnR Tryz.prog (Env.add 29 (FS (sc 4 [0, 1, 2, 3] (tAgg 0 0 ccNil ccNil_ok ccIv ccIv_ok (tCod 1 cIv (tCod 2 cIv (tCod 3 cInt tNil)))) (rL_surf rNil)) (cTwo cDRep cInt) ((fun x => lenOk x.2.1)) ((fun x => scanOf x.1.2.1 x.2.1 x.1.2.2.1 x.1.2.2.2.1 x.1.2.2.2.2.1))) (Env.add 88 (F1 cInt cIv Iv.point) (Env.add 98 (F2 cInt cInt cIv Iv.of) (Env.add 99 (F2 cIv cIv cIv Iv.div) (Env.add 100 (F1 cInt cIv Iv.whole) Env.nil))))) (Laws.add 5 (LoopR.of (sc 77 [11, 2, 1, 3, 4, 10] (tCod 11 cInt (tCod 2 cInt (tCod 1 cInt (tCod 3 cInt (tOwn 4 0 (tSl 10 1 tNil)))))) (rBoxSl 2 ccIv ccIv_ok (rG_drow 96 (rL_surf rNil)))) (ocOr (ocExit 0 (sc 77 [10] (tSl 10 0 tNil) (rG_drow 96 rNil))) (ocRet (sc 77 [9, 8] (tCod 9 cInt (tSl 8 0 tNil)) (rG_drow 96 rNil)))) (runBy (tabStep id) tabM)) Laws.nil) 200 Tryz.f48 (((sc 4 [0, 1, 2, 3] (tAgg 0 0 ccNil ccNil_ok ccIv ccIv_ok (tCod 1 cInt (tCod 2 cInt (tCod 3 cInt tNil)))) (rL_surf rNil)).enc ((t0a, t0b, t1, t2, t3, ()), (r0, ()))).tmps.map Prod.snd) ((sc 4 [0, 1, 2, 3] (tAgg 0 0 ccNil ccNil_ok ccIv ccIv_ok (tCod 1 cInt (tCod 2 cInt (tCod 3 cInt tNil)))) (rL_surf rNil)).enc ((t0a, t0b, t1, t2, t3, ()), (r0, ()))).mem (sc 2 [0, 1] (tSl 0 0 (tCod 1 cInt tNil)) (rG_drow 96 rNil)).ts (sc 2 [0, 1] (tSl 0 0 (tCod 1 cInt tNil)) (rG_drow 96 rNil)).dec =
      .br (decide (t1 < 1)) (.ret (((1, ()), [], ()))) (.br (decide (t1 > 1048576)) (.ret (((1, ()), [], ()))) (.br (decide (t2 < 1)) (.ret (((1, ()), [], ()))) (.br (decide (t2 > 16)) (.ret (((1, ()), [], ()))) (.get (runBy (tabStep id) tabM ((0, t2, t1, t3, ()), t0b, [], r0, ())) fun vy0 => .sum (vy0) (fun vs1 => .ret (((0, ()), vs1.2.1, ()))) (fun vs2 => .ret (((vs2.1.1, ()), vs2.2.1, ()))))))) := by kernel_rfl
theorem c_meniscusref20_Vignette : PlainR Tryz.prog 48 (sc 4 [0, 1, 2, 3] (tAgg 0 0 ccNil ccNil_ok ccIv ccIv_ok (tCod 1 cInt (tCod 2 cInt (tCod 3 cInt tNil)))) (rL_surf rNil)) (sc 2 [0, 1] (tSl 0 0 (tCod 1 cInt tNil)) (rG_drow 96 rNil)) ((fun x => lenOk x.2.1)) ((fun x => (((tableOf x.1.2.1 x.2.1 x.1.2.2.1 x.1.2.2.2.1 x.1.2.2.2.2.1).2, ()), ((tableOf x.1.2.1 x.2.1 x.1.2.2.1 x.1.2.2.2.1 x.1.2.2.2.2.1).1, ())))) := by
  intro x h N w vs hM hv
  obtain ⟨⟨t0a, t0b, t1, t2, t3, ⟨⟩⟩, ⟨r0, ⟨⟩⟩⟩ := x
  refine calls_of_treeR (n := 200) (EnvOK.add s_meniscusref20_Scan (EnvOK.add s_meniscusref1_Point (EnvOK.add s_meniscusref1_Of (EnvOK.add s_meniscusref1_DivIv (EnvOK.add s_meniscusref1_Whole EnvOK.nil))))) Tryz.func48 hv (Nat.le_of_ble_eq_true (by kernel_rfl)) (LFn.add (fn := Tryz.f48) (i := 5) (by kernel_rfl) ok_meniscusref20_Vignette_5 LFn.nil) hM (sc 2 [0, 1] (tSl 0 0 (tCod 1 cInt tNil)) (rG_drow 96 rNil)) rfl ?_
  rw [t_meniscusref20_Vignette]
  simp only at h
  simp only [den_br, den_bind, den_ret, den_fail, decide_eq_true_eq, gt_iff_lt, ge_iff_le]
  by_cases ho : (1 ≤ t1 ∧ t1 ≤ 1048576) ∧ (1 ≤ t2 ∧ t2 ≤ 16)
  case neg =>
    have ht : tabOk r0 t1 t2 t3 = false := by
      cases e : tabOk r0 t1 t2 t3
      · rfl
      · simp only [tabOk, Bool.and_eq_true, decide_eq_true_eq] at e
        exact absurd ⟨e.1, e.2.1⟩ ho
    have e : tableOf t0b r0 t1 t2 t3 = ([], 1) := by unfold tableOf; rw [ht]; rfl
    by_cases c1 : t1 < 1
    · simp [c1, e]
    by_cases c2 : 1048576 < t1
    · simp [c1, c2, e]
    by_cases c3 : t2 < 1
    · simp [c1, c2, c3, e]
    have c4 : 16 < t2 := by omega
    simp [c1, c2, c3, c4, e]
  have hr := tab_run id (o := t0b) (n := t3) h ho.1 ho.2
  simp only [show ¬ t1 < 1 by omega, show ¬ 1048576 < t1 by omega, show ¬ t2 < 1 by omega, show ¬ 16 < t2 by omega, if_false, hr, den_get]
  have ht : tabOk r0 t1 t2 t3 = sizedC r0 t3 := by
    unfold tabOk
    rw [decide_eq_true ho.1, decide_eq_true ho.2]; rfl
  by_cases c : sizedC r0 t3 = true
  · simp only [c, if_true, den_inl, den_ret, tableOf, ht]
    try rfl
  · simp only [c, if_false, den_inr, den_ret, tableOf, ht, Bool.false_eq_true]; try rfl
theorem s_meniscusref20_Vignette : Ev.Spec Tryz.prog 48 (FR (sc 4 [0, 1, 2, 3] (tAgg 0 0 ccNil ccNil_ok ccIv ccIv_ok (tCod 1 cInt (tCod 2 cInt (tCod 3 cInt tNil)))) (rL_surf rNil)) (sc 2 [0, 1] (tSl 0 0 (tCod 1 cInt tNil)) (rG_drow 96 rNil)) ((fun x => lenOk x.2.1)) ((fun x => (((tableOf x.1.2.1 x.2.1 x.1.2.2.1 x.1.2.2.2.1 x.1.2.2.2.2.1).2, ()), ((tableOf x.1.2.1 x.2.1 x.1.2.2.1 x.1.2.2.2.1 x.1.2.2.2.2.1).1, ()))))) := specR rfl (fun _ => rfl) (fun vs w => Tryz.call48 vs w) c_meniscusref20_Vignette
end Go.Proofs.YtliglpiofomelaaGreat
