/-
  Contracts of calls, written by a small program of this session out of the evaluator's trees.
-/
import Derived.Test.YtliglpiofomelaaGreatCore
import Derived.Test.YtliglpiofomelaaGreatCoreLoops
import Derived.Test.YtliglpiofomelaaGreatCore2
import Derived.Test.YtliglpiofomelaaGreatCore3
import Derived.Test.YtliglpiofomelaaGreatCore4
import Derived.Test.YtliglpiofomelaaGreatCore5
import Derived.Test.YtliglpiofomelaaGreatCore6
import Derived.Test.YtliglpiofomelaaGreatCore7
import Derived.Test.YtliglpiofomelaaGreatCore8
import Derived.Test.YtliglpiofomelaaGreatCore9
import Derived.Test.YtliglpiofomelaaGreatEvMore
import Derived.Test.YtliglpiofomelaaGreatSym
import Derived.Test.YtliglpiofomelaaGreatSysF
import Derived.Test.YtliglpiofomelaaGreatLess2
import Derived.Test.YtliglpiofomelaaGreatFloCod
import Derived.Test.YtliglpiofomelaaGreatGs
import Derived.Test.YtliglpiofomelaaGreatPup
import Derived.Test.YtliglpiofomelaaGreatR0
import Derived.Test.YtliglpiofomelaaGreatG0
import Derived.Test.YtliglpiofomelaaGreatVig
import Derived.Test.YtliglpiofomelaaGreatW0
import Derived.Test.YtliglpiofomelaaGreatEvCod
import Derived.Test.YtliglpiofomelaaGreatEvRet
import Derived.Test.YtliglpiofomelaaGreatProg
namespace Go.Proofs.YtliglpiofomelaaGreat
open Go Go.RowKit Ev
set_option maxRecDepth 100000
set_option linter.unusedVariables false
set_option linter.unusedSimpArgs false

/-! system.Last -/
theorem t_system_Last (t0a : Unit) (t0b : Iv) (r0 : List Surf) :
    evFn Tryz.prog (Env.add 51 (F0 cIv Iv.none) Env.nil) Laws.nil 200 Tryz.f54 (((sc 1 [0] (tAgg 0 0 ccNil ccNil_ok ccIv ccIv_ok tNil) (rL_surf rNil)).enc ((t0a, t0b, ()), (r0, ()))).tmps.map Prod.snd) ((sc 1 [0] (tAgg 0 0 ccNil ccNil_ok ccIv ccIv_ok tNil) (rL_surf rNil)).enc ((t0a, t0b, ()), (r0, ()))).mem cIv.dec =
      .br ((@Nat.cast Int _ r0.length) == 0) (.bind (Iv.none) fun viv0 => .ret (viv0)) (.br (decide (0 ≤ IntKind.i64.wrap ((@Nat.cast Int _ r0.length) - 1) ∧ IntKind.i64.wrap ((@Nat.cast Int _ r0.length) - 1) < (@Nat.cast Int _ r0.length))) (.get (r0[(IntKind.i64.wrap ((@Nat.cast Int _ r0.length) - 1)).toNat]?) fun vt1 => .ret (vt1.at_)) (.fail)) := by kernel_rfl
theorem c_system_Last : PlainS Tryz.prog 54 (sc 1 [0] (tAgg 0 0 ccNil ccNil_ok ccIv ccIv_ok tNil) (rL_surf rNil)) cIv ((fun x => lenOk x.2.1)) ((fun x => lastOf x.2.1)) := by
  intro x h N w vs hM hv
  obtain ⟨⟨t0a, t0b, ⟨⟩⟩, ⟨r0, ⟨⟩⟩⟩ := x
  refine calls_of_tree (n := 200) (EnvOK.add s_iv_None EnvOK.nil) Tryz.func54 hv (Nat.le_of_ble_eq_true (by kernel_rfl)) LFn.nil hM cIv ?_
  rw [t_system_Last]
  simp only at h
  have hl := lenOk_iff.1 h
  have hw : r0.length ≠ 0 → IntKind.i64.wrap ((r0.length : Int) - 1) = (r0.length : Int) - 1 := fun _ => wr (by omega)
  simp only [den_br, den_bind, den_ret, den_fail, den_inl, den_inr, decide_eq_true_eq, gt_iff_lt, ge_iff_le, beq_iff_eq]
  unfold lastOf
  by_cases c : r0.length = 0
  · simp [c]
  · have c' : ¬ ((r0.length : Int) = 0) := by omega
    have c2 : (0 : Int) ≤ (r0.length : Int) - 1 ∧ (r0.length : Int) - 1 < (r0.length : Int) := by omega
    simp only [c, c', if_false, hw c, c2, and_self, if_true]
    obtain ⟨v, hv⟩ : ∃ v, r0[((r0.length : Int) - 1).toNat]? = some v := ⟨_, List.getElem?_eq_getElem (by omega)⟩
    rw [hv]; rfl
theorem s_system_Last : Ev.Spec Tryz.prog 54 (FS (sc 1 [0] (tAgg 0 0 ccNil ccNil_ok ccIv ccIv_ok tNil) (rL_surf rNil)) cIv ((fun x => lenOk x.2.1)) ((fun x => lastOf x.2.1))) := specS rfl (fun vs w => Tryz.call54 vs w) c_system_Last

/-! meniscusref8.Last -/
theorem t_meniscusref8_Last (t0a : Unit) (t0b : Iv) (r0 : List Surf) :
    evFn Tryz.prog (Env.add 115 (F0 cIv Iv.none) Env.nil) Laws.nil 200 Tryz.f102 (((sc 1 [0] (tAgg 0 0 ccNil ccNil_ok ccIv ccIv_ok tNil) (rL_surf rNil)).enc ((t0a, t0b, ()), (r0, ()))).tmps.map Prod.snd) ((sc 1 [0] (tAgg 0 0 ccNil ccNil_ok ccIv ccIv_ok tNil) (rL_surf rNil)).enc ((t0a, t0b, ()), (r0, ()))).mem cIv.dec =
      .br ((@Nat.cast Int _ r0.length) == 0) (.bind (Iv.none) fun viv0 => .ret (viv0)) (.br (decide (0 ≤ IntKind.i64.wrap ((@Nat.cast Int _ r0.length) - 1) ∧ IntKind.i64.wrap ((@Nat.cast Int _ r0.length) - 1) < (@Nat.cast Int _ r0.length))) (.get (r0[(IntKind.i64.wrap ((@Nat.cast Int _ r0.length) - 1)).toNat]?) fun vt1 => .ret (vt1.at_)) (.fail)) := by kernel_rfl
theorem c_meniscusref8_Last : PlainS Tryz.prog 102 (sc 1 [0] (tAgg 0 0 ccNil ccNil_ok ccIv ccIv_ok tNil) (rL_surf rNil)) cIv ((fun x => lenOk x.2.1)) ((fun x => lastOf x.2.1)) := by
  intro x h N w vs hM hv
  obtain ⟨⟨t0a, t0b, ⟨⟩⟩, ⟨r0, ⟨⟩⟩⟩ := x
  refine calls_of_tree (n := 200) (EnvOK.add s_meniscusref1_None EnvOK.nil) Tryz.func102 hv (Nat.le_of_ble_eq_true (by kernel_rfl)) LFn.nil hM cIv ?_
  rw [t_meniscusref8_Last]
  simp only at h
  have hl := lenOk_iff.1 h
  have hw : r0.length ≠ 0 → IntKind.i64.wrap ((r0.length : Int) - 1) = (r0.length : Int) - 1 := fun _ => wr (by omega)
  simp only [den_br, den_bind, den_ret, den_fail, den_inl, den_inr, decide_eq_true_eq, gt_iff_lt, ge_iff_le, beq_iff_eq]
  unfold lastOf
  by_cases c : r0.length = 0
  · simp [c]
  · have c' : ¬ ((r0.length : Int) = 0) := by omega
    have c2 : (0 : Int) ≤ (r0.length : Int) - 1 ∧ (r0.length : Int) - 1 < (r0.length : Int) := by omega
    simp only [c, c', if_false, hw c, c2, and_self, if_true]
    obtain ⟨v, hv⟩ : ∃ v, r0[((r0.length : Int) - 1).toNat]? = some v := ⟨_, List.getElem?_eq_getElem (by omega)⟩
    rw [hv]; rfl
theorem s_meniscusref8_Last : Ev.Spec Tryz.prog 102 (FS (sc 1 [0] (tAgg 0 0 ccNil ccNil_ok ccIv ccIv_ok tNil) (rL_surf rNil)) cIv ((fun x => lenOk x.2.1)) ((fun x => lastOf x.2.1))) := specS rfl (fun vs w => Tryz.call102 vs w) c_meniscusref8_Last

/-! spot.Of$1 -/
theorem t_spot_Of_1 (x0 : Ivp) :
    evFn Tryz.prog Env.nil Laws.nil 200 Tryz.f64 [cIvp.av x0] [] cIv.dec =
      .ret (x0.1) := by kernel_rfl
theorem c_spot_Of_1 (x0 : Ivp) : Plain Tryz.prog 64 [cIvp.enc x0] (cIv.enc (((fun p => p.1)) x0)) :=
  plain_of_tree (n := 200) EnvOK.nil Tryz.func64 (args := [cIvp.av x0]) (by simp only [AV.vals, Cod.av_val]) (Nat.le_of_ble_eq_true (by kernel_rfl)) LFn.nil cIv (by
    rw [t_spot_Of_1]
    rfl)
theorem s_spot_Of_1 : Ev.Spec Tryz.prog 64 (F1 cIvp cIv ((fun p => p.1))) := spec1 (fun vs w => Tryz.call64 vs w) c_spot_Of_1

/-! spot.Of$2 -/
theorem t_spot_Of_2 (x0 : Ivp) :
    evFn Tryz.prog Env.nil Laws.nil 200 Tryz.f65 [cIvp.av x0] [] cIv.dec =
      .ret (x0.2) := by kernel_rfl
theorem c_spot_Of_2 (x0 : Ivp) : Plain Tryz.prog 65 [cIvp.enc x0] (cIv.enc (((fun p => p.2)) x0)) :=
  plain_of_tree (n := 200) EnvOK.nil Tryz.func65 (args := [cIvp.av x0]) (by simp only [AV.vals, Cod.av_val]) (Nat.le_of_ble_eq_true (by kernel_rfl)) LFn.nil cIv (by
    rw [t_spot_Of_2]
    rfl)
theorem s_spot_Of_2 : Ev.Spec Tryz.prog 65 (F1 cIvp cIv ((fun p => p.2))) := spec1 (fun vs w => Tryz.call65 vs w) c_spot_Of_2

/-! spot.Of$3 -/
theorem t_spot_Of_3 (t0 : Ivp) (r0 : SpotV) :
    evFn Tryz.prog (Env.add 44 (F2 cIv cIv cIv Iv.sub) (Env.add 53 (F2 cIv cIv cIv Iv.add) (Env.add 67 (F1 cIv cIv Iv.sqr) Env.nil))) Laws.nil 200 Tryz.f66 (((sc 2 [0, 1] (tCod 0 cIvp (tOwn 1 0 tNil)) (rRo ccSpot ccSpot_ok rNil)).enc ((t0, ()), (r0, ()))).tmps.map Prod.snd) ((sc 2 [0, 1] (tCod 0 cIvp (tOwn 1 0 tNil)) (rRo ccSpot ccSpot_ok rNil)).enc ((t0, ()), (r0, ()))).mem cIv.dec =
      .bind (t0.1.sub r0.2.2.1) fun viv0 => .bind (viv0.sqr) fun viv1 => .bind (t0.2.sub r0.2.2.2.1) fun viv2 => .bind (viv2.sqr) fun viv3 => .bind (viv1.add viv3) fun viv4 => .ret (viv4) := by kernel_rfl
theorem c_spot_Of_3 : PlainS Tryz.prog 66 (sc 2 [0, 1] (tCod 0 cIvp (tOwn 1 0 tNil)) (rRo ccSpot ccSpot_ok rNil)) cIv (fun _ => true) ((fun x => sqOf x.2.1 x.1.1)) := by
  intro x h N w vs hM hv
  obtain ⟨⟨t0, ⟨⟩⟩, ⟨r0, ⟨⟩⟩⟩ := x
  refine calls_of_tree (n := 200) (EnvOK.add s_iv_Sub (EnvOK.add s_iv_Add (EnvOK.add s_iv_Sqr EnvOK.nil))) Tryz.func66 hv (Nat.le_of_ble_eq_true (by kernel_rfl)) LFn.nil hM cIv ?_
  rw [t_spot_Of_3]
  rfl
theorem s_spot_Of_3 : Ev.Spec Tryz.prog 66 (FS (sc 2 [0, 1] (tCod 0 cIvp (tOwn 1 0 tNil)) (rRo ccSpot ccSpot_ok rNil)) cIv (fun _ => true) ((fun x => sqOf x.2.1 x.1.1))) := specS rfl (fun vs w => Tryz.call66 vs w) c_spot_Of_3

/-! spot.mean -/
theorem tl_spot_meanone_3 (t11 : Int) (t10 : Int) (r0 : List Ivp) (r1 : Iv) (r2 : Iv) :
    ev Tryz.prog (Env.add 18 (F1 cInt cIv Iv.point) (Env.add 39 (F2 cIv cIv cIv Iv.div) (Env.add 41 (F1 cInt cIv Iv.whole) (Env.add 53 (F2 cIv cIv cIv Iv.add) (Env.add 64 (F1 cIvp cIv ((fun p => p.1))) (Env.add 65 (F1 cIvp cIv ((fun p => p.2))) (Env.add 66 (FS (sc 2 [0, 1] (tCod 0 cIvp (tOwn 1 0 tNil)) (rRo ccSpot ccSpot_ok rNil)) cIv (fun _ => true) ((fun x => sqOf x.2.1 x.1.1))) Env.nil))))))) Laws.nil 200 none (loopAt Tryz.f63 3) ((sc 26 [11, 10, 9, 0, 1, 5, 4] (tCod 11 cInt (tCod 10 cInt (tSl 9 0 (tSl 0 0 (tClo 1 64 [] (tOwn 5 1 (tOwn 4 2 tNil))))))) (rL_ivp (rBox ccIv ccIv_ok (rBox ccIv ccIv_ok rNil)))).enc ((t11, t10, ()), (r0, r1, r2, ()))) (backK (sc 26 [11, 10, 9, 0, 1, 5, 4] (tCod 11 cInt (tCod 10 cInt (tSl 9 0 (tSl 0 0 (tClo 1 64 [] (tOwn 5 1 (tOwn 4 2 tNil))))))) (rL_ivp (rBox ccIv ccIv_ok (rBox ccIv ccIv_ok rNil)))) (ocExit 0 (sc 26 [0, 5, 4] (tSl 0 0 (tOwn 5 1 (tOwn 4 2 tNil))) (rL_ivp (rBox ccIv ccIv_ok (rBox ccIv ccIv_ok rNil)))))) =
      .br (decide (t11 < t10)) (.br (decide (0 ≤ t11 ∧ t11 < (@Nat.cast Int _ r0.length))) (.get (r0[t11.toNat]?) fun vt0 => .bind (vt0.1) fun viv1 => .bind (r1.add viv1) fun viv2 => .ret (Sum.inl ((IntKind.i64.wrap (t11 + 1), t10, ()), r0, viv2, r2, ()))) (.fail)) (.ret (Sum.inr ((), r0, r1, r2, ()))) := by kernel_rfl
theorem ok_spot_meanone_3 : LOK Tryz.prog (LoopR.of (sc 26 [11, 10, 9, 0, 1, 5, 4] (tCod 11 cInt (tCod 10 cInt (tSl 9 0 (tSl 0 0 (tClo 1 64 [] (tOwn 5 1 (tOwn 4 2 tNil))))))) (rL_ivp (rBox ccIv ccIv_ok (rBox ccIv ccIv_ok rNil)))) (ocExit 0 (sc 26 [0, 5, 4] (tSl 0 0 (tOwn 5 1 (tOwn 4 2 tNil))) (rL_ivp (rBox ccIv ccIv_ok (rBox ccIv ccIv_ok rNil))))) (runBy meanStep1 meanM1)) (loopAt Tryz.f63 3) := by
  refine loop_ok (EnvOK.add s_iv_Point (EnvOK.add s_iv_Div (EnvOK.add s_iv_Whole (EnvOK.add s_iv_Add (EnvOK.add s_spot_Of_1 (EnvOK.add s_spot_Of_2 (EnvOK.add s_spot_Of_3 EnvOK.nil))))))) (LFn.at (fn := Tryz.f63) LFn.nil 3) meanStep1 (n := 200) (fun x z h => ?_) (runBy_ok _ _)
  obtain ⟨⟨t11, t10, ⟨⟩⟩, ⟨r0, r1, r2, ⟨⟩⟩⟩ := x
  rw [tl_spot_meanone_3]
  rw [← h]
  simp only [meanStep1, meanStep]
  simp only [den_br, den_bind, den_ret, den_fail, decide_eq_true_eq, gt_iff_lt, ge_iff_le, beq_iff_eq]
  by_cases h0 : t11 < t10 <;> simp only [h0, if_true, if_false]
  by_cases h1 : 0 ≤ t11 ∧ t11 < (r0.length : Int) <;> simp only [h1, and_self, if_true, if_false]
  cases hg : r0[t11.toNat]? <;> rfl
theorem t_spot_meanone (r0 : List Ivp) :
    evFn Tryz.prog (Env.add 18 (F1 cInt cIv Iv.point) (Env.add 39 (F2 cIv cIv cIv Iv.div) (Env.add 41 (F1 cInt cIv Iv.whole) (Env.add 53 (F2 cIv cIv cIv Iv.add) (Env.add 64 (F1 cIvp cIv ((fun p => p.1))) (Env.add 65 (F1 cIvp cIv ((fun p => p.2))) (Env.add 66 (FS (sc 2 [0, 1] (tCod 0 cIvp (tOwn 1 0 tNil)) (rRo ccSpot ccSpot_ok rNil)) cIv (fun _ => true) ((fun x => sqOf x.2.1 x.1.1))) Env.nil))))))) (Laws.add 3 (LoopR.of (sc 26 [11, 10, 9, 0, 1, 5, 4] (tCod 11 cInt (tCod 10 cInt (tSl 9 0 (tSl 0 0 (tClo 1 64 [] (tOwn 5 1 (tOwn 4 2 tNil))))))) (rL_ivp (rBox ccIv ccIv_ok (rBox ccIv ccIv_ok rNil)))) (ocExit 0 (sc 26 [0, 5, 4] (tSl 0 0 (tOwn 5 1 (tOwn 4 2 tNil))) (rL_ivp (rBox ccIv ccIv_ok (rBox ccIv ccIv_ok rNil))))) (runBy meanStep1 meanM1)) Laws.nil) 200 Tryz.f63 (((sc 2 [0, 1] (tSl 0 0 (tClo 1 64 [] tNil)) (rL_ivp rNil)).enc ((()), (r0, ()))).tmps.map Prod.snd) ((sc 2 [0, 1] (tSl 0 0 (tClo 1 64 [] tNil)) (rL_ivp rNil)).enc ((()), (r0, ()))).mem cIv.dec =
      .bind (Iv.point 0) fun viv0 => .get (runBy meanStep1 meanM1 ((0, (@Nat.cast Int _ r0.length), ()), r0, viv0, Iv.mk 0 0 false, ())) fun vy1 => .bind (Iv.whole (@Nat.cast Int _ vy1.2.1.length)) fun viv2 => .bind (vy1.2.2.1.div viv2) fun viv3 => .ret (viv3) := by kernel_rfl
theorem c_spot_meanone : PlainS Tryz.prog 63 (sc 2 [0, 1] (tSl 0 0 (tClo 1 64 [] tNil)) (rL_ivp rNil)) cIv ((fun x => lenOk x.2.1)) ((fun x => meanOf Prod.fst x.2.1)) := by
  intro x h N w vs hM hv
  obtain ⟨⟨⟩, ⟨r0, ⟨⟩⟩⟩ := x
  refine calls_of_tree (n := 200) (EnvOK.add s_iv_Point (EnvOK.add s_iv_Div (EnvOK.add s_iv_Whole (EnvOK.add s_iv_Add (EnvOK.add s_spot_Of_1 (EnvOK.add s_spot_Of_2 (EnvOK.add s_spot_Of_3 EnvOK.nil))))))) Tryz.func63 hv (Nat.le_of_ble_eq_true (by kernel_rfl)) (LFn.add (fn := Tryz.f63) (i := 3) (by kernel_rfl) ok_spot_meanone_3 LFn.nil) hM cIv ?_
  rw [t_spot_meanone]
  simp only at h
  have hr : runBy meanStep1 meanM1 ((0, (r0.length : Int), ()), r0, Iv.point 0, ⟨0, 0, false⟩, ()) = _ := mean_run Prod.fst h _
  simp only [den_bind, hr, den_get, den_ret]
  rfl
theorem s_spot_meanone : Ev.Spec Tryz.prog 63 (FS (sc 2 [0, 1] (tSl 0 0 (tClo 1 64 [] tNil)) (rL_ivp rNil)) cIv ((fun x => lenOk x.2.1)) ((fun x => meanOf Prod.fst x.2.1))) := specS rfl (fun vs w => Tryz.call63 vs w) c_spot_meanone

/-! spot.mean -/
theorem tl_spot_meantwo_3 (t11 : Int) (t10 : Int) (r0 : List Ivp) (r1 : Iv) (r2 : Iv) :
    ev Tryz.prog (Env.add 18 (F1 cInt cIv Iv.point) (Env.add 39 (F2 cIv cIv cIv Iv.div) (Env.add 41 (F1 cInt cIv Iv.whole) (Env.add 53 (F2 cIv cIv cIv Iv.add) (Env.add 64 (F1 cIvp cIv ((fun p => p.1))) (Env.add 65 (F1 cIvp cIv ((fun p => p.2))) (Env.add 66 (FS (sc 2 [0, 1] (tCod 0 cIvp (tOwn 1 0 tNil)) (rRo ccSpot ccSpot_ok rNil)) cIv (fun _ => true) ((fun x => sqOf x.2.1 x.1.1))) Env.nil))))))) Laws.nil 200 none (loopAt Tryz.f63 3) ((sc 26 [11, 10, 9, 0, 1, 5, 4] (tCod 11 cInt (tCod 10 cInt (tSl 9 0 (tSl 0 0 (tClo 1 65 [] (tOwn 5 1 (tOwn 4 2 tNil))))))) (rL_ivp (rBox ccIv ccIv_ok (rBox ccIv ccIv_ok rNil)))).enc ((t11, t10, ()), (r0, r1, r2, ()))) (backK (sc 26 [11, 10, 9, 0, 1, 5, 4] (tCod 11 cInt (tCod 10 cInt (tSl 9 0 (tSl 0 0 (tClo 1 65 [] (tOwn 5 1 (tOwn 4 2 tNil))))))) (rL_ivp (rBox ccIv ccIv_ok (rBox ccIv ccIv_ok rNil)))) (ocExit 0 (sc 26 [0, 5, 4] (tSl 0 0 (tOwn 5 1 (tOwn 4 2 tNil))) (rL_ivp (rBox ccIv ccIv_ok (rBox ccIv ccIv_ok rNil)))))) =
      .br (decide (t11 < t10)) (.br (decide (0 ≤ t11 ∧ t11 < (@Nat.cast Int _ r0.length))) (.get (r0[t11.toNat]?) fun vt0 => .bind (vt0.2) fun viv1 => .bind (r1.add viv1) fun viv2 => .ret (Sum.inl ((IntKind.i64.wrap (t11 + 1), t10, ()), r0, viv2, r2, ()))) (.fail)) (.ret (Sum.inr ((), r0, r1, r2, ()))) := by kernel_rfl
theorem ok_spot_meantwo_3 : LOK Tryz.prog (LoopR.of (sc 26 [11, 10, 9, 0, 1, 5, 4] (tCod 11 cInt (tCod 10 cInt (tSl 9 0 (tSl 0 0 (tClo 1 65 [] (tOwn 5 1 (tOwn 4 2 tNil))))))) (rL_ivp (rBox ccIv ccIv_ok (rBox ccIv ccIv_ok rNil)))) (ocExit 0 (sc 26 [0, 5, 4] (tSl 0 0 (tOwn 5 1 (tOwn 4 2 tNil))) (rL_ivp (rBox ccIv ccIv_ok (rBox ccIv ccIv_ok rNil))))) (runBy meanStep2 meanM2)) (loopAt Tryz.f63 3) := by
  refine loop_ok (EnvOK.add s_iv_Point (EnvOK.add s_iv_Div (EnvOK.add s_iv_Whole (EnvOK.add s_iv_Add (EnvOK.add s_spot_Of_1 (EnvOK.add s_spot_Of_2 (EnvOK.add s_spot_Of_3 EnvOK.nil))))))) (LFn.at (fn := Tryz.f63) LFn.nil 3) meanStep2 (n := 200) (fun x z h => ?_) (runBy_ok _ _)
  obtain ⟨⟨t11, t10, ⟨⟩⟩, ⟨r0, r1, r2, ⟨⟩⟩⟩ := x
  rw [tl_spot_meantwo_3]
  rw [← h]
  simp only [meanStep2, meanStep]
  simp only [den_br, den_bind, den_ret, den_fail, decide_eq_true_eq, gt_iff_lt, ge_iff_le, beq_iff_eq]
  by_cases h0 : t11 < t10 <;> simp only [h0, if_true, if_false]
  by_cases h1 : 0 ≤ t11 ∧ t11 < (r0.length : Int) <;> simp only [h1, and_self, if_true, if_false]
  cases hg : r0[t11.toNat]? <;> rfl
theorem t_spot_meantwo (r0 : List Ivp) :
    evFn Tryz.prog (Env.add 18 (F1 cInt cIv Iv.point) (Env.add 39 (F2 cIv cIv cIv Iv.div) (Env.add 41 (F1 cInt cIv Iv.whole) (Env.add 53 (F2 cIv cIv cIv Iv.add) (Env.add 64 (F1 cIvp cIv ((fun p => p.1))) (Env.add 65 (F1 cIvp cIv ((fun p => p.2))) (Env.add 66 (FS (sc 2 [0, 1] (tCod 0 cIvp (tOwn 1 0 tNil)) (rRo ccSpot ccSpot_ok rNil)) cIv (fun _ => true) ((fun x => sqOf x.2.1 x.1.1))) Env.nil))))))) (Laws.add 3 (LoopR.of (sc 26 [11, 10, 9, 0, 1, 5, 4] (tCod 11 cInt (tCod 10 cInt (tSl 9 0 (tSl 0 0 (tClo 1 65 [] (tOwn 5 1 (tOwn 4 2 tNil))))))) (rL_ivp (rBox ccIv ccIv_ok (rBox ccIv ccIv_ok rNil)))) (ocExit 0 (sc 26 [0, 5, 4] (tSl 0 0 (tOwn 5 1 (tOwn 4 2 tNil))) (rL_ivp (rBox ccIv ccIv_ok (rBox ccIv ccIv_ok rNil))))) (runBy meanStep2 meanM2)) Laws.nil) 200 Tryz.f63 (((sc 2 [0, 1] (tSl 0 0 (tClo 1 65 [] tNil)) (rL_ivp rNil)).enc ((()), (r0, ()))).tmps.map Prod.snd) ((sc 2 [0, 1] (tSl 0 0 (tClo 1 65 [] tNil)) (rL_ivp rNil)).enc ((()), (r0, ()))).mem cIv.dec =
      .bind (Iv.point 0) fun viv0 => .get (runBy meanStep2 meanM2 ((0, (@Nat.cast Int _ r0.length), ()), r0, viv0, Iv.mk 0 0 false, ())) fun vy1 => .bind (Iv.whole (@Nat.cast Int _ vy1.2.1.length)) fun viv2 => .bind (vy1.2.2.1.div viv2) fun viv3 => .ret (viv3) := by kernel_rfl
theorem c_spot_meantwo : PlainS Tryz.prog 63 (sc 2 [0, 1] (tSl 0 0 (tClo 1 65 [] tNil)) (rL_ivp rNil)) cIv ((fun x => lenOk x.2.1)) ((fun x => meanOf Prod.snd x.2.1)) := by
  intro x h N w vs hM hv
  obtain ⟨⟨⟩, ⟨r0, ⟨⟩⟩⟩ := x
  refine calls_of_tree (n := 200) (EnvOK.add s_iv_Point (EnvOK.add s_iv_Div (EnvOK.add s_iv_Whole (EnvOK.add s_iv_Add (EnvOK.add s_spot_Of_1 (EnvOK.add s_spot_Of_2 (EnvOK.add s_spot_Of_3 EnvOK.nil))))))) Tryz.func63 hv (Nat.le_of_ble_eq_true (by kernel_rfl)) (LFn.add (fn := Tryz.f63) (i := 3) (by kernel_rfl) ok_spot_meantwo_3 LFn.nil) hM cIv ?_
  rw [t_spot_meantwo]
  simp only at h
  have hr : runBy meanStep2 meanM2 ((0, (r0.length : Int), ()), r0, Iv.point 0, ⟨0, 0, false⟩, ()) = _ := mean_run Prod.snd h _
  simp only [den_bind, hr, den_get, den_ret]
  rfl
theorem s_spot_meantwo : Ev.Spec Tryz.prog 63 (FS (sc 2 [0, 1] (tSl 0 0 (tClo 1 65 [] tNil)) (rL_ivp rNil)) cIv ((fun x => lenOk x.2.1)) ((fun x => meanOf Prod.snd x.2.1))) := specS rfl (fun vs w => Tryz.call63 vs w) c_spot_meantwo

/-! spot.mean -/
theorem tl_spot_meanthree_3 (t11 : Int) (t10 : Int) (r0 : List Ivp) (r1 : SpotV) (r2 : Iv) (r3 : Iv) :
    ev Tryz.prog (Env.add 18 (F1 cInt cIv Iv.point) (Env.add 39 (F2 cIv cIv cIv Iv.div) (Env.add 41 (F1 cInt cIv Iv.whole) (Env.add 53 (F2 cIv cIv cIv Iv.add) (Env.add 64 (F1 cIvp cIv ((fun p => p.1))) (Env.add 65 (F1 cIvp cIv ((fun p => p.2))) (Env.add 66 (FS (sc 2 [0, 1] (tCod 0 cIvp (tOwn 1 0 tNil)) (rRo ccSpot ccSpot_ok rNil)) cIv (fun _ => true) ((fun x => sqOf x.2.1 x.1.1))) Env.nil))))))) Laws.nil 200 none (loopAt Tryz.f63 3) ((sc 26 [11, 10, 9, 0, 1, 5, 4] (tCod 11 cInt (tCod 10 cInt (tSl 9 0 (tSl 0 0 (tClo 1 66 [1] (tOwn 5 2 (tOwn 4 3 tNil))))))) (rL_ivp (rRo ccSpot ccSpot_ok (rBox ccIv ccIv_ok (rBox ccIv ccIv_ok rNil))))).enc ((t11, t10, ()), (r0, r1, r2, r3, ()))) (backK (sc 26 [11, 10, 9, 0, 1, 5, 4] (tCod 11 cInt (tCod 10 cInt (tSl 9 0 (tSl 0 0 (tClo 1 66 [1] (tOwn 5 2 (tOwn 4 3 tNil))))))) (rL_ivp (rRo ccSpot ccSpot_ok (rBox ccIv ccIv_ok (rBox ccIv ccIv_ok rNil))))) (ocExit 0 (sc 26 [0, 5, 4] (tSl 0 0 (tOwn 5 1 (tOwn 4 2 tNil))) (rL_ivp (rBox ccIv ccIv_ok (rBox ccIv ccIv_ok rNil)))))) =
      .br (decide (t11 < t10)) (.br (decide (0 ≤ t11 ∧ t11 < (@Nat.cast Int _ r0.length))) (.get (r0[t11.toNat]?) fun vt0 => .br (true) (.bind (sqOf r1 vt0) fun viv1 => .bind (r2.add viv1) fun viv2 => .ret (Sum.inl ((IntKind.i64.wrap (t11 + 1), t10, ()), r0, r1, viv2, r3, ()))) (.fail)) (.fail)) (.ret (Sum.inr ((), r0, r2, r3, ()))) := by kernel_rfl
theorem ok_spot_meanthree_3 : LOK Tryz.prog (LoopR.of (sc 26 [11, 10, 9, 0, 1, 5, 4] (tCod 11 cInt (tCod 10 cInt (tSl 9 0 (tSl 0 0 (tClo 1 66 [1] (tOwn 5 2 (tOwn 4 3 tNil))))))) (rL_ivp (rRo ccSpot ccSpot_ok (rBox ccIv ccIv_ok (rBox ccIv ccIv_ok rNil))))) (ocExit 0 (sc 26 [0, 5, 4] (tSl 0 0 (tOwn 5 1 (tOwn 4 2 tNil))) (rL_ivp (rBox ccIv ccIv_ok (rBox ccIv ccIv_ok rNil))))) (runBy meanStep3 meanM3)) (loopAt Tryz.f63 3) := by
  refine loop_ok (EnvOK.add s_iv_Point (EnvOK.add s_iv_Div (EnvOK.add s_iv_Whole (EnvOK.add s_iv_Add (EnvOK.add s_spot_Of_1 (EnvOK.add s_spot_Of_2 (EnvOK.add s_spot_Of_3 EnvOK.nil))))))) (LFn.at (fn := Tryz.f63) LFn.nil 3) meanStep3 (n := 200) (fun x z h => ?_) (runBy_ok _ _)
  obtain ⟨⟨t11, t10, ⟨⟩⟩, ⟨r0, r1, r2, r3, ⟨⟩⟩⟩ := x
  rw [tl_spot_meanthree_3]
  rw [← h]
  simp only [meanStep3]
  simp only [den_br, den_bind, den_ret, den_fail, decide_eq_true_eq, gt_iff_lt, ge_iff_le, beq_iff_eq]
  by_cases h0 : t11 < t10 <;> simp only [h0, if_true, if_false]
  by_cases h1 : 0 ≤ t11 ∧ t11 < (r0.length : Int) <;> simp only [h1, and_self, if_true, if_false]
  cases hg : r0[t11.toNat]? <;> rfl
theorem t_spot_meanthree (r0 : List Ivp) (r1 : SpotV) :
    evFn Tryz.prog (Env.add 18 (F1 cInt cIv Iv.point) (Env.add 39 (F2 cIv cIv cIv Iv.div) (Env.add 41 (F1 cInt cIv Iv.whole) (Env.add 53 (F2 cIv cIv cIv Iv.add) (Env.add 64 (F1 cIvp cIv ((fun p => p.1))) (Env.add 65 (F1 cIvp cIv ((fun p => p.2))) (Env.add 66 (FS (sc 2 [0, 1] (tCod 0 cIvp (tOwn 1 0 tNil)) (rRo ccSpot ccSpot_ok rNil)) cIv (fun _ => true) ((fun x => sqOf x.2.1 x.1.1))) Env.nil))))))) (Laws.add 3 (LoopR.of (sc 26 [11, 10, 9, 0, 1, 5, 4] (tCod 11 cInt (tCod 10 cInt (tSl 9 0 (tSl 0 0 (tClo 1 66 [1] (tOwn 5 2 (tOwn 4 3 tNil))))))) (rL_ivp (rRo ccSpot ccSpot_ok (rBox ccIv ccIv_ok (rBox ccIv ccIv_ok rNil))))) (ocExit 0 (sc 26 [0, 5, 4] (tSl 0 0 (tOwn 5 1 (tOwn 4 2 tNil))) (rL_ivp (rBox ccIv ccIv_ok (rBox ccIv ccIv_ok rNil))))) (runBy meanStep3 meanM3)) Laws.nil) 200 Tryz.f63 (((sc 2 [0, 1] (tSl 0 0 (tClo 1 66 [1] tNil)) (rL_ivp (rRo ccSpot ccSpot_ok rNil))).enc ((()), (r0, r1, ()))).tmps.map Prod.snd) ((sc 2 [0, 1] (tSl 0 0 (tClo 1 66 [1] tNil)) (rL_ivp (rRo ccSpot ccSpot_ok rNil))).enc ((()), (r0, r1, ()))).mem cIv.dec =
      .bind (Iv.point 0) fun viv0 => .get (runBy meanStep3 meanM3 ((0, (@Nat.cast Int _ r0.length), ()), r0, r1, viv0, Iv.mk 0 0 false, ())) fun vy1 => .bind (Iv.whole (@Nat.cast Int _ vy1.2.1.length)) fun viv2 => .bind (vy1.2.2.1.div viv2) fun viv3 => .ret (viv3) := by kernel_rfl
theorem c_spot_meanthree : PlainS Tryz.prog 63 (sc 2 [0, 1] (tSl 0 0 (tClo 1 66 [1] tNil)) (rL_ivp (rRo ccSpot ccSpot_ok rNil))) cIv ((fun x => lenOk x.2.1)) ((fun x => meanOf (sqOf x.2.2.1) x.2.1)) := by
  intro x h N w vs hM hv
  obtain ⟨⟨⟩, ⟨r0, r1, ⟨⟩⟩⟩ := x
  refine calls_of_tree (n := 200) (EnvOK.add s_iv_Point (EnvOK.add s_iv_Div (EnvOK.add s_iv_Whole (EnvOK.add s_iv_Add (EnvOK.add s_spot_Of_1 (EnvOK.add s_spot_Of_2 (EnvOK.add s_spot_Of_3 EnvOK.nil))))))) Tryz.func63 hv (Nat.le_of_ble_eq_true (by kernel_rfl)) (LFn.add (fn := Tryz.f63) (i := 3) (by kernel_rfl) ok_spot_meanthree_3 LFn.nil) hM cIv ?_
  rw [t_spot_meanthree]
  simp only at h
  have hr : runBy meanStep3 meanM3 ((0, (r0.length : Int), ()), r0, r1, Iv.point 0, ⟨0, 0, false⟩, ()) = _ := mean3_run h _
  simp only [den_bind, hr, den_get, den_ret]
  rfl
theorem s_spot_meanthree : Ev.Spec Tryz.prog 63 (FS (sc 2 [0, 1] (tSl 0 0 (tClo 1 66 [1] tNil)) (rL_ivp (rRo ccSpot ccSpot_ok rNil))) cIv ((fun x => lenOk x.2.1)) ((fun x => meanOf (sqOf x.2.2.1) x.2.1))) := specS rfl (fun vs w => Tryz.call63 vs w) c_spot_meanthree

/-! spot.Of -/
theorem tl_spot_Of_7 (t51 : Int) (t50 : Int) (t3 : Int) (r0 : List Cx) (r1 : Iv) (r2 : Iv) (r3 : Iv) (r4 : Iv) (r5 : SpotV) (r6 : List Ivp) (r7 : SpotV) (r8 : List Surf) :
    ev Tryz.prog (Env.add 19 (FR (sc 1 [0] (tCod 0 cInt tNil) rNil) (sc 1 [0] (tSl 0 0 tNil) (rG_cx 41 rNil)) (fun _ => true) ((fun x => ((), ((cellsP (cellsR x.1.1)).map cxOf, ()))))) (Env.add 20 (F2 cCx cInt cInt cInDisc) (Env.add 30 (FS (sc 5 [0, 1, 2, 3, 4] (tAgg 0 0 ccNil ccNil_ok ccIv ccIv_ok (tCod 1 cIv (tCod 2 cIv (tCod 3 cCx (tCod 4 cInt tNil))))) (rL_surf rNil)) (cTwo cRay cBool) (fun _ => true) ((fun x => aimP x.1.2.1 x.2.1 x.1.2.2.1 x.1.2.2.2.1 x.1.2.2.2.2.1 x.1.2.2.2.2.2.1))) (Env.add 52 (FS (sc 3 [0, 1, 2] (tAgg 0 0 ccNil ccNil_ok ccIv ccIv_ok (tCod 1 cRay (tCod 2 cIv tNil))) (rL_surf rNil)) (cThree cIv cIv cInt) ((fun x => lenOk x.2.1)) ((fun x => throughOf x.2.1 x.1.2.2.1 x.1.2.2.2.1))) (Env.add 53 (F2 cIv cIv cIv Iv.add) (Env.add 54 (FS (sc 1 [0] (tAgg 0 0 ccNil ccNil_ok ccIv ccIv_ok tNil) (rL_surf rNil)) cIv ((fun x => lenOk x.2.1)) ((fun x => lastOf x.2.1))) (Env.add 56 (F1 cIv cBool Iv.right) (Env.add 63 (FS (sc 2 [0, 1] (tSl 0 0 (tClo 1 64 [] tNil)) (rL_ivp rNil)) cIv ((fun x => lenOk x.2.1)) ((fun x => meanOf Prod.fst x.2.1))) (Env.add 63 (FS (sc 2 [0, 1] (tSl 0 0 (tClo 1 65 [] tNil)) (rL_ivp rNil)) cIv ((fun x => lenOk x.2.1)) ((fun x => meanOf Prod.snd x.2.1))) (Env.add 63 (FS (sc 2 [0, 1] (tSl 0 0 (tClo 1 66 [1] tNil)) (rL_ivp (rRo ccSpot ccSpot_ok rNil))) cIv ((fun x => lenOk x.2.1)) ((fun x => meanOf (sqOf x.2.2.1) x.2.1))) (Env.add 64 (F1 cIvp cIv ((fun p => p.1))) (Env.add 65 (F1 cIvp cIv ((fun p => p.2))) (Env.add 66 (FS (sc 2 [0, 1] (tCod 0 cIvp (tOwn 1 0 tNil)) (rRo ccSpot ccSpot_ok rNil)) cIv (fun _ => true) ((fun x => sqOf x.2.1 x.1.1))) Env.nil))))))))))))) Laws.nil 200 none (loopAt Tryz.f17 7) ((sc 104 [51, 50, 3, 49, 5, 6, 7, 14, 12, 13, 10] (tCod 51 cInt (tCod 50 cInt (tCod 3 cInt (tSl 49 0 (tOwn 5 1 (tOwn 6 2 (tOwn 7 3 (tOwn 14 4 (tOwn 12 5 (tSl 13 6 (tOwn 10 7 tNil))))))))))) (rG_cx 41 (rBoxSl 8 ccIv ccIv_ok (rBox ccIv ccIv_ok (rBox ccIv ccIv_ok (rBox ccIv ccIv_ok (rBox ccSpot ccSpot_ok (rG_ivp 122 (rBox ccSpot ccSpot_ok (rL_surf rNil)))))))))).enc ((t51, t50, t3, ()), (r0, r1, r2, r3, r4, r5, r6, r7, r8, ()))) (backK (sc 104 [51, 50, 3, 49, 5, 6, 7, 14, 12, 13, 10] (tCod 51 cInt (tCod 50 cInt (tCod 3 cInt (tSl 49 0 (tOwn 5 1 (tOwn 6 2 (tOwn 7 3 (tOwn 14 4 (tOwn 12 5 (tSl 13 6 (tOwn 10 7 tNil))))))))))) (rG_cx 41 (rBoxSl 8 ccIv ccIv_ok (rBox ccIv ccIv_ok (rBox ccIv ccIv_ok (rBox ccIv ccIv_ok (rBox ccSpot ccSpot_ok (rG_ivp 122 (rBox ccSpot ccSpot_ok (rL_surf rNil)))))))))) (ocExit 0 (sc 104 [13, 12, 10] (tSl 13 0 (tOwn 12 1 (tOwn 10 2 tNil))) (rG_ivp 122 (rBox ccSpot ccSpot_ok (rBox ccSpot ccSpot_ok rNil)))))) =
      .br (decide (t51 < t50)) (.br (decide (0 ≤ t51 ∧ t51 < (@Nat.cast Int _ r0.length))) (.get (r0[t51.toNat]?) fun vt0 => .bind (cInDisc vt0 t3) fun vn1 => .br (vn1 != 1) (.ret (Sum.inl ((IntKind.i64.wrap (t51 + 1), t50, t3, ()), r0, r1, r2, r3, r4, r5, r6, r7, r8, ()))) (.br (true) (.bind (aimP r1 r8 r2 r3 vt0 t3) fun vy2 => .br (vy2.2) (.br (Ev.lenOk r8) (.bind (throughOf r8 vy2.1 r4) fun vy3 => .br (vy3.2.2 == 1) (.br (Ev.lenOk (r6 ++ [(vy3.1, vy3.2.1)])) (.ret (Sum.inl ((IntKind.i64.wrap (t51 + 1), t50, t3, ()), r0, r1, r2, r3, r4, r5, r6 ++ [(vy3.1, vy3.2.1)], r7, r8, ()))) (.fail)) (.ret (Sum.inl ((IntKind.i64.wrap (t51 + 1), t50, t3, ()), r0, r1, r2, r3, r4, (r5.1, IntKind.i64.wrap (r5.2.1 + 1), r5.2.2), r6, r7, r8, ())))) (.fail)) (.ret (Sum.inl ((IntKind.i64.wrap (t51 + 1), t50, t3, ()), r0, r1, r2, r3, r4, (r5.1, IntKind.i64.wrap (r5.2.1 + 1), r5.2.2), r6, r7, r8, ())))) (.fail))) (.fail)) (.ret (Sum.inr ((), r6, r5, r7, ()))) := by kernel_rfl
theorem ok_spot_Of_7 : LOK Tryz.prog (LoopR.of (sc 104 [51, 50, 3, 49, 5, 6, 7, 14, 12, 13, 10] (tCod 51 cInt (tCod 50 cInt (tCod 3 cInt (tSl 49 0 (tOwn 5 1 (tOwn 6 2 (tOwn 7 3 (tOwn 14 4 (tOwn 12 5 (tSl 13 6 (tOwn 10 7 tNil))))))))))) (rG_cx 41 (rBoxSl 8 ccIv ccIv_ok (rBox ccIv ccIv_ok (rBox ccIv ccIv_ok (rBox ccIv ccIv_ok (rBox ccSpot ccSpot_ok (rG_ivp 122 (rBox ccSpot ccSpot_ok (rL_surf rNil)))))))))) (ocExit 0 (sc 104 [13, 12, 10] (tSl 13 0 (tOwn 12 1 (tOwn 10 2 tNil))) (rG_ivp 122 (rBox ccSpot ccSpot_ok (rBox ccSpot ccSpot_ok rNil))))) (runBy spotPStep spotPM)) (loopAt Tryz.f17 7) := by
  refine loop_ok (EnvOK.add s_gauss_Cells (EnvOK.add s_gauss_InDisc (EnvOK.add s_pupil_Aim (EnvOK.add s_trace_Through (EnvOK.add s_iv_Add (EnvOK.add s_system_Last (EnvOK.add s_iv_Right (EnvOK.add s_spot_meanone (EnvOK.add s_spot_meantwo (EnvOK.add s_spot_meanthree (EnvOK.add s_spot_Of_1 (EnvOK.add s_spot_Of_2 (EnvOK.add s_spot_Of_3 EnvOK.nil))))))))))))) (LFn.at (fn := Tryz.f17) LFn.nil 7) spotPStep (n := 200) (fun x z h => ?_) (runBy_ok _ _)
  obtain ⟨⟨t51, t50, t3, ⟨⟩⟩, ⟨r0, r1, r2, r3, r4, r5, r6, r7, r8, ⟨⟩⟩⟩ := x
  rw [tl_spot_Of_7]
  rw [← h]
  simp only [spotPStep]
  simp only [den_br, den_bind, den_ret, den_fail, decide_eq_true_eq, gt_iff_lt, ge_iff_le, beq_iff_eq]
  by_cases h0 : t51 < t50 <;> simp only [h0, if_true, if_false]
  by_cases h1 : 0 ≤ t51 ∧ t51 < (r0.length : Int) <;> simp only [h1, and_self, if_true, if_false]
  cases hg : r0[t51.toNat]? with
  | none => rfl
  | some z =>
    simp only [den_br, den_bind, den_ret, den_fail, den_get, beq_iff_eq]
    by_cases d1 : cInDisc z t3 = 1
    case neg =>
      have d1' : (cInDisc z t3 != 1) = true := by simp [d1]
      simp only [d1, d1', ne_eq, not_false_eq_true, if_true]
    simp only [d1, bne_self_eq_false, ne_eq, not_true_eq_false, if_false, Bool.false_eq_true]
    rcases Bool.eq_false_or_eq_true (aimP r1 r8 r2 r3 z t3).2 with ha | ha
    · simp only [ha, if_true]
    · simp only [ha, if_true, if_false, Bool.false_eq_true]
theorem t_spot_Of (t0a : Unit) (t0b : Iv) (t1 : Iv) (t2 : Iv) (t3 : Int) (t4 : Iv) (r0 : List Surf) :
    evFn Tryz.prog (Env.add 19 (FR (sc 1 [0] (tCod 0 cInt tNil) rNil) (sc 1 [0] (tSl 0 0 tNil) (rG_cx 41 rNil)) (fun _ => true) ((fun x => ((), ((cellsP (cellsR x.1.1)).map cxOf, ()))))) (Env.add 20 (F2 cCx cInt cInt cInDisc) (Env.add 30 (FS (sc 5 [0, 1, 2, 3, 4] (tAgg 0 0 ccNil ccNil_ok ccIv ccIv_ok (tCod 1 cIv (tCod 2 cIv (tCod 3 cCx (tCod 4 cInt tNil))))) (rL_surf rNil)) (cTwo cRay cBool) (fun _ => true) ((fun x => aimP x.1.2.1 x.2.1 x.1.2.2.1 x.1.2.2.2.1 x.1.2.2.2.2.1 x.1.2.2.2.2.2.1))) (Env.add 52 (FS (sc 3 [0, 1, 2] (tAgg 0 0 ccNil ccNil_ok ccIv ccIv_ok (tCod 1 cRay (tCod 2 cIv tNil))) (rL_surf rNil)) (cThree cIv cIv cInt) ((fun x => lenOk x.2.1)) ((fun x => throughOf x.2.1 x.1.2.2.1 x.1.2.2.2.1))) (Env.add 53 (F2 cIv cIv cIv Iv.add) (Env.add 54 (FS (sc 1 [0] (tAgg 0 0 ccNil ccNil_ok ccIv ccIv_ok tNil) (rL_surf rNil)) cIv ((fun x => lenOk x.2.1)) ((fun x => lastOf x.2.1))) (Env.add 56 (F1 cIv cBool Iv.right) (Env.add 63 (FS (sc 2 [0, 1] (tSl 0 0 (tClo 1 64 [] tNil)) (rL_ivp rNil)) cIv ((fun x => lenOk x.2.1)) ((fun x => meanOf Prod.fst x.2.1))) (Env.add 63 (FS (sc 2 [0, 1] (tSl 0 0 (tClo 1 65 [] tNil)) (rL_ivp rNil)) cIv ((fun x => lenOk x.2.1)) ((fun x => meanOf Prod.snd x.2.1))) (Env.add 63 (FS (sc 2 [0, 1] (tSl 0 0 (tClo 1 66 [1] tNil)) (rL_ivp (rRo ccSpot ccSpot_ok rNil))) cIv ((fun x => lenOk x.2.1)) ((fun x => meanOf (sqOf x.2.2.1) x.2.1))) (Env.add 64 (F1 cIvp cIv ((fun p => p.1))) (Env.add 65 (F1 cIvp cIv ((fun p => p.2))) (Env.add 66 (FS (sc 2 [0, 1] (tCod 0 cIvp (tOwn 1 0 tNil)) (rRo ccSpot ccSpot_ok rNil)) cIv (fun _ => true) ((fun x => sqOf x.2.1 x.1.1))) Env.nil))))))))))))) (Laws.add 7 (LoopR.of (sc 104 [51, 50, 3, 49, 5, 6, 7, 14, 12, 13, 10] (tCod 51 cInt (tCod 50 cInt (tCod 3 cInt (tSl 49 0 (tOwn 5 1 (tOwn 6 2 (tOwn 7 3 (tOwn 14 4 (tOwn 12 5 (tSl 13 6 (tOwn 10 7 tNil))))))))))) (rG_cx 41 (rBoxSl 8 ccIv ccIv_ok (rBox ccIv ccIv_ok (rBox ccIv ccIv_ok (rBox ccIv ccIv_ok (rBox ccSpot ccSpot_ok (rG_ivp 122 (rBox ccSpot ccSpot_ok (rL_surf rNil)))))))))) (ocExit 0 (sc 104 [13, 12, 10] (tSl 13 0 (tOwn 12 1 (tOwn 10 2 tNil))) (rG_ivp 122 (rBox ccSpot ccSpot_ok (rBox ccSpot ccSpot_ok rNil))))) (runBy spotPStep spotPM)) Laws.nil) 200 Tryz.f17 (((sc 5 [0, 1, 2, 3, 4] (tAgg 0 0 ccNil ccNil_ok ccIv ccIv_ok (tCod 1 cIv (tCod 2 cIv (tCod 3 cInt (tCod 4 cIv tNil))))) (rL_surf rNil)).enc ((t0a, t0b, t1, t2, t3, t4, ()), (r0, ()))).tmps.map Prod.snd) ((sc 5 [0, 1, 2, 3, 4] (tAgg 0 0 ccNil ccNil_ok ccIv ccIv_ok (tCod 1 cIv (tCod 2 cIv (tCod 3 cInt (tCod 4 cIv tNil))))) (rL_surf rNil)).enc ((t0a, t0b, t1, t2, t3, t4, ()), (r0, ()))).mem (cTwo cSpot cInt).dec =
      .br ((@Nat.cast Int _ r0.length) == 0) (.ret (((0, 0, Iv.mk 0 0 false, Iv.mk 0 0 false, Iv.mk 0 0 false), 1))) (.br (decide (t3 < 1)) (.ret (((0, 0, Iv.mk 0 0 false, Iv.mk 0 0 false, Iv.mk 0 0 false), 1))) (.br (decide (t3 > 16)) (.ret (((0, 0, Iv.mk 0 0 false, Iv.mk 0 0 false, Iv.mk 0 0 false), 1))) (.bind (t1.right) fun vb0 => .br (!vb0) (.ret (((0, 0, Iv.mk 0 0 false, Iv.mk 0 0 false, Iv.mk 0 0 false), 1))) (.bind (t2.right) fun vb1 => .br (!vb1) (.ret (((0, 0, Iv.mk 0 0 false, Iv.mk 0 0 false, Iv.mk 0 0 false), 1))) (.br (Ev.lenOk r0) (.bind (lastOf r0) fun viv2 => .bind (viv2.add t4) fun viv3 => .br (true) (.bind (((), List.map cxOf (cellsP (cellsR t3)), ())) fun vy4 => .get (runBy spotPStep spotPM ((0, (@Nat.cast Int _ vy4.2.1.length), t3, ()), vy4.2.1, t0b, t1, t2, viv3, (0, 0, Iv.mk 0 0 false, Iv.mk 0 0 false, Iv.mk 0 0 false), [], (0, 0, Iv.mk 0 0 false, Iv.mk 0 0 false, Iv.mk 0 0 false), r0, ())) fun vy5 => .br (Ev.lenOk vy5.2.1) (.bind (meanOf Prod.fst vy5.2.1) fun viv6 => .br (Ev.lenOk vy5.2.1) (.bind (meanOf Prod.snd vy5.2.1) fun viv7 => .br (Ev.lenOk vy5.2.1) (.bind (meanOf (sqOf ((@Nat.cast Int _ vy5.2.1.length), vy5.2.2.1.2.1, viv6, viv7, vy5.2.2.1.2.2.2.2)) vy5.2.1) fun viv8 => .ret ((((@Nat.cast Int _ vy5.2.1.length), vy5.2.2.1.2.1, viv6, viv7, viv8), 0))) (.fail)) (.fail)) (.fail)) (.fail)) (.fail)))))) := by kernel_rfl
theorem c_spot_Of : PlainS Tryz.prog 17 (sc 5 [0, 1, 2, 3, 4] (tAgg 0 0 ccNil ccNil_ok ccIv ccIv_ok (tCod 1 cIv (tCod 2 cIv (tCod 3 cInt (tCod 4 cIv tNil))))) (rL_surf rNil)) (cTwo cSpot cInt) ((fun x => lenOk x.2.1)) ((fun x => spotOf x.1.2.1 x.2.1 x.1.2.2.1 x.1.2.2.2.1 x.1.2.2.2.2.1 x.1.2.2.2.2.2.1)) := by
  intro x h N w vs hM hv
  obtain ⟨⟨t0a, t0b, t1, t2, t3, t4, ⟨⟩⟩, ⟨r0, ⟨⟩⟩⟩ := x
  refine calls_of_tree (n := 200) (EnvOK.add s_gauss_Cells (EnvOK.add s_gauss_InDisc (EnvOK.add s_pupil_Aim (EnvOK.add s_trace_Through (EnvOK.add s_iv_Add (EnvOK.add s_system_Last (EnvOK.add s_iv_Right (EnvOK.add s_spot_meanone (EnvOK.add s_spot_meantwo (EnvOK.add s_spot_meanthree (EnvOK.add s_spot_Of_1 (EnvOK.add s_spot_Of_2 (EnvOK.add s_spot_Of_3 EnvOK.nil))))))))))))) Tryz.func17 hv (Nat.le_of_ble_eq_true (by kernel_rfl)) (LFn.add (fn := Tryz.f17) (i := 7) (by kernel_rfl) ok_spot_Of_7 LFn.nil) hM (cTwo cSpot cInt) ?_
  rw [t_spot_Of]
  simp only at h
  simp only [den_br, den_bind, den_ret, den_fail, decide_eq_true_eq, gt_iff_lt, ge_iff_le, beq_iff_eq, h, if_true]
  have hz : ((0, 0, ⟨0, 0, false⟩, ⟨0, 0, false⟩, ⟨0, 0, false⟩) : SpotV) = zeroS := rfl
  simp only [hz]
  by_cases hs : sizedC r0 t3 = true
  case neg =>
    have hs2 : ¬ (0 < (r0.length : Int) ∧ 1 ≤ t3 ∧ t3 ≤ 16) := fun e => hs (sizedC_iff.2 e)
    by_cases c1 : (r0.length : Int) = 0
    · simp [hs, c1, spotOf]
    by_cases c2 : t3 < 1
    · simp [hs, c1, c2, spotOf]
    have c3 : 16 < t3 := by omega
    simp [hs, c1, c2, c3, spotOf]
  have hs' := sizedC_iff.1 hs
  simp only [show ¬ (r0.length : Int) = 0 by omega, show ¬ t3 < 1 by omega, show ¬ 16 < t3 by omega, if_false]
  by_cases c1 : t1.right = true
  case neg => simp [hs, c1, spotOf]
  by_cases c2 : t2.right = true
  case neg => simp [hs, c1, c2, spotOf]
  simp only [c1, c2, Bool.not_true, Bool.false_eq_true, if_false]
  have hlen := lenOk_iff.2 (Nat.le_trans (spotFold_len t0b r0 t1 t2 ((lastOf r0).add t4) (n := t3) (by omega)) (by decide : 1024 ≤ 1048576))
  have hr := spotP_run (o := t0b) (x := t1) (y := t2) (at_ := (lastOf r0).add t4) (res := zeroS) h hs'.2
  simp only [hr, den_get, hlen, if_true, den_br, den_bind, den_ret, spotOf, hs, c1, c2, and_self]
  rfl
theorem s_spot_Of : Ev.Spec Tryz.prog 17 (FS (sc 5 [0, 1, 2, 3, 4] (tAgg 0 0 ccNil ccNil_ok ccIv ccIv_ok (tCod 1 cIv (tCod 2 cIv (tCod 3 cInt (tCod 4 cIv tNil))))) (rL_surf rNil)) (cTwo cSpot cInt) ((fun x => lenOk x.2.1)) ((fun x => spotOf x.1.2.1 x.2.1 x.1.2.2.1 x.1.2.2.2.1 x.1.2.2.2.2.1 x.1.2.2.2.2.2.1))) := specS rfl (fun vs w => Tryz.call17 vs w) c_spot_Of

/-! meniscusref20.SpotOf -/
theorem tl_meniscusref20_SpotOf_9 (t18 : Int) (t3 : Int) (r0 : List Pair) (r1 : Iv) (r2 : Iv) (r3 : Iv) (r4 : Iv) (r5 : SpotV) (r6 : List Iv) (r7 : List Iv) (r8 : SpotV) (r9 : List Surf) :
    ev Tryz.prog (Env.add 32 (FS (sc 5 [0, 1, 2, 3, 4] (tAgg 0 0 ccNil ccNil_ok ccIv ccIv_ok (tCod 1 cIv (tCod 2 cIv (tCod 3 cPair (tCod 4 cInt tNil))))) (rL_surf rNil)) (cTwo cRay cBool) (fun _ => true) ((fun x => aimOf x.1.2.1 x.2.1 x.1.2.2.1 x.1.2.2.2.1 x.1.2.2.2.2.1 x.1.2.2.2.2.2.1))) (Env.add 80 (F1 cIv cBool Iv.right) (Env.add 81 (FR (sc 1 [0] (tCod 0 cInt tNil) rNil) (sc 1 [0] (tSl 0 0 tNil) (rG_pair 60 rNil)) (fun _ => true) ((fun x => ((), (cellsP (cellsR x.1.1), ()))))) (Env.add 82 (F2p cPair cInt cInt ((fun p _ => pair20 p)) discOf) (Env.add 86 (F2 cIv cIv cIv Iv.sub) (Env.add 88 (F1 cInt cIv Iv.point) (Env.add 99 (F2 cIv cIv cIv Iv.div) (Env.add 100 (F1 cInt cIv Iv.whole) (Env.add 101 (F2 cIv cIv cIv Iv.add) (Env.add 102 (FS (sc 1 [0] (tAgg 0 0 ccNil ccNil_ok ccIv ccIv_ok tNil) (rL_surf rNil)) cIv ((fun x => lenOk x.2.1)) ((fun x => lastOf x.2.1))) (Env.add 103 (FS (sc 3 [0, 1, 2] (tAgg 0 0 ccNil ccNil_ok ccIv ccIv_ok (tCod 1 cRay (tCod 2 cIv tNil))) (rL_surf rNil)) (cThree cIv cIv cInt) ((fun x => lenOk x.2.1)) ((fun x => throughOf x.2.1 x.1.2.2.1 x.1.2.2.2.1))) (Env.add 104 (F1 cIv cIv Iv.sqr) Env.nil)))))))))))) Laws.nil 200 none (loopAt Tryz.f50 9) ((sc 169 [18, 3, 17, 5, 6, 7, 12, 14, 15, 16, 10] (tCod 18 cInt (tCod 3 cInt (tSl 17 0 (tOwn 5 1 (tOwn 6 2 (tOwn 7 3 (tOwn 12 4 (tOwn 14 5 (tSl 15 6 (tSl 16 7 (tOwn 10 8 tNil))))))))))) (rG_pair 60 (rBoxSl 9 ccIv ccIv_ok (rBox ccIv ccIv_ok (rBox ccIv ccIv_ok (rBox ccIv ccIv_ok (rBox ccSpot ccSpot_ok (rG_iv 25 (rG_iv 25 (rBox ccSpot ccSpot_ok (rL_surf rNil))))))))))).enc ((t18, t3, ()), (r0, r1, r2, r3, r4, r5, r6, r7, r8, r9, ()))) (backK (sc 169 [18, 3, 17, 5, 6, 7, 12, 14, 15, 16, 10] (tCod 18 cInt (tCod 3 cInt (tSl 17 0 (tOwn 5 1 (tOwn 6 2 (tOwn 7 3 (tOwn 12 4 (tOwn 14 5 (tSl 15 6 (tSl 16 7 (tOwn 10 8 tNil))))))))))) (rG_pair 60 (rBoxSl 9 ccIv ccIv_ok (rBox ccIv ccIv_ok (rBox ccIv ccIv_ok (rBox ccIv ccIv_ok (rBox ccSpot ccSpot_ok (rG_iv 25 (rG_iv 25 (rBox ccSpot ccSpot_ok (rL_surf rNil))))))))))) (ocExit 0 (sc 169 [14, 15, 16, 10] (tOwn 14 0 (tSl 15 1 (tSl 16 2 (tOwn 10 3 tNil)))) (rBox ccSpot ccSpot_ok (rG_iv 25 (rG_iv 25 (rBox ccSpot ccSpot_ok rNil))))))) =
      .br (decide (t18 < (@Nat.cast Int _ r0.length))) (.br (decide (0 ≤ t18 ∧ t18 < (@Nat.cast Int _ r0.length))) (.get (r0[t18.toNat]?) fun vt0 => .br (pair20 vt0) (.bind (discOf vt0 t3) fun vn1 => .br (vn1 != 1) (.ret (Sum.inl ((IntKind.i64.wrap (t18 + 1), t3, ()), r0, r1, r2, r3, r4, r5, r6, r7, r8, r9, ()))) (.br (decide (0 ≤ t18 ∧ t18 < (@Nat.cast Int _ r0.length))) (.get (r0[t18.toNat]?) fun vt2 => .br (true) (.bind (aimOf r1 r9 r2 r3 vt2 t3) fun vy3 => .br (vy3.2) (.br (Ev.lenOk r9) (.bind (throughOf r9 vy3.1 r4) fun vy4 => .br (vy4.2.2 == 1) (.br (Ev.lenOk (r6 ++ [vy4.1])) (.br (Ev.lenOk (r7 ++ [vy4.2.1])) (.bind (r5.2.2.1.add vy4.1) fun viv5 => .bind (r5.2.2.2.1.add vy4.2.1) fun viv6 => .ret (Sum.inl ((IntKind.i64.wrap (t18 + 1), t3, ()), r0, r1, r2, r3, r4, (r5.1, r5.2.1, viv5, viv6, r5.2.2.2.2), r6 ++ [vy4.1], r7 ++ [vy4.2.1], r8, r9, ()))) (.fail)) (.fail)) (.ret (Sum.inl ((IntKind.i64.wrap (t18 + 1), t3, ()), r0, r1, r2, r3, r4, (r5.1, IntKind.i64.wrap (r5.2.1 + 1), r5.2.2), r6, r7, r8, r9, ())))) (.fail)) (.ret (Sum.inl ((IntKind.i64.wrap (t18 + 1), t3, ()), r0, r1, r2, r3, r4, (r5.1, IntKind.i64.wrap (r5.2.1 + 1), r5.2.2), r6, r7, r8, r9, ())))) (.fail)) (.fail))) (.fail)) (.fail)) (.ret (Sum.inr ((), r5, r6, r7, r8, ()))) := by kernel_rfl
theorem ok_meniscusref20_SpotOf_9 : LOK Tryz.prog (LoopR.of (sc 169 [18, 3, 17, 5, 6, 7, 12, 14, 15, 16, 10] (tCod 18 cInt (tCod 3 cInt (tSl 17 0 (tOwn 5 1 (tOwn 6 2 (tOwn 7 3 (tOwn 12 4 (tOwn 14 5 (tSl 15 6 (tSl 16 7 (tOwn 10 8 tNil))))))))))) (rG_pair 60 (rBoxSl 9 ccIv ccIv_ok (rBox ccIv ccIv_ok (rBox ccIv ccIv_ok (rBox ccIv ccIv_ok (rBox ccSpot ccSpot_ok (rG_iv 25 (rG_iv 25 (rBox ccSpot ccSpot_ok (rL_surf rNil))))))))))) (ocExit 0 (sc 169 [14, 15, 16, 10] (tOwn 14 0 (tSl 15 1 (tSl 16 2 (tOwn 10 3 tNil)))) (rBox ccSpot ccSpot_ok (rG_iv 25 (rG_iv 25 (rBox ccSpot ccSpot_ok rNil)))))) (runBy spotDStep spotDM)) (loopAt Tryz.f50 9) := by
  refine loop_ok (EnvOK.add s_meniscusref20_Aim (EnvOK.add s_meniscusref1_Right (EnvOK.add s_meniscusref8_Cells (EnvOK.add s_meniscusref8_Pair_InDisc (EnvOK.add s_meniscusref1_Sub (EnvOK.add s_meniscusref1_Point (EnvOK.add s_meniscusref1_DivIv (EnvOK.add s_meniscusref1_Whole (EnvOK.add s_meniscusref1_Add (EnvOK.add s_meniscusref8_Last (EnvOK.add s_meniscusref14_Reach (EnvOK.add s_meniscusref1_Sqr EnvOK.nil)))))))))))) (LFn.at (fn := Tryz.f50) LFn.nil 9) spotDStep (n := 200) (fun x z h => ?_) (runBy_ok _ _)
  obtain ⟨⟨t18, t3, ⟨⟩⟩, ⟨r0, r1, r2, r3, r4, r5, r6, r7, r8, r9, ⟨⟩⟩⟩ := x
  rw [tl_meniscusref20_SpotOf_9]
  rw [← h]
  simp only [spotDStep]
  simp only [den_br, den_bind, den_ret, den_fail, decide_eq_true_eq, gt_iff_lt, ge_iff_le, beq_iff_eq]
  by_cases h0 : t18 < (r0.length : Int) <;> simp only [h0, if_true, if_false]
  by_cases h1 : 0 ≤ t18
  case neg => simp only [h1, false_and, if_false]
  simp only [h1, true_and, if_true, and_self, and_true]
  obtain ⟨z, hg⟩ : ∃ z, r0[t18.toNat]? = some z := ⟨_, List.getElem?_eq_getElem (by omega)⟩
  simp only [hg, den_br, den_bind, den_ret, den_fail, den_get, beq_iff_eq]
  by_cases hp : pair20 z = true
  case neg => simp only [hp, if_false, Bool.false_eq_true]
  simp only [hp, if_true]
  by_cases d1 : discOf z t3 = 1
  case neg =>
    have d1' : (discOf z t3 != 1) = true := by simp [d1]
    simp only [d1, d1', ne_eq, not_false_eq_true, if_true]
  simp only [d1, bne_self_eq_false, ne_eq, not_true_eq_false, if_false, Bool.false_eq_true, decide_true, if_true]
theorem tl_meniscusref20_SpotOf_25 (t24 : Int) (r0 : List Iv) (r1 : List Iv) (r2 : SpotV) (r3 : SpotV) :
    ev Tryz.prog (Env.add 32 (FS (sc 5 [0, 1, 2, 3, 4] (tAgg 0 0 ccNil ccNil_ok ccIv ccIv_ok (tCod 1 cIv (tCod 2 cIv (tCod 3 cPair (tCod 4 cInt tNil))))) (rL_surf rNil)) (cTwo cRay cBool) (fun _ => true) ((fun x => aimOf x.1.2.1 x.2.1 x.1.2.2.1 x.1.2.2.2.1 x.1.2.2.2.2.1 x.1.2.2.2.2.2.1))) (Env.add 80 (F1 cIv cBool Iv.right) (Env.add 81 (FR (sc 1 [0] (tCod 0 cInt tNil) rNil) (sc 1 [0] (tSl 0 0 tNil) (rG_pair 60 rNil)) (fun _ => true) ((fun x => ((), (cellsP (cellsR x.1.1), ()))))) (Env.add 82 (F2p cPair cInt cInt ((fun p _ => pair20 p)) discOf) (Env.add 86 (F2 cIv cIv cIv Iv.sub) (Env.add 88 (F1 cInt cIv Iv.point) (Env.add 99 (F2 cIv cIv cIv Iv.div) (Env.add 100 (F1 cInt cIv Iv.whole) (Env.add 101 (F2 cIv cIv cIv Iv.add) (Env.add 102 (FS (sc 1 [0] (tAgg 0 0 ccNil ccNil_ok ccIv ccIv_ok tNil) (rL_surf rNil)) cIv ((fun x => lenOk x.2.1)) ((fun x => lastOf x.2.1))) (Env.add 103 (FS (sc 3 [0, 1, 2] (tAgg 0 0 ccNil ccNil_ok ccIv ccIv_ok (tCod 1 cRay (tCod 2 cIv tNil))) (rL_surf rNil)) (cThree cIv cIv cInt) ((fun x => lenOk x.2.1)) ((fun x => throughOf x.2.1 x.1.2.2.1 x.1.2.2.2.1))) (Env.add 104 (F1 cIv cIv Iv.sqr) Env.nil)))))))))))) (Laws.add 9 (LoopR.of (sc 169 [18, 3, 17, 5, 6, 7, 12, 14, 15, 16, 10] (tCod 18 cInt (tCod 3 cInt (tSl 17 0 (tOwn 5 1 (tOwn 6 2 (tOwn 7 3 (tOwn 12 4 (tOwn 14 5 (tSl 15 6 (tSl 16 7 (tOwn 10 8 tNil))))))))))) (rG_pair 60 (rBoxSl 9 ccIv ccIv_ok (rBox ccIv ccIv_ok (rBox ccIv ccIv_ok (rBox ccIv ccIv_ok (rBox ccSpot ccSpot_ok (rG_iv 25 (rG_iv 25 (rBox ccSpot ccSpot_ok (rL_surf rNil))))))))))) (ocExit 0 (sc 169 [14, 15, 16, 10] (tOwn 14 0 (tSl 15 1 (tSl 16 2 (tOwn 10 3 tNil)))) (rBox ccSpot ccSpot_ok (rG_iv 25 (rG_iv 25 (rBox ccSpot ccSpot_ok rNil)))))) (runBy spotDStep spotDM)) Laws.nil) 200 none (loopAt Tryz.f50 25) ((sc 169 [24, 15, 16, 14, 10] (tCod 24 cInt (tSl 15 0 (tSl 16 1 (tOwn 14 2 (tOwn 10 3 tNil))))) (rG_iv 25 (rG_iv 25 (rBox ccSpot ccSpot_ok (rBox ccSpot ccSpot_ok rNil))))).enc ((t24, ()), (r0, r1, r2, r3, ()))) (backK (sc 169 [24, 15, 16, 14, 10] (tCod 24 cInt (tSl 15 0 (tSl 16 1 (tOwn 14 2 (tOwn 10 3 tNil))))) (rG_iv 25 (rG_iv 25 (rBox ccSpot ccSpot_ok (rBox ccSpot ccSpot_ok rNil))))) (ocExit 2 (sc 169 [14, 10] (tOwn 14 0 (tOwn 10 1 tNil)) (rBox ccSpot ccSpot_ok (rBox ccSpot ccSpot_ok rNil))))) =
      .br (decide (t24 < (@Nat.cast Int _ r0.length))) (.br (decide (0 ≤ t24 ∧ t24 < (@Nat.cast Int _ r0.length))) (.get (r0[t24.toNat]?) fun vt0 => .bind (Iv.sub vt0 r2.2.2.1) fun viv1 => .bind (viv1.sqr) fun viv2 => .br (decide (0 ≤ t24 ∧ t24 < (@Nat.cast Int _ r1.length))) (.get (r1[t24.toNat]?) fun vt3 => .bind (Iv.sub vt3 r2.2.2.2.1) fun viv4 => .bind (viv4.sqr) fun viv5 => .bind (viv2.add viv5) fun viv6 => .bind (r2.2.2.2.2.add viv6) fun viv7 => .ret (Sum.inl ((IntKind.i64.wrap (t24 + 1), ()), r0, r1, (r2.1, r2.2.1, r2.2.2.1, r2.2.2.2.1, viv7), r3, ()))) (.fail)) (.fail)) (.ret (Sum.inr ((), r2, r3, ()))) := by kernel_rfl
theorem ok_meniscusref20_SpotOf_25 : LOK Tryz.prog (LoopR.of (sc 169 [24, 15, 16, 14, 10] (tCod 24 cInt (tSl 15 0 (tSl 16 1 (tOwn 14 2 (tOwn 10 3 tNil))))) (rG_iv 25 (rG_iv 25 (rBox ccSpot ccSpot_ok (rBox ccSpot ccSpot_ok rNil))))) (ocExit 2 (sc 169 [14, 10] (tOwn 14 0 (tOwn 10 1 tNil)) (rBox ccSpot ccSpot_ok (rBox ccSpot ccSpot_ok rNil)))) (runBy meanDStep meanDM)) (loopAt Tryz.f50 25) := by
  refine loop_ok (EnvOK.add s_meniscusref20_Aim (EnvOK.add s_meniscusref1_Right (EnvOK.add s_meniscusref8_Cells (EnvOK.add s_meniscusref8_Pair_InDisc (EnvOK.add s_meniscusref1_Sub (EnvOK.add s_meniscusref1_Point (EnvOK.add s_meniscusref1_DivIv (EnvOK.add s_meniscusref1_Whole (EnvOK.add s_meniscusref1_Add (EnvOK.add s_meniscusref8_Last (EnvOK.add s_meniscusref14_Reach (EnvOK.add s_meniscusref1_Sqr EnvOK.nil)))))))))))) (LFn.at (fn := Tryz.f50) (LFn.add (fn := Tryz.f50) (i := 9) (by kernel_rfl) ok_meniscusref20_SpotOf_9 LFn.nil) 25) meanDStep (n := 200) (fun x z h => ?_) (runBy_ok _ _)
  obtain ⟨⟨t24, ⟨⟩⟩, ⟨r0, r1, r2, r3, ⟨⟩⟩⟩ := x
  rw [tl_meniscusref20_SpotOf_25]
  rw [← h]
  simp only [meanDStep]
  simp only [den_br, den_bind, den_ret, den_fail, decide_eq_true_eq, gt_iff_lt, ge_iff_le, beq_iff_eq]
  by_cases h0 : t24 < (r0.length : Int) <;> simp only [h0, if_true, if_false]
  by_cases h1 : 0 ≤ t24
  case neg => simp only [h1, false_and, if_false]
  simp only [h1, true_and, if_true, and_self]
  obtain ⟨u, hu⟩ : ∃ u, r0[t24.toNat]? = some u := ⟨_, List.getElem?_eq_getElem (by omega)⟩
  simp only [hu, den_br, den_bind, den_ret, den_fail, den_get]
  by_cases h2 : t24 < (r1.length : Int) <;> simp only [h2, if_true, if_false, decide_true, decide_false, Bool.false_eq_true]
  obtain ⟨v, hv⟩ : ∃ v, r1[t24.toNat]? = some v := ⟨_, List.getElem?_eq_getElem (by omega)⟩
  simp only [hv, den_get, den_ret]
  rfl
theorem t_meniscusref20_SpotOf (t0a : Unit) (t0b : Iv) (t1 : Iv) (t2 : Iv) (t3 : Int) (t4 : Iv) (r0 : List Surf) :
    evFn Tryz.prog (Env.add 32 (FS (sc 5 [0, 1, 2, 3, 4] (tAgg 0 0 ccNil ccNil_ok ccIv ccIv_ok (tCod 1 cIv (tCod 2 cIv (tCod 3 cPair (tCod 4 cInt tNil))))) (rL_surf rNil)) (cTwo cRay cBool) (fun _ => true) ((fun x => aimOf x.1.2.1 x.2.1 x.1.2.2.1 x.1.2.2.2.1 x.1.2.2.2.2.1 x.1.2.2.2.2.2.1))) (Env.add 80 (F1 cIv cBool Iv.right) (Env.add 81 (FR (sc 1 [0] (tCod 0 cInt tNil) rNil) (sc 1 [0] (tSl 0 0 tNil) (rG_pair 60 rNil)) (fun _ => true) ((fun x => ((), (cellsP (cellsR x.1.1), ()))))) (Env.add 82 (F2p cPair cInt cInt ((fun p _ => pair20 p)) discOf) (Env.add 86 (F2 cIv cIv cIv Iv.sub) (Env.add 88 (F1 cInt cIv Iv.point) (Env.add 99 (F2 cIv cIv cIv Iv.div) (Env.add 100 (F1 cInt cIv Iv.whole) (Env.add 101 (F2 cIv cIv cIv Iv.add) (Env.add 102 (FS (sc 1 [0] (tAgg 0 0 ccNil ccNil_ok ccIv ccIv_ok tNil) (rL_surf rNil)) cIv ((fun x => lenOk x.2.1)) ((fun x => lastOf x.2.1))) (Env.add 103 (FS (sc 3 [0, 1, 2] (tAgg 0 0 ccNil ccNil_ok ccIv ccIv_ok (tCod 1 cRay (tCod 2 cIv tNil))) (rL_surf rNil)) (cThree cIv cIv cInt) ((fun x => lenOk x.2.1)) ((fun x => throughOf x.2.1 x.1.2.2.1 x.1.2.2.2.1))) (Env.add 104 (F1 cIv cIv Iv.sqr) Env.nil)))))))))))) (Laws.add 25 (LoopR.of (sc 169 [24, 15, 16, 14, 10] (tCod 24 cInt (tSl 15 0 (tSl 16 1 (tOwn 14 2 (tOwn 10 3 tNil))))) (rG_iv 25 (rG_iv 25 (rBox ccSpot ccSpot_ok (rBox ccSpot ccSpot_ok rNil))))) (ocExit 2 (sc 169 [14, 10] (tOwn 14 0 (tOwn 10 1 tNil)) (rBox ccSpot ccSpot_ok (rBox ccSpot ccSpot_ok rNil)))) (runBy meanDStep meanDM)) (Laws.add 9 (LoopR.of (sc 169 [18, 3, 17, 5, 6, 7, 12, 14, 15, 16, 10] (tCod 18 cInt (tCod 3 cInt (tSl 17 0 (tOwn 5 1 (tOwn 6 2 (tOwn 7 3 (tOwn 12 4 (tOwn 14 5 (tSl 15 6 (tSl 16 7 (tOwn 10 8 tNil))))))))))) (rG_pair 60 (rBoxSl 9 ccIv ccIv_ok (rBox ccIv ccIv_ok (rBox ccIv ccIv_ok (rBox ccIv ccIv_ok (rBox ccSpot ccSpot_ok (rG_iv 25 (rG_iv 25 (rBox ccSpot ccSpot_ok (rL_surf rNil))))))))))) (ocExit 0 (sc 169 [14, 15, 16, 10] (tOwn 14 0 (tSl 15 1 (tSl 16 2 (tOwn 10 3 tNil)))) (rBox ccSpot ccSpot_ok (rG_iv 25 (rG_iv 25 (rBox ccSpot ccSpot_ok rNil)))))) (runBy spotDStep spotDM)) Laws.nil)) 200 Tryz.f50 (((sc 5 [0, 1, 2, 3, 4] (tAgg 0 0 ccNil ccNil_ok ccIv ccIv_ok (tCod 1 cIv (tCod 2 cIv (tCod 3 cInt (tCod 4 cIv tNil))))) (rL_surf rNil)).enc ((t0a, t0b, t1, t2, t3, t4, ()), (r0, ()))).tmps.map Prod.snd) ((sc 5 [0, 1, 2, 3, 4] (tAgg 0 0 ccNil ccNil_ok ccIv ccIv_ok (tCod 1 cIv (tCod 2 cIv (tCod 3 cInt (tCod 4 cIv tNil))))) (rL_surf rNil)).enc ((t0a, t0b, t1, t2, t3, t4, ()), (r0, ()))).mem (cTwo cSpot cInt).dec =
      .br ((@Nat.cast Int _ r0.length) == 0) (.ret (((0, 0, Iv.mk 0 0 false, Iv.mk 0 0 false, Iv.mk 0 0 false), 1))) (.br (decide (t3 < 1)) (.ret (((0, 0, Iv.mk 0 0 false, Iv.mk 0 0 false, Iv.mk 0 0 false), 1))) (.br (decide (t3 > 16)) (.ret (((0, 0, Iv.mk 0 0 false, Iv.mk 0 0 false, Iv.mk 0 0 false), 1))) (.bind (t1.right) fun vb0 => .br (!vb0) (.ret (((0, 0, Iv.mk 0 0 false, Iv.mk 0 0 false, Iv.mk 0 0 false), 1))) (.bind (t2.right) fun vb1 => .br (!vb1) (.ret (((0, 0, Iv.mk 0 0 false, Iv.mk 0 0 false, Iv.mk 0 0 false), 1))) (.br (Ev.lenOk r0) (.bind (lastOf r0) fun viv2 => .bind (viv2.add t4) fun viv3 => .bind (Iv.point 0) fun viv4 => .br (true) (.bind (((), cellsP (cellsR t3), ())) fun vy5 => .get (runBy spotDStep spotDM ((0, t3, ()), vy5.2.1, t0b, t1, t2, viv3, (0, 0, viv4, viv4, viv4), [], [], (0, 0, Iv.mk 0 0 false, Iv.mk 0 0 false, Iv.mk 0 0 false), r0, ())) fun vy6 => .bind (Iv.whole (@Nat.cast Int _ vy6.2.2.1.length)) fun viv7 => .bind (vy6.2.1.2.2.1.div viv7) fun viv8 => .bind (Iv.whole (@Nat.cast Int _ vy6.2.2.1.length)) fun viv9 => .bind (vy6.2.1.2.2.2.1.div viv9) fun viv10 => .get (runBy meanDStep meanDM ((0, ()), vy6.2.2.1, vy6.2.2.2.1, ((@Nat.cast Int _ vy6.2.2.1.length), vy6.2.1.2.1, viv8, viv10, vy6.2.1.2.2.2.2), vy6.2.2.2.2.1, ())) fun vy11 => .bind (Iv.whole vy11.2.1.1) fun viv12 => .bind (vy11.2.1.2.2.2.2.div viv12) fun viv13 => .ret (((vy11.2.1.1, vy11.2.1.2.1, vy11.2.1.2.2.1, vy11.2.1.2.2.2.1, viv13), 0))) (.fail)) (.fail)))))) := by kernel_rfl
theorem c_meniscusref20_SpotOf : PlainS Tryz.prog 50 (sc 5 [0, 1, 2, 3, 4] (tAgg 0 0 ccNil ccNil_ok ccIv ccIv_ok (tCod 1 cIv (tCod 2 cIv (tCod 3 cInt (tCod 4 cIv tNil))))) (rL_surf rNil)) (cTwo cSpot cInt) ((fun x => lenOk x.2.1)) ((fun x => spotOf x.1.2.1 x.2.1 x.1.2.2.1 x.1.2.2.2.1 x.1.2.2.2.2.1 x.1.2.2.2.2.2.1)) := by
  intro x h N w vs hM hv
  obtain ⟨⟨t0a, t0b, t1, t2, t3, t4, ⟨⟩⟩, ⟨r0, ⟨⟩⟩⟩ := x
  refine calls_of_tree (n := 200) (EnvOK.add s_meniscusref20_Aim (EnvOK.add s_meniscusref1_Right (EnvOK.add s_meniscusref8_Cells (EnvOK.add s_meniscusref8_Pair_InDisc (EnvOK.add s_meniscusref1_Sub (EnvOK.add s_meniscusref1_Point (EnvOK.add s_meniscusref1_DivIv (EnvOK.add s_meniscusref1_Whole (EnvOK.add s_meniscusref1_Add (EnvOK.add s_meniscusref8_Last (EnvOK.add s_meniscusref14_Reach (EnvOK.add s_meniscusref1_Sqr EnvOK.nil)))))))))))) Tryz.func50 hv (Nat.le_of_ble_eq_true (by kernel_rfl)) (LFn.add (fn := Tryz.f50) (i := 25) (by kernel_rfl) ok_meniscusref20_SpotOf_25 (LFn.add (fn := Tryz.f50) (i := 9) (by kernel_rfl) ok_meniscusref20_SpotOf_9 LFn.nil)) hM (cTwo cSpot cInt) ?_
  rw [t_meniscusref20_SpotOf]
  simp only at h
  simp only [den_br, den_bind, den_ret, den_fail, decide_eq_true_eq, gt_iff_lt, ge_iff_le, beq_iff_eq, h, if_true]
  have hz : ((0, 0, ⟨0, 0, false⟩, ⟨0, 0, false⟩, ⟨0, 0, false⟩) : SpotV) = zeroS := rfl
  simp only [hz]
  by_cases hs : sizedC r0 t3 = true
  case neg =>
    have hs2 : ¬ (0 < (r0.length : Int) ∧ 1 ≤ t3 ∧ t3 ≤ 16) := fun e => hs (sizedC_iff.2 e)
    by_cases c1 : (r0.length : Int) = 0
    · simp [hs, c1, spotOf]
    by_cases c2 : t3 < 1
    · simp [hs, c1, c2, spotOf]
    have c3 : 16 < t3 := by omega
    simp [hs, c1, c2, c3, spotOf]
  have hs' := sizedC_iff.1 hs
  simp only [show ¬ (r0.length : Int) = 0 by omega, show ¬ t3 < 1 by omega, show ¬ 16 < t3 by omega, if_false]
  by_cases c1 : t1.right = true
  case neg => simp [hs, c1, spotOf]
  by_cases c2 : t2.right = true
  case neg => simp [hs, c1, c2, spotOf]
  simp only [c1, c2, Bool.not_true, Bool.false_eq_true, if_false]
  have hlen := lenOk_iff.2 (Nat.le_trans (spotFold_len t0b r0 t1 t2 ((lastOf r0).add t4) (n := t3) (by omega)) (by decide : 1024 ≤ 1048576))
  have hr := spotD_run (o := t0b) (x := t1) (y := t2) (at_ := (lastOf r0).add t4) (res := zeroS) (m := Iv.point 0) h hs'.2
  have hm := fun X Y => meanD_run (res := zeroS) (c := ((spotFold t0b r0 t1 t2 t3 ((lastOf r0).add t4)).1.length : Int)) (t := (spotFold t0b r0 t1 t2 t3 ((lastOf r0).add t4)).2) (X := X) (Y := Y) ⟨0, 0, false⟩ (Iv.point 0) (lenOk_iff.1 hlen)
  simp only [hr, den_get, List.length_map, hm, den_br, den_bind, den_ret, spotOf, hs, c1, c2, and_self, if_true]
  rfl
theorem s_meniscusref20_SpotOf : Ev.Spec Tryz.prog 50 (FS (sc 5 [0, 1, 2, 3, 4] (tAgg 0 0 ccNil ccNil_ok ccIv ccIv_ok (tCod 1 cIv (tCod 2 cIv (tCod 3 cInt (tCod 4 cIv tNil))))) (rL_surf rNil)) (cTwo cSpot cInt) ((fun x => lenOk x.2.1)) ((fun x => spotOf x.1.2.1 x.2.1 x.1.2.2.1 x.1.2.2.2.1 x.1.2.2.2.2.1 x.1.2.2.2.2.2.1))) := specS rfl (fun vs w => Tryz.call50 vs w) c_meniscusref20_SpotOf
end Go.Proofs.YtliglpiofomelaaGreat
