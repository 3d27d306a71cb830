/-
  Contracts of calls, written by a small program of this session out of the evaluator's trees.
-/
import Derived.Test.YtliglpiofomelaaGreatCore
import Derived.Test.YtliglpiofomelaaGreatCoreLoops
import Derived.Test.YtliglpiofomelaaGreatCore2
import Derived.Test.YtliglpiofomelaaGreatCore3
import Derived.Test.YtliglpiofomelaaGreatCore4
import Derived.Test.YtliglpiofomelaaGreatCore5
import Derived.Test.YtliglpiofomelaaGreatCore6
import Derived.Test.YtliglpiofomelaaGreatCore7
import Derived.Test.YtliglpiofomelaaGreatCore8
import Derived.Test.YtliglpiofomelaaGreatCore9
import Derived.Test.YtliglpiofomelaaGreatEvMore
import Derived.Test.YtliglpiofomelaaGreatSym
import Derived.Test.YtliglpiofomelaaGreatSysF
import Derived.Test.YtliglpiofomelaaGreatLess2
import Derived.Test.YtliglpiofomelaaGreatFloCod
import Derived.Test.YtliglpiofomelaaGreatGs
import Derived.Test.YtliglpiofomelaaGreatPup
import Derived.Test.YtliglpiofomelaaGreatR0
import Derived.Test.YtliglpiofomelaaGreatG0
import Derived.Test.YtliglpiofomelaaGreatPup2
import Derived.Test.YtliglpiofomelaaGreatW0
import Derived.Test.YtliglpiofomelaaGreatPup3
import Derived.Test.YtliglpiofomelaaGreatEvCod
import Derived.Test.YtliglpiofomelaaGreatEvRet
import Derived.Test.YtliglpiofomelaaGreatProg
namespace Go.Proofs.YtliglpiofomelaaGreat
open Go Go.RowKit Ev
set_option maxRecDepth 100000
set_option linter.unusedVariables false
set_option linter.unusedSimpArgs false

/-! meniscushand.Straight -/
theorem tl_meniscushand_Straight_4 (t5 : Int) (t4 : Int) (r0 : List Int) (r1 : Iv) (r2 : Iv) (r3 : List Surf) (r4 : List Surf) :
    ev Tryz.prog (Env.add 16 (F2p cInt cInt cInt pickOk pick) (Env.add 88 (F1 cInt cIv Iv.point) (Env.add 100 (F1 cInt cIv Iv.whole) Env.nil))) Laws.nil 200 none (loopAt Tryz.f73 4) ((sc 48 [5, 4, 0, 3, 2] (tCod 5 cInt (tCod 4 cInt (tSl 0 0 (tOwn 3 1 (tOwn 2 2 tNil))))) (rL_int (rBoxSl 3 ccIv ccIv_ok (rBoxSl 4 ccIv ccIv_ok (rG_surf 88 (rL_surf rNil)))))).enc ((t5, t4, ()), (r0, r1, r2, r3, r4, ()))) (backK (sc 48 [5, 4, 0, 3, 2] (tCod 5 cInt (tCod 4 cInt (tSl 0 0 (tOwn 3 1 (tOwn 2 2 tNil))))) (rL_int (rBoxSl 3 ccIv ccIv_ok (rBoxSl 4 ccIv ccIv_ok (rG_surf 88 (rL_surf rNil)))))) (ocExit 0 (sc 48 [3, 2] (tOwn 3 0 (tOwn 2 1 tNil)) (rBoxSl 2 ccIv ccIv_ok (rBoxSl 3 ccIv ccIv_ok (rG_surf 88 (rL_surf rNil))))))) =
      .br (decide (t5 < (@Nat.cast Int _ r0.length))) (.br (decide (t5 < 4)) (.br (decide (0 ≤ t5 ∧ t5 < (@Nat.cast Int _ r0.length))) (.get (r0[t5.toNat]?) fun vt0 => .br (pickOk vt0 2) (.bind (pick vt0 2) fun vn1 => .bind (Iv.point 0) fun viv2 => .bind (Iv.point 65536) fun viv3 => .bind (Iv.point 0) fun viv4 => .bind (Iv.point 0) fun viv5 => .bind (Iv.point t4) fun viv6 => .bind (Iv.whole 100) fun viv7 => .bind (Iv.point 65536) fun viv8 => .br (Ev.lenOk (r3 ++ [Surf.mk (vn1 == 0) false viv2 viv3 viv4 viv5 viv6 viv7 viv8])) (.br (decide (0 ≤ t5 ∧ t5 < (@Nat.cast Int _ r0.length))) (.get (r0[t5.toNat]?) fun vt9 => .br (pickOk (IntKind.i64.wrap (Int.tdiv vt9 2)) 327680) (.bind (pick (IntKind.i64.wrap (Int.tdiv vt9 2)) 327680) fun vn10 => .ret (Sum.inl ((IntKind.i64.wrap (t5 + 1), IntKind.i64.wrap (IntKind.i64.wrap (t4 + 1) + vn10), ()), r0, r1, r2, r3 ++ [Surf.mk (vn1 == 0) false viv2 viv3 viv4 viv5 viv6 viv7 viv8], r4, ()))) (.fail)) (.fail)) (.fail)) (.fail)) (.fail)) (.ret (Sum.inr ((), r1, r2, r3, r4, ())))) (.ret (Sum.inr ((), r1, r2, r3, r4, ()))) := by kernel_rfl
theorem ok_meniscushand_Straight_4 : LOK Tryz.prog (LoopR.of (sc 48 [5, 4, 0, 3, 2] (tCod 5 cInt (tCod 4 cInt (tSl 0 0 (tOwn 3 1 (tOwn 2 2 tNil))))) (rL_int (rBoxSl 3 ccIv ccIv_ok (rBoxSl 4 ccIv ccIv_ok (rG_surf 88 (rL_surf rNil)))))) (ocExit 0 (sc 48 [3, 2] (tOwn 3 0 (tOwn 2 1 tNil)) (rBoxSl 2 ccIv ccIv_ok (rBoxSl 3 ccIv ccIv_ok (rG_surf 88 (rL_surf rNil)))))) (runBy straightStep straightM)) (loopAt Tryz.f73 4) := by
  refine loop_ok (EnvOK.add s_meniscushand_Pick (EnvOK.add s_meniscusref1_Point (EnvOK.add s_meniscusref1_Whole EnvOK.nil))) (LFn.at (fn := Tryz.f73) LFn.nil 4) straightStep (n := 200) (fun x z h => ?_) (runBy_ok _ _)
  obtain ⟨⟨t5, t4, ⟨⟩⟩, ⟨r0, r1, r2, r3, r4, ⟨⟩⟩⟩ := x
  rw [tl_meniscushand_Straight_4]
  by_cases h0 : t5 < (r0.length : Int) ∧ t5 < 4
  case neg =>
    rw [← h]
    simp only [straightStep, h0, if_false]
    simp only [den_br, den_bind, den_ret, den_fail, den_inl, den_inr, decide_eq_true_eq, gt_iff_lt, ge_iff_le, beq_iff_eq]
    by_cases c : t5 < (r0.length : Int) <;> by_cases d : t5 < 4 <;> simp only [c, d, if_true, if_false]
    exact absurd ⟨c, d⟩ h0
  by_cases h1 : 0 ≤ t5
  case neg => simp [straightStep, h0, h1] at h
  obtain ⟨v, hg⟩ : ∃ v, r0[t5.toNat]? = some v := ⟨_, List.getElem?_eq_getElem (by omega)⟩
  rw [← h]
  have pk2 : ∀ n : Int, pickOk n 2 = true := fun _ => by simp [pickOk]
  have pk327680 : ∀ n : Int, pickOk n 327680 = true := fun _ => by simp [pickOk]
  simp only [straightStep, airPlane, airNext, h0, h1, hg, and_self, if_true]
  simp only [den_br, den_bind, den_ret, den_fail, den_inl, den_inr, decide_eq_true_eq, gt_iff_lt, ge_iff_le, beq_iff_eq]
  simp only [h0.1, h0.2, h1, hg, and_self, true_and, decide_true, if_true, den_get, den_br, den_bind, den_ret, den_fail, dv_eq, pk2, pk327680]
  rfl
theorem t_meniscushand_Straight (r0 : List Int) :
    evFnR Tryz.prog (Env.add 16 (F2p cInt cInt cInt pickOk pick) (Env.add 88 (F1 cInt cIv Iv.point) (Env.add 100 (F1 cInt cIv Iv.whole) Env.nil))) (Laws.add 4 (LoopR.of (sc 48 [5, 4, 0, 3, 2] (tCod 5 cInt (tCod 4 cInt (tSl 0 0 (tOwn 3 1 (tOwn 2 2 tNil))))) (rL_int (rBoxSl 3 ccIv ccIv_ok (rBoxSl 4 ccIv ccIv_ok (rG_surf 88 (rL_surf rNil)))))) (ocExit 0 (sc 48 [3, 2] (tOwn 3 0 (tOwn 2 1 tNil)) (rBoxSl 2 ccIv ccIv_ok (rBoxSl 3 ccIv ccIv_ok (rG_surf 88 (rL_surf rNil)))))) (runBy straightStep straightM)) Laws.nil) 200 Tryz.f73 (((sc 1 [0] (tSl 0 0 tNil) (rL_int rNil)).enc ((()), (r0, ()))).tmps.map Prod.snd) ((sc 1 [0] (tSl 0 0 tNil) (rL_int rNil)).enc ((()), (r0, ()))).mem (sc 1 [0] (tAgg 0 0 ccNil ccNil_ok ccIv ccIv_ok tNil) (rG_surf 88 rNil)).ts (sc 1 [0] (tAgg 0 0 ccNil ccNil_ok ccIv ccIv_ok tNil) (rG_surf 88 rNil)).dec =
      .bind (Iv.whole 8) fun viv0 => .get (runBy straightStep straightM ((0, 655360, ()), r0, viv0, Iv.mk 0 0 false, [], [], ())) fun vy1 => .ret ((((), vy1.2.1, ()), vy1.2.2.2.1, ())) := by kernel_rfl
theorem c_meniscushand_Straight : PlainR Tryz.prog 73 (sc 1 [0] (tSl 0 0 tNil) (rL_int rNil)) (sc 1 [0] (tAgg 0 0 ccNil ccNil_ok ccIv ccIv_ok tNil) (rG_surf 88 rNil)) (fun _ => true) ((fun x => (fun r : SysV => (((), r.1, ()), (r.2, ()))) (straightOf x.2.1))) := by
  intro x h N w vs hM hv
  obtain ⟨⟨⟩, ⟨r0, ⟨⟩⟩⟩ := x
  refine calls_of_treeR (n := 200) (EnvOK.add s_meniscushand_Pick (EnvOK.add s_meniscusref1_Point (EnvOK.add s_meniscusref1_Whole EnvOK.nil))) Tryz.func73 hv (Nat.le_of_ble_eq_true (by kernel_rfl)) (LFn.add (fn := Tryz.f73) (i := 4) (by kernel_rfl) ok_meniscushand_Straight_4 LFn.nil) hM (sc 1 [0] (tAgg 0 0 ccNil ccNil_ok ccIv ccIv_ok tNil) (rG_surf 88 rNil)) rfl ?_
  rw [t_meniscushand_Straight]
  obtain ⟨y, hy, y1, y2⟩ := straight_total r0 (Iv.whole 8) ⟨0, 0, false⟩
  simp only [straightOf, hy]
  rw [show (⟨0, 0, false⟩ : Iv) = ⟨0, 0, false⟩ from rfl]
  simp only [den_bind, den_br, den_get, den_ret, hy]
theorem s_meniscushand_Straight : Ev.Spec Tryz.prog 73 (FR (sc 1 [0] (tSl 0 0 tNil) (rL_int rNil)) (sc 1 [0] (tAgg 0 0 ccNil ccNil_ok ccIv ccIv_ok tNil) (rG_surf 88 rNil)) (fun _ => true) ((fun x => (fun r : SysV => (((), r.1, ()), (r.2, ()))) (straightOf x.2.1)))) := specR rfl (fun _ => rfl) (fun vs w => Tryz.call73 vs w) c_meniscushand_Straight

/-! meniscushand.In -/
theorem t_meniscushand_In (x0 : Iv) (x1 : Int) (x2 : Int) :
    evFn Tryz.prog (Env.add 16 (F2p cInt cInt cInt pickOk pick) (Env.add 80 (F1 cIv cBool Iv.right) Env.nil)) Laws.nil 200 Tryz.f37 [cIv.av x0, cInt.av x1, cInt.av x2] [] cIv.dec =
      .bind (x0.right) fun vb0 => .br (!vb0) (.ret (x0)) (.br (pickOk x1 (IntKind.i64.wrap (IntKind.i64.wrap (x0.hi - x0.lo) + 1))) (.bind (pick x1 (IntKind.i64.wrap (IntKind.i64.wrap (x0.hi - x0.lo) + 1))) fun vn1 => .br (pickOk x2 (IntKind.i64.wrap (IntKind.i64.wrap (x0.hi - IntKind.i64.wrap (x0.lo + vn1)) + 1))) (.bind (pick x2 (IntKind.i64.wrap (IntKind.i64.wrap (x0.hi - IntKind.i64.wrap (x0.lo + vn1)) + 1))) fun vn2 => .ret (Iv.mk (IntKind.i64.wrap (x0.lo + vn1)) (IntKind.i64.wrap (IntKind.i64.wrap (x0.lo + vn1) + vn2)) false)) (.fail)) (.fail)) := by kernel_rfl
theorem c_meniscushand_In (x0 : Iv) (x1 : Int) (x2 : Int) : Plain Tryz.prog 37 [cIv.enc x0, cInt.enc x1, cInt.enc x2] (cIv.enc (inIv x0 x1 x2)) :=
  plain_of_tree (n := 200) (EnvOK.add s_meniscushand_Pick (EnvOK.add s_meniscusref1_Right EnvOK.nil)) Tryz.func37 (args := [cIv.av x0, cInt.av x1, cInt.av x2]) (by simp only [AV.vals, Cod.av_val]) (Nat.le_of_ble_eq_true (by kernel_rfl)) LFn.nil cIv (by
    rw [t_meniscushand_In]
    simp only [Tr.den, inIv]
    cases hr : x0.right
    · simp
    · have b := right_bd hr
      have p1 := pick_bd x1 (m := x0.hi - x0.lo + 1) (by omega)
      have p2 := pick_bd x2 (m := x0.hi - (x0.lo + pick x1 (x0.hi - x0.lo + 1)) + 1) (by omega)
      simp (disch := omega) only [IntWalk.i64_in]
      have q1 : pickOk x1 (x0.hi - x0.lo + 1) = true := by simp [pickOk]; omega
      have q2 : pickOk x2 (x0.hi - (x0.lo + pick x1 (x0.hi - x0.lo + 1)) + 1) = true := by simp [pickOk]; omega
      simp (disch := omega) only [IntWalk.i64_in, q1, q2, Bool.not_true, if_true])
theorem s_meniscushand_In : Ev.Spec Tryz.prog 37 (F3 cIv cInt cInt cIv inIv) := spec3 (fun vs w => Tryz.call37 vs w) c_meniscushand_In

/-! meniscuslaw23.open -/
theorem t_meniscuslaw23_open  :
    evFnR Tryz.prog (Env.add 41 (F1 cInt cIv Iv.whole) (Env.add 73 (FR (sc 1 [0] (tSl 0 0 tNil) (rL_int rNil)) (sc 1 [0] (tAgg 0 0 ccNil ccNil_ok ccIv ccIv_ok tNil) (rG_surf 88 rNil)) (fun _ => true) ((fun x => (fun r : SysV => (((), r.1, ()), (r.2, ()))) (straightOf x.2.1)))) Env.nil)) Laws.nil 200 Tryz.f90 (((sc 0 [] tNil rNil).enc ((()), (()))).tmps.map Prod.snd) ((sc 0 [] tNil rNil).enc ((()), (()))).mem (sc 1 [0] (tAgg 0 0 ccNil ccNil_ok ccIv ccIv_ok tNil) (rG_surf 88 rNil)).ts (sc 1 [0] (tAgg 0 0 ccNil ccNil_ok ccIv ccIv_ok tNil) (rG_surf 88 rNil)).dec =
      .br (true) (.bind ((((), (straightOf [1]).1, ()), (straightOf [1]).2, ())) fun vy0 => .bind (Iv.whole 4) fun viv1 => .ret ((((), viv1, ()), vy0.2.1, ()))) (.fail) := by kernel_rfl
theorem c_meniscuslaw23_open : PlainR Tryz.prog 90 (sc 0 [] tNil rNil) (sc 1 [0] (tAgg 0 0 ccNil ccNil_ok ccIv ccIv_ok tNil) (rG_surf 88 rNil)) (fun _ => true) ((fun _ => (((), Iv.whole 4, ()), ((straightOf [1]).2, ())))) := by
  intro x h N w vs hM hv
  obtain ⟨⟨⟩, ⟨⟩⟩ := x
  refine calls_of_treeR (n := 200) (EnvOK.add s_iv_Whole (EnvOK.add s_meniscushand_Straight EnvOK.nil)) Tryz.func90 hv (Nat.le_of_ble_eq_true (by kernel_rfl)) LFn.nil hM (sc 1 [0] (tAgg 0 0 ccNil ccNil_ok ccIv ccIv_ok tNil) (rG_surf 88 rNil)) rfl ?_
  rw [t_meniscuslaw23_open]
  rfl
theorem s_meniscuslaw23_open : Ev.Spec Tryz.prog 90 (FR (sc 0 [] tNil rNil) (sc 1 [0] (tAgg 0 0 ccNil ccNil_ok ccIv ccIv_ok tNil) (rG_surf 88 rNil)) (fun _ => true) ((fun _ => (((), Iv.whole 4, ()), ((straightOf [1]).2, ()))))) := specR rfl (fun _ => rfl) (fun vs w => Tryz.call90 vs w) c_meniscuslaw23_open

/-! meniscuslaw23.film -/
theorem t_meniscuslaw23_film (x0 : Int) (x1 : Int) (x2 : Int) :
    evFn Tryz.prog (Env.add 16 (F2p cInt cInt cInt pickOk pick) (Env.add 62 (F2 cInt cInt cIv wide) Env.nil)) Laws.nil 200 Tryz.f26 [cInt.av x0, cInt.av x1, cInt.av x2] [] (cTwo cIv cIv).dec =
      .br (pickOk x2 3000) (.bind (pick x2 3000) fun vn0 => .br (pickOk x0 1048576) (.bind (pick x0 1048576) fun vn1 => .bind (wide (IntKind.i64.wrap (vn1 - 524288)) vn0) fun viv2 => .br (pickOk x1 1048576) (.bind (pick x1 1048576) fun vn3 => .bind (wide (IntKind.i64.wrap (vn3 - 524288)) (IntKind.i64.wrap (vn0.tdiv 3))) fun viv4 => .ret ((viv2, viv4))) (.fail)) (.fail)) (.fail) := by kernel_rfl
theorem c_meniscuslaw23_film (x0 : Int) (x1 : Int) (x2 : Int) : Plain Tryz.prog 26 [cInt.enc x0, cInt.enc x1, cInt.enc x2] ((cTwo cIv cIv).enc (filmOf x0 x1 x2)) :=
  plain_of_tree (n := 200) (EnvOK.add s_meniscushand_Pick (EnvOK.add s_meniscushand_Wide EnvOK.nil)) Tryz.func26 (args := [cInt.av x0, cInt.av x1, cInt.av x2]) (by simp only [AV.vals, Cod.av_val]) (Nat.le_of_ble_eq_true (by kernel_rfl)) LFn.nil (cTwo cIv cIv) (by
    rw [t_meniscuslaw23_film]
    have p1 : ∀ n : Int, pickOk n 1048576 = true := fun _ => by simp [pickOk]
    have p2 : ∀ n : Int, pickOk n 3000 = true := fun _ => by simp [pickOk]
    have w : ∀ n : Int, IntKind.i64.wrap (pick n 1048576 - 524288) = pick n 1048576 - 524288 := fun n => wr (by have := pick_bd n (m := 1048576) (by decide); omega)
    simp only [den_br, den_bind, den_ret, p1, p2, if_true, w]
    rfl)
theorem s_meniscuslaw23_film : Ev.Spec Tryz.prog 26 (F3 cInt cInt cInt (cTwo cIv cIv) filmOf) := spec3 (fun vs w => Tryz.call26 vs w) c_meniscuslaw23_film

/-! meniscuslaw23.known -/
theorem t_meniscuslaw23_known  :
    evFn Tryz.prog (Env.add 18 (F1 cInt cIv Iv.point) (Env.add 28 (FS (sc 4 [0, 1, 2, 3] (tAgg 0 0 ccNil ccNil_ok ccIv ccIv_ok (tCod 1 cIv (tCod 2 cIv (tCod 3 cInt tNil)))) (rL_surf rNil)) (cTwo cRep cInt) ((fun x => lenOk x.2.1)) ((fun x => (repC (scanOf x.1.2.1 x.2.1 x.1.2.2.1 x.1.2.2.2.1 x.1.2.2.2.2.1).1, (scanOf x.1.2.1 x.2.1 x.1.2.2.1 x.1.2.2.2.1 x.1.2.2.2.2.1).2)))) (Env.add 90 (FR (sc 0 [] tNil rNil) (sc 1 [0] (tAgg 0 0 ccNil ccNil_ok ccIv ccIv_ok tNil) (rG_surf 88 rNil)) (fun _ => true) ((fun _ => (((), Iv.whole 4, ()), ((straightOf [1]).2, ()))))) Env.nil))) Laws.nil 200 Tryz.f33 [] [] cBool.dec =
      .br (true) (.bind ((((), Iv.whole 4, ()), (straightOf [1]).2, ())) fun vy0 => .bind (Iv.point 0) fun viv1 => .bind (Iv.point 0) fun viv2 => .br (Ev.lenOk vy0.2.1) (.bind ((repC (scanOf vy0.1.2.1 vy0.2.1 viv1 viv2 1).1, (scanOf vy0.1.2.1 vy0.2.1 viv1 viv2 1).2)) fun vy3 => .br (vy3.2 == 0) (.br (vy3.1.2.2.1 == 4) (.br (vy3.1.2.2.2.1) (.br (Ev.cEq vy3.1.2.2.2.2.1.1 vy3.1.2.2.2.2.1.2 13830554455654793216 13830554455654793216) (.br (Ev.cEq vy3.1.2.2.2.2.2.1 vy3.1.2.2.2.2.2.2 4607182418800017408 4607182418800017408) (.br (vy3.1.1 == 0) (.ret (vy3.1.2.1 == 4)) (.ret (false))) (.ret (false))) (.ret (false))) (.ret (false))) (.ret (false))) (.ret (false))) (.fail)) (.fail) := by kernel_rfl
theorem c_meniscuslaw23_known  : Plain Tryz.prog 33 [] (cBool.enc (true)) :=
  plain_of_tree (n := 200) (EnvOK.add s_iv_Point (EnvOK.add s_pupil_Scan (EnvOK.add s_meniscuslaw23_open EnvOK.nil))) Tryz.func33 (args := []) rfl (Nat.le_of_ble_eq_true (by kernel_rfl)) LFn.nil cBool (by
    rw [t_meniscuslaw23_known]
    decide +kernel)
theorem s_meniscuslaw23_known : Ev.Spec Tryz.prog 33 (F0 cBool true) := spec0 (fun vs w => Tryz.call33 vs w) c_meniscuslaw23_known

/-! meniscuslaw23.PupilAims -/
theorem t_meniscuslaw23_PupilAims (t0 : Int) (t2 : Int) (t3 : Int) (t4 : Int) (t5 : Int) (t6 : Int) (t7 : Int) (t8 : Int) (t9 : Int) (t10 : Int) (t11 : Int) (r0 : List RawFace) :
    evFn Tryz.prog (Env.add 13 (FR (sc 5 [0, 1, 2, 3, 4] (tCod 0 cInt (tSl 1 0 (tSl 2 1 (tCod 3 cInt (tCod 4 cBool tNil))))) (rL_rface (rL_int rNil))) (sc 1 [0] (tAgg 0 0 ccNil ccNil_ok ccIv ccIv_ok tNil) (rG_surf 88 rNil)) ((fun x => mostOk x.1.2.1)) ((fun x => (fun r : SysV => (((), r.1, ()), (r.2, ()))) (systemOf x.1.1 x.2.1 x.2.2.1 x.1.2.1 x.1.2.2.1)))) (Env.add 16 (F2p cInt cInt cInt pickOk pick) (Env.add 26 (F3 cInt cInt cInt (cTwo cIv cIv) filmOf) (Env.add 30 (FS (sc 5 [0, 1, 2, 3, 4] (tAgg 0 0 ccNil ccNil_ok ccIv ccIv_ok (tCod 1 cIv (tCod 2 cIv (tCod 3 cCx (tCod 4 cInt tNil))))) (rL_surf rNil)) (cTwo cRay cBool) (fun _ => true) ((fun x => aimP x.1.2.1 x.2.1 x.1.2.2.1 x.1.2.2.2.1 x.1.2.2.2.2.1 x.1.2.2.2.2.2.1))) (Env.add 33 (F0 cBool true) (Env.add 37 (F3 cIv cInt cInt cIv inIv) (Env.add 38 (F1 cIv cIv Iv.neg) (Env.add 39 (F2 cIv cIv cIv Iv.div) (Env.add 40 (F2 cIv cInt cIv Iv.times) (Env.add 41 (F1 cInt cIv Iv.whole) (Env.add 42 (F1 cV cV V.unit) (Env.add 43 (F3 cIv cIv cIv cV V.mk) (Env.add 44 (F2 cIv cIv cIv Iv.sub) (Env.add 45 (F2 cV cV cBool V.inside) (Env.add 46 (F1 cV cV V.mirror) (Env.add 46 (F1 cV cV V.mirror) (Env.add 47 (F1 cV cBool V.right) Env.nil))))))))))))))))) Laws.nil 200 Tryz.f8 (((sc 12 [0, 1, 2, 3, 4, 5, 6, 7, 8, 9, 10, 11] (tCod 0 cInt (tSl 1 0 (tCod 2 cInt (tCod 3 cInt (tCod 4 cInt (tCod 5 cInt (tCod 6 cInt (tCod 7 cInt (tCod 8 cInt (tCod 9 cInt (tCod 10 cInt (tCod 11 cInt tNil)))))))))))) (rL_rface rNil)).enc ((t0, t2, t3, t4, t5, t6, t7, t8, t9, t10, t11, ()), (r0, ()))).tmps.map Prod.snd) ((sc 12 [0, 1, 2, 3, 4, 5, 6, 7, 8, 9, 10, 11] (tCod 0 cInt (tSl 1 0 (tCod 2 cInt (tCod 3 cInt (tCod 4 cInt (tCod 5 cInt (tCod 6 cInt (tCod 7 cInt (tCod 8 cInt (tCod 9 cInt (tCod 10 cInt (tCod 11 cInt tNil)))))))))))) (rL_rface rNil)).enc ((t0, t2, t3, t4, t5, t6, t7, t8, t9, t10, t11, ()), (r0, ()))).mem cBool.dec =
      .br (mostOk 2) (.bind ((((), (systemOf t0 r0 [] 2 true).1, ()), (systemOf t0 r0 [] 2 true).2, ())) fun vy0 => .br ((@Nat.cast Int _ vy0.2.1.length) == 0) (.bind (true) fun vb1 => .ret (vb1)) (.bind (filmOf t2 t3 t4) fun vy2 => .br (pickOk t5 8) (.bind (pick t5 8) fun vn3 => .br (pickOk t6 (IntKind.i64.wrap (2 * IntKind.i64.wrap (1 + vn3)))) (.bind (pick t6 (IntKind.i64.wrap (2 * IntKind.i64.wrap (1 + vn3)))) fun vn4 => .br (pickOk t7 (IntKind.i64.wrap (2 * IntKind.i64.wrap (1 + vn3)))) (.bind (pick t7 (IntKind.i64.wrap (2 * IntKind.i64.wrap (1 + vn3)))) fun vn5 => .br (true) (.bind (aimP vy0.1.2.1 vy0.2.1 vy2.1 vy2.2 (Ev.fInt (IntKind.i64.wrap (vn4 - IntKind.i64.wrap (1 + vn3))), Ev.fInt (IntKind.i64.wrap (vn5 - IntKind.i64.wrap (1 + vn3)))) (IntKind.i64.wrap (1 + vn3))) fun vy6 => .bind (inIv vy2.1 t10 t11) fun viv7 => .bind (inIv vy2.2 t11 t10) fun viv8 => .br (true) (.bind (aimP vy0.1.2.1 vy0.2.1 viv7 viv8 (Ev.fInt (IntKind.i64.wrap (vn4 - IntKind.i64.wrap (1 + vn3))), Ev.fInt (IntKind.i64.wrap (vn5 - IntKind.i64.wrap (1 + vn3)))) (IntKind.i64.wrap (1 + vn3))) fun vy9 => .bind (vy2.2.neg) fun viv10 => .br (true) (.bind (aimP vy0.1.2.1 vy0.2.1 vy2.1 viv10 (Ev.fInt (IntKind.i64.wrap (vn4 - IntKind.i64.wrap (1 + vn3))), Ev.fInt (IntKind.i64.wrap (IntKind.i64.wrap (0 - IntKind.i64.wrap (vn5 - IntKind.i64.wrap (1 + vn3))) - 1))) (IntKind.i64.wrap (1 + vn3))) fun vy11 => .bind (true) fun vb12 => .br (!vb12) (.ret (false)) (.br (!vy6.2) (.ret (false)) (.br (!vy9.2) (.ret (false)) (.br (!vy11.2) (.ret (false)) (.br (pickOk t8 2) (.bind (pick t8 2) fun vn13 => .bind (vy0.1.2.1.times (IntKind.i64.wrap (IntKind.i64.wrap (vn4 - IntKind.i64.wrap (1 + vn3)) + vn13))) fun viv14 => .bind (Iv.whole (IntKind.i64.wrap (1 + vn3))) fun viv15 => .bind (viv14.div viv15) fun viv16 => .br (pickOk t9 2) (.bind (pick t9 2) fun vn17 => .bind (vy0.1.2.1.times (IntKind.i64.wrap (IntKind.i64.wrap (vn5 - IntKind.i64.wrap (1 + vn3)) + vn17))) fun viv18 => .bind (Iv.whole (IntKind.i64.wrap (1 + vn3))) fun viv19 => .bind (viv18.div viv19) fun viv20 => .bind (viv16.sub vy2.1) fun viv21 => .bind (viv20.sub vy2.2) fun viv22 => .br (decide ((0 : Int) ≤ 0 ∧ 0 < (@Nat.cast Int _ vy0.2.1.length))) (.get (vy0.2.1[Int.toNat 0]?) fun vt23 => .bind (V.mk viv21 viv22 vt23.at_) fun vv24 => .bind (vv24.unit) fun vv25 => .bind (vy9.1.o.inside vy6.1.o) fun vb26 => .br (vb26) (.bind (vy9.1.d.inside vy6.1.d) fun vb27 => .br (vb27) (.bind (vy6.1.o.mirror) fun vv28 => .br (vy11.1.o.x.lo == vv28.x.lo && (vy11.1.o.x.hi == vv28.x.hi && vy11.1.o.x.no == vv28.x.no) && (vy11.1.o.y.lo == vv28.y.lo && (vy11.1.o.y.hi == vv28.y.hi && vy11.1.o.y.no == vv28.y.no) && (vy11.1.o.z.lo == vv28.z.lo && (vy11.1.o.z.hi == vv28.z.hi && vy11.1.o.z.no == vv28.z.no)))) (.bind (vy6.1.d.mirror) fun vv29 => .br (vy11.1.d.x.lo == vv29.x.lo && (vy11.1.d.x.hi == vv29.x.hi && vy11.1.d.x.no == vv29.x.no) && (vy11.1.d.y.lo == vv29.y.lo && (vy11.1.d.y.hi == vv29.y.hi && vy11.1.d.y.no == vv29.y.no) && (vy11.1.d.z.lo == vv29.z.lo && (vy11.1.d.z.hi == vv29.z.hi && vy11.1.d.z.no == vv29.z.no)))) (.bind (vv25.right) fun vb30 => .br (!vb30) (.ret (true)) (.bind (vv25.inside vy6.1.d) fun vb31 => .ret (vb31))) (.ret (false))) (.ret (false))) (.ret (false))) (.ret (false))) (.fail)) (.fail)) (.fail)))))) (.fail)) (.fail)) (.fail)) (.fail)) (.fail)) (.fail))) (.fail) := by kernel_rfl
theorem c_meniscuslaw23_PupilAims : PlainS Tryz.prog 8 (sc 12 [0, 1, 2, 3, 4, 5, 6, 7, 8, 9, 10, 11] (tCod 0 cInt (tSl 1 0 (tCod 2 cInt (tCod 3 cInt (tCod 4 cInt (tCod 5 cInt (tCod 6 cInt (tCod 7 cInt (tCod 8 cInt (tCod 9 cInt (tCod 10 cInt (tCod 11 cInt tNil)))))))))))) (rL_rface rNil)) cBool (fun _ => true) ((fun _ => true)) := by
  intro x h N w vs hM hv
  obtain ⟨⟨t0, t2, t3, t4, t5, t6, t7, t8, t9, t10, t11, ⟨⟩⟩, ⟨r0, ⟨⟩⟩⟩ := x
  refine calls_of_tree (n := 200) (EnvOK.add s_meniscushand_System (EnvOK.add s_meniscushand_Pick (EnvOK.add s_meniscuslaw23_film (EnvOK.add s_pupil_Aim (EnvOK.add s_meniscuslaw23_known (EnvOK.add s_meniscushand_In (EnvOK.add s_iv_Neg (EnvOK.add s_iv_Div (EnvOK.add s_iv_Times (EnvOK.add s_iv_Whole (EnvOK.add s_vec_Unit (EnvOK.add s_vec_Of (EnvOK.add s_iv_Sub (EnvOK.add s_vec_Inside (EnvOK.add s_vec_Mirror (EnvOK.add s_vec_Mirror (EnvOK.add s_vec_Right EnvOK.nil))))))))))))))))) Tryz.func8 hv (Nat.le_of_ble_eq_true (by kernel_rfl)) LFn.nil hM cBool ?_
  rw [t_meniscuslaw23_PupilAims]
  have hR := systemOf_R t0 r0 [] true (most := 2) rfl
  have hlo : Ev.lenOk (systemOf t0 r0 [] 2 true).2 = true := lenOk_iff.2 (by have := hR.len; omega)
  have pk8 : ∀ n : Int, pickOk n 8 = true := fun _ => by simp [pickOk]
  have pk2 : ∀ n : Int, pickOk n 2 = true := fun _ => by simp [pickOk]
  simp only [show mostOk 2 = true from rfl, hlo, pk8, pk2, if_true, den_br, den_bind, den_get, den_ret, den_fail]
  have b5 := pick_bd t5 (m := 8) (by decide)
  by_cases hl : (systemOf t0 r0 [] 2 true).2.length = 0
  · simp only [hl]; rfl
  have hl' : (((systemOf t0 r0 [] 2 true).2.length : Int) == 0) = false := by rw [beq_eq_false_iff_ne]; omega
  have w5 : IntKind.i64.wrap (1 + pick t5 8) = 1 + pick t5 8 := wr (by omega)
  obtain ⟨n, hn⟩ : ∃ n, 1 + pick t5 8 = n := ⟨_, rfl⟩
  have w55 : IntKind.i64.wrap n = n := by rw [← hn]; exact w5
  have w2 : IntKind.i64.wrap (2 * n) = 2 * n := wr (by omega)
  have kn : ∀ u : Int, pickOk u (2 * n) = true := fun u => by simp [pickOk]; omega
  have b6 := pick_bd t6 (m := 2 * n) (by omega)
  have b7 := pick_bd t7 (m := 2 * n) (by omega)
  have b8 := pick_bd t8 (m := 2) (by decide)
  have b9 := pick_bd t9 (m := 2) (by decide)
  have w6 : IntKind.i64.wrap (pick t6 (2 * n) - n) = pick t6 (2 * n) - n := wr (by omega)
  have w7 : IntKind.i64.wrap (pick t7 (2 * n) - n) = pick t7 (2 * n) - n := wr (by omega)
  simp only [hl', hn, w55, w2, kn, w6, w7, Bool.false_eq_true, if_false, if_true]
  obtain ⟨p, hp⟩ : ∃ p, pick t6 (2 * n) - n = p := ⟨_, rfl⟩
  obtain ⟨q, hq⟩ : ∃ q, pick t7 (2 * n) - n = q := ⟨_, rfl⟩
  have w8 : IntKind.i64.wrap (0 - q) = -q := by rw [wr (by omega)]; omega
  have w9 : IntKind.i64.wrap (-q - 1) = -q - 1 := wr (by omega)
  have w10 : IntKind.i64.wrap (p + pick t8 2) = p + pick t8 2 := wr (by omega)
  have w11 : IntKind.i64.wrap (q + pick t9 2) = q + pick t9 2 := wr (by omega)
  have fz := system_first t0 r0 [] true (most := 2) rfl hl
  have fo := hR.opens (fun h => hl (by rw [h]; rfl))
  obtain ⟨f1, f2⟩ := film_right t2 t3 t4
  have L := aims_law (i := pick t8 2) (j := pick t9 2) hl fo fz (show 1 ≤ n ∧ n ≤ 8 by omega) f1 f2 (in_sub f1.1 t10 t11) (in_sub f2.1 t11 t10) (show -n ≤ p ∧ p < n by omega) (show -n ≤ q ∧ q < n by omega) (by omega) (by omega)
  have c1 : box16 ⟨p, q⟩ := by unfold box16; simp only; omega
  have c2 : box16 ⟨p, -q - 1⟩ := by unfold box16; simp only; omega
  have a1 := fun x y => aimP_cx c1 (systemOf t0 r0 [] 2 true).1 (systemOf t0 r0 [] 2 true).2 x y n
  have a2 := fun x y => aimP_cx c2 (systemOf t0 r0 [] 2 true).1 (systemOf t0 r0 [] 2 true).2 x y n
  have k1 : ((Ev.fInt p, Ev.fInt q) : Cx) = cxOf ⟨p, q⟩ := rfl
  have k2 : ((Ev.fInt p, Ev.fInt (-q - 1)) : Cx) = cxOf ⟨p, -q - 1⟩ := rfl
  obtain ⟨s, hg⟩ : ∃ s, (systemOf t0 r0 [] 2 true).2[0]? = some s := ⟨_, List.getElem?_eq_getElem (by omega)⟩
  have hg' : (systemOf t0 r0 [] 2 true).2[Int.toNat 0]? = some s := hg
  have hf : firstAt (systemOf t0 r0 [] 2 true).2 = s.at_ := by unfold firstAt; rw [hg]
  have h0 : (0 : Int) ≤ 0 ∧ 0 < ((systemOf t0 r0 [] 2 true).2.length : Int) := ⟨by decide, by omega⟩
  obtain ⟨⟨r1, r2⟩, r3, r4, r5, r6, r7, r8, r9⟩ := L
  rw [hf] at r9
  simp only [hp, hq, w8, w9, w10, w11, k1, k2, a1, a2]
  simp only [r1, r3, r4, Bool.not_true, Bool.false_eq_true, if_false]
  simp only [hg', h0, and_self, decide_true, if_true, den_get, den_br, den_bind, den_ret]
  simp only [r5, r6, if_true]
  simp only [r7, r8, beq_self_eq_true, Bool.and_self, if_true]
  simp only [r9]
  split <;> rfl
theorem s_meniscuslaw23_PupilAims : Ev.Spec Tryz.prog 8 (FS (sc 12 [0, 1, 2, 3, 4, 5, 6, 7, 8, 9, 10, 11] (tCod 0 cInt (tSl 1 0 (tCod 2 cInt (tCod 3 cInt (tCod 4 cInt (tCod 5 cInt (tCod 6 cInt (tCod 7 cInt (tCod 8 cInt (tCod 9 cInt (tCod 10 cInt (tCod 11 cInt tNil)))))))))))) (rL_rface rNil)) cBool (fun _ => true) ((fun _ => true))) := specS rfl (fun vs w => Tryz.call8 vs w) c_meniscuslaw23_PupilAims
end Go.Proofs.YtliglpiofomelaaGreat
