/-
  Contracts of calls, written by a small program of this session out of the evaluator's trees.
-/
import Derived.Test.YtliglpiofomelaaGreatCore
import Derived.Test.YtliglpiofomelaaGreatCoreLoops
import Derived.Test.YtliglpiofomelaaGreatCore2
import Derived.Test.YtliglpiofomelaaGreatCore3
import Derived.Test.YtliglpiofomelaaGreatCore4
import Derived.Test.YtliglpiofomelaaGreatCore5
import Derived.Test.YtliglpiofomelaaGreatCore6
import Derived.Test.YtliglpiofomelaaGreatCore7
import Derived.Test.YtliglpiofomelaaGreatCore8
import Derived.Test.YtliglpiofomelaaGreatCore9
import Derived.Test.YtliglpiofomelaaGreatEvMore
import Derived.Test.YtliglpiofomelaaGreatSym
import Derived.Test.YtliglpiofomelaaGreatSysF
import Derived.Test.YtliglpiofomelaaGreatLess2
import Derived.Test.YtliglpiofomelaaGreatFloCod
import Derived.Test.YtliglpiofomelaaGreatGs
import Derived.Test.YtliglpiofomelaaGreatPup
import Derived.Test.YtliglpiofomelaaGreatR0
import Derived.Test.YtliglpiofomelaaGreatG0
import Derived.Test.YtliglpiofomelaaGreatPup2
import Derived.Test.YtliglpiofomelaaGreatW0
import Derived.Test.YtliglpiofomelaaGreatEvCod
import Derived.Test.YtliglpiofomelaaGreatEvRet
import Derived.Test.YtliglpiofomelaaGreatProg
namespace Go.Proofs.YtliglpiofomelaaGreat
open Go Go.RowKit Ev
set_option maxRecDepth 100000
set_option linter.unusedVariables false
set_option linter.unusedSimpArgs false

/-! meniscushand.Straight -/
theorem tl_meniscushand_Straight_4 (t5 : Int) (t4 : Int) (r0 : List Int) (r1 : Iv) (r2 : Iv) (r3 : List Surf) (r4 : List Surf) :
    ev Tryz.prog (Env.add 16 (F2p cInt cInt cInt pickOk pick) (Env.add 88 (F1 cInt cIv Iv.point) (Env.add 100 (F1 cInt cIv Iv.whole) Env.nil))) Laws.nil 200 none (loopAt Tryz.f73 4) ((sc 48 [5, 4, 0, 3, 2] (tCod 5 cInt (tCod 4 cInt (tSl 0 0 (tOwn 3 1 (tOwn 2 2 tNil))))) (rL_int (rBoxSl 3 ccIv ccIv_ok (rBoxSl 4 ccIv ccIv_ok (rG_surf 88 (rL_surf rNil)))))).enc ((t5, t4, ()), (r0, r1, r2, r3, r4, ()))) (backK (sc 48 [5, 4, 0, 3, 2] (tCod 5 cInt (tCod 4 cInt (tSl 0 0 (tOwn 3 1 (tOwn 2 2 tNil))))) (rL_int (rBoxSl 3 ccIv ccIv_ok (rBoxSl 4 ccIv ccIv_ok (rG_surf 88 (rL_surf rNil)))))) (ocExit 0 (sc 48 [3, 2] (tOwn 3 0 (tOwn 2 1 tNil)) (rBoxSl 2 ccIv ccIv_ok (rBoxSl 3 ccIv ccIv_ok (rG_surf 88 (rL_surf rNil))))))) =
      .br (decide (t5 < (@Nat.cast Int _ r0.length))) (.br (decide (t5 < 4)) (.br (decide (0 ≤ t5 ∧ t5 < (@Nat.cast Int _ r0.length))) (.get (r0[t5.toNat]?) fun vt0 => .br (pickOk vt0 2) (.bind (pick vt0 2) fun vn1 => .bind (Iv.point 0) fun viv2 => .bind (Iv.point 65536) fun viv3 => .bind (Iv.point 0) fun viv4 => .bind (Iv.point 0) fun viv5 => .bind (Iv.point t4) fun viv6 => .bind (Iv.whole 100) fun viv7 => .bind (Iv.point 65536) fun viv8 => .br (Ev.lenOk (r3 ++ [Surf.mk (vn1 == 0) false viv2 viv3 viv4 viv5 viv6 viv7 viv8])) (.br (decide (0 ≤ t5 ∧ t5 < (@Nat.cast Int _ r0.length))) (.get (r0[t5.toNat]?) fun vt9 => .br (pickOk (IntKind.i64.wrap (Int.tdiv vt9 2)) 327680) (.bind (pick (IntKind.i64.wrap (Int.tdiv vt9 2)) 327680) fun vn10 => .ret (Sum.inl ((IntKind.i64.wrap (t5 + 1), IntKind.i64.wrap (IntKind.i64.wrap (t4 + 1) + vn10), ()), r0, r1, r2, r3 ++ [Surf.mk (vn1 == 0) false viv2 viv3 viv4 viv5 viv6 viv7 viv8], r4, ()))) (.fail)) (.fail)) (.fail)) (.fail)) (.fail)) (.ret (Sum.inr ((), r1, r2, r3, r4, ())))) (.ret (Sum.inr ((), r1, r2, r3, r4, ()))) := by kernel_rfl
theorem ok_meniscushand_Straight_4 : LOK Tryz.prog (LoopR.of (sc 48 [5, 4, 0, 3, 2] (tCod 5 cInt (tCod 4 cInt (tSl 0 0 (tOwn 3 1 (tOwn 2 2 tNil))))) (rL_int (rBoxSl 3 ccIv ccIv_ok (rBoxSl 4 ccIv ccIv_ok (rG_surf 88 (rL_surf rNil)))))) (ocExit 0 (sc 48 [3, 2] (tOwn 3 0 (tOwn 2 1 tNil)) (rBoxSl 2 ccIv ccIv_ok (rBoxSl 3 ccIv ccIv_ok (rG_surf 88 (rL_surf rNil)))))) (runBy straightStep straightM)) (loopAt Tryz.f73 4) := by
  refine loop_ok (EnvOK.add s_meniscushand_Pick (EnvOK.add s_meniscusref1_Point (EnvOK.add s_meniscusref1_Whole EnvOK.nil))) (LFn.at (fn := Tryz.f73) LFn.nil 4) straightStep (n := 200) (fun x z h => ?_) (runBy_ok _ _)
  obtain ⟨⟨t5, t4, ⟨⟩⟩, ⟨r0, r1, r2, r3, r4, ⟨⟩⟩⟩ := x
  rw [tl_meniscushand_Straight_4]
  by_cases h0 : t5 < (r0.length : Int) ∧ t5 < 4
  case neg =>
    rw [← h]
    simp only [straightStep, h0, if_false]
    simp only [den_br, den_bind, den_ret, den_fail, den_inl, den_inr, decide_eq_true_eq, gt_iff_lt, ge_iff_le, beq_iff_eq]
    by_cases c : t5 < (r0.length : Int) <;> by_cases d : t5 < 4 <;> simp only [c, d, if_true, if_false]
    exact absurd ⟨c, d⟩ h0
  by_cases h1 : 0 ≤ t5
  case neg => simp [straightStep, h0, h1] at h
  obtain ⟨v, hg⟩ : ∃ v, r0[t5.toNat]? = some v := ⟨_, List.getElem?_eq_getElem (by omega)⟩
  rw [← h]
  have pk2 : ∀ n : Int, pickOk n 2 = true := fun _ => by simp [pickOk]
  have pk327680 : ∀ n : Int, pickOk n 327680 = true := fun _ => by simp [pickOk]
  simp only [straightStep, airPlane, airNext, h0, h1, hg, and_self, if_true]
  simp only [den_br, den_bind, den_ret, den_fail, den_inl, den_inr, decide_eq_true_eq, gt_iff_lt, ge_iff_le, beq_iff_eq]
  simp only [h0.1, h0.2, h1, hg, and_self, true_and, decide_true, if_true, den_get, den_br, den_bind, den_ret, den_fail, dv_eq, pk2, pk327680]
  rfl
theorem t_meniscushand_Straight (r0 : List Int) :
    evFnR Tryz.prog (Env.add 16 (F2p cInt cInt cInt pickOk pick) (Env.add 88 (F1 cInt cIv Iv.point) (Env.add 100 (F1 cInt cIv Iv.whole) Env.nil))) (Laws.add 4 (LoopR.of (sc 48 [5, 4, 0, 3, 2] (tCod 5 cInt (tCod 4 cInt (tSl 0 0 (tOwn 3 1 (tOwn 2 2 tNil))))) (rL_int (rBoxSl 3 ccIv ccIv_ok (rBoxSl 4 ccIv ccIv_ok (rG_surf 88 (rL_surf rNil)))))) (ocExit 0 (sc 48 [3, 2] (tOwn 3 0 (tOwn 2 1 tNil)) (rBoxSl 2 ccIv ccIv_ok (rBoxSl 3 ccIv ccIv_ok (rG_surf 88 (rL_surf rNil)))))) (runBy straightStep straightM)) Laws.nil) 200 Tryz.f73 (((sc 1 [0] (tSl 0 0 tNil) (rL_int rNil)).enc ((()), (r0, ()))).tmps.map Prod.snd) ((sc 1 [0] (tSl 0 0 tNil) (rL_int rNil)).enc ((()), (r0, ()))).mem (sc 1 [0] (tAgg 0 0 ccNil ccNil_ok ccIv ccIv_ok tNil) (rG_surf 88 rNil)).ts (sc 1 [0] (tAgg 0 0 ccNil ccNil_ok ccIv ccIv_ok tNil) (rG_surf 88 rNil)).dec =
      .bind (Iv.whole 8) fun viv0 => .get (runBy straightStep straightM ((0, 655360, ()), r0, viv0, Iv.mk 0 0 false, [], [], ())) fun vy1 => .ret ((((), vy1.2.1, ()), vy1.2.2.2.1, ())) := by kernel_rfl
theorem c_meniscushand_Straight : PlainR Tryz.prog 73 (sc 1 [0] (tSl 0 0 tNil) (rL_int rNil)) (sc 1 [0] (tAgg 0 0 ccNil ccNil_ok ccIv ccIv_ok tNil) (rG_surf 88 rNil)) (fun _ => true) ((fun x => (fun r : SysV => (((), r.1, ()), (r.2, ()))) (straightOf x.2.1))) := by
  intro x h N w vs hM hv
  obtain ⟨⟨⟩, ⟨r0, ⟨⟩⟩⟩ := x
  refine calls_of_treeR (n := 200) (EnvOK.add s_meniscushand_Pick (EnvOK.add s_meniscusref1_Point (EnvOK.add s_meniscusref1_Whole EnvOK.nil))) Tryz.func73 hv (Nat.le_of_ble_eq_true (by kernel_rfl)) (LFn.add (fn := Tryz.f73) (i := 4) (by kernel_rfl) ok_meniscushand_Straight_4 LFn.nil) hM (sc 1 [0] (tAgg 0 0 ccNil ccNil_ok ccIv ccIv_ok tNil) (rG_surf 88 rNil)) rfl ?_
  rw [t_meniscushand_Straight]
  obtain ⟨y, hy, y1, y2⟩ := straight_total r0 (Iv.whole 8) ⟨0, 0, false⟩
  simp only [straightOf, hy]
  rw [show (⟨0, 0, false⟩ : Iv) = ⟨0, 0, false⟩ from rfl]
  simp only [den_bind, den_br, den_get, den_ret, hy]
theorem s_meniscushand_Straight : Ev.Spec Tryz.prog 73 (FR (sc 1 [0] (tSl 0 0 tNil) (rL_int rNil)) (sc 1 [0] (tAgg 0 0 ccNil ccNil_ok ccIv ccIv_ok tNil) (rG_surf 88 rNil)) (fun _ => true) ((fun x => (fun r : SysV => (((), r.1, ()), (r.2, ()))) (straightOf x.2.1)))) := specR rfl (fun _ => rfl) (fun vs w => Tryz.call73 vs w) c_meniscushand_Straight

/-! meniscushand.In -/
theorem t_meniscushand_In (x0 : Iv) (x1 : Int) (x2 : Int) :
    evFn Tryz.prog (Env.add 16 (F2p cInt cInt cInt pickOk pick) (Env.add 80 (F1 cIv cBool Iv.right) Env.nil)) Laws.nil 200 Tryz.f37 [cIv.av x0, cInt.av x1, cInt.av x2] [] cIv.dec =
      .bind (x0.right) fun vb0 => .br (!vb0) (.ret (x0)) (.br (pickOk x1 (IntKind.i64.wrap (IntKind.i64.wrap (x0.hi - x0.lo) + 1))) (.bind (pick x1 (IntKind.i64.wrap (IntKind.i64.wrap (x0.hi - x0.lo) + 1))) fun vn1 => .br (pickOk x2 (IntKind.i64.wrap (IntKind.i64.wrap (x0.hi - IntKind.i64.wrap (x0.lo + vn1)) + 1))) (.bind (pick x2 (IntKind.i64.wrap (IntKind.i64.wrap (x0.hi - IntKind.i64.wrap (x0.lo + vn1)) + 1))) fun vn2 => .ret (Iv.mk (IntKind.i64.wrap (x0.lo + vn1)) (IntKind.i64.wrap (IntKind.i64.wrap (x0.lo + vn1) + vn2)) false)) (.fail)) (.fail)) := by kernel_rfl
theorem c_meniscushand_In (x0 : Iv) (x1 : Int) (x2 : Int) : Plain Tryz.prog 37 [cIv.enc x0, cInt.enc x1, cInt.enc x2] (cIv.enc (inIv x0 x1 x2)) :=
  plain_of_tree (n := 200) (EnvOK.add s_meniscushand_Pick (EnvOK.add s_meniscusref1_Right EnvOK.nil)) Tryz.func37 (args := [cIv.av x0, cInt.av x1, cInt.av x2]) (by simp only [AV.vals, Cod.av_val]) (Nat.le_of_ble_eq_true (by kernel_rfl)) LFn.nil cIv (by
    rw [t_meniscushand_In]
    simp only [Tr.den, inIv]
    cases hr : x0.right
    · simp
    · have b := right_bd hr
      have p1 := pick_bd x1 (m := x0.hi - x0.lo + 1) (by omega)
      have p2 := pick_bd x2 (m := x0.hi - (x0.lo + pick x1 (x0.hi - x0.lo + 1)) + 1) (by omega)
      simp (disch := omega) only [IntWalk.i64_in]
      have q1 : pickOk x1 (x0.hi - x0.lo + 1) = true := by simp [pickOk]; omega
      have q2 : pickOk x2 (x0.hi - (x0.lo + pick x1 (x0.hi - x0.lo + 1)) + 1) = true := by simp [pickOk]; omega
      simp (disch := omega) only [IntWalk.i64_in, q1, q2, Bool.not_true, if_true])
theorem s_meniscushand_In : Ev.Spec Tryz.prog 37 (F3 cIv cInt cInt cIv inIv) := spec3 (fun vs w => Tryz.call37 vs w) c_meniscushand_In

/-! meniscuslaw23.open -/
theorem t_meniscuslaw23_open  :
    evFnR Tryz.prog (Env.add 41 (F1 cInt cIv Iv.whole) (Env.add 73 (FR (sc 1 [0] (tSl 0 0 tNil) (rL_int rNil)) (sc 1 [0] (tAgg 0 0 ccNil ccNil_ok ccIv ccIv_ok tNil) (rG_surf 88 rNil)) (fun _ => true) ((fun x => (fun r : SysV => (((), r.1, ()), (r.2, ()))) (straightOf x.2.1)))) Env.nil)) Laws.nil 200 Tryz.f90 (((sc 0 [] tNil rNil).enc ((()), (()))).tmps.map Prod.snd) ((sc 0 [] tNil rNil).enc ((()), (()))).mem (sc 1 [0] (tAgg 0 0 ccNil ccNil_ok ccIv ccIv_ok tNil) (rG_surf 88 rNil)).ts (sc 1 [0] (tAgg 0 0 ccNil ccNil_ok ccIv ccIv_ok tNil) (rG_surf 88 rNil)).dec =
      .br (true) (.bind ((((), (straightOf [1]).1, ()), (straightOf [1]).2, ())) fun vy0 => .bind (Iv.whole 4) fun viv1 => .ret ((((), viv1, ()), vy0.2.1, ()))) (.fail) := by kernel_rfl
theorem c_meniscuslaw23_open : PlainR Tryz.prog 90 (sc 0 [] tNil rNil) (sc 1 [0] (tAgg 0 0 ccNil ccNil_ok ccIv ccIv_ok tNil) (rG_surf 88 rNil)) (fun _ => true) ((fun _ => (((), Iv.whole 4, ()), ((straightOf [1]).2, ())))) := by
  intro x h N w vs hM hv
  obtain ⟨⟨⟩, ⟨⟩⟩ := x
  refine calls_of_treeR (n := 200) (EnvOK.add s_iv_Whole (EnvOK.add s_meniscushand_Straight EnvOK.nil)) Tryz.func90 hv (Nat.le_of_ble_eq_true (by kernel_rfl)) LFn.nil hM (sc 1 [0] (tAgg 0 0 ccNil ccNil_ok ccIv ccIv_ok tNil) (rG_surf 88 rNil)) rfl ?_
  rw [t_meniscuslaw23_open]
  rfl
theorem s_meniscuslaw23_open : Ev.Spec Tryz.prog 90 (FR (sc 0 [] tNil rNil) (sc 1 [0] (tAgg 0 0 ccNil ccNil_ok ccIv ccIv_ok tNil) (rG_surf 88 rNil)) (fun _ => true) ((fun _ => (((), Iv.whole 4, ()), ((straightOf [1]).2, ()))))) := specR rfl (fun _ => rfl) (fun vs w => Tryz.call90 vs w) c_meniscuslaw23_open

/-! meniscuslaw23.film -/
theorem t_meniscuslaw23_film (x0 : Int) (x1 : Int) (x2 : Int) :
    evFn Tryz.prog (Env.add 16 (F2p cInt cInt cInt pickOk pick) (Env.add 62 (F2 cInt cInt cIv wide) Env.nil)) Laws.nil 200 Tryz.f26 [cInt.av x0, cInt.av x1, cInt.av x2] [] (cTwo cIv cIv).dec =
      .br (pickOk x2 3000) (.bind (pick x2 3000) fun vn0 => .br (pickOk x0 1048576) (.bind (pick x0 1048576) fun vn1 => .bind (wide (IntKind.i64.wrap (vn1 - 524288)) vn0) fun viv2 => .br (pickOk x1 1048576) (.bind (pick x1 1048576) fun vn3 => .bind (wide (IntKind.i64.wrap (vn3 - 524288)) (IntKind.i64.wrap (vn0.tdiv 3))) fun viv4 => .ret ((viv2, viv4))) (.fail)) (.fail)) (.fail) := by kernel_rfl
theorem c_meniscuslaw23_film (x0 : Int) (x1 : Int) (x2 : Int) : Plain Tryz.prog 26 [cInt.enc x0, cInt.enc x1, cInt.enc x2] ((cTwo cIv cIv).enc (filmOf x0 x1 x2)) :=
  plain_of_tree (n := 200) (EnvOK.add s_meniscushand_Pick (EnvOK.add s_meniscushand_Wide EnvOK.nil)) Tryz.func26 (args := [cInt.av x0, cInt.av x1, cInt.av x2]) (by simp only [AV.vals, Cod.av_val]) (Nat.le_of_ble_eq_true (by kernel_rfl)) LFn.nil (cTwo cIv cIv) (by
    rw [t_meniscuslaw23_film]
    have p1 : ∀ n : Int, pickOk n 1048576 = true := fun _ => by simp [pickOk]
    have p2 : ∀ n : Int, pickOk n 3000 = true := fun _ => by simp [pickOk]
    have w : ∀ n : Int, IntKind.i64.wrap (pick n 1048576 - 524288) = pick n 1048576 - 524288 := fun n => wr (by have := pick_bd n (m := 1048576) (by decide); omega)
    simp only [den_br, den_bind, den_ret, p1, p2, if_true, w]
    rfl)
theorem s_meniscuslaw23_film : Ev.Spec Tryz.prog 26 (F3 cInt cInt cInt (cTwo cIv cIv) filmOf) := spec3 (fun vs w => Tryz.call26 vs w) c_meniscuslaw23_film

/-! meniscuslaw23.known -/
theorem t_meniscuslaw23_known  :
    evFn Tryz.prog (Env.add 18 (F1 cInt cIv Iv.point) (Env.add 28 (FS (sc 4 [0, 1, 2, 3] (tAgg 0 0 ccNil ccNil_ok ccIv ccIv_ok (tCod 1 cIv (tCod 2 cIv (tCod 3 cInt tNil)))) (rL_surf rNil)) (cTwo cRep cInt) ((fun x => lenOk x.2.1)) ((fun x => (repC (scanOf x.1.2.1 x.2.1 x.1.2.2.1 x.1.2.2.2.1 x.1.2.2.2.2.1).1, (scanOf x.1.2.1 x.2.1 x.1.2.2.1 x.1.2.2.2.1 x.1.2.2.2.2.1).2)))) (Env.add 90 (FR (sc 0 [] tNil rNil) (sc 1 [0] (tAgg 0 0 ccNil ccNil_ok ccIv ccIv_ok tNil) (rG_surf 88 rNil)) (fun _ => true) ((fun _ => (((), Iv.whole 4, ()), ((straightOf [1]).2, ()))))) Env.nil))) Laws.nil 200 Tryz.f33 [] [] cBool.dec =
      .br (true) (.bind ((((), Iv.whole 4, ()), (straightOf [1]).2, ())) fun vy0 => .bind (Iv.point 0) fun viv1 => .bind (Iv.point 0) fun viv2 => .br (Ev.lenOk vy0.2.1) (.bind ((repC (scanOf vy0.1.2.1 vy0.2.1 viv1 viv2 1).1, (scanOf vy0.1.2.1 vy0.2.1 viv1 viv2 1).2)) fun vy3 => .br (vy3.2 == 0) (.br (vy3.1.2.2.1 == 4) (.br (vy3.1.2.2.2.1) (.br (Ev.cEq vy3.1.2.2.2.2.1.1 vy3.1.2.2.2.2.1.2 13830554455654793216 13830554455654793216) (.br (Ev.cEq vy3.1.2.2.2.2.2.1 vy3.1.2.2.2.2.2.2 4607182418800017408 4607182418800017408) (.br (vy3.1.1 == 0) (.ret (vy3.1.2.1 == 4)) (.ret (false))) (.ret (false))) (.ret (false))) (.ret (false))) (.ret (false))) (.ret (false))) (.fail)) (.fail) := by kernel_rfl
theorem c_meniscuslaw23_known  : Plain Tryz.prog 33 [] (cBool.enc (true)) :=
  plain_of_tree (n := 200) (EnvOK.add s_iv_Point (EnvOK.add s_pupil_Scan (EnvOK.add s_meniscuslaw23_open EnvOK.nil))) Tryz.func33 (args := []) rfl (Nat.le_of_ble_eq_true (by kernel_rfl)) LFn.nil cBool (by
    rw [t_meniscuslaw23_known]
    decide +kernel)
theorem s_meniscuslaw23_known : Ev.Spec Tryz.prog 33 (F0 cBool true) := spec0 (fun vs w => Tryz.call33 vs w) c_meniscuslaw23_known

/-! meniscuslaw23.same -/
theorem t_meniscuslaw23_same (x0 : RepV) (x1 : DRep) :
    evFn Tryz.prog (Env.add 31 (F1 cPair cCx cxOf) Env.nil) Laws.nil 200 Tryz.f34 [cRep.av x0, cDRep.av x1] [] cBool.dec =
      .br (x0.1 == x1.1) (.br (x0.2.1 == x1.2.1) (.br (x0.2.2.1 == x1.2.2.1) (.br (x0.2.2.2.1 == x1.2.2.2.1) (.bind (cxOf x1.2.2.2.2.1) fun vcx0 => .br (Ev.cEq x0.2.2.2.2.1.1 x0.2.2.2.2.1.2 vcx0.1 vcx0.2) (.bind (cxOf x1.2.2.2.2.2) fun vcx1 => .ret (Ev.cEq x0.2.2.2.2.2.1 x0.2.2.2.2.2.2 vcx1.1 vcx1.2)) (.ret (false))) (.ret (false))) (.ret (false))) (.ret (false))) (.ret (false)) := by kernel_rfl
theorem c_meniscuslaw23_same (x0 : RepV) (x1 : DRep) : Plain Tryz.prog 34 [cRep.enc x0, cDRep.enc x1] (cBool.enc (sameC x0 x1)) :=
  plain_of_tree (n := 200) (EnvOK.add s_meniscusref8_Pair_Complex EnvOK.nil) Tryz.func34 (args := [cRep.av x0, cDRep.av x1]) (by simp only [AV.vals, Cod.av_val]) (Nat.le_of_ble_eq_true (by kernel_rfl)) LFn.nil cBool (by
    rw [t_meniscuslaw23_same]
    simp only [den_br, den_bind, den_ret, sameC]
    cases (x0.1 == x1.1) <;> cases (x0.2.1 == x1.2.1) <;> cases (x0.2.2.1 == x1.2.2.1) <;> cases (x0.2.2.2.1 == x1.2.2.2.1) <;> cases (Ev.cEq x0.2.2.2.2.1.1 x0.2.2.2.2.1.2 (cxOf x1.2.2.2.2.1).1 (cxOf x1.2.2.2.2.1).2) <;> rfl)
theorem s_meniscuslaw23_same : Ev.Spec Tryz.prog 34 (F2 cRep cDRep cBool sameC) := spec2 (fun vs w => Tryz.call34 vs w) c_meniscuslaw23_same

/-! meniscuslaw23.PupilTells -/
theorem t_meniscuslaw23_PupilTells (t0 : Int) (t2 : Int) (t3 : Int) (t4 : Int) (t5 : Int) (t6 : Int) (t7 : Int) (t8 : Int) (r0 : List RawFace) :
    evFn Tryz.prog (Env.add 13 (FR (sc 5 [0, 1, 2, 3, 4] (tCod 0 cInt (tSl 1 0 (tSl 2 1 (tCod 3 cInt (tCod 4 cBool tNil))))) (rL_rface (rL_int rNil))) (sc 1 [0] (tAgg 0 0 ccNil ccNil_ok ccIv ccIv_ok tNil) (rG_surf 88 rNil)) ((fun x => mostOk x.1.2.1)) ((fun x => (fun r : SysV => (((), r.1, ()), (r.2, ()))) (systemOf x.1.1 x.2.1 x.2.2.1 x.1.2.1 x.1.2.2.1)))) (Env.add 16 (F2p cInt cInt cInt pickOk pick) (Env.add 26 (F3 cInt cInt cInt (cTwo cIv cIv) filmOf) (Env.add 27 (F2 cInt cInt cIv rawIv) (Env.add 28 (FS (sc 4 [0, 1, 2, 3] (tAgg 0 0 ccNil ccNil_ok ccIv ccIv_ok (tCod 1 cIv (tCod 2 cIv (tCod 3 cInt tNil)))) (rL_surf rNil)) (cTwo cRep cInt) ((fun x => lenOk x.2.1)) ((fun x => (repC (scanOf x.1.2.1 x.2.1 x.1.2.2.1 x.1.2.2.2.1 x.1.2.2.2.2.1).1, (scanOf x.1.2.1 x.2.1 x.1.2.2.1 x.1.2.2.2.1 x.1.2.2.2.2.1).2)))) (Env.add 29 (FS (sc 4 [0, 1, 2, 3] (tAgg 0 0 ccNil ccNil_ok ccIv ccIv_ok (tCod 1 cIv (tCod 2 cIv (tCod 3 cInt tNil)))) (rL_surf rNil)) (cTwo cDRep cInt) ((fun x => lenOk x.2.1)) ((fun x => scanOf x.1.2.1 x.2.1 x.1.2.2.1 x.1.2.2.2.1 x.1.2.2.2.2.1))) (Env.add 30 (FS (sc 5 [0, 1, 2, 3, 4] (tAgg 0 0 ccNil ccNil_ok ccIv ccIv_ok (tCod 1 cIv (tCod 2 cIv (tCod 3 cCx (tCod 4 cInt tNil))))) (rL_surf rNil)) (cTwo cRay cBool) (fun _ => true) ((fun x => aimP x.1.2.1 x.2.1 x.1.2.2.1 x.1.2.2.2.1 x.1.2.2.2.2.1 x.1.2.2.2.2.2.1))) (Env.add 31 (F1 cPair cCx cxOf) (Env.add 32 (FS (sc 5 [0, 1, 2, 3, 4] (tAgg 0 0 ccNil ccNil_ok ccIv ccIv_ok (tCod 1 cIv (tCod 2 cIv (tCod 3 cPair (tCod 4 cInt tNil))))) (rL_surf rNil)) (cTwo cRay cBool) (fun _ => true) ((fun x => aimOf x.1.2.1 x.2.1 x.1.2.2.1 x.1.2.2.2.1 x.1.2.2.2.2.1 x.1.2.2.2.2.2.1))) (Env.add 33 (F0 cBool true) (Env.add 34 (F2 cRep cDRep cBool sameC) Env.nil))))))))))) Laws.nil 200 Tryz.f5 (((sc 9 [0, 1, 2, 3, 4, 5, 6, 7, 8] (tCod 0 cInt (tSl 1 0 (tCod 2 cInt (tCod 3 cInt (tCod 4 cInt (tCod 5 cInt (tCod 6 cInt (tCod 7 cInt (tCod 8 cInt tNil))))))))) (rL_rface rNil)).enc ((t0, t2, t3, t4, t5, t6, t7, t8, ()), (r0, ()))).tmps.map Prod.snd) ((sc 9 [0, 1, 2, 3, 4, 5, 6, 7, 8] (tCod 0 cInt (tSl 1 0 (tCod 2 cInt (tCod 3 cInt (tCod 4 cInt (tCod 5 cInt (tCod 6 cInt (tCod 7 cInt (tCod 8 cInt tNil))))))))) (rL_rface rNil)).enc ((t0, t2, t3, t4, t5, t6, t7, t8, ()), (r0, ()))).mem cBool.dec =
      .br (mostOk 3) (.bind ((((), (systemOf t0 r0 [] 3 (t8.tmod 3 == 0)).1, ()), (systemOf t0 r0 [] 3 (t8.tmod 3 == 0)).2, ())) fun vy0 => .bind (filmOf t2 t3 t4) fun vy1 => .br (t8.tmod 13 == 12) (.bind (rawIv t2 t4) fun viv2 => .br (pickOk t5 6) (.bind (pick t5 6) fun vn3 => .br (Ev.lenOk vy0.2.1) (.bind ((repC (scanOf vy0.1.2.1 vy0.2.1 viv2 vy1.2 vn3).1, (scanOf vy0.1.2.1 vy0.2.1 viv2 vy1.2 vn3).2)) fun vy4 => .br (Ev.lenOk vy0.2.1) (.bind (scanOf vy0.1.2.1 vy0.2.1 viv2 vy1.2 vn3) fun vy5 => .br (pickOk t6 20) (.bind (pick t6 20) fun vn6 => .br (pickOk t7 20) (.bind (pick t7 20) fun vn7 => .bind (cxOf (Pair.mk (IntKind.i64.wrap (vn6 - 10)) (IntKind.i64.wrap (vn7 - 10)))) fun vcx8 => .br (true) (.bind (aimP vy0.1.2.1 vy0.2.1 viv2 vy1.2 vcx8 vn3) fun vy9 => .br (true) (.bind (aimOf vy0.1.2.1 vy0.2.1 viv2 vy1.2 (Pair.mk (IntKind.i64.wrap (vn6 - 10)) (IntKind.i64.wrap (vn7 - 10))) vn3) fun vy10 => .bind (true) fun vb11 => .br (vb11) (.br (vy4.2 == vy5.2) (.bind (sameC vy4.1 vy5.1) fun vb12 => .br (vb12) (.br (vy9.1.o.x.lo == vy10.1.o.x.lo && (vy9.1.o.x.hi == vy10.1.o.x.hi && vy9.1.o.x.no == vy10.1.o.x.no) && (vy9.1.o.y.lo == vy10.1.o.y.lo && (vy9.1.o.y.hi == vy10.1.o.y.hi && vy9.1.o.y.no == vy10.1.o.y.no) && (vy9.1.o.z.lo == vy10.1.o.z.lo && (vy9.1.o.z.hi == vy10.1.o.z.hi && vy9.1.o.z.no == vy10.1.o.z.no))) && (vy9.1.d.x.lo == vy10.1.d.x.lo && (vy9.1.d.x.hi == vy10.1.d.x.hi && vy9.1.d.x.no == vy10.1.d.x.no) && (vy9.1.d.y.lo == vy10.1.d.y.lo && (vy9.1.d.y.hi == vy10.1.d.y.hi && vy9.1.d.y.no == vy10.1.d.y.no) && (vy9.1.d.z.lo == vy10.1.d.z.lo && (vy9.1.d.z.hi == vy10.1.d.z.hi && vy9.1.d.z.no == vy10.1.d.z.no))))) (.ret (vy9.2 == vy10.2)) (.ret (false))) (.ret (false))) (.ret (false))) (.ret (false))) (.fail)) (.fail)) (.fail)) (.fail)) (.fail)) (.fail)) (.fail)) (.br (pickOk t5 6) (.bind (pick t5 6) fun vn13 => .br (Ev.lenOk vy0.2.1) (.bind ((repC (scanOf vy0.1.2.1 vy0.2.1 vy1.1 vy1.2 vn13).1, (scanOf vy0.1.2.1 vy0.2.1 vy1.1 vy1.2 vn13).2)) fun vy14 => .br (Ev.lenOk vy0.2.1) (.bind (scanOf vy0.1.2.1 vy0.2.1 vy1.1 vy1.2 vn13) fun vy15 => .br (pickOk t6 20) (.bind (pick t6 20) fun vn16 => .br (pickOk t7 20) (.bind (pick t7 20) fun vn17 => .bind (cxOf (Pair.mk (IntKind.i64.wrap (vn16 - 10)) (IntKind.i64.wrap (vn17 - 10)))) fun vcx18 => .br (true) (.bind (aimP vy0.1.2.1 vy0.2.1 vy1.1 vy1.2 vcx18 vn13) fun vy19 => .br (true) (.bind (aimOf vy0.1.2.1 vy0.2.1 vy1.1 vy1.2 (Pair.mk (IntKind.i64.wrap (vn16 - 10)) (IntKind.i64.wrap (vn17 - 10))) vn13) fun vy20 => .bind (true) fun vb21 => .br (vb21) (.br (vy14.2 == vy15.2) (.bind (sameC vy14.1 vy15.1) fun vb22 => .br (vb22) (.br (vy19.1.o.x.lo == vy20.1.o.x.lo && (vy19.1.o.x.hi == vy20.1.o.x.hi && vy19.1.o.x.no == vy20.1.o.x.no) && (vy19.1.o.y.lo == vy20.1.o.y.lo && (vy19.1.o.y.hi == vy20.1.o.y.hi && vy19.1.o.y.no == vy20.1.o.y.no) && (vy19.1.o.z.lo == vy20.1.o.z.lo && (vy19.1.o.z.hi == vy20.1.o.z.hi && vy19.1.o.z.no == vy20.1.o.z.no))) && (vy19.1.d.x.lo == vy20.1.d.x.lo && (vy19.1.d.x.hi == vy20.1.d.x.hi && vy19.1.d.x.no == vy20.1.d.x.no) && (vy19.1.d.y.lo == vy20.1.d.y.lo && (vy19.1.d.y.hi == vy20.1.d.y.hi && vy19.1.d.y.no == vy20.1.d.y.no) && (vy19.1.d.z.lo == vy20.1.d.z.lo && (vy19.1.d.z.hi == vy20.1.d.z.hi && vy19.1.d.z.no == vy20.1.d.z.no))))) (.ret (vy19.2 == vy20.2)) (.ret (false))) (.ret (false))) (.ret (false))) (.ret (false))) (.fail)) (.fail)) (.fail)) (.fail)) (.fail)) (.fail)) (.fail))) (.fail) := by kernel_rfl
theorem c_meniscuslaw23_PupilTells : PlainS Tryz.prog 5 (sc 9 [0, 1, 2, 3, 4, 5, 6, 7, 8] (tCod 0 cInt (tSl 1 0 (tCod 2 cInt (tCod 3 cInt (tCod 4 cInt (tCod 5 cInt (tCod 6 cInt (tCod 7 cInt (tCod 8 cInt tNil))))))))) (rL_rface rNil)) cBool (fun _ => true) ((fun _ => true)) := by
  intro x h N w vs hM hv
  obtain ⟨⟨t0, t2, t3, t4, t5, t6, t7, t8, ⟨⟩⟩, ⟨r0, ⟨⟩⟩⟩ := x
  refine calls_of_tree (n := 200) (EnvOK.add s_meniscushand_System (EnvOK.add s_meniscushand_Pick (EnvOK.add s_meniscuslaw23_film (EnvOK.add s_meniscushand_Iv (EnvOK.add s_pupil_Scan (EnvOK.add s_meniscusref20_Scan (EnvOK.add s_pupil_Aim (EnvOK.add s_meniscusref8_Pair_Complex (EnvOK.add s_meniscusref20_Aim (EnvOK.add s_meniscuslaw23_known (EnvOK.add s_meniscuslaw23_same EnvOK.nil))))))))))) Tryz.func5 hv (Nat.le_of_ble_eq_true (by kernel_rfl)) LFn.nil hM cBool ?_
  rw [t_meniscuslaw23_PupilTells]
  have hR := systemOf_R t0 r0 [] (t8.tmod 3 == 0) (most := 3) rfl
  have hlo : Ev.lenOk (systemOf t0 r0 [] 3 (t8.tmod 3 == 0)).2 = true := lenOk_iff.2 (by have := hR.len; omega)
  have pk6 : ∀ n : Int, pickOk n 6 = true := fun _ => by simp [pickOk]
  have pk20 : ∀ n : Int, pickOk n 20 = true := fun _ => by simp [pickOk]
  simp only [show mostOk 3 = true from rfl, hlo, pk6, pk20, if_true, den_br, den_bind, den_get, den_ret, den_fail]
  have b6 := pick_bd t6 (m := 20) (by decide)
  have b7 := pick_bd t7 (m := 20) (by decide)
  have w6 : IntKind.i64.wrap (pick t6 20 - 10) = pick t6 20 - 10 := wr (by omega)
  have w7 : IntKind.i64.wrap (pick t7 20 - 10) = pick t7 20 - 10 := wr (by omega)
  simp only [w6, w7]
  have hz : box16 ⟨pick t6 20 - 10, pick t7 20 - 10⟩ := by unfold box16; simp only; omega
  simp only [aimP_cx hz, same_self (scanOf_box _ _ _ _ _), beq_self_eq_true, Bool.and_self, if_true]
  split <;> rfl
theorem s_meniscuslaw23_PupilTells : Ev.Spec Tryz.prog 5 (FS (sc 9 [0, 1, 2, 3, 4, 5, 6, 7, 8] (tCod 0 cInt (tSl 1 0 (tCod 2 cInt (tCod 3 cInt (tCod 4 cInt (tCod 5 cInt (tCod 6 cInt (tCod 7 cInt (tCod 8 cInt tNil))))))))) (rL_rface rNil)) cBool (fun _ => true) ((fun _ => true))) := specS rfl (fun vs w => Tryz.call5 vs w) c_meniscuslaw23_PupilTells

/-! meniscuslaw23.PupilCounts -/
theorem t_meniscuslaw23_PupilCounts (t0 : Int) (t2 : Int) (t3 : Int) (t4 : Int) (t5 : Int) (t6 : Int) (t7 : Int) (r0 : List RawFace) :
    evFn Tryz.prog (Env.add 13 (FR (sc 5 [0, 1, 2, 3, 4] (tCod 0 cInt (tSl 1 0 (tSl 2 1 (tCod 3 cInt (tCod 4 cBool tNil))))) (rL_rface (rL_int rNil))) (sc 1 [0] (tAgg 0 0 ccNil ccNil_ok ccIv ccIv_ok tNil) (rG_surf 88 rNil)) ((fun x => mostOk x.1.2.1)) ((fun x => (fun r : SysV => (((), r.1, ()), (r.2, ()))) (systemOf x.1.1 x.2.1 x.2.2.1 x.1.2.1 x.1.2.2.1)))) (Env.add 16 (F2p cInt cInt cInt pickOk pick) (Env.add 26 (F3 cInt cInt cInt (cTwo cIv cIv) filmOf) (Env.add 28 (FS (sc 4 [0, 1, 2, 3] (tAgg 0 0 ccNil ccNil_ok ccIv ccIv_ok (tCod 1 cIv (tCod 2 cIv (tCod 3 cInt tNil)))) (rL_surf rNil)) (cTwo cRep cInt) ((fun x => lenOk x.2.1)) ((fun x => (repC (scanOf x.1.2.1 x.2.1 x.1.2.2.1 x.1.2.2.2.1 x.1.2.2.2.2.1).1, (scanOf x.1.2.1 x.2.1 x.1.2.2.1 x.1.2.2.2.1 x.1.2.2.2.2.1).2)))) (Env.add 33 (F0 cBool true) (Env.add 37 (F3 cIv cInt cInt cIv inIv) (Env.add 38 (F1 cIv cIv Iv.neg) Env.nil))))))) Laws.nil 200 Tryz.f7 (((sc 8 [0, 1, 2, 3, 4, 5, 6, 7] (tCod 0 cInt (tSl 1 0 (tCod 2 cInt (tCod 3 cInt (tCod 4 cInt (tCod 5 cInt (tCod 6 cInt (tCod 7 cInt tNil)))))))) (rL_rface rNil)).enc ((t0, t2, t3, t4, t5, t6, t7, ()), (r0, ()))).tmps.map Prod.snd) ((sc 8 [0, 1, 2, 3, 4, 5, 6, 7] (tCod 0 cInt (tSl 1 0 (tCod 2 cInt (tCod 3 cInt (tCod 4 cInt (tCod 5 cInt (tCod 6 cInt (tCod 7 cInt tNil)))))))) (rL_rface rNil)).enc ((t0, t2, t3, t4, t5, t6, t7, ()), (r0, ()))).mem cBool.dec =
      .br (mostOk 3) (.bind ((((), (systemOf t0 r0 [] 3 true).1, ()), (systemOf t0 r0 [] 3 true).2, ())) fun vy0 => .bind (filmOf t2 t3 t4) fun vy1 => .br (pickOk t5 4) (.bind (pick t5 4) fun vn2 => .br (Ev.lenOk vy0.2.1) (.bind ((repC (scanOf vy0.1.2.1 vy0.2.1 vy1.1 vy1.2 (IntKind.i64.wrap (1 + vn2))).1, (scanOf vy0.1.2.1 vy0.2.1 vy1.1 vy1.2 (IntKind.i64.wrap (1 + vn2))).2)) fun vy3 => .br ((@Nat.cast Int _ vy0.2.1.length) == 0) (.bind (true) fun vb4 => .br (vb4) (.ret (vy3.2 == 1)) (.ret (false))) (.bind (inIv vy1.1 t6 t7) fun viv5 => .bind (inIv vy1.2 t7 t6) fun viv6 => .br (Ev.lenOk vy0.2.1) (.bind ((repC (scanOf vy0.1.2.1 vy0.2.1 viv5 viv6 (IntKind.i64.wrap (1 + vn2))).1, (scanOf vy0.1.2.1 vy0.2.1 viv5 viv6 (IntKind.i64.wrap (1 + vn2))).2)) fun vy7 => .bind (vy1.2.neg) fun viv8 => .br (Ev.lenOk vy0.2.1) (.bind ((repC (scanOf vy0.1.2.1 vy0.2.1 viv8 vy1.1 (IntKind.i64.wrap (1 + vn2))).1, (scanOf vy0.1.2.1 vy0.2.1 viv8 vy1.1 (IntKind.i64.wrap (1 + vn2))).2)) fun vy9 => .bind (true) fun vb10 => .br (!vb10) (.ret (false)) (.br (vy3.2 != 0) (.ret (false)) (.br (vy7.2 != 0) (.ret (false)) (.br (vy9.2 != 0) (.ret (false)) (.br (decide (vy3.1.1 < 0)) (.ret (false)) (.br (decide (vy3.1.2.1 < 0)) (.ret (false)) (.br (decide (IntKind.i64.wrap (vy3.1.1 + vy3.1.2.1) > vy3.1.2.2.1)) (.ret (false)) (.br (!vy3.1.2.2.2.1 == decide (IntKind.i64.wrap (vy3.1.1 + vy3.1.2.1) > 0)) (.ret (false)) (.br (vy7.1.2.2.1 != vy3.1.2.2.1) (.ret (false)) (.br (decide (vy7.1.1 < vy3.1.1)) (.ret (false)) (.br (decide (IntKind.i64.wrap (vy7.1.1 + vy7.1.2.1) > IntKind.i64.wrap (vy3.1.1 + vy3.1.2.1))) (.ret (false)) (.br (vy7.1.2.2.2.1) (.br (Ev.fOrd vy7.1.2.2.2.2.1.1 vy3.1.2.2.2.2.1.1 == some Ordering.lt) (.ret (false)) (.br (Ev.fOrd vy7.1.2.2.2.2.1.2 vy3.1.2.2.2.2.1.2 == some Ordering.lt) (.ret (false)) (.br (Ev.fOrd vy7.1.2.2.2.2.2.1 vy3.1.2.2.2.2.2.1 == some Ordering.gt) (.ret (false)) (.br (Ev.fOrd vy7.1.2.2.2.2.2.2 vy3.1.2.2.2.2.2.2 == some Ordering.gt) (.ret (false)) (.br (vy9.1.1 == vy3.1.1) (.br (vy9.1.2.1 == vy3.1.2.1) (.br (!vy3.1.2.2.2.1) (.ret (true)) (.br (Ev.fOrd vy9.1.2.2.2.2.1.1 (Op.negFloat FloatKind.f64 vy3.1.2.2.2.2.2.2) == some Ordering.eq) (.br (Ev.fOrd vy9.1.2.2.2.2.2.1 (Op.negFloat FloatKind.f64 vy3.1.2.2.2.2.1.2) == some Ordering.eq) (.br (Ev.fOrd vy9.1.2.2.2.2.1.2 vy3.1.2.2.2.2.1.1 == some Ordering.eq) (.ret (Ev.fOrd vy9.1.2.2.2.2.2.2 vy3.1.2.2.2.2.2.1 == some Ordering.eq)) (.ret (false))) (.ret (false))) (.ret (false)))) (.ret (false))) (.ret (false))))))) (.br (vy9.1.1 == vy3.1.1) (.br (vy9.1.2.1 == vy3.1.2.1) (.br (!vy3.1.2.2.2.1) (.ret (true)) (.br (Ev.fOrd vy9.1.2.2.2.2.1.1 (Op.negFloat FloatKind.f64 vy3.1.2.2.2.2.2.2) == some Ordering.eq) (.br (Ev.fOrd vy9.1.2.2.2.2.2.1 (Op.negFloat FloatKind.f64 vy3.1.2.2.2.2.1.2) == some Ordering.eq) (.br (Ev.fOrd vy9.1.2.2.2.2.1.2 vy3.1.2.2.2.2.1.1 == some Ordering.eq) (.ret (Ev.fOrd vy9.1.2.2.2.2.2.2 vy3.1.2.2.2.2.2.1 == some Ordering.eq)) (.ret (false))) (.ret (false))) (.ret (false)))) (.ret (false))) (.ret (false))))))))))))))) (.fail)) (.fail))) (.fail)) (.fail)) (.fail) := by kernel_rfl
theorem c_meniscuslaw23_PupilCounts : PlainS Tryz.prog 7 (sc 8 [0, 1, 2, 3, 4, 5, 6, 7] (tCod 0 cInt (tSl 1 0 (tCod 2 cInt (tCod 3 cInt (tCod 4 cInt (tCod 5 cInt (tCod 6 cInt (tCod 7 cInt tNil)))))))) (rL_rface rNil)) cBool (fun _ => true) ((fun _ => true)) := by
  intro x h N w vs hM hv
  obtain ⟨⟨t0, t2, t3, t4, t5, t6, t7, ⟨⟩⟩, ⟨r0, ⟨⟩⟩⟩ := x
  refine calls_of_tree (n := 200) (EnvOK.add s_meniscushand_System (EnvOK.add s_meniscushand_Pick (EnvOK.add s_meniscuslaw23_film (EnvOK.add s_pupil_Scan (EnvOK.add s_meniscuslaw23_known (EnvOK.add s_meniscushand_In (EnvOK.add s_iv_Neg EnvOK.nil))))))) Tryz.func7 hv (Nat.le_of_ble_eq_true (by kernel_rfl)) LFn.nil hM cBool ?_
  rw [t_meniscuslaw23_PupilCounts]
  have hR := systemOf_R t0 r0 [] true (most := 3) rfl
  have hlo : Ev.lenOk (systemOf t0 r0 [] 3 true).2 = true := lenOk_iff.2 (by have := hR.len; omega)
  have pk4 : ∀ n : Int, pickOk n 4 = true := fun _ => by simp [pickOk]
  simp only [show mostOk 3 = true from rfl, hlo, pk4, if_true, den_br, den_bind, den_get, den_ret, den_fail]
  have b5 := pick_bd t5 (m := 4) (by decide)
  have w5 : IntKind.i64.wrap (1 + pick t5 4) = 1 + pick t5 4 := wr (by omega)
  simp only [w5]
  by_cases hl : (systemOf t0 r0 [] 3 true).2.length = 0
  · have hs : sizedC (systemOf t0 r0 [] 3 true).2 (1 + pick t5 4) = false := by simp [sizedC, hl]
    have e : (scanOf (systemOf t0 r0 [] 3 true).1 (systemOf t0 r0 [] 3 true).2 (filmOf t2 t3 t4).1 (filmOf t2 t3 t4).2 (1 + pick t5 4)).2 = 1 := by unfold scanOf; rw [if_neg (fun h => by rw [hs] at h; cases h.1)]
    simp only [hl, e]; rfl
  have hl' : (((systemOf t0 r0 [] 3 true).2.length : Int) == 0) = false := by rw [beq_eq_false_iff_ne]; omega
  obtain ⟨⟨f1, _⟩, ⟨f2, _⟩⟩ := film_right t2 t3 t4
  have L := counts_law (o := (systemOf t0 r0 [] 3 true).1) hl (hR.flat rfl) f1 f2 (in_sub f1 t6 t7) (in_sub f2 t7 t6) (show 1 ≤ 1 + pick t5 4 ∧ 1 + pick t5 4 ≤ 4 by omega)
  generalize scanOf (systemOf t0 r0 [] 3 true).1 (systemOf t0 r0 [] 3 true).2 (filmOf t2 t3 t4).1 (filmOf t2 t3 t4).2 (1 + pick t5 4) = R at *
  generalize scanOf (systemOf t0 r0 [] 3 true).1 (systemOf t0 r0 [] 3 true).2 (inIv (filmOf t2 t3 t4).1 t6 t7) (inIv (filmOf t2 t3 t4).2 t7 t6) (1 + pick t5 4) = T at *
  generalize scanOf (systemOf t0 r0 [] 3 true).1 (systemOf t0 r0 [] 3 true).2 (filmOf t2 t3 t4).2.neg (filmOf t2 t3 t4).1 (1 + pick t5 4) = Q at *
  obtain ⟨⟨e1, e2, e3⟩, s0, m0, le, top, hsm, ⟨u1, u2⟩, al, su, sm, na, ⟨qs1, qs2⟩, tu, bR, bT, bQ⟩ := L
  unfold box20 at bR bT bQ
  have w1 : IntKind.i64.wrap (R.1.1 + R.1.2.1) = R.1.1 + R.1.2.1 := wr (by omega)
  have w2 : IntKind.i64.wrap (T.1.1 + T.1.2.1) = T.1.1 + T.1.2.1 := wr (by omega)
  have c1 : ¬ R.1.1 < 0 := by omega
  have c2 : ¬ R.1.2.1 < 0 := by omega
  have c3 : ¬ R.1.2.2.1 < R.1.1 + R.1.2.1 := by omega
  have c4 : ¬ T.1.1 < R.1.1 := by omega
  have c5 : ¬ R.1.1 + R.1.2.1 < T.1.1 + T.1.2.1 := by omega
  simp only [hl', e1, e2, e3, repC, w1, w2, c1, c2, c3, c4, c5, al, qs1, qs2, hsm, gt_iff_lt, bne_self_eq_false, beq_self_eq_true, decide_false, Bool.false_eq_true, Bool.not_true, Bool.not_false, if_true, if_false, cxOf, den_ret]
  rw [← hsm]
  have tail : (if (!R.1.2.2.2.1) = true then some true else if (Ev.fOrd (Ev.fInt Q.1.2.2.2.2.1.x) (Op.negFloat .f64 (Ev.fInt R.1.2.2.2.2.2.y)) == some Ordering.eq) = true then
      if (Ev.fOrd (Ev.fInt Q.1.2.2.2.2.2.x) (Op.negFloat .f64 (Ev.fInt R.1.2.2.2.2.1.y)) == some Ordering.eq) = true then
        if (Ev.fOrd (Ev.fInt Q.1.2.2.2.2.1.y) (Ev.fInt R.1.2.2.2.2.1.x) == some Ordering.eq) = true then some (Ev.fOrd (Ev.fInt Q.1.2.2.2.2.2.y) (Ev.fInt R.1.2.2.2.2.2.x) == some Ordering.eq) else some false
      else some false else some false) = some true := by
    rcases Bool.eq_false_or_eq_true R.1.2.2.2.1 with h | h
    · obtain ⟨v1, v2, v3, v4⟩ := tu h
      rw [ordNeg (a := R.1.2.2.2.2.2.y) (by omega) v1, ordNeg (a := R.1.2.2.2.2.1.y) (by omega) v2, v3, v4, ordEq (by omega), ordEq (by omega), h]
      rfl
    · rw [h]; rfl
  rw [tail]
  rcases Bool.eq_false_or_eq_true T.1.2.2.2.1 with h | h
  · obtain ⟨v1, v2, v3, v4⟩ := na h
    rw [ordLt (by omega) (by omega) v1, ordLt (by omega) (by omega) v2, ordGt (by omega) (by omega) v3, ordGt (by omega) (by omega) v4]
    simp [h]
  · simp [h]
theorem s_meniscuslaw23_PupilCounts : Ev.Spec Tryz.prog 7 (FS (sc 8 [0, 1, 2, 3, 4, 5, 6, 7] (tCod 0 cInt (tSl 1 0 (tCod 2 cInt (tCod 3 cInt (tCod 4 cInt (tCod 5 cInt (tCod 6 cInt (tCod 7 cInt tNil)))))))) (rL_rface rNil)) cBool (fun _ => true) ((fun _ => true))) := specS rfl (fun vs w => Tryz.call7 vs w) c_meniscuslaw23_PupilCounts
end Go.Proofs.YtliglpiofomelaaGreat
