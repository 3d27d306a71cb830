/-
  Contracts of calls, written by a small program of this session out of the evaluator's trees.
-/
import Derived.Test.YtliglpiofomelaaGreatCore
import Derived.Test.YtliglpiofomelaaGreatCoreLoops
import Derived.Test.YtliglpiofomelaaGreatCore2
import Derived.Test.YtliglpiofomelaaGreatCore3
import Derived.Test.YtliglpiofomelaaGreatCore4
import Derived.Test.YtliglpiofomelaaGreatCore5
import Derived.Test.YtliglpiofomelaaGreatCore6
import Derived.Test.YtliglpiofomelaaGreatCore7
import Derived.Test.YtliglpiofomelaaGreatCore8
import Derived.Test.YtliglpiofomelaaGreatCore9
import Derived.Test.YtliglpiofomelaaGreatEvMore
import Derived.Test.YtliglpiofomelaaGreatSym
import Derived.Test.YtliglpiofomelaaGreatSysF
import Derived.Test.YtliglpiofomelaaGreatLess2
import Derived.Test.YtliglpiofomelaaGreatFloCod
import Derived.Test.YtliglpiofomelaaGreatGs
import Derived.Test.YtliglpiofomelaaGreatPup
import Derived.Test.YtliglpiofomelaaGreatR0
import Derived.Test.YtliglpiofomelaaGreatG0
import Derived.Test.YtliglpiofomelaaGreatPup2
import Derived.Test.YtliglpiofomelaaGreatW0
import Derived.Test.YtliglpiofomelaaGreatVig
import Derived.Test.YtliglpiofomelaaGreatVig3
import Derived.Test.YtliglpiofomelaaGreatV0
import Derived.Test.YtliglpiofomelaaGreatEvCod
import Derived.Test.YtliglpiofomelaaGreatEvRet
import Derived.Test.YtliglpiofomelaaGreatProg
namespace Go.Proofs.YtliglpiofomelaaGreat
open Go Go.RowKit Ev
set_option maxRecDepth 100000
set_option linter.unusedVariables false
set_option linter.unusedSimpArgs false

/-! meniscushand.Straight -/
theorem tl_meniscushand_Straight_4 (t5 : Int) (t4 : Int) (r0 : List Int) (r1 : Iv) (r2 : Iv) (r3 : List Surf) (r4 : List Surf) :
    ev Tryz.prog (Env.add 16 (F2p cInt cInt cInt pickOk pick) (Env.add 88 (F1 cInt cIv Iv.point) (Env.add 100 (F1 cInt cIv Iv.whole) Env.nil))) Laws.nil 200 none (loopAt Tryz.f73 4) ((sc 48 [5, 4, 0, 3, 2] (tCod 5 cInt (tCod 4 cInt (tSl 0 0 (tOwn 3 1 (tOwn 2 2 tNil))))) (rL_int (rBoxSl 3 ccIv ccIv_ok (rBoxSl 4 ccIv ccIv_ok (rG_surf 88 (rL_surf rNil)))))).enc ((t5, t4, ()), (r0, r1, r2, r3, r4, ()))) (backK (sc 48 [5, 4, 0, 3, 2] (tCod 5 cInt (tCod 4 cInt (tSl 0 0 (tOwn 3 1 (tOwn 2 2 tNil))))) (rL_int (rBoxSl 3 ccIv ccIv_ok (rBoxSl 4 ccIv ccIv_ok (rG_surf 88 (rL_surf rNil)))))) (ocExit 0 (sc 48 [3, 2] (tOwn 3 0 (tOwn 2 1 tNil)) (rBoxSl 2 ccIv ccIv_ok (rBoxSl 3 ccIv ccIv_ok (rG_surf 88 (rL_surf rNil))))))) =
      .br (decide (t5 < (@Nat.cast Int _ r0.length))) (.br (decide (t5 < 4)) (.br (decide (0 ≤ t5 ∧ t5 < (@Nat.cast Int _ r0.length))) (.get (r0[t5.toNat]?) fun vt0 => .br (pickOk vt0 2) (.bind (pick vt0 2) fun vn1 => .bind (Iv.point 0) fun viv2 => .bind (Iv.point 65536) fun viv3 => .bind (Iv.point 0) fun viv4 => .bind (Iv.point 0) fun viv5 => .bind (Iv.point t4) fun viv6 => .bind (Iv.whole 100) fun viv7 => .bind (Iv.point 65536) fun viv8 => .br (Ev.lenOk (r3 ++ [Surf.mk (vn1 == 0) false viv2 viv3 viv4 viv5 viv6 viv7 viv8])) (.br (decide (0 ≤ t5 ∧ t5 < (@Nat.cast Int _ r0.length))) (.get (r0[t5.toNat]?) fun vt9 => .br (pickOk (IntKind.i64.wrap (Int.tdiv vt9 2)) 327680) (.bind (pick (IntKind.i64.wrap (Int.tdiv vt9 2)) 327680) fun vn10 => .ret (Sum.inl ((IntKind.i64.wrap (t5 + 1), IntKind.i64.wrap (IntKind.i64.wrap (t4 + 1) + vn10), ()), r0, r1, r2, r3 ++ [Surf.mk (vn1 == 0) false viv2 viv3 viv4 viv5 viv6 viv7 viv8], r4, ()))) (.fail)) (.fail)) (.fail)) (.fail)) (.fail)) (.ret (Sum.inr ((), r1, r2, r3, r4, ())))) (.ret (Sum.inr ((), r1, r2, r3, r4, ()))) := by kernel_rfl
theorem ok_meniscushand_Straight_4 : LOK Tryz.prog (LoopR.of (sc 48 [5, 4, 0, 3, 2] (tCod 5 cInt (tCod 4 cInt (tSl 0 0 (tOwn 3 1 (tOwn 2 2 tNil))))) (rL_int (rBoxSl 3 ccIv ccIv_ok (rBoxSl 4 ccIv ccIv_ok (rG_surf 88 (rL_surf rNil)))))) (ocExit 0 (sc 48 [3, 2] (tOwn 3 0 (tOwn 2 1 tNil)) (rBoxSl 2 ccIv ccIv_ok (rBoxSl 3 ccIv ccIv_ok (rG_surf 88 (rL_surf rNil)))))) (runBy straightStep straightM)) (loopAt Tryz.f73 4) := by
  refine loop_ok (EnvOK.add s_meniscushand_Pick (EnvOK.add s_meniscusref1_Point (EnvOK.add s_meniscusref1_Whole EnvOK.nil))) (LFn.at (fn := Tryz.f73) LFn.nil 4) straightStep (n := 200) (fun x z h => ?_) (runBy_ok _ _)
  obtain ⟨⟨t5, t4, ⟨⟩⟩, ⟨r0, r1, r2, r3, r4, ⟨⟩⟩⟩ := x
  rw [tl_meniscushand_Straight_4]
  by_cases h0 : t5 < (r0.length : Int) ∧ t5 < 4
  case neg =>
    rw [← h]
    simp only [straightStep, h0, if_false]
    simp only [den_br, den_bind, den_ret, den_fail, den_inl, den_inr, decide_eq_true_eq, gt_iff_lt, ge_iff_le, beq_iff_eq]
    by_cases c : t5 < (r0.length : Int) <;> by_cases d : t5 < 4 <;> simp only [c, d, if_true, if_false]
    exact absurd ⟨c, d⟩ h0
  by_cases h1 : 0 ≤ t5
  case neg => simp [straightStep, h0, h1] at h
  obtain ⟨v, hg⟩ : ∃ v, r0[t5.toNat]? = some v := ⟨_, List.getElem?_eq_getElem (by omega)⟩
  rw [← h]
  have pk2 : ∀ n : Int, pickOk n 2 = true := fun _ => by simp [pickOk]
  have pk327680 : ∀ n : Int, pickOk n 327680 = true := fun _ => by simp [pickOk]
  simp only [straightStep, airPlane, airNext, h0, h1, hg, and_self, if_true]
  simp only [den_br, den_bind, den_ret, den_fail, den_inl, den_inr, decide_eq_true_eq, gt_iff_lt, ge_iff_le, beq_iff_eq]
  simp only [h0.1, h0.2, h1, hg, and_self, true_and, decide_true, if_true, den_get, den_br, den_bind, den_ret, den_fail, dv_eq, pk2, pk327680]
  rfl
theorem t_meniscushand_Straight (r0 : List Int) :
    evFnR Tryz.prog (Env.add 16 (F2p cInt cInt cInt pickOk pick) (Env.add 88 (F1 cInt cIv Iv.point) (Env.add 100 (F1 cInt cIv Iv.whole) Env.nil))) (Laws.add 4 (LoopR.of (sc 48 [5, 4, 0, 3, 2] (tCod 5 cInt (tCod 4 cInt (tSl 0 0 (tOwn 3 1 (tOwn 2 2 tNil))))) (rL_int (rBoxSl 3 ccIv ccIv_ok (rBoxSl 4 ccIv ccIv_ok (rG_surf 88 (rL_surf rNil)))))) (ocExit 0 (sc 48 [3, 2] (tOwn 3 0 (tOwn 2 1 tNil)) (rBoxSl 2 ccIv ccIv_ok (rBoxSl 3 ccIv ccIv_ok (rG_surf 88 (rL_surf rNil)))))) (runBy straightStep straightM)) Laws.nil) 200 Tryz.f73 (((sc 1 [0] (tSl 0 0 tNil) (rL_int rNil)).enc ((()), (r0, ()))).tmps.map Prod.snd) ((sc 1 [0] (tSl 0 0 tNil) (rL_int rNil)).enc ((()), (r0, ()))).mem (sc 1 [0] (tAgg 0 0 ccNil ccNil_ok ccIv ccIv_ok tNil) (rG_surf 88 rNil)).ts (sc 1 [0] (tAgg 0 0 ccNil ccNil_ok ccIv ccIv_ok tNil) (rG_surf 88 rNil)).dec =
      .bind (Iv.whole 8) fun viv0 => .get (runBy straightStep straightM ((0, 655360, ()), r0, viv0, Iv.mk 0 0 false, [], [], ())) fun vy1 => .ret ((((), vy1.2.1, ()), vy1.2.2.2.1, ())) := by kernel_rfl
theorem c_meniscushand_Straight : PlainR Tryz.prog 73 (sc 1 [0] (tSl 0 0 tNil) (rL_int rNil)) (sc 1 [0] (tAgg 0 0 ccNil ccNil_ok ccIv ccIv_ok tNil) (rG_surf 88 rNil)) (fun _ => true) ((fun x => (fun r : SysV => (((), r.1, ()), (r.2, ()))) (straightOf x.2.1))) := by
  intro x h N w vs hM hv
  obtain ⟨⟨⟩, ⟨r0, ⟨⟩⟩⟩ := x
  refine calls_of_treeR (n := 200) (EnvOK.add s_meniscushand_Pick (EnvOK.add s_meniscusref1_Point (EnvOK.add s_meniscusref1_Whole EnvOK.nil))) Tryz.func73 hv (Nat.le_of_ble_eq_true (by kernel_rfl)) (LFn.add (fn := Tryz.f73) (i := 4) (by kernel_rfl) ok_meniscushand_Straight_4 LFn.nil) hM (sc 1 [0] (tAgg 0 0 ccNil ccNil_ok ccIv ccIv_ok tNil) (rG_surf 88 rNil)) rfl ?_
  rw [t_meniscushand_Straight]
  obtain ⟨y, hy, y1, y2⟩ := straight_total r0 (Iv.whole 8) ⟨0, 0, false⟩
  simp only [straightOf, hy]
  rw [show (⟨0, 0, false⟩ : Iv) = ⟨0, 0, false⟩ from rfl]
  simp only [den_bind, den_br, den_get, den_ret, hy]
theorem s_meniscushand_Straight : Ev.Spec Tryz.prog 73 (FR (sc 1 [0] (tSl 0 0 tNil) (rL_int rNil)) (sc 1 [0] (tAgg 0 0 ccNil ccNil_ok ccIv ccIv_ok tNil) (rG_surf 88 rNil)) (fun _ => true) ((fun x => (fun r : SysV => (((), r.1, ()), (r.2, ()))) (straightOf x.2.1)))) := specR rfl (fun _ => rfl) (fun vs w => Tryz.call73 vs w) c_meniscushand_Straight

/-! meniscuslaw24.open -/
theorem t_meniscuslaw24_open  :
    evFnR Tryz.prog (Env.add 41 (F1 cInt cIv Iv.whole) (Env.add 73 (FR (sc 1 [0] (tSl 0 0 tNil) (rL_int rNil)) (sc 1 [0] (tAgg 0 0 ccNil ccNil_ok ccIv ccIv_ok tNil) (rG_surf 88 rNil)) (fun _ => true) ((fun x => (fun r : SysV => (((), r.1, ()), (r.2, ()))) (straightOf x.2.1)))) Env.nil)) Laws.nil 200 Tryz.f74 (((sc 0 [] tNil rNil).enc ((()), (()))).tmps.map Prod.snd) ((sc 0 [] tNil rNil).enc ((()), (()))).mem (sc 1 [0] (tAgg 0 0 ccNil ccNil_ok ccIv ccIv_ok tNil) (rG_surf 88 rNil)).ts (sc 1 [0] (tAgg 0 0 ccNil ccNil_ok ccIv ccIv_ok tNil) (rG_surf 88 rNil)).dec =
      .br (true) (.bind ((((), (straightOf [1]).1, ()), (straightOf [1]).2, ())) fun vy0 => .bind (Iv.whole 4) fun viv1 => .ret ((((), viv1, ()), vy0.2.1, ()))) (.fail) := by kernel_rfl
theorem c_meniscuslaw24_open : PlainR Tryz.prog 74 (sc 0 [] tNil rNil) (sc 1 [0] (tAgg 0 0 ccNil ccNil_ok ccIv ccIv_ok tNil) (rG_surf 88 rNil)) (fun _ => true) ((fun _ => (((), Iv.whole 4, ()), ((straightOf [1]).2, ())))) := by
  intro x h N w vs hM hv
  obtain ⟨⟨⟩, ⟨⟩⟩ := x
  refine calls_of_treeR (n := 200) (EnvOK.add s_iv_Whole (EnvOK.add s_meniscushand_Straight EnvOK.nil)) Tryz.func74 hv (Nat.le_of_ble_eq_true (by kernel_rfl)) LFn.nil hM (sc 1 [0] (tAgg 0 0 ccNil ccNil_ok ccIv ccIv_ok tNil) (rG_surf 88 rNil)) rfl ?_
  rw [t_meniscuslaw24_open]
  rfl
theorem s_meniscuslaw24_open : Ev.Spec Tryz.prog 74 (FR (sc 0 [] tNil rNil) (sc 1 [0] (tAgg 0 0 ccNil ccNil_ok ccIv ccIv_ok tNil) (rG_surf 88 rNil)) (fun _ => true) ((fun _ => (((), Iv.whole 4, ()), ((straightOf [1]).2, ()))))) := specR rfl (fun _ => rfl) (fun vs w => Tryz.call74 vs w) c_meniscuslaw24_open

/-! meniscuslaw24.known -/
theorem t_meniscuslaw24_known  :
    evFn Tryz.prog (Env.add 22 (F2 cIv cInt cBool Iv.has) (Env.add 24 (FR (sc 4 [0, 1, 2, 3] (tAgg 0 0 ccNil ccNil_ok ccIv ccIv_ok (tCod 1 cInt (tCod 2 cInt (tCod 3 cInt tNil)))) (rL_surf rNil)) (sc 2 [0, 1] (tSl 0 0 (tCod 1 cInt tNil)) (rG_row 53 rNil)) ((fun x => lenOk x.2.1)) ((fun x => (((tableOf x.1.2.1 x.2.1 x.1.2.2.1 x.1.2.2.2.1 x.1.2.2.2.2.1).2, ()), ((tableOf x.1.2.1 x.2.1 x.1.2.2.1 x.1.2.2.2.1 x.1.2.2.2.2.1).1.map rowVC, ()))))) (Env.add 49 (F2 cInt cInt cIv Iv.of) (Env.add 74 (FR (sc 0 [] tNil rNil) (sc 1 [0] (tAgg 0 0 ccNil ccNil_ok ccIv ccIv_ok tNil) (rG_surf 88 rNil)) (fun _ => true) ((fun _ => (((), Iv.whole 4, ()), ((straightOf [1]).2, ()))))) Env.nil)))) Laws.nil 200 Tryz.f23 [] [] cBool.dec =
      .br (true) (.bind ((((), Iv.whole 4, ()), (straightOf [1]).2, ())) fun vy0 => .br (Ev.lenOk vy0.2.1) (.bind ((((tableOf vy0.1.2.1 vy0.2.1 65536 2 4).2, ()), List.map rowVC (tableOf vy0.1.2.1 vy0.2.1 65536 2 4).1, ())) fun vy1 => .br (vy1.1.1 == 0) (.br ((@Nat.cast Int _ vy1.2.1.length) == 2) (.br (decide ((0 : Int) ≤ 0 ∧ 0 < (@Nat.cast Int _ vy1.2.1.length))) (.get (vy1.2.1[Int.toNat 0]?) fun vt2 => .br (vt2.2.1.hi == 65536) (.br (decide ((0 : Int) ≤ 1 ∧ 1 < (@Nat.cast Int _ vy1.2.1.length))) (.get (vy1.2.1[Int.toNat 1]?) fun vt3 => .bind (Iv.of 65536 131072) fun viv4 => .br (vt3.1.lo == viv4.lo && (vt3.1.hi == viv4.hi && vt3.1.no == viv4.no)) (.br (decide ((0 : Int) ≤ 0 ∧ 0 < (@Nat.cast Int _ vy1.2.1.length))) (.get (vy1.2.1[Int.toNat 0]?) fun vt5 => .bind (vt5.2.1.has 34952) fun vb6 => .ret (vb6)) (.fail)) (.ret (false))) (.fail)) (.ret (false))) (.fail)) (.ret (false))) (.ret (false))) (.fail)) (.fail) := by kernel_rfl
theorem c_meniscuslaw24_known  : Plain Tryz.prog 23 [] (cBool.enc (true)) :=
  plain_of_tree (n := 200) (EnvOK.add s_iv_Has (EnvOK.add s_vignette_Table (EnvOK.add s_iv_Of (EnvOK.add s_meniscuslaw24_open EnvOK.nil)))) Tryz.func23 (args := []) rfl (Nat.le_of_ble_eq_true (by kernel_rfl)) LFn.nil cBool (by
    rw [t_meniscuslaw24_known]
    decide +kernel)
theorem s_meniscuslaw24_known : Ev.Spec Tryz.prog 23 (F0 cBool true) := spec0 (fun vs w => Tryz.call23 vs w) c_meniscuslaw24_known

/-! meniscuslaw24.VignetteParts -/
theorem tl_meniscuslaw24_VignetteParts_11 (t70 : Int) (t69 : Int) (r0 : List RowV) (r1 : List RowV) :
    ev Tryz.prog (Env.add 13 (FR (sc 5 [0, 1, 2, 3, 4] (tCod 0 cInt (tSl 1 0 (tSl 2 1 (tCod 3 cInt (tCod 4 cBool tNil))))) (rL_rface (rL_int rNil))) (sc 1 [0] (tAgg 0 0 ccNil ccNil_ok ccIv ccIv_ok tNil) (rG_surf 88 rNil)) ((fun x => mostOk x.1.2.1)) ((fun x => (fun r : SysV => (((), r.1, ()), (r.2, ()))) (systemOf x.1.1 x.2.1 x.2.2.1 x.1.2.1 x.1.2.2.1)))) (Env.add 16 (F2p cInt cInt cInt pickOk pick) (Env.add 23 (F0 cBool true) (Env.add 24 (FR (sc 4 [0, 1, 2, 3] (tAgg 0 0 ccNil ccNil_ok ccIv ccIv_ok (tCod 1 cInt (tCod 2 cInt (tCod 3 cInt tNil)))) (rL_surf rNil)) (sc 2 [0, 1] (tSl 0 0 (tCod 1 cInt tNil)) (rG_row 53 rNil)) ((fun x => lenOk x.2.1)) ((fun x => (((tableOf x.1.2.1 x.2.1 x.1.2.2.1 x.1.2.2.2.1 x.1.2.2.2.2.1).2, ()), ((tableOf x.1.2.1 x.2.1 x.1.2.2.1 x.1.2.2.2.1 x.1.2.2.2.2.1).1.map rowVC, ()))))) (Env.add 25 (F2 cIv cIv cBool Iv.inside) Env.nil))))) Laws.nil 200 none (loopAt Tryz.f4 11) ((sc 166 [70, 69, 10, 12] (tCod 70 cInt (tCod 69 cInt (tSl 10 0 (tSl 12 1 tNil)))) (rG_row 53 (rG_row 53 rNil))).enc ((t70, t69, ()), (r0, r1, ()))) (backK (sc 166 [70, 69, 10, 12] (tCod 70 cInt (tCod 69 cInt (tSl 10 0 (tSl 12 1 tNil)))) (rG_row 53 (rG_row 53 rNil))) (ocOr (ocExit 0 (sc 166 [10] (tSl 10 0 tNil) (rG_row 53 rNil))) (ocRet (sc 166 [8] (tCod 8 cBool tNil) rNil)))) =
      .br (decide (t70 < t69)) (.br (decide (0 ≤ IntKind.i64.wrap (t70.tdiv 2) ∧ IntKind.i64.wrap (t70.tdiv 2) < (@Nat.cast Int _ r0.length))) (.get (r0[(IntKind.i64.wrap (t70.tdiv 2)).toNat]?) fun vt0 => .br (decide (0 ≤ t70 ∧ t70 < (@Nat.cast Int _ r1.length))) (.get (r1[t70.toNat]?) fun vt1 => .br (decide (0 ≤ IntKind.i64.wrap (t70.tdiv 2) ∧ IntKind.i64.wrap (t70.tdiv 2) < (@Nat.cast Int _ r0.length))) (.get (r0[(IntKind.i64.wrap (t70.tdiv 2)).toNat]?) fun vt2 => .bind (vt1.1.inside vt2.1) fun vb3 => .br (!vb3) (.ret (Sum.inr (Sum.inr ((false, ()), ())))) (.br (decide (0 ≤ t70 ∧ t70 < (@Nat.cast Int _ r1.length))) (.get (r1[t70.toNat]?) fun vt4 => .bind (vt4.2.1.inside vt0.2.1) fun vb5 => .br (!vb5) (.ret (Sum.inr (Sum.inr ((false, ()), ())))) (.br (decide (vt0.2.1.lo < 0)) (.ret (Sum.inr (Sum.inr ((false, ()), ())))) (.br (decide (vt0.2.1.hi > 65536)) (.ret (Sum.inr (Sum.inr ((false, ()), ())))) (.br (decide (0 ≤ t70 ∧ t70 < (@Nat.cast Int _ r1.length))) (.get (r1[t70.toNat]?) fun vt6 => .br (decide (0 ≤ IntKind.i64.wrap (t70.tdiv 2) ∧ IntKind.i64.wrap (t70.tdiv 2) < (@Nat.cast Int _ r0.length))) (.get (r0[(IntKind.i64.wrap (t70.tdiv 2)).toNat]?) fun vt7 => .br (vt6.2.2.2.2.1 != vt7.2.2.2.2.1) (.ret (Sum.inr (Sum.inr ((false, ()), ())))) (.ret (Sum.inl ((IntKind.i64.wrap (t70 + 1), t69, ()), r0, r1, ())))) (.fail)) (.fail))))) (.fail))) (.fail)) (.fail)) (.fail)) (.ret (Sum.inr (Sum.inl ((), r0, ())))) := by kernel_rfl
theorem ok_meniscuslaw24_VignetteParts_11 : LOK Tryz.prog (LoopR.of (sc 166 [70, 69, 10, 12] (tCod 70 cInt (tCod 69 cInt (tSl 10 0 (tSl 12 1 tNil)))) (rG_row 53 (rG_row 53 rNil))) (ocOr (ocExit 0 (sc 166 [10] (tSl 10 0 tNil) (rG_row 53 rNil))) (ocRet (sc 166 [8] (tCod 8 cBool tNil) rNil))) (runBy vpStep vpM)) (loopAt Tryz.f4 11) := by
  refine loop_ok (EnvOK.add s_meniscushand_System (EnvOK.add s_meniscushand_Pick (EnvOK.add s_meniscuslaw24_known (EnvOK.add s_vignette_Table (EnvOK.add s_iv_Inside EnvOK.nil))))) (LFn.at (fn := Tryz.f4) LFn.nil 11) vpStep (n := 200) (fun x z h => ?_) (runBy_ok _ _)
  obtain ⟨⟨t70, t69, ⟨⟩⟩, ⟨r0, r1, ⟨⟩⟩⟩ := x
  rw [tl_meniscuslaw24_VignetteParts_11]
  rw [← h]
  simp only [vpStep]
  simp only [den_br, den_bind, den_ret, den_fail, decide_eq_true_eq, gt_iff_lt, ge_iff_le, beq_iff_eq]
  by_cases h0 : t70 < t69 <;> simp only [h0, if_true, if_false]
  by_cases h1 : 0 ≤ IntKind.i64.wrap (t70.tdiv 2) ∧ IntKind.i64.wrap (t70.tdiv 2) < (r0.length : Int)
  case neg => simp only [h1, if_false]
  obtain ⟨a, ha⟩ : ∃ a, r0[(IntKind.i64.wrap (t70.tdiv 2)).toNat]? = some a := ⟨_, List.getElem?_eq_getElem (by omega)⟩
  by_cases h2 : 0 ≤ t70 ∧ t70 < (r1.length : Int)
  case neg =>
    simp only [h1, ha, h2, and_self, if_true, if_false, den_get, den_br, decide_true, decide_false, Bool.false_eq_true]
    rfl
  obtain ⟨b, hb⟩ : ∃ b, r1[t70.toNat]? = some b := ⟨_, List.getElem?_eq_getElem (by omega)⟩
  simp only [h1, h2, ha, hb, and_self, if_true, den_get, den_br, den_bind, den_ret, decide_true]
  unfold vpBad
  rcases Bool.eq_false_or_eq_true (b.1.inside a.1) with g1 | g1 <;> rcases Bool.eq_false_or_eq_true (b.2.1.inside a.2.1) with g2 | g2 <;> by_cases g3 : a.2.1.lo < 0 <;> by_cases g4 : 65536 < a.2.1.hi <;> rcases Bool.eq_false_or_eq_true (b.2.2.2.2.1 != a.2.2.2.2.1) with g5 | g5 <;> simp [g1, g2, g3, g4, g5]
theorem tl_meniscuslaw24_VignetteParts_18 (t131 : Int) (t130 : Int) (r0 : List RowV) :
    ev Tryz.prog (Env.add 13 (FR (sc 5 [0, 1, 2, 3, 4] (tCod 0 cInt (tSl 1 0 (tSl 2 1 (tCod 3 cInt (tCod 4 cBool tNil))))) (rL_rface (rL_int rNil))) (sc 1 [0] (tAgg 0 0 ccNil ccNil_ok ccIv ccIv_ok tNil) (rG_surf 88 rNil)) ((fun x => mostOk x.1.2.1)) ((fun x => (fun r : SysV => (((), r.1, ()), (r.2, ()))) (systemOf x.1.1 x.2.1 x.2.2.1 x.1.2.1 x.1.2.2.1)))) (Env.add 16 (F2p cInt cInt cInt pickOk pick) (Env.add 23 (F0 cBool true) (Env.add 24 (FR (sc 4 [0, 1, 2, 3] (tAgg 0 0 ccNil ccNil_ok ccIv ccIv_ok (tCod 1 cInt (tCod 2 cInt (tCod 3 cInt tNil)))) (rL_surf rNil)) (sc 2 [0, 1] (tSl 0 0 (tCod 1 cInt tNil)) (rG_row 53 rNil)) ((fun x => lenOk x.2.1)) ((fun x => (((tableOf x.1.2.1 x.2.1 x.1.2.2.1 x.1.2.2.2.1 x.1.2.2.2.2.1).2, ()), ((tableOf x.1.2.1 x.2.1 x.1.2.2.1 x.1.2.2.2.1 x.1.2.2.2.2.1).1.map rowVC, ()))))) (Env.add 25 (F2 cIv cIv cBool Iv.inside) Env.nil))))) (Laws.add 11 (LoopR.of (sc 166 [70, 69, 10, 12] (tCod 70 cInt (tCod 69 cInt (tSl 10 0 (tSl 12 1 tNil)))) (rG_row 53 (rG_row 53 rNil))) (ocOr (ocExit 0 (sc 166 [10] (tSl 10 0 tNil) (rG_row 53 rNil))) (ocRet (sc 166 [8] (tCod 8 cBool tNil) rNil))) (runBy vpStep vpM)) Laws.nil) 200 none (loopAt Tryz.f4 18) ((sc 166 [131, 130, 129] (tCod 131 cInt (tCod 130 cInt (tSl 129 0 tNil))) (rG_row 53 rNil)).enc ((t131, t130, ()), (r0, ()))) (backK (sc 166 [131, 130, 129] (tCod 131 cInt (tCod 130 cInt (tSl 129 0 tNil))) (rG_row 53 rNil)) (ocOr (ocExit 2 (sc 166 [] tNil rNil)) (ocRet (sc 166 [8] (tCod 8 cBool tNil) rNil)))) =
      .br (decide (t131 < t130)) (.br (decide (0 ≤ t131 ∧ t131 < (@Nat.cast Int _ r0.length))) (.get (r0[t131.toNat]?) fun vt0 => .br (decide (IntKind.i64.wrap (vt0.2.1.lo * vt0.2.2.2.2.1) > IntKind.i64.wrap (vt0.2.2.1 * 65536))) (.ret (Sum.inr (Sum.inr ((false, ()), ())))) (.br (decide (IntKind.i64.wrap (vt0.2.1.hi * vt0.2.2.2.2.1) < IntKind.i64.wrap (IntKind.i64.wrap (vt0.2.2.1 + vt0.2.2.2.1) * 65536))) (.ret (Sum.inr (Sum.inr ((false, ()), ())))) (.ret (Sum.inl ((IntKind.i64.wrap (t131 + 1), t130, ()), r0, ()))))) (.fail)) (.ret (Sum.inr (Sum.inl ((), ())))) := by kernel_rfl
theorem ok_meniscuslaw24_VignetteParts_18 : LOK Tryz.prog (LoopR.of (sc 166 [131, 130, 129] (tCod 131 cInt (tCod 130 cInt (tSl 129 0 tNil))) (rG_row 53 rNil)) (ocOr (ocExit 2 (sc 166 [] tNil rNil)) (ocRet (sc 166 [8] (tCod 8 cBool tNil) rNil))) (runBy vqStep vqM)) (loopAt Tryz.f4 18) := by
  refine loop_ok (EnvOK.add s_meniscushand_System (EnvOK.add s_meniscushand_Pick (EnvOK.add s_meniscuslaw24_known (EnvOK.add s_vignette_Table (EnvOK.add s_iv_Inside EnvOK.nil))))) (LFn.at (fn := Tryz.f4) (LFn.add (fn := Tryz.f4) (i := 11) (by kernel_rfl) ok_meniscuslaw24_VignetteParts_11 LFn.nil) 18) vqStep (n := 200) (fun x z h => ?_) (runBy_ok _ _)
  obtain ⟨⟨t131, t130, ⟨⟩⟩, ⟨r0, ⟨⟩⟩⟩ := x
  rw [tl_meniscuslaw24_VignetteParts_18]
  rw [← h]
  simp only [vqStep]
  simp only [den_br, den_bind, den_ret, den_fail, decide_eq_true_eq, gt_iff_lt, ge_iff_le, beq_iff_eq]
  by_cases h0 : t131 < t130 <;> simp only [h0, if_true, if_false]
  by_cases h1 : 0 ≤ t131 ∧ t131 < (r0.length : Int) <;> simp only [h1, and_self, if_true, if_false]
  cases hg : r0[t131.toNat]? with
  | none => rfl
  | some a =>
    simp only [den_get, den_br, den_bind, den_ret, den_fail]
    unfold vqBad
    by_cases g1 : IntKind.i64.wrap (a.2.2.1 * 65536) < IntKind.i64.wrap (a.2.1.lo * a.2.2.2.2.1) <;> by_cases g2 : IntKind.i64.wrap (a.2.1.hi * a.2.2.2.2.1) < IntKind.i64.wrap (IntKind.i64.wrap (a.2.2.1 + a.2.2.2.1) * 65536) <;> simp [g1, g2]
theorem t_meniscuslaw24_VignetteParts (t0 : Int) (t2 : Int) (t3 : Int) (r0 : List RawFace) :
    evFn Tryz.prog (Env.add 13 (FR (sc 5 [0, 1, 2, 3, 4] (tCod 0 cInt (tSl 1 0 (tSl 2 1 (tCod 3 cInt (tCod 4 cBool tNil))))) (rL_rface (rL_int rNil))) (sc 1 [0] (tAgg 0 0 ccNil ccNil_ok ccIv ccIv_ok tNil) (rG_surf 88 rNil)) ((fun x => mostOk x.1.2.1)) ((fun x => (fun r : SysV => (((), r.1, ()), (r.2, ()))) (systemOf x.1.1 x.2.1 x.2.2.1 x.1.2.1 x.1.2.2.1)))) (Env.add 16 (F2p cInt cInt cInt pickOk pick) (Env.add 23 (F0 cBool true) (Env.add 24 (FR (sc 4 [0, 1, 2, 3] (tAgg 0 0 ccNil ccNil_ok ccIv ccIv_ok (tCod 1 cInt (tCod 2 cInt (tCod 3 cInt tNil)))) (rL_surf rNil)) (sc 2 [0, 1] (tSl 0 0 (tCod 1 cInt tNil)) (rG_row 53 rNil)) ((fun x => lenOk x.2.1)) ((fun x => (((tableOf x.1.2.1 x.2.1 x.1.2.2.1 x.1.2.2.2.1 x.1.2.2.2.2.1).2, ()), ((tableOf x.1.2.1 x.2.1 x.1.2.2.1 x.1.2.2.2.1 x.1.2.2.2.2.1).1.map rowVC, ()))))) (Env.add 25 (F2 cIv cIv cBool Iv.inside) Env.nil))))) (Laws.add 18 (LoopR.of (sc 166 [131, 130, 129] (tCod 131 cInt (tCod 130 cInt (tSl 129 0 tNil))) (rG_row 53 rNil)) (ocOr (ocExit 2 (sc 166 [] tNil rNil)) (ocRet (sc 166 [8] (tCod 8 cBool tNil) rNil))) (runBy vqStep vqM)) (Laws.add 11 (LoopR.of (sc 166 [70, 69, 10, 12] (tCod 70 cInt (tCod 69 cInt (tSl 10 0 (tSl 12 1 tNil)))) (rG_row 53 (rG_row 53 rNil))) (ocOr (ocExit 0 (sc 166 [10] (tSl 10 0 tNil) (rG_row 53 rNil))) (ocRet (sc 166 [8] (tCod 8 cBool tNil) rNil))) (runBy vpStep vpM)) Laws.nil)) 200 Tryz.f4 (((sc 4 [0, 1, 2, 3] (tCod 0 cInt (tSl 1 0 (tCod 2 cInt (tCod 3 cInt tNil)))) (rL_rface rNil)).enc ((t0, t2, t3, ()), (r0, ()))).tmps.map Prod.snd) ((sc 4 [0, 1, 2, 3] (tCod 0 cInt (tSl 1 0 (tCod 2 cInt (tCod 3 cInt tNil)))) (rL_rface rNil)).enc ((t0, t2, t3, ()), (r0, ()))).mem cBool.dec =
      .br (mostOk 3) (.bind ((((), (systemOf t0 r0 [] 3 true).1, ()), (systemOf t0 r0 [] 3 true).2, ())) fun vy0 => .br ((@Nat.cast Int _ vy0.2.1.length) == 0) (.bind (true) fun vb1 => .ret (vb1)) (.br (pickOk t3 3) (.bind (pick t3 3) fun vn2 => .br (pickOk t2 40000) (.bind (pick t2 40000) fun vn3 => .br (Ev.lenOk vy0.2.1) (.bind ((((tableOf vy0.1.2.1 vy0.2.1 (IntKind.i64.wrap (2 + IntKind.i64.wrap (2 * vn3))) 2 (IntKind.i64.wrap (1 + vn2))).2, ()), List.map rowVC (tableOf vy0.1.2.1 vy0.2.1 (IntKind.i64.wrap (2 + IntKind.i64.wrap (2 * vn3))) 2 (IntKind.i64.wrap (1 + vn2))).1, ())) fun vy4 => .br (Ev.lenOk vy0.2.1) (.bind ((((tableOf vy0.1.2.1 vy0.2.1 (IntKind.i64.wrap ((IntKind.i64.wrap (2 + IntKind.i64.wrap (2 * vn3))).tdiv 2)) 4 (IntKind.i64.wrap (1 + vn2))).2, ()), List.map rowVC (tableOf vy0.1.2.1 vy0.2.1 (IntKind.i64.wrap ((IntKind.i64.wrap (2 + IntKind.i64.wrap (2 * vn3))).tdiv 2)) 4 (IntKind.i64.wrap (1 + vn2))).1, ())) fun vy5 => .bind (true) fun vb6 => .br (!vb6) (.ret (false)) (.br (vy4.1.1 != 0) (.ret (false)) (.br (vy5.1.1 != 0) (.ret (false)) (.br ((@Nat.cast Int _ vy4.2.1.length) != 2) (.ret (false)) (.br ((@Nat.cast Int _ vy5.2.1.length) != 4) (.ret (false)) (.get (runBy vpStep vpM ((0, (@Nat.cast Int _ vy5.2.1.length), ()), vy4.2.1, vy5.2.1, ())) fun vy7 => .sum (vy7) (fun vs8 => .get (runBy vqStep vqM ((0, (@Nat.cast Int _ vs8.2.1.length), ()), vs8.2.1, ())) fun vy9 => .sum (vy9) (fun vs10 => .ret (true)) (fun vs11 => .ret (vs11.1.1))) (fun vs12 => .ret (vs12.1.1)))))))) (.fail)) (.fail)) (.fail)) (.fail))) (.fail) := by kernel_rfl
theorem c_meniscuslaw24_VignetteParts : PlainS Tryz.prog 4 (sc 4 [0, 1, 2, 3] (tCod 0 cInt (tSl 1 0 (tCod 2 cInt (tCod 3 cInt tNil)))) (rL_rface rNil)) cBool (fun _ => true) ((fun _ => true)) := by
  intro x h N w vs hM hv
  obtain ⟨⟨t0, t2, t3, ⟨⟩⟩, ⟨r0, ⟨⟩⟩⟩ := x
  refine calls_of_tree (n := 200) (EnvOK.add s_meniscushand_System (EnvOK.add s_meniscushand_Pick (EnvOK.add s_meniscuslaw24_known (EnvOK.add s_vignette_Table (EnvOK.add s_iv_Inside EnvOK.nil))))) Tryz.func4 hv (Nat.le_of_ble_eq_true (by kernel_rfl)) (LFn.add (fn := Tryz.f4) (i := 18) (by kernel_rfl) ok_meniscuslaw24_VignetteParts_18 (LFn.add (fn := Tryz.f4) (i := 11) (by kernel_rfl) ok_meniscuslaw24_VignetteParts_11 LFn.nil)) hM cBool ?_
  rw [t_meniscuslaw24_VignetteParts]
  have hR := systemOf_R t0 r0 [] true (most := 3) rfl
  have hlo : Ev.lenOk (systemOf t0 r0 [] 3 true).2 = true := lenOk_iff.2 (by have := hR.len; omega)
  have pk3 : ∀ n : Int, pickOk n 3 = true := fun _ => by simp [pickOk]
  have pk40000 : ∀ n : Int, pickOk n 40000 = true := fun _ => by simp [pickOk]
  simp only [show mostOk 3 = true from rfl, hlo, pk3, pk40000, if_true, den_br, den_bind, den_get, den_ret, den_fail]
  have b2 := pick_bd t2 (m := 40000) (by decide)
  have b3 := pick_bd t3 (m := 3) (by decide)
  by_cases hl : (systemOf t0 r0 [] 3 true).2.length = 0
  · simp only [hl]; rfl
  have hl' : (((systemOf t0 r0 [] 3 true).2.length : Int) == 0) = false := by rw [beq_eq_false_iff_ne]; omega
  obtain ⟨g, hg⟩ : ∃ g, 1 + pick t2 40000 = g := ⟨_, rfl⟩
  have w0 : IntKind.i64.wrap (2 * pick t2 40000) = 2 * pick t2 40000 := wr (by omega)
  have w1 : IntKind.i64.wrap (2 + 2 * pick t2 40000) = 2 * g := by rw [wr (by omega)]; omega
  have w2 : IntKind.i64.wrap ((2 * g).tdiv 2) = g := by
    rw [Int.tdiv_eq_ediv_of_nonneg (by omega), wr (by omega)]
    omega
  have w3 : IntKind.i64.wrap (1 + pick t3 3) = 1 + pick t3 3 := wr (by omega)
  obtain ⟨n, hn⟩ : ∃ n, 1 + pick t3 3 = n := ⟨_, rfl⟩
  have hz : sizedC (systemOf t0 r0 [] 3 true).2 n = true := sizedC_iff.2 ⟨by omega, by omega, by omega⟩
  have k2 : tabOk (systemOf t0 r0 [] 3 true).2 (2 * g) 2 n = true := by unfold tabOk; rw [decide_eq_true (by omega), decide_eq_true (by omega), hz]; rfl
  have k4 : tabOk (systemOf t0 r0 [] 3 true).2 g 4 n = true := by unfold tabOk; rw [decide_eq_true (by omega), decide_eq_true (by omega), hz]; rfl
  obtain ⟨q2, q3⟩ := table_two (o := (systemOf t0 r0 [] 3 true).1) k2
  obtain ⟨q4, q5⟩ := table_four (o := (systemOf t0 r0 [] 3 true).1) k4
  have v0 := vp_not (o := (systemOf t0 r0 [] 3 true).1) (hR.flat rfl) (h := g) (i := 0) (k := 0) hz (by omega) (by omega) (by omega) (by omega) (by omega)
  have v1 := vp_not (o := (systemOf t0 r0 [] 3 true).1) (hR.flat rfl) (h := g) (i := 1) (k := 0) hz (by omega) (by omega) (by omega) (by omega) (by omega)
  have v2 := vp_not (o := (systemOf t0 r0 [] 3 true).1) (hR.flat rfl) (h := g) (i := 2) (k := 1) hz (by omega) (by omega) (by omega) (by omega) (by omega)
  have v3 := vp_not (o := (systemOf t0 r0 [] 3 true).1) (hR.flat rfl) (h := g) (i := 3) (k := 1) hz (by omega) (by omega) (by omega) (by omega) (by omega)
  have l2 : ∀ a b : RowV, ((([a, b] : List RowV).length : Int) != 2) = false := fun _ _ => rfl
  have l4 : ∀ a b c d : RowV, ((([a, b, c, d] : List RowV).length : Int) != 4) = false := fun _ _ _ _ => rfl
  have x1 := vp_run v0.1 v1.1 v2.1 v3.1
  have x2 := vq_run v0.2 v2.2
  have w4 : IntKind.i64.wrap n = n := by rw [← hn]; exact w3
  simp only [hl', w0, w1, w2, hn, w4, q2, q3, q4, q5, l2, l4, x1, x2, den_get, den_inl, den_ret, Bool.not_true, Bool.false_eq_true, if_false, bne_self_eq_false]
theorem s_meniscuslaw24_VignetteParts : Ev.Spec Tryz.prog 4 (FS (sc 4 [0, 1, 2, 3] (tCod 0 cInt (tSl 1 0 (tCod 2 cInt (tCod 3 cInt tNil)))) (rL_rface rNil)) cBool (fun _ => true) ((fun _ => true))) := specS rfl (fun vs w => Tryz.call4 vs w) c_meniscuslaw24_VignetteParts
end Go.Proofs.YtliglpiofomelaaGreat
