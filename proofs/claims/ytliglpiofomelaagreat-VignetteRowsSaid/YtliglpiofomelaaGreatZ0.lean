/-
  Contracts of calls, written by a small program of this session out of the evaluator's trees.
-/
import Derived.Test.YtliglpiofomelaaGreatCore
import Derived.Test.YtliglpiofomelaaGreatCoreLoops
import Derived.Test.YtliglpiofomelaaGreatCore2
import Derived.Test.YtliglpiofomelaaGreatCore3
import Derived.Test.YtliglpiofomelaaGreatCore4
import Derived.Test.YtliglpiofomelaaGreatCore5
import Derived.Test.YtliglpiofomelaaGreatCore6
import Derived.Test.YtliglpiofomelaaGreatCore7
import Derived.Test.YtliglpiofomelaaGreatCore8
import Derived.Test.YtliglpiofomelaaGreatCore9
import Derived.Test.YtliglpiofomelaaGreatEvMore
import Derived.Test.YtliglpiofomelaaGreatSym
import Derived.Test.YtliglpiofomelaaGreatSysF
import Derived.Test.YtliglpiofomelaaGreatLess2
import Derived.Test.YtliglpiofomelaaGreatFloCod
import Derived.Test.YtliglpiofomelaaGreatGs
import Derived.Test.YtliglpiofomelaaGreatPup
import Derived.Test.YtliglpiofomelaaGreatR0
import Derived.Test.YtliglpiofomelaaGreatG0
import Derived.Test.YtliglpiofomelaaGreatPup2
import Derived.Test.YtliglpiofomelaaGreatW0
import Derived.Test.YtliglpiofomelaaGreatVig
import Derived.Test.YtliglpiofomelaaGreatVig2
import Derived.Test.YtliglpiofomelaaGreatV0
import Derived.Test.YtliglpiofomelaaGreatEvCod
import Derived.Test.YtliglpiofomelaaGreatEvRet
import Derived.Test.YtliglpiofomelaaGreatProg
namespace Go.Proofs.YtliglpiofomelaaGreat
open Go Go.RowKit Ev
set_option maxRecDepth 100000
set_option linter.unusedVariables false
set_option linter.unusedSimpArgs false

/-! meniscushand.Straight -/
theorem tl_meniscushand_Straight_4 (t5 : Int) (t4 : Int) (r0 : List Int) (r1 : Iv) (r2 : Iv) (r3 : List Surf) (r4 : List Surf) :
    ev Tryz.prog (Env.add 16 (F2p cInt cInt cInt pickOk pick) (Env.add 88 (F1 cInt cIv Iv.point) (Env.add 100 (F1 cInt cIv Iv.whole) Env.nil))) Laws.nil 200 none (loopAt Tryz.f73 4) ((sc 48 [5, 4, 0, 3, 2] (tCod 5 cInt (tCod 4 cInt (tSl 0 0 (tOwn 3 1 (tOwn 2 2 tNil))))) (rL_int (rBoxSl 3 ccIv ccIv_ok (rBoxSl 4 ccIv ccIv_ok (rG_surf 88 (rL_surf rNil)))))).enc ((t5, t4, ()), (r0, r1, r2, r3, r4, ()))) (backK (sc 48 [5, 4, 0, 3, 2] (tCod 5 cInt (tCod 4 cInt (tSl 0 0 (tOwn 3 1 (tOwn 2 2 tNil))))) (rL_int (rBoxSl 3 ccIv ccIv_ok (rBoxSl 4 ccIv ccIv_ok (rG_surf 88 (rL_surf rNil)))))) (ocExit 0 (sc 48 [3, 2] (tOwn 3 0 (tOwn 2 1 tNil)) (rBoxSl 2 ccIv ccIv_ok (rBoxSl 3 ccIv ccIv_ok (rG_surf 88 (rL_surf rNil))))))) =
      .br (decide (t5 < (@Nat.cast Int _ r0.length))) (.br (decide (t5 < 4)) (.br (decide (0 ≤ t5 ∧ t5 < (@Nat.cast Int _ r0.length))) (.get (r0[t5.toNat]?) fun vt0 => .br (pickOk vt0 2) (.bind (pick vt0 2) fun vn1 => .bind (Iv.point 0) fun viv2 => .bind (Iv.point 65536) fun viv3 => .bind (Iv.point 0) fun viv4 => .bind (Iv.point 0) fun viv5 => .bind (Iv.point t4) fun viv6 => .bind (Iv.whole 100) fun viv7 => .bind (Iv.point 65536) fun viv8 => .br (Ev.lenOk (r3 ++ [Surf.mk (vn1 == 0) false viv2 viv3 viv4 viv5 viv6 viv7 viv8])) (.br (decide (0 ≤ t5 ∧ t5 < (@Nat.cast Int _ r0.length))) (.get (r0[t5.toNat]?) fun vt9 => .br (pickOk (IntKind.i64.wrap (Int.tdiv vt9 2)) 327680) (.bind (pick (IntKind.i64.wrap (Int.tdiv vt9 2)) 327680) fun vn10 => .ret (Sum.inl ((IntKind.i64.wrap (t5 + 1), IntKind.i64.wrap (IntKind.i64.wrap (t4 + 1) + vn10), ()), r0, r1, r2, r3 ++ [Surf.mk (vn1 == 0) false viv2 viv3 viv4 viv5 viv6 viv7 viv8], r4, ()))) (.fail)) (.fail)) (.fail)) (.fail)) (.fail)) (.ret (Sum.inr ((), r1, r2, r3, r4, ())))) (.ret (Sum.inr ((), r1, r2, r3, r4, ()))) := by kernel_rfl
theorem ok_meniscushand_Straight_4 : LOK Tryz.prog (LoopR.of (sc 48 [5, 4, 0, 3, 2] (tCod 5 cInt (tCod 4 cInt (tSl 0 0 (tOwn 3 1 (tOwn 2 2 tNil))))) (rL_int (rBoxSl 3 ccIv ccIv_ok (rBoxSl 4 ccIv ccIv_ok (rG_surf 88 (rL_surf rNil)))))) (ocExit 0 (sc 48 [3, 2] (tOwn 3 0 (tOwn 2 1 tNil)) (rBoxSl 2 ccIv ccIv_ok (rBoxSl 3 ccIv ccIv_ok (rG_surf 88 (rL_surf rNil)))))) (runBy straightStep straightM)) (loopAt Tryz.f73 4) := by
  refine loop_ok (EnvOK.add s_meniscushand_Pick (EnvOK.add s_meniscusref1_Point (EnvOK.add s_meniscusref1_Whole EnvOK.nil))) (LFn.at (fn := Tryz.f73) LFn.nil 4) straightStep (n := 200) (fun x z h => ?_) (runBy_ok _ _)
  obtain ⟨⟨t5, t4, ⟨⟩⟩, ⟨r0, r1, r2, r3, r4, ⟨⟩⟩⟩ := x
  rw [tl_meniscushand_Straight_4]
  by_cases h0 : t5 < (r0.length : Int) ∧ t5 < 4
  case neg =>
    rw [← h]
    simp only [straightStep, h0, if_false]
    simp only [den_br, den_bind, den_ret, den_fail, den_inl, den_inr, decide_eq_true_eq, gt_iff_lt, ge_iff_le, beq_iff_eq]
    by_cases c : t5 < (r0.length : Int) <;> by_cases d : t5 < 4 <;> simp only [c, d, if_true, if_false]
    exact absurd ⟨c, d⟩ h0
  by_cases h1 : 0 ≤ t5
  case neg => simp [straightStep, h0, h1] at h
  obtain ⟨v, hg⟩ : ∃ v, r0[t5.toNat]? = some v := ⟨_, List.getElem?_eq_getElem (by omega)⟩
  rw [← h]
  have pk2 : ∀ n : Int, pickOk n 2 = true := fun _ => by simp [pickOk]
  have pk327680 : ∀ n : Int, pickOk n 327680 = true := fun _ => by simp [pickOk]
  simp only [straightStep, airPlane, airNext, h0, h1, hg, and_self, if_true]
  simp only [den_br, den_bind, den_ret, den_fail, den_inl, den_inr, decide_eq_true_eq, gt_iff_lt, ge_iff_le, beq_iff_eq]
  simp only [h0.1, h0.2, h1, hg, and_self, true_and, decide_true, if_true, den_get, den_br, den_bind, den_ret, den_fail, dv_eq, pk2, pk327680]
  rfl
theorem t_meniscushand_Straight (r0 : List Int) :
    evFnR Tryz.prog (Env.add 16 (F2p cInt cInt cInt pickOk pick) (Env.add 88 (F1 cInt cIv Iv.point) (Env.add 100 (F1 cInt cIv Iv.whole) Env.nil))) (Laws.add 4 (LoopR.of (sc 48 [5, 4, 0, 3, 2] (tCod 5 cInt (tCod 4 cInt (tSl 0 0 (tOwn 3 1 (tOwn 2 2 tNil))))) (rL_int (rBoxSl 3 ccIv ccIv_ok (rBoxSl 4 ccIv ccIv_ok (rG_surf 88 (rL_surf rNil)))))) (ocExit 0 (sc 48 [3, 2] (tOwn 3 0 (tOwn 2 1 tNil)) (rBoxSl 2 ccIv ccIv_ok (rBoxSl 3 ccIv ccIv_ok (rG_surf 88 (rL_surf rNil)))))) (runBy straightStep straightM)) Laws.nil) 200 Tryz.f73 (((sc 1 [0] (tSl 0 0 tNil) (rL_int rNil)).enc ((()), (r0, ()))).tmps.map Prod.snd) ((sc 1 [0] (tSl 0 0 tNil) (rL_int rNil)).enc ((()), (r0, ()))).mem (sc 1 [0] (tAgg 0 0 ccNil ccNil_ok ccIv ccIv_ok tNil) (rG_surf 88 rNil)).ts (sc 1 [0] (tAgg 0 0 ccNil ccNil_ok ccIv ccIv_ok tNil) (rG_surf 88 rNil)).dec =
      .bind (Iv.whole 8) fun viv0 => .get (runBy straightStep straightM ((0, 655360, ()), r0, viv0, Iv.mk 0 0 false, [], [], ())) fun vy1 => .ret ((((), vy1.2.1, ()), vy1.2.2.2.1, ())) := by kernel_rfl
theorem c_meniscushand_Straight : PlainR Tryz.prog 73 (sc 1 [0] (tSl 0 0 tNil) (rL_int rNil)) (sc 1 [0] (tAgg 0 0 ccNil ccNil_ok ccIv ccIv_ok tNil) (rG_surf 88 rNil)) (fun _ => true) ((fun x => (fun r : SysV => (((), r.1, ()), (r.2, ()))) (straightOf x.2.1))) := by
  intro x h N w vs hM hv
  obtain ⟨⟨⟩, ⟨r0, ⟨⟩⟩⟩ := x
  refine calls_of_treeR (n := 200) (EnvOK.add s_meniscushand_Pick (EnvOK.add s_meniscusref1_Point (EnvOK.add s_meniscusref1_Whole EnvOK.nil))) Tryz.func73 hv (Nat.le_of_ble_eq_true (by kernel_rfl)) (LFn.add (fn := Tryz.f73) (i := 4) (by kernel_rfl) ok_meniscushand_Straight_4 LFn.nil) hM (sc 1 [0] (tAgg 0 0 ccNil ccNil_ok ccIv ccIv_ok tNil) (rG_surf 88 rNil)) rfl ?_
  rw [t_meniscushand_Straight]
  obtain ⟨y, hy, y1, y2⟩ := straight_total r0 (Iv.whole 8) ⟨0, 0, false⟩
  simp only [straightOf, hy]
  rw [show (⟨0, 0, false⟩ : Iv) = ⟨0, 0, false⟩ from rfl]
  simp only [den_bind, den_br, den_get, den_ret, hy]
theorem s_meniscushand_Straight : Ev.Spec Tryz.prog 73 (FR (sc 1 [0] (tSl 0 0 tNil) (rL_int rNil)) (sc 1 [0] (tAgg 0 0 ccNil ccNil_ok ccIv ccIv_ok tNil) (rG_surf 88 rNil)) (fun _ => true) ((fun x => (fun r : SysV => (((), r.1, ()), (r.2, ()))) (straightOf x.2.1)))) := specR rfl (fun _ => rfl) (fun vs w => Tryz.call73 vs w) c_meniscushand_Straight

/-! meniscuslaw24.open -/
theorem t_meniscuslaw24_open  :
    evFnR Tryz.prog (Env.add 41 (F1 cInt cIv Iv.whole) (Env.add 73 (FR (sc 1 [0] (tSl 0 0 tNil) (rL_int rNil)) (sc 1 [0] (tAgg 0 0 ccNil ccNil_ok ccIv ccIv_ok tNil) (rG_surf 88 rNil)) (fun _ => true) ((fun x => (fun r : SysV => (((), r.1, ()), (r.2, ()))) (straightOf x.2.1)))) Env.nil)) Laws.nil 200 Tryz.f74 (((sc 0 [] tNil rNil).enc ((()), (()))).tmps.map Prod.snd) ((sc 0 [] tNil rNil).enc ((()), (()))).mem (sc 1 [0] (tAgg 0 0 ccNil ccNil_ok ccIv ccIv_ok tNil) (rG_surf 88 rNil)).ts (sc 1 [0] (tAgg 0 0 ccNil ccNil_ok ccIv ccIv_ok tNil) (rG_surf 88 rNil)).dec =
      .br (true) (.bind ((((), (straightOf [1]).1, ()), (straightOf [1]).2, ())) fun vy0 => .bind (Iv.whole 4) fun viv1 => .ret ((((), viv1, ()), vy0.2.1, ()))) (.fail) := by kernel_rfl
theorem c_meniscuslaw24_open : PlainR Tryz.prog 74 (sc 0 [] tNil rNil) (sc 1 [0] (tAgg 0 0 ccNil ccNil_ok ccIv ccIv_ok tNil) (rG_surf 88 rNil)) (fun _ => true) ((fun _ => (((), Iv.whole 4, ()), ((straightOf [1]).2, ())))) := by
  intro x h N w vs hM hv
  obtain ⟨⟨⟩, ⟨⟩⟩ := x
  refine calls_of_treeR (n := 200) (EnvOK.add s_iv_Whole (EnvOK.add s_meniscushand_Straight EnvOK.nil)) Tryz.func74 hv (Nat.le_of_ble_eq_true (by kernel_rfl)) LFn.nil hM (sc 1 [0] (tAgg 0 0 ccNil ccNil_ok ccIv ccIv_ok tNil) (rG_surf 88 rNil)) rfl ?_
  rw [t_meniscuslaw24_open]
  rfl
theorem s_meniscuslaw24_open : Ev.Spec Tryz.prog 74 (FR (sc 0 [] tNil rNil) (sc 1 [0] (tAgg 0 0 ccNil ccNil_ok ccIv ccIv_ok tNil) (rG_surf 88 rNil)) (fun _ => true) ((fun _ => (((), Iv.whole 4, ()), ((straightOf [1]).2, ()))))) := specR rfl (fun _ => rfl) (fun vs w => Tryz.call74 vs w) c_meniscuslaw24_open

/-! meniscuslaw24.known -/
theorem t_meniscuslaw24_known  :
    evFn Tryz.prog (Env.add 22 (F2 cIv cInt cBool Iv.has) (Env.add 24 (FR (sc 4 [0, 1, 2, 3] (tAgg 0 0 ccNil ccNil_ok ccIv ccIv_ok (tCod 1 cInt (tCod 2 cInt (tCod 3 cInt tNil)))) (rL_surf rNil)) (sc 2 [0, 1] (tSl 0 0 (tCod 1 cInt tNil)) (rG_row 53 rNil)) ((fun x => lenOk x.2.1)) ((fun x => (((tableOf x.1.2.1 x.2.1 x.1.2.2.1 x.1.2.2.2.1 x.1.2.2.2.2.1).2, ()), ((tableOf x.1.2.1 x.2.1 x.1.2.2.1 x.1.2.2.2.1 x.1.2.2.2.2.1).1.map rowVC, ()))))) (Env.add 49 (F2 cInt cInt cIv Iv.of) (Env.add 74 (FR (sc 0 [] tNil rNil) (sc 1 [0] (tAgg 0 0 ccNil ccNil_ok ccIv ccIv_ok tNil) (rG_surf 88 rNil)) (fun _ => true) ((fun _ => (((), Iv.whole 4, ()), ((straightOf [1]).2, ()))))) Env.nil)))) Laws.nil 200 Tryz.f23 [] [] cBool.dec =
      .br (true) (.bind ((((), Iv.whole 4, ()), (straightOf [1]).2, ())) fun vy0 => .br (Ev.lenOk vy0.2.1) (.bind ((((tableOf vy0.1.2.1 vy0.2.1 65536 2 4).2, ()), List.map rowVC (tableOf vy0.1.2.1 vy0.2.1 65536 2 4).1, ())) fun vy1 => .br (vy1.1.1 == 0) (.br ((@Nat.cast Int _ vy1.2.1.length) == 2) (.br (decide ((0 : Int) ≤ 0 ∧ 0 < (@Nat.cast Int _ vy1.2.1.length))) (.get (vy1.2.1[Int.toNat 0]?) fun vt2 => .br (vt2.2.1.hi == 65536) (.br (decide ((0 : Int) ≤ 1 ∧ 1 < (@Nat.cast Int _ vy1.2.1.length))) (.get (vy1.2.1[Int.toNat 1]?) fun vt3 => .bind (Iv.of 65536 131072) fun viv4 => .br (vt3.1.lo == viv4.lo && (vt3.1.hi == viv4.hi && vt3.1.no == viv4.no)) (.br (decide ((0 : Int) ≤ 0 ∧ 0 < (@Nat.cast Int _ vy1.2.1.length))) (.get (vy1.2.1[Int.toNat 0]?) fun vt5 => .bind (vt5.2.1.has 34952) fun vb6 => .ret (vb6)) (.fail)) (.ret (false))) (.fail)) (.ret (false))) (.fail)) (.ret (false))) (.ret (false))) (.fail)) (.fail) := by kernel_rfl
theorem c_meniscuslaw24_known  : Plain Tryz.prog 23 [] (cBool.enc (true)) :=
  plain_of_tree (n := 200) (EnvOK.add s_iv_Has (EnvOK.add s_vignette_Table (EnvOK.add s_iv_Of (EnvOK.add s_meniscuslaw24_open EnvOK.nil)))) Tryz.func23 (args := []) rfl (Nat.le_of_ble_eq_true (by kernel_rfl)) LFn.nil cBool (by
    rw [t_meniscuslaw24_known]
    decide +kernel)
theorem s_meniscuslaw24_known : Ev.Spec Tryz.prog 23 (F0 cBool true) := spec0 (fun vs w => Tryz.call23 vs w) c_meniscuslaw24_known

/-! meniscuslaw24.VignetteTells -/
theorem tl_meniscuslaw24_VignetteTells_11 (t66 : Int) (t65 : Int) (r0 : List DRow) (r1 : List RowV) :
    ev Tryz.prog (Env.add 13 (FR (sc 5 [0, 1, 2, 3, 4] (tCod 0 cInt (tSl 1 0 (tSl 2 1 (tCod 3 cInt (tCod 4 cBool tNil))))) (rL_rface (rL_int rNil))) (sc 1 [0] (tAgg 0 0 ccNil ccNil_ok ccIv ccIv_ok tNil) (rG_surf 88 rNil)) ((fun x => mostOk x.1.2.1)) ((fun x => (fun r : SysV => (((), r.1, ()), (r.2, ()))) (systemOf x.1.1 x.2.1 x.2.2.1 x.1.2.1 x.1.2.2.1)))) (Env.add 16 (F2p cInt cInt cInt pickOk pick) (Env.add 23 (F0 cBool true) (Env.add 24 (FR (sc 4 [0, 1, 2, 3] (tAgg 0 0 ccNil ccNil_ok ccIv ccIv_ok (tCod 1 cInt (tCod 2 cInt (tCod 3 cInt tNil)))) (rL_surf rNil)) (sc 2 [0, 1] (tSl 0 0 (tCod 1 cInt tNil)) (rG_row 53 rNil)) ((fun x => lenOk x.2.1)) ((fun x => (((tableOf x.1.2.1 x.2.1 x.1.2.2.1 x.1.2.2.2.1 x.1.2.2.2.2.1).2, ()), ((tableOf x.1.2.1 x.2.1 x.1.2.2.1 x.1.2.2.2.1 x.1.2.2.2.2.1).1.map rowVC, ()))))) (Env.add 31 (F1 cPair cCx cxOf) (Env.add 48 (FR (sc 4 [0, 1, 2, 3] (tAgg 0 0 ccNil ccNil_ok ccIv ccIv_ok (tCod 1 cInt (tCod 2 cInt (tCod 3 cInt tNil)))) (rL_surf rNil)) (sc 2 [0, 1] (tSl 0 0 (tCod 1 cInt tNil)) (rG_drow 96 rNil)) ((fun x => lenOk x.2.1)) ((fun x => (((tableOf x.1.2.1 x.2.1 x.1.2.2.1 x.1.2.2.2.1 x.1.2.2.2.2.1).2, ()), ((tableOf x.1.2.1 x.2.1 x.1.2.2.1 x.1.2.2.2.1 x.1.2.2.2.2.1).1, ()))))) Env.nil)))))) Laws.nil 200 none (loopAt Tryz.f9 11) ((sc 122 [66, 65, 16, 14] (tCod 66 cInt (tCod 65 cInt (tSl 16 0 (tSl 14 1 tNil)))) (rG_drow 96 (rG_row 53 rNil))).enc ((t66, t65, ()), (r0, r1, ()))) (backK (sc 122 [66, 65, 16, 14] (tCod 66 cInt (tCod 65 cInt (tSl 16 0 (tSl 14 1 tNil)))) (rG_drow 96 (rG_row 53 rNil))) (ocOr (ocExit 0 (sc 122 [] tNil rNil)) (ocRet (sc 122 [12] (tCod 12 cBool tNil) rNil)))) =
      .br (decide (t66 < t65)) (.br (decide (0 ≤ t66 ∧ t66 < (@Nat.cast Int _ r0.length))) (.get (r0[t66.toNat]?) fun vt0 => .br (decide (0 ≤ t66 ∧ t66 < (@Nat.cast Int _ r1.length))) (.get (r1[t66.toNat]?) fun vt1 => .br (decide (0 ≤ t66 ∧ t66 < (@Nat.cast Int _ r0.length))) (.get (r0[t66.toNat]?) fun vt2 => .br (!(vt1.1.lo == vt2.1.lo && (vt1.1.hi == vt2.1.hi && vt1.1.no == vt2.1.no))) (.ret (Sum.inr (Sum.inr ((false, ()), ())))) (.br (decide (0 ≤ t66 ∧ t66 < (@Nat.cast Int _ r1.length))) (.get (r1[t66.toNat]?) fun vt3 => .br (decide (0 ≤ t66 ∧ t66 < (@Nat.cast Int _ r0.length))) (.get (r0[t66.toNat]?) fun vt4 => .br (!(vt3.2.1.lo == vt4.2.1.lo && (vt3.2.1.hi == vt4.2.1.hi && vt3.2.1.no == vt4.2.1.no))) (.ret (Sum.inr (Sum.inr ((false, ()), ())))) (.br (decide (0 ≤ t66 ∧ t66 < (@Nat.cast Int _ r1.length))) (.get (r1[t66.toNat]?) fun vt5 => .bind (cxOf vt0.2.2.2.2.2.2.1) fun vcx6 => .bind (cxOf vt0.2.2.2.2.2.2.2) fun vcx7 => .br (!(vt5.2.2.1 == vt0.2.2.1 && (vt5.2.2.2.1 == vt0.2.2.2.1 && (vt5.2.2.2.2.1 == vt0.2.2.2.2.1 && (vt5.2.2.2.2.2.1 == vt0.2.2.2.2.2.1 && (Ev.cEq vt5.2.2.2.2.2.2.1.1 vt5.2.2.2.2.2.2.1.2 vcx6.1 vcx6.2 && Ev.cEq vt5.2.2.2.2.2.2.2.1 vt5.2.2.2.2.2.2.2.2 vcx7.1 vcx7.2)))))) (.ret (Sum.inr (Sum.inr ((false, ()), ())))) (.ret (Sum.inl ((IntKind.i64.wrap (t66 + 1), t65, ()), r0, r1, ())))) (.fail))) (.fail)) (.fail))) (.fail)) (.fail)) (.fail)) (.ret (Sum.inr (Sum.inl ((), ())))) := by kernel_rfl
theorem ok_meniscuslaw24_VignetteTells_11 : LOK Tryz.prog (LoopR.of (sc 122 [66, 65, 16, 14] (tCod 66 cInt (tCod 65 cInt (tSl 16 0 (tSl 14 1 tNil)))) (rG_drow 96 (rG_row 53 rNil))) (ocOr (ocExit 0 (sc 122 [] tNil rNil)) (ocRet (sc 122 [12] (tCod 12 cBool tNil) rNil))) (runBy vtStep vtM)) (loopAt Tryz.f9 11) := by
  refine loop_ok (EnvOK.add s_meniscushand_System (EnvOK.add s_meniscushand_Pick (EnvOK.add s_meniscuslaw24_known (EnvOK.add s_vignette_Table (EnvOK.add s_meniscusref8_Pair_Complex (EnvOK.add s_meniscusref20_Vignette EnvOK.nil)))))) (LFn.at (fn := Tryz.f9) LFn.nil 11) vtStep (n := 200) (fun x z h => ?_) (runBy_ok _ _)
  obtain ⟨⟨t66, t65, ⟨⟩⟩, ⟨r0, r1, ⟨⟩⟩⟩ := x
  rw [tl_meniscuslaw24_VignetteTells_11]
  rw [← h]
  simp only [vtStep]
  simp only [den_br, den_bind, den_ret, den_fail, decide_eq_true_eq, gt_iff_lt, ge_iff_le, beq_iff_eq]
  by_cases h0 : t66 < t65 <;> simp only [h0, if_true, if_false]
  by_cases h1 : 0 ≤ t66 ∧ t66 < (r0.length : Int)
  case neg => simp only [h1, if_false]
  obtain ⟨d, hd⟩ : ∃ d, r0[t66.toNat]? = some d := ⟨_, List.getElem?_eq_getElem (by omega)⟩
  by_cases h2 : 0 ≤ t66 ∧ t66 < (r1.length : Int)
  case neg =>
    have h3 : ¬ t66 < (r1.length : Int) := fun e => h2 ⟨h1.1, e⟩
    simp only [h1, hd, h3, and_self, and_false, if_true, if_false, den_get, den_br, decide_true, decide_false, Bool.false_eq_true]
    rfl
  obtain ⟨r, hr⟩ : ∃ r, r1[t66.toNat]? = some r := ⟨_, List.getElem?_eq_getElem (by omega)⟩
  simp only [h1, h2, hd, hr, and_self, if_true, den_get, den_br, den_bind, den_ret, decide_true]
  have e1 : (r.1.lo == d.1.lo && (r.1.hi == d.1.hi && r.1.no == d.1.no)) = ivQ r.1 d.1 := rfl
  have e2 : (r.2.1.lo == d.2.1.lo && (r.2.1.hi == d.2.1.hi && r.2.1.no == d.2.1.no)) = ivQ r.2.1 d.2.1 := rfl
  have e3 : (r.2.2.1 == d.2.2.1 && (r.2.2.2.1 == d.2.2.2.1 && (r.2.2.2.2.1 == d.2.2.2.2.1 && (r.2.2.2.2.2.1 == d.2.2.2.2.2.1 && (Ev.cEq r.2.2.2.2.2.2.1.1 r.2.2.2.2.2.2.1.2 (cxOf d.2.2.2.2.2.2.1).1 (cxOf d.2.2.2.2.2.2.1).2 && Ev.cEq r.2.2.2.2.2.2.2.1 r.2.2.2.2.2.2.2.2 (cxOf d.2.2.2.2.2.2.2).1 (cxOf d.2.2.2.2.2.2.2).2))))) = repQ r.2.2 (repC d.2.2) := rfl
  simp only [e1, e2, e3, vtBad]
  rcases Bool.eq_false_or_eq_true (ivQ r.1 d.1) with g1 | g1 <;> rcases Bool.eq_false_or_eq_true (ivQ r.2.1 d.2.1) with g2 | g2 <;> rcases Bool.eq_false_or_eq_true (repQ r.2.2 (repC d.2.2)) with g3 | g3 <;> simp [g1, g2, g3]
theorem t_meniscuslaw24_VignetteTells (t0 : Int) (t2 : Int) (t3 : Int) (t4 : Int) (t5 : Bool) (r0 : List RawFace) :
    evFn Tryz.prog (Env.add 13 (FR (sc 5 [0, 1, 2, 3, 4] (tCod 0 cInt (tSl 1 0 (tSl 2 1 (tCod 3 cInt (tCod 4 cBool tNil))))) (rL_rface (rL_int rNil))) (sc 1 [0] (tAgg 0 0 ccNil ccNil_ok ccIv ccIv_ok tNil) (rG_surf 88 rNil)) ((fun x => mostOk x.1.2.1)) ((fun x => (fun r : SysV => (((), r.1, ()), (r.2, ()))) (systemOf x.1.1 x.2.1 x.2.2.1 x.1.2.1 x.1.2.2.1)))) (Env.add 16 (F2p cInt cInt cInt pickOk pick) (Env.add 23 (F0 cBool true) (Env.add 24 (FR (sc 4 [0, 1, 2, 3] (tAgg 0 0 ccNil ccNil_ok ccIv ccIv_ok (tCod 1 cInt (tCod 2 cInt (tCod 3 cInt tNil)))) (rL_surf rNil)) (sc 2 [0, 1] (tSl 0 0 (tCod 1 cInt tNil)) (rG_row 53 rNil)) ((fun x => lenOk x.2.1)) ((fun x => (((tableOf x.1.2.1 x.2.1 x.1.2.2.1 x.1.2.2.2.1 x.1.2.2.2.2.1).2, ()), ((tableOf x.1.2.1 x.2.1 x.1.2.2.1 x.1.2.2.2.1 x.1.2.2.2.2.1).1.map rowVC, ()))))) (Env.add 31 (F1 cPair cCx cxOf) (Env.add 48 (FR (sc 4 [0, 1, 2, 3] (tAgg 0 0 ccNil ccNil_ok ccIv ccIv_ok (tCod 1 cInt (tCod 2 cInt (tCod 3 cInt tNil)))) (rL_surf rNil)) (sc 2 [0, 1] (tSl 0 0 (tCod 1 cInt tNil)) (rG_drow 96 rNil)) ((fun x => lenOk x.2.1)) ((fun x => (((tableOf x.1.2.1 x.2.1 x.1.2.2.1 x.1.2.2.2.1 x.1.2.2.2.2.1).2, ()), ((tableOf x.1.2.1 x.2.1 x.1.2.2.1 x.1.2.2.2.1 x.1.2.2.2.2.1).1, ()))))) Env.nil)))))) (Laws.add 11 (LoopR.of (sc 122 [66, 65, 16, 14] (tCod 66 cInt (tCod 65 cInt (tSl 16 0 (tSl 14 1 tNil)))) (rG_drow 96 (rG_row 53 rNil))) (ocOr (ocExit 0 (sc 122 [] tNil rNil)) (ocRet (sc 122 [12] (tCod 12 cBool tNil) rNil))) (runBy vtStep vtM)) Laws.nil) 200 Tryz.f9 (((sc 6 [0, 1, 2, 3, 4, 5] (tCod 0 cInt (tSl 1 0 (tCod 2 cInt (tCod 3 cInt (tCod 4 cInt (tCod 5 cBool tNil)))))) (rL_rface rNil)).enc ((t0, t2, t3, t4, t5, ()), (r0, ()))).tmps.map Prod.snd) ((sc 6 [0, 1, 2, 3, 4, 5] (tCod 0 cInt (tSl 1 0 (tCod 2 cInt (tCod 3 cInt (tCod 4 cInt (tCod 5 cBool tNil)))))) (rL_rface rNil)).enc ((t0, t2, t3, t4, t5, ()), (r0, ()))).mem cBool.dec =
      .br (mostOk 3) (.bind ((((), (systemOf t0 r0 [] 3 false).1, ()), (systemOf t0 r0 [] 3 false).2, ())) fun vy0 => .br (pickOk t4 3) (.bind (pick t4 3) fun vn1 => .br (!t5) (.br (pickOk t2 90000) (.bind (pick t2 90000) fun vn2 => .br (pickOk t3 3) (.bind (pick t3 3) fun vn3 => .br (Ev.lenOk vy0.2.1) (.bind ((((tableOf vy0.1.2.1 vy0.2.1 (IntKind.i64.wrap (1 + vn2)) (IntKind.i64.wrap (1 + vn3)) (IntKind.i64.wrap (1 + vn1))).2, ()), List.map rowVC (tableOf vy0.1.2.1 vy0.2.1 (IntKind.i64.wrap (1 + vn2)) (IntKind.i64.wrap (1 + vn3)) (IntKind.i64.wrap (1 + vn1))).1, ())) fun vy4 => .br (Ev.lenOk vy0.2.1) (.bind ((((tableOf vy0.1.2.1 vy0.2.1 (IntKind.i64.wrap (1 + vn2)) (IntKind.i64.wrap (1 + vn3)) (IntKind.i64.wrap (1 + vn1))).2, ()), (tableOf vy0.1.2.1 vy0.2.1 (IntKind.i64.wrap (1 + vn2)) (IntKind.i64.wrap (1 + vn3)) (IntKind.i64.wrap (1 + vn1))).1, ())) fun vy5 => .bind (true) fun vb6 => .br (!vb6) (.ret (false)) (.br (vy4.1.1 != vy5.1.1) (.ret (false)) (.br ((@Nat.cast Int _ vy4.2.1.length) != (@Nat.cast Int _ vy5.2.1.length)) (.ret (false)) (.get (runBy vtStep vtM ((0, (@Nat.cast Int _ vy5.2.1.length), ()), vy5.2.1, vy4.2.1, ())) fun vy7 => .sum (vy7) (fun vs8 => .ret (true)) (fun vs9 => .ret (vs9.1.1)))))) (.fail)) (.fail)) (.fail)) (.fail)) (.br (Ev.lenOk vy0.2.1) (.bind ((((tableOf vy0.1.2.1 vy0.2.1 t2 t3 (IntKind.i64.wrap (1 + vn1))).2, ()), List.map rowVC (tableOf vy0.1.2.1 vy0.2.1 t2 t3 (IntKind.i64.wrap (1 + vn1))).1, ())) fun vy10 => .br (Ev.lenOk vy0.2.1) (.bind ((((tableOf vy0.1.2.1 vy0.2.1 t2 t3 (IntKind.i64.wrap (1 + vn1))).2, ()), (tableOf vy0.1.2.1 vy0.2.1 t2 t3 (IntKind.i64.wrap (1 + vn1))).1, ())) fun vy11 => .bind (true) fun vb12 => .br (!vb12) (.ret (false)) (.br (vy10.1.1 != vy11.1.1) (.ret (false)) (.br ((@Nat.cast Int _ vy10.2.1.length) != (@Nat.cast Int _ vy11.2.1.length)) (.ret (false)) (.get (runBy vtStep vtM ((0, (@Nat.cast Int _ vy11.2.1.length), ()), vy11.2.1, vy10.2.1, ())) fun vy13 => .sum (vy13) (fun vs14 => .ret (true)) (fun vs15 => .ret (vs15.1.1)))))) (.fail)) (.fail))) (.fail)) (.fail) := by kernel_rfl
theorem c_meniscuslaw24_VignetteTells : PlainS Tryz.prog 9 (sc 6 [0, 1, 2, 3, 4, 5] (tCod 0 cInt (tSl 1 0 (tCod 2 cInt (tCod 3 cInt (tCod 4 cInt (tCod 5 cBool tNil)))))) (rL_rface rNil)) cBool (fun _ => true) ((fun _ => true)) := by
  intro x h N w vs hM hv
  obtain ⟨⟨t0, t2, t3, t4, t5, ⟨⟩⟩, ⟨r0, ⟨⟩⟩⟩ := x
  refine calls_of_tree (n := 200) (EnvOK.add s_meniscushand_System (EnvOK.add s_meniscushand_Pick (EnvOK.add s_meniscuslaw24_known (EnvOK.add s_vignette_Table (EnvOK.add s_meniscusref8_Pair_Complex (EnvOK.add s_meniscusref20_Vignette EnvOK.nil)))))) Tryz.func9 hv (Nat.le_of_ble_eq_true (by kernel_rfl)) (LFn.add (fn := Tryz.f9) (i := 11) (by kernel_rfl) ok_meniscuslaw24_VignetteTells_11 LFn.nil) hM cBool ?_
  rw [t_meniscuslaw24_VignetteTells]
  have hR := systemOf_R t0 r0 [] false (most := 3) rfl
  have hlo : Ev.lenOk (systemOf t0 r0 [] 3 false).2 = true := lenOk_iff.2 (by have := hR.len; omega)
  have pk3 : ∀ n : Int, pickOk n 3 = true := fun _ => by simp [pickOk]
  have pk90000 : ∀ n : Int, pickOk n 90000 = true := fun _ => by simp [pickOk]
  simp only [show mostOk 3 = true from rfl, hlo, pk3, pk90000, if_true, den_br, den_bind, den_get, den_ret, den_fail]
  have hvt : ∀ step rows n : Int, runBy vtStep vtM ((0, ((tableOf (systemOf t0 r0 [] 3 false).1 (systemOf t0 r0 [] 3 false).2 step rows n).1.length : Int), ()), ((tableOf (systemOf t0 r0 [] 3 false).1 (systemOf t0 r0 [] 3 false).2 step rows n).1, (tableOf (systemOf t0 r0 [] 3 false).1 (systemOf t0 r0 [] 3 false).2 step rows n).1.map rowVC, ())) = some (.inl ((), ())) :=
    fun step rows n => vt_run (table_box _ _ _ _ _) (Nat.le_trans (table_len _ _ _ _ _) (by decide))
  cases t5 <;> simp only [hvt, den_get, den_inl, den_ret, List.length_map, Bool.not_true, Bool.not_false, Bool.false_eq_true, if_false, if_true, bne_self_eq_false, beq_self_eq_true]
theorem s_meniscuslaw24_VignetteTells : Ev.Spec Tryz.prog 9 (FS (sc 6 [0, 1, 2, 3, 4, 5] (tCod 0 cInt (tSl 1 0 (tCod 2 cInt (tCod 3 cInt (tCod 4 cInt (tCod 5 cBool tNil)))))) (rL_rface rNil)) cBool (fun _ => true) ((fun _ => true))) := specS rfl (fun vs w => Tryz.call9 vs w) c_meniscuslaw24_VignetteTells

/-! meniscuslaw24.VignetteRows -/
theorem tl_meniscuslaw24_VignetteRows_11 (t61 : Int) (t60 : Int) (t4 : Int) (t2 : Int) (r0 : List RowV) (r1 : Iv) (r2 : List Surf) :
    ev Tryz.prog (Env.add 13 (FR (sc 5 [0, 1, 2, 3, 4] (tCod 0 cInt (tSl 1 0 (tSl 2 1 (tCod 3 cInt (tCod 4 cBool tNil))))) (rL_rface (rL_int rNil))) (sc 1 [0] (tAgg 0 0 ccNil ccNil_ok ccIv ccIv_ok tNil) (rG_surf 88 rNil)) ((fun x => mostOk x.1.2.1)) ((fun x => (fun r : SysV => (((), r.1, ()), (r.2, ()))) (systemOf x.1.1 x.2.1 x.2.2.1 x.1.2.1 x.1.2.2.1)))) (Env.add 16 (F2p cInt cInt cInt pickOk pick) (Env.add 18 (F1 cInt cIv Iv.point) (Env.add 23 (F0 cBool true) (Env.add 24 (FR (sc 4 [0, 1, 2, 3] (tAgg 0 0 ccNil ccNil_ok ccIv ccIv_ok (tCod 1 cInt (tCod 2 cInt (tCod 3 cInt tNil)))) (rL_surf rNil)) (sc 2 [0, 1] (tSl 0 0 (tCod 1 cInt tNil)) (rG_row 53 rNil)) ((fun x => lenOk x.2.1)) ((fun x => (((tableOf x.1.2.1 x.2.1 x.1.2.2.1 x.1.2.2.2.1 x.1.2.2.2.2.1).2, ()), ((tableOf x.1.2.1 x.2.1 x.1.2.2.1 x.1.2.2.2.1 x.1.2.2.2.2.1).1.map rowVC, ()))))) (Env.add 28 (FS (sc 4 [0, 1, 2, 3] (tAgg 0 0 ccNil ccNil_ok ccIv ccIv_ok (tCod 1 cIv (tCod 2 cIv (tCod 3 cInt tNil)))) (rL_surf rNil)) (cTwo cRep cInt) ((fun x => lenOk x.2.1)) ((fun x => (repC (scanOf x.1.2.1 x.2.1 x.1.2.2.1 x.1.2.2.2.1 x.1.2.2.2.2.1).1, (scanOf x.1.2.1 x.2.1 x.1.2.2.1 x.1.2.2.2.1 x.1.2.2.2.2.1).2)))) (Env.add 49 (F2 cInt cInt cIv Iv.of) Env.nil))))))) Laws.nil 200 none (loopAt Tryz.f10 11) ((sc 97 [61, 60, 4, 2, 59, 11] (tCod 61 cInt (tCod 60 cInt (tCod 4 cInt (tCod 2 cInt (tSl 59 0 (tOwn 11 1 tNil)))))) (rG_row 53 (rBoxSl 2 ccIv ccIv_ok (rG_surf 88 rNil)))).enc ((t61, t60, t4, t2, ()), (r0, r1, r2, ()))) (backK (sc 97 [61, 60, 4, 2, 59, 11] (tCod 61 cInt (tCod 60 cInt (tCod 4 cInt (tCod 2 cInt (tSl 59 0 (tOwn 11 1 tNil)))))) (rG_row 53 (rBoxSl 2 ccIv ccIv_ok (rG_surf 88 rNil)))) (ocOr (ocExit 0 (sc 97 [] tNil rNil)) (ocRet (sc 97 [10] (tCod 10 cBool tNil) rNil)))) =
      .br (decide (t61 < t60)) (.br (decide (0 ≤ t61 ∧ t61 < (@Nat.cast Int _ r0.length))) (.get (r0[t61.toNat]?) fun vt0 => .bind (Iv.point 0) fun viv1 => .br (Ev.lenOk r2) (.bind ((repC (scanOf r1 r2 vt0.1 viv1 t4).1, (scanOf r1 r2 vt0.1 viv1 t4).2)) fun vy2 => .br (vy2.2 != 0) (.ret (Sum.inr (Sum.inr ((false, ()), ())))) (.br (!(vy2.1.1 == vt0.2.2.1 && (vy2.1.2.1 == vt0.2.2.2.1 && (vy2.1.2.2.1 == vt0.2.2.2.2.1 && (vy2.1.2.2.2.1 == vt0.2.2.2.2.2.1 && (Ev.cEq vy2.1.2.2.2.2.1.1 vy2.1.2.2.2.2.1.2 vt0.2.2.2.2.2.2.1.1 vt0.2.2.2.2.2.2.1.2 && Ev.cEq vy2.1.2.2.2.2.2.1 vy2.1.2.2.2.2.2.2 vt0.2.2.2.2.2.2.2.1 vt0.2.2.2.2.2.2.2.2)))))) (.ret (Sum.inr (Sum.inr ((false, ()), ())))) (.bind (Iv.of (IntKind.i64.wrap (t61 * t2)) (IntKind.i64.wrap (IntKind.i64.wrap (t61 + 1) * t2))) fun viv3 => .br (!(vt0.1.lo == viv3.lo && (vt0.1.hi == viv3.hi && vt0.1.no == viv3.no))) (.ret (Sum.inr (Sum.inr ((false, ()), ())))) (.ret (Sum.inl ((IntKind.i64.wrap (t61 + 1), t60, t4, t2, ()), r0, r1, r2, ())))))) (.fail)) (.fail)) (.ret (Sum.inr (Sum.inl ((), ())))) := by kernel_rfl
theorem ok_meniscuslaw24_VignetteRows_11 : LOK Tryz.prog (LoopR.of (sc 97 [61, 60, 4, 2, 59, 11] (tCod 61 cInt (tCod 60 cInt (tCod 4 cInt (tCod 2 cInt (tSl 59 0 (tOwn 11 1 tNil)))))) (rG_row 53 (rBoxSl 2 ccIv ccIv_ok (rG_surf 88 rNil)))) (ocOr (ocExit 0 (sc 97 [] tNil rNil)) (ocRet (sc 97 [10] (tCod 10 cBool tNil) rNil))) (runBy vrStep vrM)) (loopAt Tryz.f10 11) := by
  refine loop_ok (EnvOK.add s_meniscushand_System (EnvOK.add s_meniscushand_Pick (EnvOK.add s_iv_Point (EnvOK.add s_meniscuslaw24_known (EnvOK.add s_vignette_Table (EnvOK.add s_pupil_Scan (EnvOK.add s_iv_Of EnvOK.nil))))))) (LFn.at (fn := Tryz.f10) LFn.nil 11) vrStep (n := 200) (fun x z h => ?_) (runBy_ok _ _)
  obtain ⟨⟨t61, t60, t4, t2, ⟨⟩⟩, ⟨r0, r1, r2, ⟨⟩⟩⟩ := x
  rw [tl_meniscuslaw24_VignetteRows_11]
  rw [← h]
  simp only [vrStep]
  simp only [den_br, den_bind, den_ret, den_fail, decide_eq_true_eq, gt_iff_lt, ge_iff_le, beq_iff_eq]
  by_cases h0 : t61 < t60 <;> simp only [h0, if_true, if_false]
  by_cases h1 : 0 ≤ t61 ∧ t61 < (r0.length : Int) <;> simp only [h1, and_self, if_true, if_false]
  cases hg : r0[t61.toNat]? with
  | none => rfl
  | some r =>
    simp only [den_get, den_br, den_bind, den_ret, den_fail]
    by_cases hl : Ev.lenOk r2 = true <;> simp only [hl, if_true, if_false, Bool.false_eq_true]
    have e1 : Iv.of (IntKind.i64.wrap (t61 * t2)) (IntKind.i64.wrap (IntKind.i64.wrap (t61 + 1) * t2)) = filmK t2 t61 := rfl
    simp only [e1]
    have e2 : (r.1.lo == (filmK t2 t61).lo && (r.1.hi == (filmK t2 t61).hi && r.1.no == (filmK t2 t61).no)) = ivQ r.1 (filmK t2 t61) := rfl
    have e3 : ∀ a : RepV, (a.1 == r.2.2.1 && (a.2.1 == r.2.2.2.1 && (a.2.2.1 == r.2.2.2.2.1 && (a.2.2.2.1 == r.2.2.2.2.2.1 && (Ev.cEq a.2.2.2.2.1.1 a.2.2.2.2.1.2 r.2.2.2.2.2.2.1.1 r.2.2.2.2.2.2.1.2 && Ev.cEq a.2.2.2.2.2.1 a.2.2.2.2.2.2 r.2.2.2.2.2.2.2.1 r.2.2.2.2.2.2.2.2))))) = repQ a r.2.2 := fun _ => rfl
    simp only [e2, e3, vrBad]
    rcases Bool.eq_false_or_eq_true ((scanOf r1 r2 r.1 (Iv.point 0) t4).2 != 0) with g1 | g1 <;> rcases Bool.eq_false_or_eq_true (repQ (repC (scanOf r1 r2 r.1 (Iv.point 0) t4).1) r.2.2) with g2 | g2 <;> rcases Bool.eq_false_or_eq_true (ivQ r.1 (filmK t2 t61)) with g3 | g3 <;> simp only [g1, g2, g3, Bool.not_true, Bool.not_false, Bool.false_or, Bool.true_or, Bool.or_true, Bool.or_false, Bool.or_self, if_true, if_false, Bool.false_eq_true]
theorem t_meniscuslaw24_VignetteRows (t0 : Int) (t2 : Int) (t3 : Int) (t4 : Int) (r0 : List RawFace) :
    evFn Tryz.prog (Env.add 13 (FR (sc 5 [0, 1, 2, 3, 4] (tCod 0 cInt (tSl 1 0 (tSl 2 1 (tCod 3 cInt (tCod 4 cBool tNil))))) (rL_rface (rL_int rNil))) (sc 1 [0] (tAgg 0 0 ccNil ccNil_ok ccIv ccIv_ok tNil) (rG_surf 88 rNil)) ((fun x => mostOk x.1.2.1)) ((fun x => (fun r : SysV => (((), r.1, ()), (r.2, ()))) (systemOf x.1.1 x.2.1 x.2.2.1 x.1.2.1 x.1.2.2.1)))) (Env.add 16 (F2p cInt cInt cInt pickOk pick) (Env.add 18 (F1 cInt cIv Iv.point) (Env.add 23 (F0 cBool true) (Env.add 24 (FR (sc 4 [0, 1, 2, 3] (tAgg 0 0 ccNil ccNil_ok ccIv ccIv_ok (tCod 1 cInt (tCod 2 cInt (tCod 3 cInt tNil)))) (rL_surf rNil)) (sc 2 [0, 1] (tSl 0 0 (tCod 1 cInt tNil)) (rG_row 53 rNil)) ((fun x => lenOk x.2.1)) ((fun x => (((tableOf x.1.2.1 x.2.1 x.1.2.2.1 x.1.2.2.2.1 x.1.2.2.2.2.1).2, ()), ((tableOf x.1.2.1 x.2.1 x.1.2.2.1 x.1.2.2.2.1 x.1.2.2.2.2.1).1.map rowVC, ()))))) (Env.add 28 (FS (sc 4 [0, 1, 2, 3] (tAgg 0 0 ccNil ccNil_ok ccIv ccIv_ok (tCod 1 cIv (tCod 2 cIv (tCod 3 cInt tNil)))) (rL_surf rNil)) (cTwo cRep cInt) ((fun x => lenOk x.2.1)) ((fun x => (repC (scanOf x.1.2.1 x.2.1 x.1.2.2.1 x.1.2.2.2.1 x.1.2.2.2.2.1).1, (scanOf x.1.2.1 x.2.1 x.1.2.2.1 x.1.2.2.2.1 x.1.2.2.2.2.1).2)))) (Env.add 49 (F2 cInt cInt cIv Iv.of) Env.nil))))))) (Laws.add 11 (LoopR.of (sc 97 [61, 60, 4, 2, 59, 11] (tCod 61 cInt (tCod 60 cInt (tCod 4 cInt (tCod 2 cInt (tSl 59 0 (tOwn 11 1 tNil)))))) (rG_row 53 (rBoxSl 2 ccIv ccIv_ok (rG_surf 88 rNil)))) (ocOr (ocExit 0 (sc 97 [] tNil rNil)) (ocRet (sc 97 [10] (tCod 10 cBool tNil) rNil))) (runBy vrStep vrM)) Laws.nil) 200 Tryz.f10 (((sc 5 [0, 1, 2, 3, 4] (tCod 0 cInt (tSl 1 0 (tCod 2 cInt (tCod 3 cInt (tCod 4 cInt tNil))))) (rL_rface rNil)).enc ((t0, t2, t3, t4, ()), (r0, ()))).tmps.map Prod.snd) ((sc 5 [0, 1, 2, 3, 4] (tCod 0 cInt (tSl 1 0 (tCod 2 cInt (tCod 3 cInt (tCod 4 cInt tNil))))) (rL_rface rNil)).enc ((t0, t2, t3, t4, ()), (r0, ()))).mem cBool.dec =
      .br (mostOk 2) (.bind ((((), (systemOf t0 r0 [] 2 false).1, ()), (systemOf t0 r0 [] 2 false).2, ())) fun vy0 => .br (pickOk t4 3) (.bind (pick t4 3) fun vn1 => .br (pickOk t2 200000) (.bind (pick t2 200000) fun vn2 => .br (pickOk t3 4) (.bind (pick t3 4) fun vn3 => .br (Ev.lenOk vy0.2.1) (.bind ((((tableOf vy0.1.2.1 vy0.2.1 (IntKind.i64.wrap (1 + vn2)) (IntKind.i64.wrap (1 + vn3)) (IntKind.i64.wrap (1 + vn1))).2, ()), List.map rowVC (tableOf vy0.1.2.1 vy0.2.1 (IntKind.i64.wrap (1 + vn2)) (IntKind.i64.wrap (1 + vn3)) (IntKind.i64.wrap (1 + vn1))).1, ())) fun vy4 => .br ((@Nat.cast Int _ vy0.2.1.length) == 0) (.bind (true) fun vb5 => .br (vb5) (.ret (vy4.1.1 == 1)) (.ret (false))) (.bind (true) fun vb6 => .br (!vb6) (.ret (false)) (.br (vy4.1.1 != 0) (.ret (false)) (.br ((@Nat.cast Int _ vy4.2.1.length) != IntKind.i64.wrap (1 + vn3)) (.ret (false)) (.get (runBy vrStep vrM ((0, (@Nat.cast Int _ vy4.2.1.length), IntKind.i64.wrap (1 + vn1), IntKind.i64.wrap (1 + vn2), ()), vy4.2.1, vy0.1.2.1, vy0.2.1, ())) fun vy7 => .sum (vy7) (fun vs8 => .ret (true)) (fun vs9 => .ret (vs9.1.1))))))) (.fail)) (.fail)) (.fail)) (.fail)) (.fail) := by kernel_rfl
theorem c_meniscuslaw24_VignetteRows : PlainS Tryz.prog 10 (sc 5 [0, 1, 2, 3, 4] (tCod 0 cInt (tSl 1 0 (tCod 2 cInt (tCod 3 cInt (tCod 4 cInt tNil))))) (rL_rface rNil)) cBool (fun _ => true) ((fun _ => true)) := by
  intro x h N w vs hM hv
  obtain ⟨⟨t0, t2, t3, t4, ⟨⟩⟩, ⟨r0, ⟨⟩⟩⟩ := x
  refine calls_of_tree (n := 200) (EnvOK.add s_meniscushand_System (EnvOK.add s_meniscushand_Pick (EnvOK.add s_iv_Point (EnvOK.add s_meniscuslaw24_known (EnvOK.add s_vignette_Table (EnvOK.add s_pupil_Scan (EnvOK.add s_iv_Of EnvOK.nil))))))) Tryz.func10 hv (Nat.le_of_ble_eq_true (by kernel_rfl)) (LFn.add (fn := Tryz.f10) (i := 11) (by kernel_rfl) ok_meniscuslaw24_VignetteRows_11 LFn.nil) hM cBool ?_
  rw [t_meniscuslaw24_VignetteRows]
  have hR := systemOf_R t0 r0 [] false (most := 2) rfl
  have hlo : Ev.lenOk (systemOf t0 r0 [] 2 false).2 = true := lenOk_iff.2 (by have := hR.len; omega)
  have pk3 : ∀ n : Int, pickOk n 3 = true := fun _ => by simp [pickOk]
  have pk200000 : ∀ n : Int, pickOk n 200000 = true := fun _ => by simp [pickOk]
  have pk4 : ∀ n : Int, pickOk n 4 = true := fun _ => by simp [pickOk]
  simp only [show mostOk 2 = true from rfl, hlo, pk3, pk200000, pk4, if_true, den_br, den_bind, den_get, den_ret, den_fail]
  have b2 := pick_bd t2 (m := 200000) (by decide)
  have b3 := pick_bd t3 (m := 4) (by decide)
  have b4 := pick_bd t4 (m := 3) (by decide)
  have w2 : IntKind.i64.wrap (1 + pick t2 200000) = 1 + pick t2 200000 := wr (by omega)
  have w3 : IntKind.i64.wrap (1 + pick t3 4) = 1 + pick t3 4 := wr (by omega)
  have w4 : IntKind.i64.wrap (1 + pick t4 3) = 1 + pick t4 3 := wr (by omega)
  simp only [w2, w3, w4]
  by_cases hl : (systemOf t0 r0 [] 2 false).2.length = 0
  · have ht : tabOk (systemOf t0 r0 [] 2 false).2 (1 + pick t2 200000) (1 + pick t3 4) (1 + pick t4 3) = false := by simp [tabOk, sizedC, hl]
    have e : (tableOf (systemOf t0 r0 [] 2 false).1 (systemOf t0 r0 [] 2 false).2 (1 + pick t2 200000) (1 + pick t3 4) (1 + pick t4 3)).2 = 1 := by unfold tableOf; rw [ht]; rfl
    simp only [hl, e]; rfl
  have hl' : (((systemOf t0 r0 [] 2 false).2.length : Int) == 0) = false := by rw [beq_eq_false_iff_ne]; omega
  have hz : sizedC (systemOf t0 r0 [] 2 false).2 (1 + pick t4 3) = true := sizedC_iff.2 ⟨by omega, by omega, by omega⟩
  have ht : tabOk (systemOf t0 r0 [] 2 false).2 (1 + pick t2 200000) (1 + pick t3 4) (1 + pick t4 3) = true := by
    unfold tabOk
    rw [decide_eq_true (by omega), decide_eq_true (by omega), hz]; rfl
  have e2 : (tableOf (systemOf t0 r0 [] 2 false).1 (systemOf t0 r0 [] 2 false).2 (1 + pick t2 200000) (1 + pick t3 4) (1 + pick t4 3)).2 = 0 := by unfold tableOf; rw [if_pos ht]
  have e3 : ((((tableOf (systemOf t0 r0 [] 2 false).1 (systemOf t0 r0 [] 2 false).2 (1 + pick t2 200000) (1 + pick t3 4) (1 + pick t4 3)).1.map rowVC).length : Int) != 1 + pick t3 4) = false := by
    unfold tableOf; rw [if_pos ht]; simp; omega
  simp only [hl', e2, e3, vr_run hlo ht, den_get, den_inl, den_ret, Bool.not_true, Bool.not_false, Bool.false_eq_true, if_false, if_true, bne_self_eq_false, beq_self_eq_true]
theorem s_meniscuslaw24_VignetteRows : Ev.Spec Tryz.prog 10 (FS (sc 5 [0, 1, 2, 3, 4] (tCod 0 cInt (tSl 1 0 (tCod 2 cInt (tCod 3 cInt (tCod 4 cInt tNil))))) (rL_rface rNil)) cBool (fun _ => true) ((fun _ => true))) := specS rfl (fun vs w => Tryz.call10 vs w) c_meniscuslaw24_VignetteRows
end Go.Proofs.YtliglpiofomelaaGreat
