/-
  Contracts of calls, written by a small program of this session out of the evaluator's trees.
-/
import Derived.Test.YtliglpiofomelaaGreatCore
import Derived.Test.YtliglpiofomelaaGreatCoreLoops
import Derived.Test.YtliglpiofomelaaGreatCore2
import Derived.Test.YtliglpiofomelaaGreatCore3
import Derived.Test.YtliglpiofomelaaGreatCore4
import Derived.Test.YtliglpiofomelaaGreatCore5
import Derived.Test.YtliglpiofomelaaGreatCore6
import Derived.Test.YtliglpiofomelaaGreatCore7
import Derived.Test.YtliglpiofomelaaGreatCore8
import Derived.Test.YtliglpiofomelaaGreatCore9
import Derived.Test.YtliglpiofomelaaGreatEvMore
import Derived.Test.YtliglpiofomelaaGreatSym
import Derived.Test.YtliglpiofomelaaGreatSysF
import Derived.Test.YtliglpiofomelaaGreatLess2
import Derived.Test.YtliglpiofomelaaGreatFloCod
import Derived.Test.YtliglpiofomelaaGreatGs
import Derived.Test.YtliglpiofomelaaGreatPup
import Derived.Test.YtliglpiofomelaaGreatR0
import Derived.Test.YtliglpiofomelaaGreatG0
import Derived.Test.YtliglpiofomelaaGreatPup2
import Derived.Test.YtliglpiofomelaaGreatW0
import Derived.Test.YtliglpiofomelaaGreatVig
import Derived.Test.YtliglpiofomelaaGreatVig4
import Derived.Test.YtliglpiofomelaaGreatE0
import Derived.Test.YtliglpiofomelaaGreatEvCod
import Derived.Test.YtliglpiofomelaaGreatEvRet
import Derived.Test.YtliglpiofomelaaGreatProg
namespace Go.Proofs.YtliglpiofomelaaGreat
open Go Go.RowKit Ev
set_option maxRecDepth 100000
set_option linter.unusedVariables false
set_option linter.unusedSimpArgs false

/-! meniscushand.Straight -/
theorem tl_meniscushand_Straight_4 (t5 : Int) (t4 : Int) (r0 : List Int) (r1 : Iv) (r2 : Iv) (r3 : List Surf) (r4 : List Surf) :
    ev Tryz.prog (Env.add 16 (F2p cInt cInt cInt pickOk pick) (Env.add 88 (F1 cInt cIv Iv.point) (Env.add 100 (F1 cInt cIv Iv.whole) Env.nil))) Laws.nil 200 none (loopAt Tryz.f73 4) ((sc 48 [5, 4, 0, 3, 2] (tCod 5 cInt (tCod 4 cInt (tSl 0 0 (tOwn 3 1 (tOwn 2 2 tNil))))) (rL_int (rBoxSl 3 ccIv ccIv_ok (rBoxSl 4 ccIv ccIv_ok (rG_surf 88 (rL_surf rNil)))))).enc ((t5, t4, ()), (r0, r1, r2, r3, r4, ()))) (backK (sc 48 [5, 4, 0, 3, 2] (tCod 5 cInt (tCod 4 cInt (tSl 0 0 (tOwn 3 1 (tOwn 2 2 tNil))))) (rL_int (rBoxSl 3 ccIv ccIv_ok (rBoxSl 4 ccIv ccIv_ok (rG_surf 88 (rL_surf rNil)))))) (ocExit 0 (sc 48 [3, 2] (tOwn 3 0 (tOwn 2 1 tNil)) (rBoxSl 2 ccIv ccIv_ok (rBoxSl 3 ccIv ccIv_ok (rG_surf 88 (rL_surf rNil))))))) =
      .br (decide (t5 < (@Nat.cast Int _ r0.length))) (.br (decide (t5 < 4)) (.br (decide (0 ≤ t5 ∧ t5 < (@Nat.cast Int _ r0.length))) (.get (r0[t5.toNat]?) fun vt0 => .br (pickOk vt0 2) (.bind (pick vt0 2) fun vn1 => .bind (Iv.point 0) fun viv2 => .bind (Iv.point 65536) fun viv3 => .bind (Iv.point 0) fun viv4 => .bind (Iv.point 0) fun viv5 => .bind (Iv.point t4) fun viv6 => .bind (Iv.whole 100) fun viv7 => .bind (Iv.point 65536) fun viv8 => .br (Ev.lenOk (r3 ++ [Surf.mk (vn1 == 0) false viv2 viv3 viv4 viv5 viv6 viv7 viv8])) (.br (decide (0 ≤ t5 ∧ t5 < (@Nat.cast Int _ r0.length))) (.get (r0[t5.toNat]?) fun vt9 => .br (pickOk (IntKind.i64.wrap (Int.tdiv vt9 2)) 327680) (.bind (pick (IntKind.i64.wrap (Int.tdiv vt9 2)) 327680) fun vn10 => .ret (Sum.inl ((IntKind.i64.wrap (t5 + 1), IntKind.i64.wrap (IntKind.i64.wrap (t4 + 1) + vn10), ()), r0, r1, r2, r3 ++ [Surf.mk (vn1 == 0) false viv2 viv3 viv4 viv5 viv6 viv7 viv8], r4, ()))) (.fail)) (.fail)) (.fail)) (.fail)) (.fail)) (.ret (Sum.inr ((), r1, r2, r3, r4, ())))) (.ret (Sum.inr ((), r1, r2, r3, r4, ()))) := by kernel_rfl
theorem ok_meniscushand_Straight_4 : LOK Tryz.prog (LoopR.of (sc 48 [5, 4, 0, 3, 2] (tCod 5 cInt (tCod 4 cInt (tSl 0 0 (tOwn 3 1 (tOwn 2 2 tNil))))) (rL_int (rBoxSl 3 ccIv ccIv_ok (rBoxSl 4 ccIv ccIv_ok (rG_surf 88 (rL_surf rNil)))))) (ocExit 0 (sc 48 [3, 2] (tOwn 3 0 (tOwn 2 1 tNil)) (rBoxSl 2 ccIv ccIv_ok (rBoxSl 3 ccIv ccIv_ok (rG_surf 88 (rL_surf rNil)))))) (runBy straightStep straightM)) (loopAt Tryz.f73 4) := by
  refine loop_ok (EnvOK.add s_meniscushand_Pick (EnvOK.add s_meniscusref1_Point (EnvOK.add s_meniscusref1_Whole EnvOK.nil))) (LFn.at (fn := Tryz.f73) LFn.nil 4) straightStep (n := 200) (fun x z h => ?_) (runBy_ok _ _)
  obtain ⟨⟨t5, t4, ⟨⟩⟩, ⟨r0, r1, r2, r3, r4, ⟨⟩⟩⟩ := x
  rw [tl_meniscushand_Straight_4]
  by_cases h0 : t5 < (r0.length : Int) ∧ t5 < 4
  case neg =>
    rw [← h]
    simp only [straightStep, h0, if_false]
    simp only [den_br, den_bind, den_ret, den_fail, den_inl, den_inr, decide_eq_true_eq, gt_iff_lt, ge_iff_le, beq_iff_eq]
    by_cases c : t5 < (r0.length : Int) <;> by_cases d : t5 < 4 <;> simp only [c, d, if_true, if_false]
    exact absurd ⟨c, d⟩ h0
  by_cases h1 : 0 ≤ t5
  case neg => simp [straightStep, h0, h1] at h
  obtain ⟨v, hg⟩ : ∃ v, r0[t5.toNat]? = some v := ⟨_, List.getElem?_eq_getElem (by omega)⟩
  rw [← h]
  have pk2 : ∀ n : Int, pickOk n 2 = true := fun _ => by simp [pickOk]
  have pk327680 : ∀ n : Int, pickOk n 327680 = true := fun _ => by simp [pickOk]
  simp only [straightStep, airPlane, airNext, h0, h1, hg, and_self, if_true]
  simp only [den_br, den_bind, den_ret, den_fail, den_inl, den_inr, decide_eq_true_eq, gt_iff_lt, ge_iff_le, beq_iff_eq]
  simp only [h0.1, h0.2, h1, hg, and_self, true_and, decide_true, if_true, den_get, den_br, den_bind, den_ret, den_fail, dv_eq, pk2, pk327680]
  rfl
theorem t_meniscushand_Straight (r0 : List Int) :
    evFnR Tryz.prog (Env.add 16 (F2p cInt cInt cInt pickOk pick) (Env.add 88 (F1 cInt cIv Iv.point) (Env.add 100 (F1 cInt cIv Iv.whole) Env.nil))) (Laws.add 4 (LoopR.of (sc 48 [5, 4, 0, 3, 2] (tCod 5 cInt (tCod 4 cInt (tSl 0 0 (tOwn 3 1 (tOwn 2 2 tNil))))) (rL_int (rBoxSl 3 ccIv ccIv_ok (rBoxSl 4 ccIv ccIv_ok (rG_surf 88 (rL_surf rNil)))))) (ocExit 0 (sc 48 [3, 2] (tOwn 3 0 (tOwn 2 1 tNil)) (rBoxSl 2 ccIv ccIv_ok (rBoxSl 3 ccIv ccIv_ok (rG_surf 88 (rL_surf rNil)))))) (runBy straightStep straightM)) Laws.nil) 200 Tryz.f73 (((sc 1 [0] (tSl 0 0 tNil) (rL_int rNil)).enc ((()), (r0, ()))).tmps.map Prod.snd) ((sc 1 [0] (tSl 0 0 tNil) (rL_int rNil)).enc ((()), (r0, ()))).mem (sc 1 [0] (tAgg 0 0 ccNil ccNil_ok ccIv ccIv_ok tNil) (rG_surf 88 rNil)).ts (sc 1 [0] (tAgg 0 0 ccNil ccNil_ok ccIv ccIv_ok tNil) (rG_surf 88 rNil)).dec =
      .bind (Iv.whole 8) fun viv0 => .get (runBy straightStep straightM ((0, 655360, ()), r0, viv0, Iv.mk 0 0 false, [], [], ())) fun vy1 => .ret ((((), vy1.2.1, ()), vy1.2.2.2.1, ())) := by kernel_rfl
theorem c_meniscushand_Straight : PlainR Tryz.prog 73 (sc 1 [0] (tSl 0 0 tNil) (rL_int rNil)) (sc 1 [0] (tAgg 0 0 ccNil ccNil_ok ccIv ccIv_ok tNil) (rG_surf 88 rNil)) (fun _ => true) ((fun x => (fun r : SysV => (((), r.1, ()), (r.2, ()))) (straightOf x.2.1))) := by
  intro x h N w vs hM hv
  obtain ⟨⟨⟩, ⟨r0, ⟨⟩⟩⟩ := x
  refine calls_of_treeR (n := 200) (EnvOK.add s_meniscushand_Pick (EnvOK.add s_meniscusref1_Point (EnvOK.add s_meniscusref1_Whole EnvOK.nil))) Tryz.func73 hv (Nat.le_of_ble_eq_true (by kernel_rfl)) (LFn.add (fn := Tryz.f73) (i := 4) (by kernel_rfl) ok_meniscushand_Straight_4 LFn.nil) hM (sc 1 [0] (tAgg 0 0 ccNil ccNil_ok ccIv ccIv_ok tNil) (rG_surf 88 rNil)) rfl ?_
  rw [t_meniscushand_Straight]
  obtain ⟨y, hy, y1, y2⟩ := straight_total r0 (Iv.whole 8) ⟨0, 0, false⟩
  simp only [straightOf, hy]
  rw [show (⟨0, 0, false⟩ : Iv) = ⟨0, 0, false⟩ from rfl]
  simp only [den_bind, den_br, den_get, den_ret, hy]
theorem s_meniscushand_Straight : Ev.Spec Tryz.prog 73 (FR (sc 1 [0] (tSl 0 0 tNil) (rL_int rNil)) (sc 1 [0] (tAgg 0 0 ccNil ccNil_ok ccIv ccIv_ok tNil) (rG_surf 88 rNil)) (fun _ => true) ((fun x => (fun r : SysV => (((), r.1, ()), (r.2, ()))) (straightOf x.2.1)))) := specR rfl (fun _ => rfl) (fun vs w => Tryz.call73 vs w) c_meniscushand_Straight

/-! meniscuslaw25.open -/
theorem t_meniscuslaw25_open  :
    evFnR Tryz.prog (Env.add 41 (F1 cInt cIv Iv.whole) (Env.add 73 (FR (sc 1 [0] (tSl 0 0 tNil) (rL_int rNil)) (sc 1 [0] (tAgg 0 0 ccNil ccNil_ok ccIv ccIv_ok tNil) (rG_surf 88 rNil)) (fun _ => true) ((fun x => (fun r : SysV => (((), r.1, ()), (r.2, ()))) (straightOf x.2.1)))) Env.nil)) Laws.nil 200 Tryz.f21 (((sc 0 [] tNil rNil).enc ((()), (()))).tmps.map Prod.snd) ((sc 0 [] tNil rNil).enc ((()), (()))).mem (sc 1 [0] (tAgg 0 0 ccNil ccNil_ok ccIv ccIv_ok tNil) (rG_surf 88 rNil)).ts (sc 1 [0] (tAgg 0 0 ccNil ccNil_ok ccIv ccIv_ok tNil) (rG_surf 88 rNil)).dec =
      .br (true) (.bind ((((), (straightOf [1]).1, ()), (straightOf [1]).2, ())) fun vy0 => .bind (Iv.whole 4) fun viv1 => .ret ((((), viv1, ()), vy0.2.1, ()))) (.fail) := by kernel_rfl
theorem c_meniscuslaw25_open : PlainR Tryz.prog 21 (sc 0 [] tNil rNil) (sc 1 [0] (tAgg 0 0 ccNil ccNil_ok ccIv ccIv_ok tNil) (rG_surf 88 rNil)) (fun _ => true) ((fun _ => (((), Iv.whole 4, ()), ((straightOf [1]).2, ())))) := by
  intro x h N w vs hM hv
  obtain ⟨⟨⟩, ⟨⟩⟩ := x
  refine calls_of_treeR (n := 200) (EnvOK.add s_iv_Whole (EnvOK.add s_meniscushand_Straight EnvOK.nil)) Tryz.func21 hv (Nat.le_of_ble_eq_true (by kernel_rfl)) LFn.nil hM (sc 1 [0] (tAgg 0 0 ccNil ccNil_ok ccIv ccIv_ok tNil) (rG_surf 88 rNil)) rfl ?_
  rw [t_meniscuslaw25_open]
  rfl
theorem s_meniscuslaw25_open : Ev.Spec Tryz.prog 21 (FR (sc 0 [] tNil rNil) (sc 1 [0] (tAgg 0 0 ccNil ccNil_ok ccIv ccIv_ok tNil) (rG_surf 88 rNil)) (fun _ => true) ((fun _ => (((), Iv.whole 4, ()), ((straightOf [1]).2, ()))))) := specR rfl (fun _ => rfl) (fun vs w => Tryz.call21 vs w) c_meniscuslaw25_open

/-! meniscuslaw25.known -/
theorem t_meniscuslaw25_known  :
    evFn Tryz.prog (Env.add 17 (FS (sc 5 [0, 1, 2, 3, 4] (tAgg 0 0 ccNil ccNil_ok ccIv ccIv_ok (tCod 1 cIv (tCod 2 cIv (tCod 3 cInt (tCod 4 cIv tNil))))) (rL_surf rNil)) (cTwo cSpot cInt) ((fun x => lenOk x.2.1)) ((fun x => spotOf x.1.2.1 x.2.1 x.1.2.2.1 x.1.2.2.2.1 x.1.2.2.2.2.1 x.1.2.2.2.2.2.1))) (Env.add 18 (F1 cInt cIv Iv.point) (Env.add 21 (FR (sc 0 [] tNil rNil) (sc 1 [0] (tAgg 0 0 ccNil ccNil_ok ccIv ccIv_ok tNil) (rG_surf 88 rNil)) (fun _ => true) ((fun _ => (((), Iv.whole 4, ()), ((straightOf [1]).2, ()))))) (Env.add 22 (F2 cIv cInt cBool Iv.has) (Env.add 56 (F1 cIv cBool Iv.right) Env.nil))))) Laws.nil 200 Tryz.f14 [] [] cBool.dec =
      .br (true) (.bind ((((), Iv.whole 4, ()), (straightOf [1]).2, ())) fun vy0 => .bind (Iv.point 0) fun viv1 => .bind (Iv.point 0) fun viv2 => .bind (Iv.point 0) fun viv3 => .br (Ev.lenOk vy0.2.1) (.bind (spotOf vy0.1.2.1 vy0.2.1 viv1 viv2 4 viv3) fun vy4 => .br (vy4.2 == 0) (.br (vy4.1.1 == 32) (.br (vy4.1.2.1 == 0) (.bind (vy4.1.2.2.1.has 0) fun vb5 => .br (vb5) (.bind (vy4.1.2.2.2.1.has 0) fun vb6 => .br (vb6) (.bind (vy4.1.2.2.2.2.right) fun vb7 => .ret (vb7)) (.ret (false))) (.ret (false))) (.ret (false))) (.ret (false))) (.ret (false))) (.fail)) (.fail) := by kernel_rfl
theorem c_meniscuslaw25_known  : Plain Tryz.prog 14 [] (cBool.enc (true)) :=
  plain_of_tree (n := 200) (EnvOK.add s_spot_Of (EnvOK.add s_iv_Point (EnvOK.add s_meniscuslaw25_open (EnvOK.add s_iv_Has (EnvOK.add s_iv_Right EnvOK.nil))))) Tryz.func14 (args := []) rfl (Nat.le_of_ble_eq_true (by kernel_rfl)) LFn.nil cBool (by
    rw [t_meniscuslaw25_known]
    decide +kernel)
theorem s_meniscuslaw25_known : Ev.Spec Tryz.prog 14 (F0 cBool true) := spec0 (fun vs w => Tryz.call14 vs w) c_meniscuslaw25_known

/-! meniscuslaw25.film -/
theorem t_meniscuslaw25_film (x0 : Int) (x1 : Int) (x2 : Int) :
    evFn Tryz.prog (Env.add 16 (F2p cInt cInt cInt pickOk pick) (Env.add 62 (F2 cInt cInt cIv wide) Env.nil)) Laws.nil 200 Tryz.f15 [cInt.av x0, cInt.av x1, cInt.av x2] [] (cTwo cIv cIv).dec =
      .br (pickOk x2 500) (.bind (pick x2 500) fun vn0 => .br (pickOk x0 393216) (.bind (pick x0 393216) fun vn1 => .bind (wide (IntKind.i64.wrap (vn1 - 196608)) vn0) fun viv2 => .br (pickOk x1 393216) (.bind (pick x1 393216) fun vn3 => .bind (wide (IntKind.i64.wrap (vn3 - 196608)) (IntKind.i64.wrap (vn0.tdiv 3))) fun viv4 => .ret ((viv2, viv4))) (.fail)) (.fail)) (.fail) := by kernel_rfl
theorem c_meniscuslaw25_film (x0 : Int) (x1 : Int) (x2 : Int) : Plain Tryz.prog 15 [cInt.enc x0, cInt.enc x1, cInt.enc x2] ((cTwo cIv cIv).enc (filmS x0 x1 x2)) :=
  plain_of_tree (n := 200) (EnvOK.add s_meniscushand_Pick (EnvOK.add s_meniscushand_Wide EnvOK.nil)) Tryz.func15 (args := [cInt.av x0, cInt.av x1, cInt.av x2]) (by simp only [AV.vals, Cod.av_val]) (Nat.le_of_ble_eq_true (by kernel_rfl)) LFn.nil (cTwo cIv cIv) (by
    rw [t_meniscuslaw25_film]
    have pk393216 : ∀ n : Int, pickOk n 393216 = true := fun _ => by simp [pickOk]
    have pk500 : ∀ n : Int, pickOk n 500 = true := fun _ => by simp [pickOk]
    have w : ∀ n : Int, IntKind.i64.wrap (pick n 393216 - 196608) = pick n 393216 - 196608 := fun n => wr (by have := pick_bd n (m := 393216) (by decide); omega)
    simp only [den_br, den_bind, den_ret, pk393216, pk500, if_true, w]
    rfl)
theorem s_meniscuslaw25_film : Ev.Spec Tryz.prog 15 (F3 cInt cInt cInt (cTwo cIv cIv) filmS) := spec3 (fun vs w => Tryz.call15 vs w) c_meniscuslaw25_film

/-! meniscuslaw25.SpotMeans -/
theorem tl_meniscuslaw25_SpotMeans_15 (t107 : Int) (t106 : Int) (t23 : Int) (t25 : Bool) (t5 : Int) (r0 : List Cx) (r1 : Iv) (r2 : Iv) (r3 : Iv) (r4 : Iv) (r5 : Iv) (r6 : SpotV) (r7 : List Surf) :
    ev Tryz.prog (Env.add 13 (FR (sc 5 [0, 1, 2, 3, 4] (tCod 0 cInt (tSl 1 0 (tSl 2 1 (tCod 3 cInt (tCod 4 cBool tNil))))) (rL_rface (rL_int rNil))) (sc 1 [0] (tAgg 0 0 ccNil ccNil_ok ccIv ccIv_ok tNil) (rG_surf 88 rNil)) ((fun x => mostOk x.1.2.1)) ((fun x => (fun r : SysV => (((), r.1, ()), (r.2, ()))) (systemOf x.1.1 x.2.1 x.2.2.1 x.1.2.1 x.1.2.2.1)))) (Env.add 14 (F0 cBool true) (Env.add 15 (F3 cInt cInt cInt (cTwo cIv cIv) filmS) (Env.add 16 (F2p cInt cInt cInt pickOk pick) (Env.add 17 (FS (sc 5 [0, 1, 2, 3, 4] (tAgg 0 0 ccNil ccNil_ok ccIv ccIv_ok (tCod 1 cIv (tCod 2 cIv (tCod 3 cInt (tCod 4 cIv tNil))))) (rL_surf rNil)) (cTwo cSpot cInt) ((fun x => lenOk x.2.1)) ((fun x => spotOf x.1.2.1 x.2.1 x.1.2.2.1 x.1.2.2.2.1 x.1.2.2.2.2.1 x.1.2.2.2.2.2.1))) (Env.add 18 (F1 cInt cIv Iv.point) (Env.add 19 (FR (sc 1 [0] (tCod 0 cInt tNil) rNil) (sc 1 [0] (tSl 0 0 tNil) (rG_cx 41 rNil)) (fun _ => true) ((fun x => ((), ((cellsP (cellsR x.1.1)).map cxOf, ()))))) (Env.add 20 (F2 cCx cInt cInt cInDisc) (Env.add 30 (FS (sc 5 [0, 1, 2, 3, 4] (tAgg 0 0 ccNil ccNil_ok ccIv ccIv_ok (tCod 1 cIv (tCod 2 cIv (tCod 3 cCx (tCod 4 cInt tNil))))) (rL_surf rNil)) (cTwo cRay cBool) (fun _ => true) ((fun x => aimP x.1.2.1 x.2.1 x.1.2.2.1 x.1.2.2.2.1 x.1.2.2.2.2.1 x.1.2.2.2.2.2.1))) (Env.add 38 (F1 cIv cIv Iv.neg) (Env.add 51 (F0 cIv Iv.none) (Env.add 52 (FS (sc 3 [0, 1, 2] (tAgg 0 0 ccNil ccNil_ok ccIv ccIv_ok (tCod 1 cRay (tCod 2 cIv tNil))) (rL_surf rNil)) (cThree cIv cIv cInt) ((fun x => lenOk x.2.1)) ((fun x => throughOf x.2.1 x.1.2.2.1 x.1.2.2.2.1))) (Env.add 53 (F2 cIv cIv cIv Iv.add) (Env.add 54 (FS (sc 1 [0] (tAgg 0 0 ccNil ccNil_ok ccIv ccIv_ok tNil) (rL_surf rNil)) cIv ((fun x => lenOk x.2.1)) ((fun x => lastOf x.2.1))) (Env.add 55 (F2 cIv cIv cIv Iv.hull) (Env.add 56 (F1 cIv cBool Iv.right) Env.nil)))))))))))))))) Laws.nil 200 none (loopAt Tryz.f12 15) ((sc 192 [107, 106, 23, 25, 5, 105, 15, 16, 17, 18, 24, 19] (tCod 107 cInt (tCod 106 cInt (tCod 23 cInt (tCod 25 cBool (tCod 5 cInt (tSl 105 0 (tOwn 15 1 (tOwn 16 2 (tOwn 17 3 (tOwn 18 4 (tOwn 24 5 (tOwn 19 6 tNil)))))))))))) (rG_cx 41 (rBoxSl 7 ccIv ccIv_ok (rBox ccIv ccIv_ok (rBox ccIv ccIv_ok (rBox ccIv ccIv_ok (rBox ccIv ccIv_ok (rBox ccSpot ccSpot_ok (rG_surf 88 rNil))))))))).enc ((t107, t106, t23, t25, t5, ()), (r0, r1, r2, r3, r4, r5, r6, r7, ()))) (backK (sc 192 [107, 106, 23, 25, 5, 105, 15, 16, 17, 18, 24, 19] (tCod 107 cInt (tCod 106 cInt (tCod 23 cInt (tCod 25 cBool (tCod 5 cInt (tSl 105 0 (tOwn 15 1 (tOwn 16 2 (tOwn 17 3 (tOwn 18 4 (tOwn 24 5 (tOwn 19 6 tNil)))))))))))) (rG_cx 41 (rBoxSl 7 ccIv ccIv_ok (rBox ccIv ccIv_ok (rBox ccIv ccIv_ok (rBox ccIv ccIv_ok (rBox ccIv ccIv_ok (rBox ccSpot ccSpot_ok (rG_surf 88 rNil))))))))) (ocExit 0 (sc 192 [23, 25, 24, 19] (tCod 23 cInt (tCod 25 cBool (tOwn 24 0 (tOwn 19 1 tNil)))) (rBox ccIv ccIv_ok (rBox ccSpot ccSpot_ok rNil))))) =
      .br (decide (t107 < t106)) (.br (decide (0 ≤ t107 ∧ t107 < (@Nat.cast Int _ r0.length))) (.get (r0[t107.toNat]?) fun vt0 => .bind (cInDisc vt0 t5) fun vn1 => .br (vn1 != 1) (.ret (Sum.inl ((IntKind.i64.wrap (t107 + 1), t106, t23, t25, t5, ()), r0, r1, r2, r3, r4, r5, r6, r7, ()))) (.br (true) (.bind (aimP r1 r7 r2 r3 vt0 t5) fun vy2 => .br (!vy2.2) (.ret (Sum.inl ((IntKind.i64.wrap (t107 + 1), t106, t23, t25, t5, ()), r0, r1, r2, r3, r4, r5, r6, r7, ()))) (.br (Ev.lenOk r7) (.bind (lastOf r7) fun viv3 => .bind (viv3.add r4) fun viv4 => .br (Ev.lenOk r7) (.bind (throughOf r7 vy2.1 viv4) fun vy5 => .br (vy5.2.2 != 1) (.ret (Sum.inl ((IntKind.i64.wrap (t107 + 1), t106, t23, t25, t5, ()), r0, r1, r2, r3, r4, r5, r6, r7, ()))) (.br (t23 == 0) (.br (t25) (.bind (vy5.1.right) fun vb6 => .ret (Sum.inl ((IntKind.i64.wrap (t107 + 1), t106, IntKind.i64.wrap (t23 + 1), vb6, t5, ()), r0, r1, r2, r3, r4, vy5.1, r6, r7, ()))) (.ret (Sum.inl ((IntKind.i64.wrap (t107 + 1), t106, IntKind.i64.wrap (t23 + 1), false, t5, ()), r0, r1, r2, r3, r4, vy5.1, r6, r7, ())))) (.bind (r5.hull vy5.1) fun viv7 => .br (t25) (.bind (vy5.1.right) fun vb8 => .ret (Sum.inl ((IntKind.i64.wrap (t107 + 1), t106, IntKind.i64.wrap (t23 + 1), vb8, t5, ()), r0, r1, r2, r3, r4, viv7, r6, r7, ()))) (.ret (Sum.inl ((IntKind.i64.wrap (t107 + 1), t106, IntKind.i64.wrap (t23 + 1), false, t5, ()), r0, r1, r2, r3, r4, viv7, r6, r7, ())))))) (.fail)) (.fail))) (.fail))) (.fail)) (.ret (Sum.inr ((t23, t25, ()), r5, r6, ()))) := by kernel_rfl
theorem ok_meniscuslaw25_SpotMeans_15 : LOK Tryz.prog (LoopR.of (sc 192 [107, 106, 23, 25, 5, 105, 15, 16, 17, 18, 24, 19] (tCod 107 cInt (tCod 106 cInt (tCod 23 cInt (tCod 25 cBool (tCod 5 cInt (tSl 105 0 (tOwn 15 1 (tOwn 16 2 (tOwn 17 3 (tOwn 18 4 (tOwn 24 5 (tOwn 19 6 tNil)))))))))))) (rG_cx 41 (rBoxSl 7 ccIv ccIv_ok (rBox ccIv ccIv_ok (rBox ccIv ccIv_ok (rBox ccIv ccIv_ok (rBox ccIv ccIv_ok (rBox ccSpot ccSpot_ok (rG_surf 88 rNil))))))))) (ocExit 0 (sc 192 [23, 25, 24, 19] (tCod 23 cInt (tCod 25 cBool (tOwn 24 0 (tOwn 19 1 tNil)))) (rBox ccIv ccIv_ok (rBox ccSpot ccSpot_ok rNil)))) (runBy smStep smM)) (loopAt Tryz.f12 15) := by
  refine loop_ok (EnvOK.add s_meniscushand_System (EnvOK.add s_meniscuslaw25_known (EnvOK.add s_meniscuslaw25_film (EnvOK.add s_meniscushand_Pick (EnvOK.add s_spot_Of (EnvOK.add s_iv_Point (EnvOK.add s_gauss_Cells (EnvOK.add s_gauss_InDisc (EnvOK.add s_pupil_Aim (EnvOK.add s_iv_Neg (EnvOK.add s_iv_None (EnvOK.add s_trace_Through (EnvOK.add s_iv_Add (EnvOK.add s_system_Last (EnvOK.add s_iv_Hull (EnvOK.add s_iv_Right EnvOK.nil)))))))))))))))) (LFn.at (fn := Tryz.f12) LFn.nil 15) smStep (n := 200) (fun x z h => ?_) (runBy_ok _ _)
  obtain ⟨⟨t107, t106, t23, t25, t5, ⟨⟩⟩, ⟨r0, r1, r2, r3, r4, r5, r6, r7, ⟨⟩⟩⟩ := x
  rw [tl_meniscuslaw25_SpotMeans_15]
  rw [← h]
  simp only [smStep]
  simp only [den_br, den_bind, den_ret, den_fail, decide_eq_true_eq, gt_iff_lt, ge_iff_le, beq_iff_eq]
  by_cases h0 : t107 < t106 <;> simp only [h0, if_true, if_false]
  by_cases h1 : 0 ≤ t107 ∧ t107 < (r0.length : Int) <;> simp only [h1, and_self, if_true, if_false]
  cases hg : r0[t107.toNat]? with
  | none => rfl
  | some z =>
    simp only [den_get, den_br, den_bind, den_ret, den_fail, beq_iff_eq]
    by_cases d1 : cInDisc z t5 = 1
    case neg =>
      have d1' : (cInDisc z t5 != 1) = true := by simp [d1]
      simp only [d1, d1', ne_eq, not_false_eq_true, if_true]
    simp only [d1, bne_self_eq_false, ne_eq, not_true_eq_false, if_false, Bool.false_eq_true, decide_true, if_true]
    rcases Bool.eq_false_or_eq_true (aimP r1 r7 r2 r3 z t5).2 with ha | ha
    case inr => simp only [ha, Bool.not_false, if_true]
    simp only [ha, Bool.not_true, Bool.false_eq_true, Bool.true_eq_false, if_false]
    by_cases hl : Ev.lenOk r7 = true
    case neg => simp only [hl, if_false, Bool.false_eq_true]
    simp only [hl, if_true]
    by_cases k1 : (throughOf r7 (aimP r1 r7 r2 r3 z t5).1 ((lastOf r7).add r4)).2.2 = 1
    case neg =>
      have k1' : ((throughOf r7 (aimP r1 r7 r2 r3 z t5).1 ((lastOf r7).add r4)).2.2 != 1) = true := by simp [k1]
      simp only [k1, k1', not_false_eq_true, if_true]
    simp only [k1, bne_self_eq_false, not_true_eq_false, if_false, Bool.false_eq_true]
    by_cases c0 : t23 = 0 <;> cases t25 <;> simp [c0]
theorem t_meniscuslaw25_SpotMeans (t0 : Int) (t2 : Int) (t3 : Int) (t4 : Int) (t5 : Int) (t6 : Int) (r0 : List RawFace) :
    evFn Tryz.prog (Env.add 13 (FR (sc 5 [0, 1, 2, 3, 4] (tCod 0 cInt (tSl 1 0 (tSl 2 1 (tCod 3 cInt (tCod 4 cBool tNil))))) (rL_rface (rL_int rNil))) (sc 1 [0] (tAgg 0 0 ccNil ccNil_ok ccIv ccIv_ok tNil) (rG_surf 88 rNil)) ((fun x => mostOk x.1.2.1)) ((fun x => (fun r : SysV => (((), r.1, ()), (r.2, ()))) (systemOf x.1.1 x.2.1 x.2.2.1 x.1.2.1 x.1.2.2.1)))) (Env.add 14 (F0 cBool true) (Env.add 15 (F3 cInt cInt cInt (cTwo cIv cIv) filmS) (Env.add 16 (F2p cInt cInt cInt pickOk pick) (Env.add 17 (FS (sc 5 [0, 1, 2, 3, 4] (tAgg 0 0 ccNil ccNil_ok ccIv ccIv_ok (tCod 1 cIv (tCod 2 cIv (tCod 3 cInt (tCod 4 cIv tNil))))) (rL_surf rNil)) (cTwo cSpot cInt) ((fun x => lenOk x.2.1)) ((fun x => spotOf x.1.2.1 x.2.1 x.1.2.2.1 x.1.2.2.2.1 x.1.2.2.2.2.1 x.1.2.2.2.2.2.1))) (Env.add 18 (F1 cInt cIv Iv.point) (Env.add 19 (FR (sc 1 [0] (tCod 0 cInt tNil) rNil) (sc 1 [0] (tSl 0 0 tNil) (rG_cx 41 rNil)) (fun _ => true) ((fun x => ((), ((cellsP (cellsR x.1.1)).map cxOf, ()))))) (Env.add 20 (F2 cCx cInt cInt cInDisc) (Env.add 30 (FS (sc 5 [0, 1, 2, 3, 4] (tAgg 0 0 ccNil ccNil_ok ccIv ccIv_ok (tCod 1 cIv (tCod 2 cIv (tCod 3 cCx (tCod 4 cInt tNil))))) (rL_surf rNil)) (cTwo cRay cBool) (fun _ => true) ((fun x => aimP x.1.2.1 x.2.1 x.1.2.2.1 x.1.2.2.2.1 x.1.2.2.2.2.1 x.1.2.2.2.2.2.1))) (Env.add 38 (F1 cIv cIv Iv.neg) (Env.add 51 (F0 cIv Iv.none) (Env.add 52 (FS (sc 3 [0, 1, 2] (tAgg 0 0 ccNil ccNil_ok ccIv ccIv_ok (tCod 1 cRay (tCod 2 cIv tNil))) (rL_surf rNil)) (cThree cIv cIv cInt) ((fun x => lenOk x.2.1)) ((fun x => throughOf x.2.1 x.1.2.2.1 x.1.2.2.2.1))) (Env.add 53 (F2 cIv cIv cIv Iv.add) (Env.add 54 (FS (sc 1 [0] (tAgg 0 0 ccNil ccNil_ok ccIv ccIv_ok tNil) (rL_surf rNil)) cIv ((fun x => lenOk x.2.1)) ((fun x => lastOf x.2.1))) (Env.add 55 (F2 cIv cIv cIv Iv.hull) (Env.add 56 (F1 cIv cBool Iv.right) Env.nil)))))))))))))))) (Laws.add 15 (LoopR.of (sc 192 [107, 106, 23, 25, 5, 105, 15, 16, 17, 18, 24, 19] (tCod 107 cInt (tCod 106 cInt (tCod 23 cInt (tCod 25 cBool (tCod 5 cInt (tSl 105 0 (tOwn 15 1 (tOwn 16 2 (tOwn 17 3 (tOwn 18 4 (tOwn 24 5 (tOwn 19 6 tNil)))))))))))) (rG_cx 41 (rBoxSl 7 ccIv ccIv_ok (rBox ccIv ccIv_ok (rBox ccIv ccIv_ok (rBox ccIv ccIv_ok (rBox ccIv ccIv_ok (rBox ccSpot ccSpot_ok (rG_surf 88 rNil))))))))) (ocExit 0 (sc 192 [23, 25, 24, 19] (tCod 23 cInt (tCod 25 cBool (tOwn 24 0 (tOwn 19 1 tNil)))) (rBox ccIv ccIv_ok (rBox ccSpot ccSpot_ok rNil)))) (runBy smStep smM)) Laws.nil) 200 Tryz.f12 (((sc 7 [0, 1, 2, 3, 4, 5, 6] (tCod 0 cInt (tSl 1 0 (tCod 2 cInt (tCod 3 cInt (tCod 4 cInt (tCod 5 cInt (tCod 6 cInt tNil))))))) (rL_rface rNil)).enc ((t0, t2, t3, t4, t5, t6, ()), (r0, ()))).tmps.map Prod.snd) ((sc 7 [0, 1, 2, 3, 4, 5, 6] (tCod 0 cInt (tSl 1 0 (tCod 2 cInt (tCod 3 cInt (tCod 4 cInt (tCod 5 cInt (tCod 6 cInt tNil))))))) (rL_rface rNil)).enc ((t0, t2, t3, t4, t5, t6, ()), (r0, ()))).mem cBool.dec =
      .br (mostOk 3) (.bind ((((), (systemOf t0 r0 [] 3 true).1, ()), (systemOf t0 r0 [] 3 true).2, ())) fun vy0 => .br ((@Nat.cast Int _ vy0.2.1.length) == 0) (.bind (true) fun vb1 => .ret (vb1)) (.bind (filmS t2 t3 t4) fun vy2 => .br (pickOk t5 3) (.bind (pick t5 3) fun vn3 => .br (pickOk t6 3932160) (.bind (pick t6 3932160) fun vn4 => .bind (Iv.point vn4) fun viv5 => .br (Ev.lenOk vy0.2.1) (.bind (spotOf vy0.1.2.1 vy0.2.1 vy2.1 vy2.2 (IntKind.i64.wrap (2 + vn3)) viv5) fun vy6 => .bind (vy2.2.neg) fun viv7 => .br (Ev.lenOk vy0.2.1) (.bind (spotOf vy0.1.2.1 vy0.2.1 viv7 vy2.1 (IntKind.i64.wrap (2 + vn3)) viv5) fun vy8 => .bind (true) fun vb9 => .br (!vb9) (.ret (false)) (.br (vy6.2 != 0) (.ret (false)) (.br (vy8.2 != 0) (.ret (false)) (.br (vy8.1.1 != vy6.1.1) (.ret (false)) (.br (vy8.1.2.1 != vy6.1.2.1) (.ret (false)) (.br (decide (vy6.1.2.2.2.2.hi < 0)) (.ret (false)) (.bind (Iv.none) fun viv10 => .br (true) (.bind (((), List.map cxOf (cellsP (cellsR (IntKind.i64.wrap (2 + vn3)))), ())) fun vy11 => .get (runBy smStep smM ((0, (@Nat.cast Int _ vy11.2.1.length), 0, true, IntKind.i64.wrap (2 + vn3), ()), vy11.2.1, vy0.1.2.1, vy2.1, vy2.2, viv5, viv10, vy6.1, vy0.2.1, ())) fun vy12 => .br (vy12.1.1 != vy12.2.2.1.1) (.ret (false)) (.br (vy12.1.1 == 0) (.br (decide (vy12.1.1 > 0)) (.ret (true)) (.bind (Iv.none) fun viv13 => .ret (vy12.2.2.1.2.2.1.lo == viv13.lo && (vy12.2.2.1.2.2.1.hi == viv13.hi && vy12.2.2.1.2.2.1.no == viv13.no)))) (.bind (vy12.2.2.1.2.2.1.right) fun vb14 => .br (!vb14) (.br (decide (vy12.1.1 > 0)) (.ret (true)) (.bind (Iv.none) fun viv15 => .ret (vy12.2.2.1.2.2.1.lo == viv15.lo && (vy12.2.2.1.2.2.1.hi == viv15.hi && vy12.2.2.1.2.2.1.no == viv15.no)))) (.br (vy12.1.2.1) (.br (decide (vy12.2.2.1.2.2.1.lo ≥ IntKind.i64.wrap (vy12.2.1.lo - 1))) (.ret (decide (vy12.2.2.1.2.2.1.hi ≤ IntKind.i64.wrap (vy12.2.1.hi + 1)))) (.ret (false))) (.ret (false)))))) (.fail)))))))) (.fail)) (.fail)) (.fail)) (.fail))) (.fail) := by kernel_rfl
theorem c_meniscuslaw25_SpotMeans : PlainS Tryz.prog 12 (sc 7 [0, 1, 2, 3, 4, 5, 6] (tCod 0 cInt (tSl 1 0 (tCod 2 cInt (tCod 3 cInt (tCod 4 cInt (tCod 5 cInt (tCod 6 cInt tNil))))))) (rL_rface rNil)) cBool (fun _ => true) ((fun _ => true)) := by
  intro x h N w vs hM hv
  obtain ⟨⟨t0, t2, t3, t4, t5, t6, ⟨⟩⟩, ⟨r0, ⟨⟩⟩⟩ := x
  refine calls_of_tree (n := 200) (EnvOK.add s_meniscushand_System (EnvOK.add s_meniscuslaw25_known (EnvOK.add s_meniscuslaw25_film (EnvOK.add s_meniscushand_Pick (EnvOK.add s_spot_Of (EnvOK.add s_iv_Point (EnvOK.add s_gauss_Cells (EnvOK.add s_gauss_InDisc (EnvOK.add s_pupil_Aim (EnvOK.add s_iv_Neg (EnvOK.add s_iv_None (EnvOK.add s_trace_Through (EnvOK.add s_iv_Add (EnvOK.add s_system_Last (EnvOK.add s_iv_Hull (EnvOK.add s_iv_Right EnvOK.nil)))))))))))))))) Tryz.func12 hv (Nat.le_of_ble_eq_true (by kernel_rfl)) (LFn.add (fn := Tryz.f12) (i := 15) (by kernel_rfl) ok_meniscuslaw25_SpotMeans_15 LFn.nil) hM cBool ?_
  rw [t_meniscuslaw25_SpotMeans]
  have hR := systemOf_R t0 r0 [] true (most := 3) rfl
  have hlo : Ev.lenOk (systemOf t0 r0 [] 3 true).2 = true := lenOk_iff.2 (by have := hR.len; omega)
  have pk3 : ∀ n : Int, pickOk n 3 = true := fun _ => by simp [pickOk]
  have pk3932160 : ∀ n : Int, pickOk n 3932160 = true := fun _ => by simp [pickOk]
  simp only [show mostOk 3 = true from rfl, hlo, pk3, pk3932160, if_true, den_br, den_bind, den_get, den_ret, den_fail]
  have b5 := pick_bd t5 (m := 3) (by decide)
  have w5 : IntKind.i64.wrap (2 + pick t5 3) = 2 + pick t5 3 := wr (by omega)
  simp only [w5]
  by_cases hl : (systemOf t0 r0 [] 3 true).2.length = 0
  · simp only [hl]; rfl
  have hl' : (((systemOf t0 r0 [] 3 true).2.length : Int) == 0) = false := by rw [beq_eq_false_iff_ne]; omega
  obtain ⟨n, hn⟩ : ∃ n, 2 + pick t5 3 = n := ⟨_, rfl⟩
  rw [hn]
  have hn4 : 1 ≤ n ∧ n ≤ 4 := by omega
  have hz : sizedC (systemOf t0 r0 [] 3 true).2 n = true := sizedC_iff.2 ⟨by omega, by omega, by omega⟩
  obtain ⟨f1, f2⟩ := filmS_right t2 t3 t4
  have L := means_law (o := (systemOf t0 r0 [] 3 true).1) (f := Iv.point (pick t6 3932160)) hn4 hz f1 f2
  have hr := fun p => sm_run (o := (systemOf t0 r0 [] 3 true).1) (x := (filmS t2 t3 t4).1) (y := (filmS t2 t3 t4).2) (f := Iv.point (pick t6 3932160)) (n := n) (p := p) hlo (by omega)
  simp only [hl', hr, den_get, den_br, Bool.false_eq_true, if_false]
  generalize (cellsP n).foldl (smOne (systemOf t0 r0 [] 3 true).1 (systemOf t0 r0 [] 3 true).2 (filmS t2 t3 t4).1 (filmS t2 t3 t4).2 n (Iv.point (pick t6 3932160))) (0, true, Iv.none) = S at *
  generalize spotOf (systemOf t0 r0 [] 3 true).1 (systemOf t0 r0 [] 3 true).2 (filmS t2 t3 t4).1 (filmS t2 t3 t4).2 n (Iv.point (pick t6 3932160)) = p at *
  generalize spotOf (systemOf t0 r0 [] 3 true).1 (systemOf t0 r0 [] 3 true).2 (filmS t2 t3 t4).2.neg (filmS t2 t3 t4).1 n (Iv.point (pick t6 3932160)) = q at *
  obtain ⟨⟨e1, e2⟩, ⟨c1, c2⟩, m, ⟨s1, s2⟩, z, r⟩ := L
  simp only [e1, e2, c1, c2, m, ← s1, bne_self_eq_false, decide_false, Bool.not_true, Bool.false_eq_true, if_false]
  by_cases h0 : S.1 = 0
  · have hz0 := z h0
    simp [h0, hz0, den_bind, den_br, den_ret]
  · have hp : 0 < S.1 := by omega
    have h0' : (S.1 == 0) = false := by rw [beq_eq_false_iff_ne]; exact h0
    rcases Bool.eq_false_or_eq_true p.1.2.2.1.right with hx | hx
    · obtain ⟨y1, y2, y3⟩ := r h0 hx
      simp [h0', hx, y1, y2, y3, den_bind, den_br, den_ret]
    · simp [h0', hx, hp, den_bind, den_br, den_ret]
theorem s_meniscuslaw25_SpotMeans : Ev.Spec Tryz.prog 12 (FS (sc 7 [0, 1, 2, 3, 4, 5, 6] (tCod 0 cInt (tSl 1 0 (tCod 2 cInt (tCod 3 cInt (tCod 4 cInt (tCod 5 cInt (tCod 6 cInt tNil))))))) (rL_rface rNil)) cBool (fun _ => true) ((fun _ => true))) := specS rfl (fun vs w => Tryz.call12 vs w) c_meniscuslaw25_SpotMeans
end Go.Proofs.YtliglpiofomelaaGreat
