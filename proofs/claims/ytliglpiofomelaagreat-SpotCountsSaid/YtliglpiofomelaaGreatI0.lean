/-
  Contracts of calls, written by a small program of this session out of the evaluator's trees.
-/
import Derived.Test.YtliglpiofomelaaGreatCore
import Derived.Test.YtliglpiofomelaaGreatCoreLoops
import Derived.Test.YtliglpiofomelaaGreatCore2
import Derived.Test.YtliglpiofomelaaGreatCore3
import Derived.Test.YtliglpiofomelaaGreatCore4
import Derived.Test.YtliglpiofomelaaGreatCore5
import Derived.Test.YtliglpiofomelaaGreatCore6
import Derived.Test.YtliglpiofomelaaGreatCore7
import Derived.Test.YtliglpiofomelaaGreatCore8
import Derived.Test.YtliglpiofomelaaGreatCore9
import Derived.Test.YtliglpiofomelaaGreatEvMore
import Derived.Test.YtliglpiofomelaaGreatSym
import Derived.Test.YtliglpiofomelaaGreatSysF
import Derived.Test.YtliglpiofomelaaGreatLess2
import Derived.Test.YtliglpiofomelaaGreatFloCod
import Derived.Test.YtliglpiofomelaaGreatGs
import Derived.Test.YtliglpiofomelaaGreatPup
import Derived.Test.YtliglpiofomelaaGreatR0
import Derived.Test.YtliglpiofomelaaGreatG0
import Derived.Test.YtliglpiofomelaaGreatPup2
import Derived.Test.YtliglpiofomelaaGreatW0
import Derived.Test.YtliglpiofomelaaGreatVig
import Derived.Test.YtliglpiofomelaaGreatVig2
import Derived.Test.YtliglpiofomelaaGreatE0
import Derived.Test.YtliglpiofomelaaGreatEvCod
import Derived.Test.YtliglpiofomelaaGreatEvRet
import Derived.Test.YtliglpiofomelaaGreatProg
namespace Go.Proofs.YtliglpiofomelaaGreat
open Go Go.RowKit Ev
set_option maxRecDepth 100000
set_option linter.unusedVariables false
set_option linter.unusedSimpArgs false

/-! meniscushand.Straight -/
theorem tl_meniscushand_Straight_4 (t5 : Int) (t4 : Int) (r0 : List Int) (r1 : Iv) (r2 : Iv) (r3 : List Surf) (r4 : List Surf) :
    ev Tryz.prog (Env.add 16 (F2p cInt cInt cInt pickOk pick) (Env.add 88 (F1 cInt cIv Iv.point) (Env.add 100 (F1 cInt cIv Iv.whole) Env.nil))) Laws.nil 200 none (loopAt Tryz.f73 4) ((sc 48 [5, 4, 0, 3, 2] (tCod 5 cInt (tCod 4 cInt (tSl 0 0 (tOwn 3 1 (tOwn 2 2 tNil))))) (rL_int (rBoxSl 3 ccIv ccIv_ok (rBoxSl 4 ccIv ccIv_ok (rG_surf 88 (rL_surf rNil)))))).enc ((t5, t4, ()), (r0, r1, r2, r3, r4, ()))) (backK (sc 48 [5, 4, 0, 3, 2] (tCod 5 cInt (tCod 4 cInt (tSl 0 0 (tOwn 3 1 (tOwn 2 2 tNil))))) (rL_int (rBoxSl 3 ccIv ccIv_ok (rBoxSl 4 ccIv ccIv_ok (rG_surf 88 (rL_surf rNil)))))) (ocExit 0 (sc 48 [3, 2] (tOwn 3 0 (tOwn 2 1 tNil)) (rBoxSl 2 ccIv ccIv_ok (rBoxSl 3 ccIv ccIv_ok (rG_surf 88 (rL_surf rNil))))))) =
      .br (decide (t5 < (@Nat.cast Int _ r0.length))) (.br (decide (t5 < 4)) (.br (decide (0 ≤ t5 ∧ t5 < (@Nat.cast Int _ r0.length))) (.get (r0[t5.toNat]?) fun vt0 => .br (pickOk vt0 2) (.bind (pick vt0 2) fun vn1 => .bind (Iv.point 0) fun viv2 => .bind (Iv.point 65536) fun viv3 => .bind (Iv.point 0) fun viv4 => .bind (Iv.point 0) fun viv5 => .bind (Iv.point t4) fun viv6 => .bind (Iv.whole 100) fun viv7 => .bind (Iv.point 65536) fun viv8 => .br (Ev.lenOk (r3 ++ [Surf.mk (vn1 == 0) false viv2 viv3 viv4 viv5 viv6 viv7 viv8])) (.br (decide (0 ≤ t5 ∧ t5 < (@Nat.cast Int _ r0.length))) (.get (r0[t5.toNat]?) fun vt9 => .br (pickOk (IntKind.i64.wrap (Int.tdiv vt9 2)) 327680) (.bind (pick (IntKind.i64.wrap (Int.tdiv vt9 2)) 327680) fun vn10 => .ret (Sum.inl ((IntKind.i64.wrap (t5 + 1), IntKind.i64.wrap (IntKind.i64.wrap (t4 + 1) + vn10), ()), r0, r1, r2, r3 ++ [Surf.mk (vn1 == 0) false viv2 viv3 viv4 viv5 viv6 viv7 viv8], r4, ()))) (.fail)) (.fail)) (.fail)) (.fail)) (.fail)) (.ret (Sum.inr ((), r1, r2, r3, r4, ())))) (.ret (Sum.inr ((), r1, r2, r3, r4, ()))) := by kernel_rfl
theorem ok_meniscushand_Straight_4 : LOK Tryz.prog (LoopR.of (sc 48 [5, 4, 0, 3, 2] (tCod 5 cInt (tCod 4 cInt (tSl 0 0 (tOwn 3 1 (tOwn 2 2 tNil))))) (rL_int (rBoxSl 3 ccIv ccIv_ok (rBoxSl 4 ccIv ccIv_ok (rG_surf 88 (rL_surf rNil)))))) (ocExit 0 (sc 48 [3, 2] (tOwn 3 0 (tOwn 2 1 tNil)) (rBoxSl 2 ccIv ccIv_ok (rBoxSl 3 ccIv ccIv_ok (rG_surf 88 (rL_surf rNil)))))) (runBy straightStep straightM)) (loopAt Tryz.f73 4) := by
  refine loop_ok (EnvOK.add s_meniscushand_Pick (EnvOK.add s_meniscusref1_Point (EnvOK.add s_meniscusref1_Whole EnvOK.nil))) (LFn.at (fn := Tryz.f73) LFn.nil 4) straightStep (n := 200) (fun x z h => ?_) (runBy_ok _ _)
  obtain ⟨⟨t5, t4, ⟨⟩⟩, ⟨r0, r1, r2, r3, r4, ⟨⟩⟩⟩ := x
  rw [tl_meniscushand_Straight_4]
  by_cases h0 : t5 < (r0.length : Int) ∧ t5 < 4
  case neg =>
    rw [← h]
    simp only [straightStep, h0, if_false]
    simp only [den_br, den_bind, den_ret, den_fail, den_inl, den_inr, decide_eq_true_eq, gt_iff_lt, ge_iff_le, beq_iff_eq]
    by_cases c : t5 < (r0.length : Int) <;> by_cases d : t5 < 4 <;> simp only [c, d, if_true, if_false]
    exact absurd ⟨c, d⟩ h0
  by_cases h1 : 0 ≤ t5
  case neg => simp [straightStep, h0, h1] at h
  obtain ⟨v, hg⟩ : ∃ v, r0[t5.toNat]? = some v := ⟨_, List.getElem?_eq_getElem (by omega)⟩
  rw [← h]
  have pk2 : ∀ n : Int, pickOk n 2 = true := fun _ => by simp [pickOk]
  have pk327680 : ∀ n : Int, pickOk n 327680 = true := fun _ => by simp [pickOk]
  simp only [straightStep, airPlane, airNext, h0, h1, hg, and_self, if_true]
  simp only [den_br, den_bind, den_ret, den_fail, den_inl, den_inr, decide_eq_true_eq, gt_iff_lt, ge_iff_le, beq_iff_eq]
  simp only [h0.1, h0.2, h1, hg, and_self, true_and, decide_true, if_true, den_get, den_br, den_bind, den_ret, den_fail, dv_eq, pk2, pk327680]
  rfl
theorem t_meniscushand_Straight (r0 : List Int) :
    evFnR Tryz.prog (Env.add 16 (F2p cInt cInt cInt pickOk pick) (Env.add 88 (F1 cInt cIv Iv.point) (Env.add 100 (F1 cInt cIv Iv.whole) Env.nil))) (Laws.add 4 (LoopR.of (sc 48 [5, 4, 0, 3, 2] (tCod 5 cInt (tCod 4 cInt (tSl 0 0 (tOwn 3 1 (tOwn 2 2 tNil))))) (rL_int (rBoxSl 3 ccIv ccIv_ok (rBoxSl 4 ccIv ccIv_ok (rG_surf 88 (rL_surf rNil)))))) (ocExit 0 (sc 48 [3, 2] (tOwn 3 0 (tOwn 2 1 tNil)) (rBoxSl 2 ccIv ccIv_ok (rBoxSl 3 ccIv ccIv_ok (rG_surf 88 (rL_surf rNil)))))) (runBy straightStep straightM)) Laws.nil) 200 Tryz.f73 (((sc 1 [0] (tSl 0 0 tNil) (rL_int rNil)).enc ((()), (r0, ()))).tmps.map Prod.snd) ((sc 1 [0] (tSl 0 0 tNil) (rL_int rNil)).enc ((()), (r0, ()))).mem (sc 1 [0] (tAgg 0 0 ccNil ccNil_ok ccIv ccIv_ok tNil) (rG_surf 88 rNil)).ts (sc 1 [0] (tAgg 0 0 ccNil ccNil_ok ccIv ccIv_ok tNil) (rG_surf 88 rNil)).dec =
      .bind (Iv.whole 8) fun viv0 => .get (runBy straightStep straightM ((0, 655360, ()), r0, viv0, Iv.mk 0 0 false, [], [], ())) fun vy1 => .ret ((((), vy1.2.1, ()), vy1.2.2.2.1, ())) := by kernel_rfl
theorem c_meniscushand_Straight : PlainR Tryz.prog 73 (sc 1 [0] (tSl 0 0 tNil) (rL_int rNil)) (sc 1 [0] (tAgg 0 0 ccNil ccNil_ok ccIv ccIv_ok tNil) (rG_surf 88 rNil)) (fun _ => true) ((fun x => (fun r : SysV => (((), r.1, ()), (r.2, ()))) (straightOf x.2.1))) := by
  intro x h N w vs hM hv
  obtain ⟨⟨⟩, ⟨r0, ⟨⟩⟩⟩ := x
  refine calls_of_treeR (n := 200) (EnvOK.add s_meniscushand_Pick (EnvOK.add s_meniscusref1_Point (EnvOK.add s_meniscusref1_Whole EnvOK.nil))) Tryz.func73 hv (Nat.le_of_ble_eq_true (by kernel_rfl)) (LFn.add (fn := Tryz.f73) (i := 4) (by kernel_rfl) ok_meniscushand_Straight_4 LFn.nil) hM (sc 1 [0] (tAgg 0 0 ccNil ccNil_ok ccIv ccIv_ok tNil) (rG_surf 88 rNil)) rfl ?_
  rw [t_meniscushand_Straight]
  obtain ⟨y, hy, y1, y2⟩ := straight_total r0 (Iv.whole 8) ⟨0, 0, false⟩
  simp only [straightOf, hy]
  rw [show (⟨0, 0, false⟩ : Iv) = ⟨0, 0, false⟩ from rfl]
  simp only [den_bind, den_br, den_get, den_ret, hy]
theorem s_meniscushand_Straight : Ev.Spec Tryz.prog 73 (FR (sc 1 [0] (tSl 0 0 tNil) (rL_int rNil)) (sc 1 [0] (tAgg 0 0 ccNil ccNil_ok ccIv ccIv_ok tNil) (rG_surf 88 rNil)) (fun _ => true) ((fun x => (fun r : SysV => (((), r.1, ()), (r.2, ()))) (straightOf x.2.1)))) := specR rfl (fun _ => rfl) (fun vs w => Tryz.call73 vs w) c_meniscushand_Straight

/-! meniscuslaw25.open -/
theorem t_meniscuslaw25_open  :
    evFnR Tryz.prog (Env.add 41 (F1 cInt cIv Iv.whole) (Env.add 73 (FR (sc 1 [0] (tSl 0 0 tNil) (rL_int rNil)) (sc 1 [0] (tAgg 0 0 ccNil ccNil_ok ccIv ccIv_ok tNil) (rG_surf 88 rNil)) (fun _ => true) ((fun x => (fun r : SysV => (((), r.1, ()), (r.2, ()))) (straightOf x.2.1)))) Env.nil)) Laws.nil 200 Tryz.f21 (((sc 0 [] tNil rNil).enc ((()), (()))).tmps.map Prod.snd) ((sc 0 [] tNil rNil).enc ((()), (()))).mem (sc 1 [0] (tAgg 0 0 ccNil ccNil_ok ccIv ccIv_ok tNil) (rG_surf 88 rNil)).ts (sc 1 [0] (tAgg 0 0 ccNil ccNil_ok ccIv ccIv_ok tNil) (rG_surf 88 rNil)).dec =
      .br (true) (.bind ((((), (straightOf [1]).1, ()), (straightOf [1]).2, ())) fun vy0 => .bind (Iv.whole 4) fun viv1 => .ret ((((), viv1, ()), vy0.2.1, ()))) (.fail) := by kernel_rfl
theorem c_meniscuslaw25_open : PlainR Tryz.prog 21 (sc 0 [] tNil rNil) (sc 1 [0] (tAgg 0 0 ccNil ccNil_ok ccIv ccIv_ok tNil) (rG_surf 88 rNil)) (fun _ => true) ((fun _ => (((), Iv.whole 4, ()), ((straightOf [1]).2, ())))) := by
  intro x h N w vs hM hv
  obtain ⟨⟨⟩, ⟨⟩⟩ := x
  refine calls_of_treeR (n := 200) (EnvOK.add s_iv_Whole (EnvOK.add s_meniscushand_Straight EnvOK.nil)) Tryz.func21 hv (Nat.le_of_ble_eq_true (by kernel_rfl)) LFn.nil hM (sc 1 [0] (tAgg 0 0 ccNil ccNil_ok ccIv ccIv_ok tNil) (rG_surf 88 rNil)) rfl ?_
  rw [t_meniscuslaw25_open]
  rfl
theorem s_meniscuslaw25_open : Ev.Spec Tryz.prog 21 (FR (sc 0 [] tNil rNil) (sc 1 [0] (tAgg 0 0 ccNil ccNil_ok ccIv ccIv_ok tNil) (rG_surf 88 rNil)) (fun _ => true) ((fun _ => (((), Iv.whole 4, ()), ((straightOf [1]).2, ()))))) := specR rfl (fun _ => rfl) (fun vs w => Tryz.call21 vs w) c_meniscuslaw25_open

/-! meniscuslaw25.known -/
theorem t_meniscuslaw25_known  :
    evFn Tryz.prog (Env.add 17 (FS (sc 5 [0, 1, 2, 3, 4] (tAgg 0 0 ccNil ccNil_ok ccIv ccIv_ok (tCod 1 cIv (tCod 2 cIv (tCod 3 cInt (tCod 4 cIv tNil))))) (rL_surf rNil)) (cTwo cSpot cInt) ((fun x => lenOk x.2.1)) ((fun x => spotOf x.1.2.1 x.2.1 x.1.2.2.1 x.1.2.2.2.1 x.1.2.2.2.2.1 x.1.2.2.2.2.2.1))) (Env.add 18 (F1 cInt cIv Iv.point) (Env.add 21 (FR (sc 0 [] tNil rNil) (sc 1 [0] (tAgg 0 0 ccNil ccNil_ok ccIv ccIv_ok tNil) (rG_surf 88 rNil)) (fun _ => true) ((fun _ => (((), Iv.whole 4, ()), ((straightOf [1]).2, ()))))) (Env.add 22 (F2 cIv cInt cBool Iv.has) (Env.add 56 (F1 cIv cBool Iv.right) Env.nil))))) Laws.nil 200 Tryz.f14 [] [] cBool.dec =
      .br (true) (.bind ((((), Iv.whole 4, ()), (straightOf [1]).2, ())) fun vy0 => .bind (Iv.point 0) fun viv1 => .bind (Iv.point 0) fun viv2 => .bind (Iv.point 0) fun viv3 => .br (Ev.lenOk vy0.2.1) (.bind (spotOf vy0.1.2.1 vy0.2.1 viv1 viv2 4 viv3) fun vy4 => .br (vy4.2 == 0) (.br (vy4.1.1 == 32) (.br (vy4.1.2.1 == 0) (.bind (vy4.1.2.2.1.has 0) fun vb5 => .br (vb5) (.bind (vy4.1.2.2.2.1.has 0) fun vb6 => .br (vb6) (.bind (vy4.1.2.2.2.2.right) fun vb7 => .ret (vb7)) (.ret (false))) (.ret (false))) (.ret (false))) (.ret (false))) (.ret (false))) (.fail)) (.fail) := by kernel_rfl
theorem c_meniscuslaw25_known  : Plain Tryz.prog 14 [] (cBool.enc (true)) :=
  plain_of_tree (n := 200) (EnvOK.add s_spot_Of (EnvOK.add s_iv_Point (EnvOK.add s_meniscuslaw25_open (EnvOK.add s_iv_Has (EnvOK.add s_iv_Right EnvOK.nil))))) Tryz.func14 (args := []) rfl (Nat.le_of_ble_eq_true (by kernel_rfl)) LFn.nil cBool (by
    rw [t_meniscuslaw25_known]
    decide +kernel)
theorem s_meniscuslaw25_known : Ev.Spec Tryz.prog 14 (F0 cBool true) := spec0 (fun vs w => Tryz.call14 vs w) c_meniscuslaw25_known

/-! meniscuslaw25.film -/
theorem t_meniscuslaw25_film (x0 : Int) (x1 : Int) (x2 : Int) :
    evFn Tryz.prog (Env.add 16 (F2p cInt cInt cInt pickOk pick) (Env.add 62 (F2 cInt cInt cIv wide) Env.nil)) Laws.nil 200 Tryz.f15 [cInt.av x0, cInt.av x1, cInt.av x2] [] (cTwo cIv cIv).dec =
      .br (pickOk x2 500) (.bind (pick x2 500) fun vn0 => .br (pickOk x0 393216) (.bind (pick x0 393216) fun vn1 => .bind (wide (IntKind.i64.wrap (vn1 - 196608)) vn0) fun viv2 => .br (pickOk x1 393216) (.bind (pick x1 393216) fun vn3 => .bind (wide (IntKind.i64.wrap (vn3 - 196608)) (IntKind.i64.wrap (vn0.tdiv 3))) fun viv4 => .ret ((viv2, viv4))) (.fail)) (.fail)) (.fail) := by kernel_rfl
theorem c_meniscuslaw25_film (x0 : Int) (x1 : Int) (x2 : Int) : Plain Tryz.prog 15 [cInt.enc x0, cInt.enc x1, cInt.enc x2] ((cTwo cIv cIv).enc (filmS x0 x1 x2)) :=
  plain_of_tree (n := 200) (EnvOK.add s_meniscushand_Pick (EnvOK.add s_meniscushand_Wide EnvOK.nil)) Tryz.func15 (args := [cInt.av x0, cInt.av x1, cInt.av x2]) (by simp only [AV.vals, Cod.av_val]) (Nat.le_of_ble_eq_true (by kernel_rfl)) LFn.nil (cTwo cIv cIv) (by
    rw [t_meniscuslaw25_film]
    have pk393216 : ∀ n : Int, pickOk n 393216 = true := fun _ => by simp [pickOk]
    have pk500 : ∀ n : Int, pickOk n 500 = true := fun _ => by simp [pickOk]
    have w : ∀ n : Int, IntKind.i64.wrap (pick n 393216 - 196608) = pick n 393216 - 196608 := fun n => wr (by have := pick_bd n (m := 393216) (by decide); omega)
    simp only [den_br, den_bind, den_ret, pk393216, pk500, if_true, w]
    rfl)
theorem s_meniscuslaw25_film : Ev.Spec Tryz.prog 15 (F3 cInt cInt cInt (cTwo cIv cIv) filmS) := spec3 (fun vs w => Tryz.call15 vs w) c_meniscuslaw25_film

/-! meniscuslaw25.SpotCounts -/
theorem tl_meniscuslaw25_SpotCounts_10 (t72 : Int) (t71 : Int) (t24 : Int) (t5 : Int) (t21 : Int) (t23 : Int) (r0 : List Cx) (r1 : SpotV) (r2 : SpotV) :
    ev Tryz.prog (Env.add 13 (FR (sc 5 [0, 1, 2, 3, 4] (tCod 0 cInt (tSl 1 0 (tSl 2 1 (tCod 3 cInt (tCod 4 cBool tNil))))) (rL_rface (rL_int rNil))) (sc 1 [0] (tAgg 0 0 ccNil ccNil_ok ccIv ccIv_ok tNil) (rG_surf 88 rNil)) ((fun x => mostOk x.1.2.1)) ((fun x => (fun r : SysV => (((), r.1, ()), (r.2, ()))) (systemOf x.1.1 x.2.1 x.2.2.1 x.1.2.1 x.1.2.2.1)))) (Env.add 14 (F0 cBool true) (Env.add 15 (F3 cInt cInt cInt (cTwo cIv cIv) filmS) (Env.add 16 (F2p cInt cInt cInt pickOk pick) (Env.add 17 (FS (sc 5 [0, 1, 2, 3, 4] (tAgg 0 0 ccNil ccNil_ok ccIv ccIv_ok (tCod 1 cIv (tCod 2 cIv (tCod 3 cInt (tCod 4 cIv tNil))))) (rL_surf rNil)) (cTwo cSpot cInt) ((fun x => lenOk x.2.1)) ((fun x => spotOf x.1.2.1 x.2.1 x.1.2.2.1 x.1.2.2.2.1 x.1.2.2.2.2.1 x.1.2.2.2.2.2.1))) (Env.add 18 (F1 cInt cIv Iv.point) (Env.add 19 (FR (sc 1 [0] (tCod 0 cInt tNil) rNil) (sc 1 [0] (tSl 0 0 tNil) (rG_cx 41 rNil)) (fun _ => true) ((fun x => ((), ((cellsP (cellsR x.1.1)).map cxOf, ()))))) (Env.add 20 (F2 cCx cInt cInt cInDisc) (Env.add 21 (FR (sc 0 [] tNil rNil) (sc 1 [0] (tAgg 0 0 ccNil ccNil_ok ccIv ccIv_ok tNil) (rG_surf 88 rNil)) (fun _ => true) ((fun _ => (((), Iv.whole 4, ()), ((straightOf [1]).2, ()))))) (Env.add 22 (F2 cIv cInt cBool Iv.has) Env.nil)))))))))) Laws.nil 200 none (loopAt Tryz.f3 10) ((sc 147 [72, 71, 24, 5, 21, 23, 70, 20, 22] (tCod 72 cInt (tCod 71 cInt (tCod 24 cInt (tCod 5 cInt (tCod 21 cInt (tCod 23 cInt (tSl 70 0 (tOwn 20 1 (tOwn 22 2 tNil))))))))) (rG_cx 41 (rBox ccSpot ccSpot_ok (rBox ccSpot ccSpot_ok rNil)))).enc ((t72, t71, t24, t5, t21, t23, ()), (r0, r1, r2, ()))) (backK (sc 147 [72, 71, 24, 5, 21, 23, 70, 20, 22] (tCod 72 cInt (tCod 71 cInt (tCod 24 cInt (tCod 5 cInt (tCod 21 cInt (tCod 23 cInt (tSl 70 0 (tOwn 20 1 (tOwn 22 2 tNil))))))))) (rG_cx 41 (rBox ccSpot ccSpot_ok (rBox ccSpot ccSpot_ok rNil)))) (ocExit 0 (sc 147 [24, 5, 21, 23, 20, 22] (tCod 24 cInt (tCod 5 cInt (tCod 21 cInt (tCod 23 cInt (tOwn 20 0 (tOwn 22 1 tNil)))))) (rBox ccSpot ccSpot_ok (rBox ccSpot ccSpot_ok rNil))))) =
      .br (decide (t72 < t71)) (.br (decide (0 ≤ t72 ∧ t72 < (@Nat.cast Int _ r0.length))) (.get (r0[t72.toNat]?) fun vt0 => .bind (cInDisc vt0 t5) fun vn1 => .br (vn1 == 1) (.ret (Sum.inl ((IntKind.i64.wrap (t72 + 1), t71, IntKind.i64.wrap (t24 + 1), t5, t21, t23, ()), r0, r1, r2, ()))) (.ret (Sum.inl ((IntKind.i64.wrap (t72 + 1), t71, t24, t5, t21, t23, ()), r0, r1, r2, ())))) (.fail)) (.ret (Sum.inr ((t24, t5, t21, t23, ()), r1, r2, ()))) := by kernel_rfl
theorem ok_meniscuslaw25_SpotCounts_10 : LOK Tryz.prog (LoopR.of (sc 147 [72, 71, 24, 5, 21, 23, 70, 20, 22] (tCod 72 cInt (tCod 71 cInt (tCod 24 cInt (tCod 5 cInt (tCod 21 cInt (tCod 23 cInt (tSl 70 0 (tOwn 20 1 (tOwn 22 2 tNil))))))))) (rG_cx 41 (rBox ccSpot ccSpot_ok (rBox ccSpot ccSpot_ok rNil)))) (ocExit 0 (sc 147 [24, 5, 21, 23, 20, 22] (tCod 24 cInt (tCod 5 cInt (tCod 21 cInt (tCod 23 cInt (tOwn 20 0 (tOwn 22 1 tNil)))))) (rBox ccSpot ccSpot_ok (rBox ccSpot ccSpot_ok rNil)))) (runBy scStep scM)) (loopAt Tryz.f3 10) := by
  refine loop_ok (EnvOK.add s_meniscushand_System (EnvOK.add s_meniscuslaw25_known (EnvOK.add s_meniscuslaw25_film (EnvOK.add s_meniscushand_Pick (EnvOK.add s_spot_Of (EnvOK.add s_iv_Point (EnvOK.add s_gauss_Cells (EnvOK.add s_gauss_InDisc (EnvOK.add s_meniscuslaw25_open (EnvOK.add s_iv_Has EnvOK.nil)))))))))) (LFn.at (fn := Tryz.f3) LFn.nil 10) scStep (n := 200) (fun x z h => ?_) (runBy_ok _ _)
  obtain ⟨⟨t72, t71, t24, t5, t21, t23, ⟨⟩⟩, ⟨r0, r1, r2, ⟨⟩⟩⟩ := x
  rw [tl_meniscuslaw25_SpotCounts_10]
  rw [← h]
  simp only [scStep]
  simp only [den_br, den_bind, den_ret, den_fail, decide_eq_true_eq, gt_iff_lt, ge_iff_le, beq_iff_eq]
  by_cases h0 : t72 < t71 <;> simp only [h0, if_true, if_false]
  by_cases h1 : 0 ≤ t72 ∧ t72 < (r0.length : Int) <;> simp only [h1, and_self, if_true, if_false]
  cases hg : r0[t72.toNat]? with
  | none => rfl
  | some z =>
    simp only [den_get, den_br, den_bind, den_ret, den_fail, beq_iff_eq]
theorem t_meniscuslaw25_SpotCounts (t0 : Int) (t2 : Int) (t3 : Int) (t4 : Int) (t5 : Int) (t6 : Int) (t7 : Int) (r0 : List RawFace) :
    evFn Tryz.prog (Env.add 13 (FR (sc 5 [0, 1, 2, 3, 4] (tCod 0 cInt (tSl 1 0 (tSl 2 1 (tCod 3 cInt (tCod 4 cBool tNil))))) (rL_rface (rL_int rNil))) (sc 1 [0] (tAgg 0 0 ccNil ccNil_ok ccIv ccIv_ok tNil) (rG_surf 88 rNil)) ((fun x => mostOk x.1.2.1)) ((fun x => (fun r : SysV => (((), r.1, ()), (r.2, ()))) (systemOf x.1.1 x.2.1 x.2.2.1 x.1.2.1 x.1.2.2.1)))) (Env.add 14 (F0 cBool true) (Env.add 15 (F3 cInt cInt cInt (cTwo cIv cIv) filmS) (Env.add 16 (F2p cInt cInt cInt pickOk pick) (Env.add 17 (FS (sc 5 [0, 1, 2, 3, 4] (tAgg 0 0 ccNil ccNil_ok ccIv ccIv_ok (tCod 1 cIv (tCod 2 cIv (tCod 3 cInt (tCod 4 cIv tNil))))) (rL_surf rNil)) (cTwo cSpot cInt) ((fun x => lenOk x.2.1)) ((fun x => spotOf x.1.2.1 x.2.1 x.1.2.2.1 x.1.2.2.2.1 x.1.2.2.2.2.1 x.1.2.2.2.2.2.1))) (Env.add 18 (F1 cInt cIv Iv.point) (Env.add 19 (FR (sc 1 [0] (tCod 0 cInt tNil) rNil) (sc 1 [0] (tSl 0 0 tNil) (rG_cx 41 rNil)) (fun _ => true) ((fun x => ((), ((cellsP (cellsR x.1.1)).map cxOf, ()))))) (Env.add 20 (F2 cCx cInt cInt cInDisc) (Env.add 21 (FR (sc 0 [] tNil rNil) (sc 1 [0] (tAgg 0 0 ccNil ccNil_ok ccIv ccIv_ok tNil) (rG_surf 88 rNil)) (fun _ => true) ((fun _ => (((), Iv.whole 4, ()), ((straightOf [1]).2, ()))))) (Env.add 22 (F2 cIv cInt cBool Iv.has) Env.nil)))))))))) (Laws.add 10 (LoopR.of (sc 147 [72, 71, 24, 5, 21, 23, 70, 20, 22] (tCod 72 cInt (tCod 71 cInt (tCod 24 cInt (tCod 5 cInt (tCod 21 cInt (tCod 23 cInt (tSl 70 0 (tOwn 20 1 (tOwn 22 2 tNil))))))))) (rG_cx 41 (rBox ccSpot ccSpot_ok (rBox ccSpot ccSpot_ok rNil)))) (ocExit 0 (sc 147 [24, 5, 21, 23, 20, 22] (tCod 24 cInt (tCod 5 cInt (tCod 21 cInt (tCod 23 cInt (tOwn 20 0 (tOwn 22 1 tNil)))))) (rBox ccSpot ccSpot_ok (rBox ccSpot ccSpot_ok rNil)))) (runBy scStep scM)) Laws.nil) 200 Tryz.f3 (((sc 8 [0, 1, 2, 3, 4, 5, 6, 7] (tCod 0 cInt (tSl 1 0 (tCod 2 cInt (tCod 3 cInt (tCod 4 cInt (tCod 5 cInt (tCod 6 cInt (tCod 7 cInt tNil)))))))) (rL_rface rNil)).enc ((t0, t2, t3, t4, t5, t6, t7, ()), (r0, ()))).tmps.map Prod.snd) ((sc 8 [0, 1, 2, 3, 4, 5, 6, 7] (tCod 0 cInt (tSl 1 0 (tCod 2 cInt (tCod 3 cInt (tCod 4 cInt (tCod 5 cInt (tCod 6 cInt (tCod 7 cInt tNil)))))))) (rL_rface rNil)).enc ((t0, t2, t3, t4, t5, t6, t7, ()), (r0, ()))).mem cBool.dec =
      .br (mostOk 3) (.bind ((((), (systemOf t0 r0 [] 3 false).1, ()), (systemOf t0 r0 [] 3 false).2, ())) fun vy0 => .br ((@Nat.cast Int _ vy0.2.1.length) == 0) (.bind (true) fun vb1 => .ret (vb1)) (.bind (filmS t2 t3 t4) fun vy2 => .br (pickOk t5 4) (.bind (pick t5 4) fun vn3 => .br (pickOk t6 3276800) (.bind (pick t6 3276800) fun vn4 => .bind (Iv.point vn4) fun viv5 => .br (Ev.lenOk vy0.2.1) (.bind (spotOf vy0.1.2.1 vy0.2.1 vy2.1 vy2.2 (IntKind.i64.wrap (1 + vn3)) viv5) fun vy6 => .br (pickOk t7 3276800) (.bind (pick t7 3276800) fun vn7 => .bind (Iv.point vn7) fun viv8 => .br (Ev.lenOk vy0.2.1) (.bind (spotOf vy0.1.2.1 vy0.2.1 vy2.1 vy2.2 (IntKind.i64.wrap (1 + vn3)) viv8) fun vy9 => .br (true) (.bind (((), List.map cxOf (cellsP (cellsR (IntKind.i64.wrap (1 + vn3)))), ())) fun vy10 => .get (runBy scStep scM ((0, (@Nat.cast Int _ vy10.2.1.length), 0, IntKind.i64.wrap (1 + vn3), vy6.2, vy9.2, ()), vy10.2.1, vy6.1, vy9.1, ())) fun vy11 => .bind (true) fun vb12 => .br (!vb12) (.ret (false)) (.br (vy11.1.2.2.1 != 0) (.ret (false)) (.br (vy11.1.2.2.2.1 != 0) (.ret (false)) (.br (IntKind.i64.wrap (vy11.2.1.1 + vy11.2.1.2.1) != vy11.1.1) (.ret (false)) (.br (IntKind.i64.wrap (vy11.2.2.1.1 + vy11.2.2.1.2.1) != vy11.1.1) (.ret (false)) (.br (true) (.bind ((((), Iv.whole 4, ()), (straightOf [1]).2, ())) fun vy13 => .bind (Iv.point 0) fun viv14 => .bind (Iv.point 0) fun viv15 => .bind (Iv.point 0) fun viv16 => .br (Ev.lenOk vy13.2.1) (.bind (spotOf vy13.1.2.1 vy13.2.1 viv14 viv15 vy11.1.2.1 viv16) fun vy17 => .br (vy17.2 == 0) (.br (vy17.1.1 == vy11.1.1) (.br (vy17.1.2.1 == 0) (.br (vy11.1.1 == 0) (.ret (true)) (.bind (vy17.1.2.2.1.has 0) fun vb18 => .br (vb18) (.bind (vy17.1.2.2.2.1.has 0) fun vb19 => .ret (vb19)) (.ret (false)))) (.ret (false))) (.ret (false))) (.ret (false))) (.fail)) (.fail))))))) (.fail)) (.fail)) (.fail)) (.fail)) (.fail)) (.fail))) (.fail) := by kernel_rfl
theorem c_meniscuslaw25_SpotCounts : PlainS Tryz.prog 3 (sc 8 [0, 1, 2, 3, 4, 5, 6, 7] (tCod 0 cInt (tSl 1 0 (tCod 2 cInt (tCod 3 cInt (tCod 4 cInt (tCod 5 cInt (tCod 6 cInt (tCod 7 cInt tNil)))))))) (rL_rface rNil)) cBool (fun _ => true) ((fun _ => true)) := by
  intro x h N w vs hM hv
  obtain ⟨⟨t0, t2, t3, t4, t5, t6, t7, ⟨⟩⟩, ⟨r0, ⟨⟩⟩⟩ := x
  refine calls_of_tree (n := 200) (EnvOK.add s_meniscushand_System (EnvOK.add s_meniscuslaw25_known (EnvOK.add s_meniscuslaw25_film (EnvOK.add s_meniscushand_Pick (EnvOK.add s_spot_Of (EnvOK.add s_iv_Point (EnvOK.add s_gauss_Cells (EnvOK.add s_gauss_InDisc (EnvOK.add s_meniscuslaw25_open (EnvOK.add s_iv_Has EnvOK.nil)))))))))) Tryz.func3 hv (Nat.le_of_ble_eq_true (by kernel_rfl)) (LFn.add (fn := Tryz.f3) (i := 10) (by kernel_rfl) ok_meniscuslaw25_SpotCounts_10 LFn.nil) hM cBool ?_
  rw [t_meniscuslaw25_SpotCounts]
  have hR := systemOf_R t0 r0 [] false (most := 3) rfl
  have hlo : Ev.lenOk (systemOf t0 r0 [] 3 false).2 = true := lenOk_iff.2 (by have := hR.len; omega)
  have pk4 : ∀ n : Int, pickOk n 4 = true := fun _ => by simp [pickOk]
  have pk3276800 : ∀ n : Int, pickOk n 3276800 = true := fun _ => by simp [pickOk]
  simp only [show mostOk 3 = true from rfl, hlo, pk4, pk3276800, if_true, den_br, den_bind, den_get, den_ret, den_fail]
  have b5 := pick_bd t5 (m := 4) (by decide)
  have w5 : IntKind.i64.wrap (1 + pick t5 4) = 1 + pick t5 4 := wr (by omega)
  simp only [w5]
  by_cases hl : (systemOf t0 r0 [] 3 false).2.length = 0
  · simp only [hl]; rfl
  have hl' : (((systemOf t0 r0 [] 3 false).2.length : Int) == 0) = false := by rw [beq_eq_false_iff_ne]; omega
  obtain ⟨n, hn⟩ : ∃ n, 1 + pick t5 4 = n := ⟨_, rfl⟩
  rw [hn]
  have hn4 : 1 ≤ n ∧ n ≤ 4 := by omega
  have hz : sizedC (systemOf t0 r0 [] 3 false).2 n = true := sizedC_iff.2 ⟨by omega, by omega, by omega⟩
  obtain ⟨f1, f2⟩ := filmS_right t2 t3 t4
  obtain ⟨a1, a2, a3, a4⟩ := spot_all (o := (systemOf t0 r0 [] 3 false).1) (Iv.point (pick t6 3276800)) hz f1 f2
  obtain ⟨c1, c2, c3, c4⟩ := spot_all (o := (systemOf t0 r0 [] 3 false).1) (Iv.point (pick t7 3276800)) hz f1 f2
  have hc : cntOf n (cellsP n) ≤ 1024 := Nat.le_trans (cntOf_le _ _) (cellsP_len (by omega))
  simp only [hl', sc_run (n := n) (by omega), den_get, Bool.false_eq_true, if_false]
  generalize spotOf (systemOf t0 r0 [] 3 false).1 (systemOf t0 r0 [] 3 false).2 (filmS t2 t3 t4).1 (filmS t2 t3 t4).2 n (Iv.point (pick t6 3276800)) = p at *
  generalize spotOf (systemOf t0 r0 [] 3 false).1 (systemOf t0 r0 [] 3 false).2 (filmS t2 t3 t4).1 (filmS t2 t3 t4).2 n (Iv.point (pick t7 3276800)) = q at *
  have wp : IntKind.i64.wrap (p.1.1 + p.1.2.1) = (cntOf n (cellsP n) : Int) := by rw [a4]; exact wr (by omega)
  have wq : IntKind.i64.wrap (q.1.1 + q.1.2.1) = (cntOf n (cellsP n) : Int) := by rw [c4]; exact wr (by omega)
  have ho := open_ok hn4
  unfold openOk at ho
  simp only [Bool.and_eq_true, Bool.or_eq_true, beq_iff_eq] at ho
  obtain ⟨o1, o2, o3, o4⟩ := ho
  simp only [a1, c1, wp, wq, open_len, o1, o2, o3, den_br, den_bind, den_ret, den_fail, Bool.not_true, Bool.not_false, Bool.false_eq_true, if_false, if_true, bne_self_eq_false, beq_self_eq_true]
  rcases o4 with o4 | ⟨o5, o6⟩
  · have o4' : ((cntOf n (cellsP n) : Int) == 0) = true := by rw [o4]; rfl
    simp only [o4', if_true]
  · simp [o5, o6]
theorem s_meniscuslaw25_SpotCounts : Ev.Spec Tryz.prog 3 (FS (sc 8 [0, 1, 2, 3, 4, 5, 6, 7] (tCod 0 cInt (tSl 1 0 (tCod 2 cInt (tCod 3 cInt (tCod 4 cInt (tCod 5 cInt (tCod 6 cInt (tCod 7 cInt tNil)))))))) (rL_rface rNil)) cBool (fun _ => true) ((fun _ => true))) := specS rfl (fun vs w => Tryz.call3 vs w) c_meniscuslaw25_SpotCounts

/-! meniscuslaw25.SpotTells -/
theorem t_meniscuslaw25_SpotTells (t0 : Int) (t2 : Int) (t3 : Int) (t4 : Int) (t5 : Int) (t6 : Int) (t7 : Int) (r0 : List RawFace) :
    evFn Tryz.prog (Env.add 13 (FR (sc 5 [0, 1, 2, 3, 4] (tCod 0 cInt (tSl 1 0 (tSl 2 1 (tCod 3 cInt (tCod 4 cBool tNil))))) (rL_rface (rL_int rNil))) (sc 1 [0] (tAgg 0 0 ccNil ccNil_ok ccIv ccIv_ok tNil) (rG_surf 88 rNil)) ((fun x => mostOk x.1.2.1)) ((fun x => (fun r : SysV => (((), r.1, ()), (r.2, ()))) (systemOf x.1.1 x.2.1 x.2.2.1 x.1.2.1 x.1.2.2.1)))) (Env.add 14 (F0 cBool true) (Env.add 15 (F3 cInt cInt cInt (cTwo cIv cIv) filmS) (Env.add 16 (F2p cInt cInt cInt pickOk pick) (Env.add 17 (FS (sc 5 [0, 1, 2, 3, 4] (tAgg 0 0 ccNil ccNil_ok ccIv ccIv_ok (tCod 1 cIv (tCod 2 cIv (tCod 3 cInt (tCod 4 cIv tNil))))) (rL_surf rNil)) (cTwo cSpot cInt) ((fun x => lenOk x.2.1)) ((fun x => spotOf x.1.2.1 x.2.1 x.1.2.2.1 x.1.2.2.2.1 x.1.2.2.2.2.1 x.1.2.2.2.2.2.1))) (Env.add 27 (F2 cInt cInt cIv rawIv) (Env.add 50 (FS (sc 5 [0, 1, 2, 3, 4] (tAgg 0 0 ccNil ccNil_ok ccIv ccIv_ok (tCod 1 cIv (tCod 2 cIv (tCod 3 cInt (tCod 4 cIv tNil))))) (rL_surf rNil)) (cTwo cSpot cInt) ((fun x => lenOk x.2.1)) ((fun x => spotOf x.1.2.1 x.2.1 x.1.2.2.1 x.1.2.2.2.1 x.1.2.2.2.2.1 x.1.2.2.2.2.2.1))) Env.nil))))))) Laws.nil 200 Tryz.f11 (((sc 8 [0, 1, 2, 3, 4, 5, 6, 7] (tCod 0 cInt (tSl 1 0 (tCod 2 cInt (tCod 3 cInt (tCod 4 cInt (tCod 5 cInt (tCod 6 cInt (tCod 7 cInt tNil)))))))) (rL_rface rNil)).enc ((t0, t2, t3, t4, t5, t6, t7, ()), (r0, ()))).tmps.map Prod.snd) ((sc 8 [0, 1, 2, 3, 4, 5, 6, 7] (tCod 0 cInt (tSl 1 0 (tCod 2 cInt (tCod 3 cInt (tCod 4 cInt (tCod 5 cInt (tCod 6 cInt (tCod 7 cInt tNil)))))))) (rL_rface rNil)).enc ((t0, t2, t3, t4, t5, t6, t7, ()), (r0, ()))).mem cBool.dec =
      .br (mostOk 3) (.bind ((((), (systemOf t0 r0 [] 3 false).1, ()), (systemOf t0 r0 [] 3 false).2, ())) fun vy0 => .bind (filmS t2 t3 t4) fun vy1 => .br (pickOk t5 6) (.bind (pick t5 6) fun vn2 => .bind (rawIv t6 t7) fun viv3 => .br (Ev.lenOk vy0.2.1) (.bind (spotOf vy0.1.2.1 vy0.2.1 vy1.1 vy1.2 vn2 viv3) fun vy4 => .bind (rawIv t6 t7) fun viv5 => .br (Ev.lenOk vy0.2.1) (.bind (spotOf vy0.1.2.1 vy0.2.1 vy1.1 vy1.2 vn2 viv5) fun vy6 => .bind (true) fun vb7 => .br (vb7) (.br (vy4.2 == vy6.2) (.br (vy4.1.1 == vy6.1.1) (.br (vy4.1.2.1 == vy6.1.2.1) (.br (vy4.1.2.2.1.lo == vy6.1.2.2.1.lo && (vy4.1.2.2.1.hi == vy6.1.2.2.1.hi && vy4.1.2.2.1.no == vy6.1.2.2.1.no)) (.br (vy4.1.2.2.2.1.lo == vy6.1.2.2.2.1.lo && (vy4.1.2.2.2.1.hi == vy6.1.2.2.2.1.hi && vy4.1.2.2.2.1.no == vy6.1.2.2.2.1.no)) (.ret (vy4.1.2.2.2.2.lo == vy6.1.2.2.2.2.lo && (vy4.1.2.2.2.2.hi == vy6.1.2.2.2.2.hi && vy4.1.2.2.2.2.no == vy6.1.2.2.2.2.no))) (.ret (false))) (.ret (false))) (.ret (false))) (.ret (false))) (.ret (false))) (.ret (false))) (.fail)) (.fail)) (.fail)) (.fail) := by kernel_rfl
theorem c_meniscuslaw25_SpotTells : PlainS Tryz.prog 11 (sc 8 [0, 1, 2, 3, 4, 5, 6, 7] (tCod 0 cInt (tSl 1 0 (tCod 2 cInt (tCod 3 cInt (tCod 4 cInt (tCod 5 cInt (tCod 6 cInt (tCod 7 cInt tNil)))))))) (rL_rface rNil)) cBool (fun _ => true) ((fun _ => true)) := by
  intro x h N w vs hM hv
  obtain ⟨⟨t0, t2, t3, t4, t5, t6, t7, ⟨⟩⟩, ⟨r0, ⟨⟩⟩⟩ := x
  refine calls_of_tree (n := 200) (EnvOK.add s_meniscushand_System (EnvOK.add s_meniscuslaw25_known (EnvOK.add s_meniscuslaw25_film (EnvOK.add s_meniscushand_Pick (EnvOK.add s_spot_Of (EnvOK.add s_meniscushand_Iv (EnvOK.add s_meniscusref20_SpotOf EnvOK.nil))))))) Tryz.func11 hv (Nat.le_of_ble_eq_true (by kernel_rfl)) LFn.nil hM cBool ?_
  rw [t_meniscuslaw25_SpotTells]
  have hR := systemOf_R t0 r0 [] false (most := 3) rfl
  have hlo : Ev.lenOk (systemOf t0 r0 [] 3 false).2 = true := lenOk_iff.2 (by have := hR.len; omega)
  have pk6 : ∀ n : Int, pickOk n 6 = true := fun _ => by simp [pickOk]
  simp only [show mostOk 3 = true from rfl, hlo, pk6, if_true, den_br, den_bind, den_get, den_ret, den_fail]
  simp only [beq_self_eq_true, Bool.and_self, if_true]
theorem s_meniscuslaw25_SpotTells : Ev.Spec Tryz.prog 11 (FS (sc 8 [0, 1, 2, 3, 4, 5, 6, 7] (tCod 0 cInt (tSl 1 0 (tCod 2 cInt (tCod 3 cInt (tCod 4 cInt (tCod 5 cInt (tCod 6 cInt (tCod 7 cInt tNil)))))))) (rL_rface rNil)) cBool (fun _ => true) ((fun _ => true))) := specS rfl (fun vs w => Tryz.call11 vs w) c_meniscuslaw25_SpotTells
end Go.Proofs.YtliglpiofomelaaGreat
