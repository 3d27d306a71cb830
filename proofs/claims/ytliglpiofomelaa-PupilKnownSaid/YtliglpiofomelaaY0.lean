/-
  Contracts of calls, written by a small program of this session out of the evaluator's trees.
-/
import Derived.Test.YtliglpiofomelaaCore
import Derived.Test.YtliglpiofomelaaCoreLoops
import Derived.Test.YtliglpiofomelaaCore2
import Derived.Test.YtliglpiofomelaaCore3
import Derived.Test.YtliglpiofomelaaCore4
import Derived.Test.YtliglpiofomelaaCore5
import Derived.Test.YtliglpiofomelaaCore6
import Derived.Test.YtliglpiofomelaaCore7
import Derived.Test.YtliglpiofomelaaCore8
import Derived.Test.YtliglpiofomelaaCore9
import Derived.Test.YtliglpiofomelaaEvMore
import Derived.Test.YtliglpiofomelaaSym
import Derived.Test.YtliglpiofomelaaSysF
import Derived.Test.YtliglpiofomelaaLess2
import Derived.Test.YtliglpiofomelaaFloCod
import Derived.Test.YtliglpiofomelaaGs
import Derived.Test.YtliglpiofomelaaPup
import Derived.Test.YtliglpiofomelaaR0
import Derived.Test.YtliglpiofomelaaG0
import Derived.Test.YtliglpiofomelaaVig
import Derived.Test.YtliglpiofomelaaW0
import Derived.Test.YtliglpiofomelaaV0
import Derived.Test.YtliglpiofomelaaEvCod
import Derived.Test.YtliglpiofomelaaEvRet
import Derived.Test.YtliglpiofomelaaProg
namespace Go.Proofs.Ytliglpiofomelaa
open Go Go.RowKit Ev
set_option maxRecDepth 100000
set_option linter.unusedVariables false
set_option linter.unusedSimpArgs false

/-! meniscushand.Straight -/
theorem tl_meniscushand_Straight_4 (t5 : Int) (t4 : Int) (r0 : List Int) (r1 : Iv) (r2 : Iv) (r3 : List Surf) (r4 : List Surf) :
    ev Try.prog (Env.add 49 (F1 cInt cIv Iv.whole) (Env.add 50 (F2p cInt cInt cInt pickOk pick) (Env.add 51 (F1 cInt cIv Iv.point) Env.nil))) Laws.nil 200 none (loopAt Try.f26 4) ((sc 48 [5, 4, 0, 3, 2] (tCod 5 cInt (tCod 4 cInt (tSl 0 0 (tOwn 3 1 (tOwn 2 2 tNil))))) (rL_int (rBoxSl 3 ccIv ccIv_ok (rBoxSl 4 ccIv ccIv_ok (rG_surf 36 (rL_surf rNil)))))).enc ((t5, t4, ()), (r0, r1, r2, r3, r4, ()))) (backK (sc 48 [5, 4, 0, 3, 2] (tCod 5 cInt (tCod 4 cInt (tSl 0 0 (tOwn 3 1 (tOwn 2 2 tNil))))) (rL_int (rBoxSl 3 ccIv ccIv_ok (rBoxSl 4 ccIv ccIv_ok (rG_surf 36 (rL_surf rNil)))))) (ocExit 0 (sc 48 [3, 2] (tOwn 3 0 (tOwn 2 1 tNil)) (rBoxSl 2 ccIv ccIv_ok (rBoxSl 3 ccIv ccIv_ok (rG_surf 36 (rL_surf rNil))))))) =
      .br (decide (t5 < (@Nat.cast Int _ r0.length))) (.br (decide (t5 < 4)) (.br (decide (0 ≤ t5 ∧ t5 < (@Nat.cast Int _ r0.length))) (.get (r0[t5.toNat]?) fun vt0 => .br (pickOk vt0 2) (.bind (pick vt0 2) fun vn1 => .bind (Iv.point 0) fun viv2 => .bind (Iv.point 65536) fun viv3 => .bind (Iv.point 0) fun viv4 => .bind (Iv.point 0) fun viv5 => .bind (Iv.point t4) fun viv6 => .bind (Iv.whole 100) fun viv7 => .bind (Iv.point 65536) fun viv8 => .br (Ev.lenOk (r3 ++ [Surf.mk (vn1 == 0) false viv2 viv3 viv4 viv5 viv6 viv7 viv8])) (.br (decide (0 ≤ t5 ∧ t5 < (@Nat.cast Int _ r0.length))) (.get (r0[t5.toNat]?) fun vt9 => .br (pickOk (IntKind.i64.wrap (Int.tdiv vt9 2)) 327680) (.bind (pick (IntKind.i64.wrap (Int.tdiv vt9 2)) 327680) fun vn10 => .ret (Sum.inl ((IntKind.i64.wrap (t5 + 1), IntKind.i64.wrap (IntKind.i64.wrap (t4 + 1) + vn10), ()), r0, r1, r2, r3 ++ [Surf.mk (vn1 == 0) false viv2 viv3 viv4 viv5 viv6 viv7 viv8], r4, ()))) (.fail)) (.fail)) (.fail)) (.fail)) (.fail)) (.ret (Sum.inr ((), r1, r2, r3, r4, ())))) (.ret (Sum.inr ((), r1, r2, r3, r4, ()))) := by kernel_rfl
theorem ok_meniscushand_Straight_4 : LOK Try.prog (LoopR.of (sc 48 [5, 4, 0, 3, 2] (tCod 5 cInt (tCod 4 cInt (tSl 0 0 (tOwn 3 1 (tOwn 2 2 tNil))))) (rL_int (rBoxSl 3 ccIv ccIv_ok (rBoxSl 4 ccIv ccIv_ok (rG_surf 36 (rL_surf rNil)))))) (ocExit 0 (sc 48 [3, 2] (tOwn 3 0 (tOwn 2 1 tNil)) (rBoxSl 2 ccIv ccIv_ok (rBoxSl 3 ccIv ccIv_ok (rG_surf 36 (rL_surf rNil)))))) (runBy straightStep straightM)) (loopAt Try.f26 4) := by
  refine loop_ok (EnvOK.add s_meniscusref1_Whole (EnvOK.add s_meniscushand_Pick (EnvOK.add s_meniscusref1_Point EnvOK.nil))) (LFn.at (fn := Try.f26) LFn.nil 4) straightStep (n := 200) (fun x z h => ?_) (runBy_ok _ _)
  obtain ⟨⟨t5, t4, ⟨⟩⟩, ⟨r0, r1, r2, r3, r4, ⟨⟩⟩⟩ := x
  rw [tl_meniscushand_Straight_4]
  by_cases h0 : t5 < (r0.length : Int) ∧ t5 < 4
  case neg =>
    rw [← h]
    simp only [straightStep, h0, if_false]
    simp only [den_br, den_bind, den_ret, den_fail, den_inl, den_inr, decide_eq_true_eq, gt_iff_lt, ge_iff_le, beq_iff_eq]
    by_cases c : t5 < (r0.length : Int) <;> by_cases d : t5 < 4 <;> simp only [c, d, if_true, if_false]
    exact absurd ⟨c, d⟩ h0
  by_cases h1 : 0 ≤ t5
  case neg => simp [straightStep, h0, h1] at h
  obtain ⟨v, hg⟩ : ∃ v, r0[t5.toNat]? = some v := ⟨_, List.getElem?_eq_getElem (by omega)⟩
  rw [← h]
  have pk2 : ∀ n : Int, pickOk n 2 = true := fun _ => by simp [pickOk]
  have pk327680 : ∀ n : Int, pickOk n 327680 = true := fun _ => by simp [pickOk]
  simp only [straightStep, airPlane, airNext, h0, h1, hg, and_self, if_true]
  simp only [den_br, den_bind, den_ret, den_fail, den_inl, den_inr, decide_eq_true_eq, gt_iff_lt, ge_iff_le, beq_iff_eq]
  simp only [h0.1, h0.2, h1, hg, and_self, true_and, decide_true, if_true, den_get, den_br, den_bind, den_ret, den_fail, dv_eq, pk2, pk327680]
  rfl
theorem t_meniscushand_Straight (r0 : List Int) :
    evFnR Try.prog (Env.add 49 (F1 cInt cIv Iv.whole) (Env.add 50 (F2p cInt cInt cInt pickOk pick) (Env.add 51 (F1 cInt cIv Iv.point) Env.nil))) (Laws.add 4 (LoopR.of (sc 48 [5, 4, 0, 3, 2] (tCod 5 cInt (tCod 4 cInt (tSl 0 0 (tOwn 3 1 (tOwn 2 2 tNil))))) (rL_int (rBoxSl 3 ccIv ccIv_ok (rBoxSl 4 ccIv ccIv_ok (rG_surf 36 (rL_surf rNil)))))) (ocExit 0 (sc 48 [3, 2] (tOwn 3 0 (tOwn 2 1 tNil)) (rBoxSl 2 ccIv ccIv_ok (rBoxSl 3 ccIv ccIv_ok (rG_surf 36 (rL_surf rNil)))))) (runBy straightStep straightM)) Laws.nil) 200 Try.f26 (((sc 1 [0] (tSl 0 0 tNil) (rL_int rNil)).enc ((()), (r0, ()))).tmps.map Prod.snd) ((sc 1 [0] (tSl 0 0 tNil) (rL_int rNil)).enc ((()), (r0, ()))).mem (sc 1 [0] (tAgg 0 0 ccNil ccNil_ok ccIv ccIv_ok tNil) (rG_surf 36 rNil)).ts (sc 1 [0] (tAgg 0 0 ccNil ccNil_ok ccIv ccIv_ok tNil) (rG_surf 36 rNil)).dec =
      .bind (Iv.whole 8) fun viv0 => .get (runBy straightStep straightM ((0, 655360, ()), r0, viv0, Iv.mk 0 0 false, [], [], ())) fun vy1 => .ret ((((), vy1.2.1, ()), vy1.2.2.2.1, ())) := by kernel_rfl
theorem c_meniscushand_Straight : PlainR Try.prog 26 (sc 1 [0] (tSl 0 0 tNil) (rL_int rNil)) (sc 1 [0] (tAgg 0 0 ccNil ccNil_ok ccIv ccIv_ok tNil) (rG_surf 36 rNil)) (fun _ => true) ((fun x => (fun r : SysV => (((), r.1, ()), (r.2, ()))) (straightOf x.2.1))) := by
  intro x h N w vs hM hv
  obtain ⟨⟨⟩, ⟨r0, ⟨⟩⟩⟩ := x
  refine calls_of_treeR (n := 200) (EnvOK.add s_meniscusref1_Whole (EnvOK.add s_meniscushand_Pick (EnvOK.add s_meniscusref1_Point EnvOK.nil))) Try.func26 hv (Nat.le_of_ble_eq_true (by kernel_rfl)) (LFn.add (fn := Try.f26) (i := 4) (by kernel_rfl) ok_meniscushand_Straight_4 LFn.nil) hM (sc 1 [0] (tAgg 0 0 ccNil ccNil_ok ccIv ccIv_ok tNil) (rG_surf 36 rNil)) rfl ?_
  rw [t_meniscushand_Straight]
  obtain ⟨y, hy, y1, y2⟩ := straight_total r0 (Iv.whole 8) ⟨0, 0, false⟩
  simp only [straightOf, hy]
  rw [show (⟨0, 0, false⟩ : Iv) = ⟨0, 0, false⟩ from rfl]
  simp only [den_bind, den_br, den_get, den_ret, hy]
theorem s_meniscushand_Straight : Ev.Spec Try.prog 26 (FR (sc 1 [0] (tSl 0 0 tNil) (rL_int rNil)) (sc 1 [0] (tAgg 0 0 ccNil ccNil_ok ccIv ccIv_ok tNil) (rG_surf 36 rNil)) (fun _ => true) ((fun x => (fun r : SysV => (((), r.1, ()), (r.2, ()))) (straightOf x.2.1)))) := specR rfl (fun _ => rfl) (fun vs w => Try.call26 vs w) c_meniscushand_Straight

/-! meniscuslaw23.open -/
theorem t_meniscuslaw23_open  :
    evFnR Try.prog (Env.add 9 (F1 cInt cIv Iv.whole) (Env.add 26 (FR (sc 1 [0] (tSl 0 0 tNil) (rL_int rNil)) (sc 1 [0] (tAgg 0 0 ccNil ccNil_ok ccIv ccIv_ok tNil) (rG_surf 36 rNil)) (fun _ => true) ((fun x => (fun r : SysV => (((), r.1, ()), (r.2, ()))) (straightOf x.2.1)))) Env.nil)) Laws.nil 200 Try.f7 (((sc 0 [] tNil rNil).enc ((()), (()))).tmps.map Prod.snd) ((sc 0 [] tNil rNil).enc ((()), (()))).mem (sc 1 [0] (tAgg 0 0 ccNil ccNil_ok ccIv ccIv_ok tNil) (rG_surf 36 rNil)).ts (sc 1 [0] (tAgg 0 0 ccNil ccNil_ok ccIv ccIv_ok tNil) (rG_surf 36 rNil)).dec =
      .br (true) (.bind ((((), (straightOf [1]).1, ()), (straightOf [1]).2, ())) fun vy0 => .bind (Iv.whole 4) fun viv1 => .ret ((((), viv1, ()), vy0.2.1, ()))) (.fail) := by kernel_rfl
theorem c_meniscuslaw23_open : PlainR Try.prog 7 (sc 0 [] tNil rNil) (sc 1 [0] (tAgg 0 0 ccNil ccNil_ok ccIv ccIv_ok tNil) (rG_surf 36 rNil)) (fun _ => true) ((fun _ => (((), Iv.whole 4, ()), ((straightOf [1]).2, ())))) := by
  intro x h N w vs hM hv
  obtain ⟨⟨⟩, ⟨⟩⟩ := x
  refine calls_of_treeR (n := 200) (EnvOK.add s_iv_Whole (EnvOK.add s_meniscushand_Straight EnvOK.nil)) Try.func7 hv (Nat.le_of_ble_eq_true (by kernel_rfl)) LFn.nil hM (sc 1 [0] (tAgg 0 0 ccNil ccNil_ok ccIv ccIv_ok tNil) (rG_surf 36 rNil)) rfl ?_
  rw [t_meniscuslaw23_open]
  rfl
theorem s_meniscuslaw23_open : Ev.Spec Try.prog 7 (FR (sc 0 [] tNil rNil) (sc 1 [0] (tAgg 0 0 ccNil ccNil_ok ccIv ccIv_ok tNil) (rG_surf 36 rNil)) (fun _ => true) ((fun _ => (((), Iv.whole 4, ()), ((straightOf [1]).2, ()))))) := specR rfl (fun _ => rfl) (fun vs w => Try.call7 vs w) c_meniscuslaw23_open

/-! meniscuslaw23.known -/
theorem t_meniscuslaw23_known  :
    evFn Try.prog (Env.add 6 (FS (sc 4 [0, 1, 2, 3] (tAgg 0 0 ccNil ccNil_ok ccIv ccIv_ok (tCod 1 cIv (tCod 2 cIv (tCod 3 cInt tNil)))) (rL_surf rNil)) (cTwo cRep cInt) ((fun x => lenOk x.2.1)) ((fun x => (repC (scanOf x.1.2.1 x.2.1 x.1.2.2.1 x.1.2.2.2.1 x.1.2.2.2.2.1).1, (scanOf x.1.2.1 x.2.1 x.1.2.2.1 x.1.2.2.2.1 x.1.2.2.2.2.1).2)))) (Env.add 7 (FR (sc 0 [] tNil rNil) (sc 1 [0] (tAgg 0 0 ccNil ccNil_ok ccIv ccIv_ok tNil) (rG_surf 36 rNil)) (fun _ => true) ((fun _ => (((), Iv.whole 4, ()), ((straightOf [1]).2, ()))))) (Env.add 8 (F1 cInt cIv Iv.point) Env.nil))) Laws.nil 200 Try.f12 [] [] cBool.dec =
      .br (true) (.bind ((((), Iv.whole 4, ()), (straightOf [1]).2, ())) fun vy0 => .bind (Iv.point 0) fun viv1 => .bind (Iv.point 0) fun viv2 => .br (Ev.lenOk vy0.2.1) (.bind ((repC (scanOf vy0.1.2.1 vy0.2.1 viv1 viv2 1).1, (scanOf vy0.1.2.1 vy0.2.1 viv1 viv2 1).2)) fun vy3 => .br (vy3.2 == 0) (.br (vy3.1.2.2.1 == 4) (.br (vy3.1.2.2.2.1) (.br (Ev.cEq vy3.1.2.2.2.2.1.1 vy3.1.2.2.2.2.1.2 13830554455654793216 13830554455654793216) (.br (Ev.cEq vy3.1.2.2.2.2.2.1 vy3.1.2.2.2.2.2.2 4607182418800017408 4607182418800017408) (.br (vy3.1.1 == 0) (.ret (vy3.1.2.1 == 4)) (.ret (false))) (.ret (false))) (.ret (false))) (.ret (false))) (.ret (false))) (.ret (false))) (.fail)) (.fail) := by kernel_rfl
theorem c_meniscuslaw23_known  : Plain Try.prog 12 [] (cBool.enc (true)) :=
  plain_of_tree (n := 200) (EnvOK.add s_pupil_Scan (EnvOK.add s_meniscuslaw23_open (EnvOK.add s_iv_Point EnvOK.nil))) Try.func12 (args := []) rfl (Nat.le_of_ble_eq_true (by kernel_rfl)) LFn.nil cBool (by
    rw [t_meniscuslaw23_known]
    decide +kernel)
theorem s_meniscuslaw23_known : Ev.Spec Try.prog 12 (F0 cBool true) := spec0 (fun vs w => Try.call12 vs w) c_meniscuslaw23_known

/-! meniscuslaw23.PupilKnown -/
theorem t_meniscuslaw23_PupilKnown  :
    evFn Try.prog (Env.add 6 (FS (sc 4 [0, 1, 2, 3] (tAgg 0 0 ccNil ccNil_ok ccIv ccIv_ok (tCod 1 cIv (tCod 2 cIv (tCod 3 cInt tNil)))) (rL_surf rNil)) (cTwo cRep cInt) ((fun x => lenOk x.2.1)) ((fun x => (repC (scanOf x.1.2.1 x.2.1 x.1.2.2.1 x.1.2.2.2.1 x.1.2.2.2.2.1).1, (scanOf x.1.2.1 x.2.1 x.1.2.2.1 x.1.2.2.2.1 x.1.2.2.2.2.1).2)))) (Env.add 7 (FR (sc 0 [] tNil rNil) (sc 1 [0] (tAgg 0 0 ccNil ccNil_ok ccIv ccIv_ok tNil) (rG_surf 36 rNil)) (fun _ => true) ((fun _ => (((), Iv.whole 4, ()), ((straightOf [1]).2, ()))))) (Env.add 8 (F1 cInt cIv Iv.point) (Env.add 9 (F1 cInt cIv Iv.whole) (Env.add 10 (F0 cIv Iv.none) (Env.add 11 (FS (sc 5 [0, 1, 2, 3, 4] (tAgg 0 0 ccNil ccNil_ok ccIv ccIv_ok (tCod 1 cIv (tCod 2 cIv (tCod 3 cCx (tCod 4 cInt tNil))))) (rL_surf rNil)) (cTwo cRay cBool) (fun _ => true) ((fun x => aimP x.1.2.1 x.2.1 x.1.2.2.1 x.1.2.2.2.1 x.1.2.2.2.2.1 x.1.2.2.2.2.2.1))) (Env.add 12 (F0 cBool true) (Env.add 13 (F3 cIv cIv cIv cV V.mk) Env.nil)))))))) Laws.nil 200 Try.f3 (((sc 0 [] tNil rNil).enc ((()), (()))).tmps.map Prod.snd) ((sc 0 [] tNil rNil).enc ((()), (()))).mem cBool.dec =
      .br (true) (.bind ((((), Iv.whole 4, ()), (straightOf [1]).2, ())) fun vy0 => .bind (Iv.point 0) fun viv1 => .bind (Iv.point 0) fun viv2 => .br (Ev.lenOk vy0.2.1) (.bind ((repC (scanOf vy0.1.2.1 vy0.2.1 viv1 viv2 4).1, (scanOf vy0.1.2.1 vy0.2.1 viv1 viv2 4).2)) fun vy3 => .br (true) (.bind ((((), Iv.whole 4, ()), (straightOf [1]).2, ())) fun vy4 => .bind (Iv.point 1) fun viv5 => .br (decide ((0 : Int) ≤ 0 ∧ 0 < (@Nat.cast Int _ vy4.2.1.length))) (.get (vy4.2.1[Int.toNat 0]?) fun vt6 => .bind (Iv.whole 9) fun viv7 => .bind (Iv.point 0) fun viv8 => .br (Ev.lenOk (vy4.2.1.set (Int.toNat 0) (Surf.mk vt6.stop vt6.bent vt6.curve vt6.conic vt6.a4 vt6.a6 vt6.at_ viv5 vt6.ratio))) (.bind ((repC (scanOf vy4.1.2.1 (vy4.2.1.set (Int.toNat 0) (Surf.mk vt6.stop vt6.bent vt6.curve vt6.conic vt6.a4 vt6.a6 vt6.at_ viv5 vt6.ratio)) viv7 viv8 2).1, (scanOf vy4.1.2.1 (vy4.2.1.set (Int.toNat 0) (Surf.mk vt6.stop vt6.bent vt6.curve vt6.conic vt6.a4 vt6.a6 vt6.at_ viv5 vt6.ratio)) viv7 viv8 2).2)) fun vy9 => .bind (Iv.point 0) fun viv10 => .bind (Iv.point 0) fun viv11 => .br (Ev.lenOk ([] : List Iv)) (.bind ((repC (scanOf (Iv.mk 0 0 false) [] viv10 viv11 2).1, (scanOf (Iv.mk 0 0 false) [] viv10 viv11 2).2)) fun vy12 => .br (true) (.bind ((((), Iv.whole 4, ()), (straightOf [1]).2, ())) fun vy13 => .bind (Iv.none) fun viv14 => .bind (Iv.point 0) fun viv15 => .br (Ev.lenOk vy13.2.1) (.bind ((repC (scanOf vy13.1.2.1 vy13.2.1 viv14 viv15 2).1, (scanOf vy13.1.2.1 vy13.2.1 viv14 viv15 2).2)) fun vy16 => .br (true) (.bind ((((), Iv.whole 4, ()), (straightOf [1]).2, ())) fun vy17 => .bind (Iv.point 0) fun viv18 => .bind (Iv.point 0) fun viv19 => .br (Ev.lenOk vy17.2.1) (.bind ((repC (scanOf vy17.1.2.1 vy17.2.1 viv18 viv19 17).1, (scanOf vy17.1.2.1 vy17.2.1 viv18 viv19 17).2)) fun vy20 => .br (true) (.bind ((((), Iv.whole 4, ()), (straightOf [1]).2, ())) fun vy21 => .bind (Iv.point 0) fun viv22 => .bind (Iv.point 0) fun viv23 => .br (Ev.lenOk vy21.2.1) (.bind ((repC (scanOf vy21.1.2.1 vy21.2.1 viv22 viv23 0).1, (scanOf vy21.1.2.1 vy21.2.1 viv22 viv23 0).2)) fun vy24 => .br (true) (.bind ((((), Iv.whole 4, ()), (straightOf [1]).2, ())) fun vy25 => .bind (Iv.whole 1) fun viv26 => .bind (Iv.whole 2) fun viv27 => .br (true) (.bind (aimP vy25.1.2.1 vy25.2.1 viv26 viv27 (4613937818241073152, 13835058055282163712) 4) fun vy28 => .br (true) (.bind ((((), Iv.whole 4, ()), (straightOf [1]).2, ())) fun vy29 => .bind (Iv.whole 1) fun viv30 => .bind (Iv.whole 2) fun viv31 => .br (true) (.bind (aimP vy29.1.2.1 vy29.2.1 viv30 viv31 (4602678819172646912, 0) 4) fun vy32 => .bind (Iv.whole 1) fun viv33 => .bind (Iv.whole 2) fun viv34 => .br (true) (.bind (aimP (Iv.mk 0 0 false) [] viv33 viv34 (4607182418800017408, 0) 4) fun vy35 => .bind (true) fun vb36 => .br (vb36) (.br (vy3.2 == 0) (.br (vy3.1.2.2.1 == 60) (.br (vy3.1.1 == 32) (.br (vy3.1.2.1 == 28) (.br (vy9.2 == 0) (.br (vy9.1.1 == 0) (.br (vy12.2 == 1) (.br (vy16.2 == 1) (.br (vy20.2 == 1) (.br (vy24.2 == 1) (.br (vy28.2) (.bind (Iv.whole 1) fun viv37 => .bind (Iv.whole 2) fun viv38 => .bind (Iv.point 0) fun viv39 => .bind (V.mk viv37 viv38 viv39) fun vv40 => .br (vy28.1.o.x.lo == vv40.x.lo && (vy28.1.o.x.hi == vv40.x.hi && vy28.1.o.x.no == vv40.x.no) && (vy28.1.o.y.lo == vv40.y.lo && (vy28.1.o.y.hi == vv40.y.hi && vy28.1.o.y.no == vv40.y.no) && (vy28.1.o.z.lo == vv40.z.lo && (vy28.1.o.z.hi == vv40.z.hi && vy28.1.o.z.no == vv40.z.no)))) (.br (decide (vy28.1.d.x.lo > 11000)) (.br (decide (vy28.1.d.x.hi < 20000)) (.br (decide (vy28.1.d.y.hi < -17000)) (.br (!vy32.2) (.ret (!vy35.2)) (.ret (false))) (.ret (false))) (.ret (false))) (.ret (false))) (.ret (false))) (.ret (false))) (.ret (false))) (.ret (false))) (.ret (false))) (.ret (false))) (.ret (false))) (.ret (false))) (.ret (false))) (.ret (false))) (.ret (false))) (.ret (false))) (.ret (false))) (.fail)) (.fail)) (.fail)) (.fail)) (.fail)) (.fail)) (.fail)) (.fail)) (.fail)) (.fail)) (.fail)) (.fail)) (.fail)) (.fail)) (.fail)) (.fail)) (.fail) := by kernel_rfl
theorem c_meniscuslaw23_PupilKnown : PlainS Try.prog 3 (sc 0 [] tNil rNil) cBool (fun _ => true) ((fun _ => true)) := by
  intro x h N w vs hM hv
  obtain ⟨⟨⟩, ⟨⟩⟩ := x
  refine calls_of_tree (n := 200) (EnvOK.add s_pupil_Scan (EnvOK.add s_meniscuslaw23_open (EnvOK.add s_iv_Point (EnvOK.add s_iv_Whole (EnvOK.add s_iv_None (EnvOK.add s_pupil_Aim (EnvOK.add s_meniscuslaw23_known (EnvOK.add s_vec_Of EnvOK.nil)))))))) Try.func3 hv (Nat.le_of_ble_eq_true (by kernel_rfl)) LFn.nil hM cBool ?_
  rw [t_meniscuslaw23_PupilKnown]
  decide +kernel
theorem s_meniscuslaw23_PupilKnown : Ev.Spec Try.prog 3 (FS (sc 0 [] tNil rNil) cBool (fun _ => true) ((fun _ => true))) := specS rfl (fun vs w => Try.call3 vs w) c_meniscuslaw23_PupilKnown

/-! meniscuslaw24.open -/
theorem t_meniscuslaw24_open  :
    evFnR Try.prog (Env.add 9 (F1 cInt cIv Iv.whole) (Env.add 26 (FR (sc 1 [0] (tSl 0 0 tNil) (rL_int rNil)) (sc 1 [0] (tAgg 0 0 ccNil ccNil_ok ccIv ccIv_ok tNil) (rG_surf 36 rNil)) (fun _ => true) ((fun x => (fun r : SysV => (((), r.1, ()), (r.2, ()))) (straightOf x.2.1)))) Env.nil)) Laws.nil 200 Try.f14 (((sc 0 [] tNil rNil).enc ((()), (()))).tmps.map Prod.snd) ((sc 0 [] tNil rNil).enc ((()), (()))).mem (sc 1 [0] (tAgg 0 0 ccNil ccNil_ok ccIv ccIv_ok tNil) (rG_surf 36 rNil)).ts (sc 1 [0] (tAgg 0 0 ccNil ccNil_ok ccIv ccIv_ok tNil) (rG_surf 36 rNil)).dec =
      .br (true) (.bind ((((), (straightOf [1]).1, ()), (straightOf [1]).2, ())) fun vy0 => .bind (Iv.whole 4) fun viv1 => .ret ((((), viv1, ()), vy0.2.1, ()))) (.fail) := by kernel_rfl
theorem c_meniscuslaw24_open : PlainR Try.prog 14 (sc 0 [] tNil rNil) (sc 1 [0] (tAgg 0 0 ccNil ccNil_ok ccIv ccIv_ok tNil) (rG_surf 36 rNil)) (fun _ => true) ((fun _ => (((), Iv.whole 4, ()), ((straightOf [1]).2, ())))) := by
  intro x h N w vs hM hv
  obtain ⟨⟨⟩, ⟨⟩⟩ := x
  refine calls_of_treeR (n := 200) (EnvOK.add s_iv_Whole (EnvOK.add s_meniscushand_Straight EnvOK.nil)) Try.func14 hv (Nat.le_of_ble_eq_true (by kernel_rfl)) LFn.nil hM (sc 1 [0] (tAgg 0 0 ccNil ccNil_ok ccIv ccIv_ok tNil) (rG_surf 36 rNil)) rfl ?_
  rw [t_meniscuslaw24_open]
  rfl
theorem s_meniscuslaw24_open : Ev.Spec Try.prog 14 (FR (sc 0 [] tNil rNil) (sc 1 [0] (tAgg 0 0 ccNil ccNil_ok ccIv ccIv_ok tNil) (rG_surf 36 rNil)) (fun _ => true) ((fun _ => (((), Iv.whole 4, ()), ((straightOf [1]).2, ()))))) := specR rfl (fun _ => rfl) (fun vs w => Try.call14 vs w) c_meniscuslaw24_open

/-! meniscuslaw24.known -/
theorem t_meniscuslaw24_known  :
    evFn Try.prog (Env.add 14 (FR (sc 0 [] tNil rNil) (sc 1 [0] (tAgg 0 0 ccNil ccNil_ok ccIv ccIv_ok tNil) (rG_surf 36 rNil)) (fun _ => true) ((fun _ => (((), Iv.whole 4, ()), ((straightOf [1]).2, ()))))) (Env.add 15 (FR (sc 4 [0, 1, 2, 3] (tAgg 0 0 ccNil ccNil_ok ccIv ccIv_ok (tCod 1 cInt (tCod 2 cInt (tCod 3 cInt tNil)))) (rL_surf rNil)) (sc 2 [0, 1] (tSl 0 0 (tCod 1 cInt tNil)) (rG_row 50 rNil)) ((fun x => lenOk x.2.1)) ((fun x => (((tableOf x.1.2.1 x.2.1 x.1.2.2.1 x.1.2.2.2.1 x.1.2.2.2.2.1).2, ()), ((tableOf x.1.2.1 x.2.1 x.1.2.2.1 x.1.2.2.2.1 x.1.2.2.2.2.1).1.map rowVC, ()))))) (Env.add 27 (F2 cInt cInt cIv Iv.of) (Env.add 35 (F2 cIv cInt cBool Iv.has) Env.nil)))) Laws.nil 200 Try.f16 [] [] cBool.dec =
      .br (true) (.bind ((((), Iv.whole 4, ()), (straightOf [1]).2, ())) fun vy0 => .br (Ev.lenOk vy0.2.1) (.bind ((((tableOf vy0.1.2.1 vy0.2.1 65536 2 4).2, ()), List.map rowVC (tableOf vy0.1.2.1 vy0.2.1 65536 2 4).1, ())) fun vy1 => .br (vy1.1.1 == 0) (.br ((@Nat.cast Int _ vy1.2.1.length) == 2) (.br (decide ((0 : Int) ≤ 0 ∧ 0 < (@Nat.cast Int _ vy1.2.1.length))) (.get (vy1.2.1[Int.toNat 0]?) fun vt2 => .br (vt2.2.1.hi == 65536) (.br (decide ((0 : Int) ≤ 1 ∧ 1 < (@Nat.cast Int _ vy1.2.1.length))) (.get (vy1.2.1[Int.toNat 1]?) fun vt3 => .bind (Iv.of 65536 131072) fun viv4 => .br (vt3.1.lo == viv4.lo && (vt3.1.hi == viv4.hi && vt3.1.no == viv4.no)) (.br (decide ((0 : Int) ≤ 0 ∧ 0 < (@Nat.cast Int _ vy1.2.1.length))) (.get (vy1.2.1[Int.toNat 0]?) fun vt5 => .bind (vt5.2.1.has 34952) fun vb6 => .ret (vb6)) (.fail)) (.ret (false))) (.fail)) (.ret (false))) (.fail)) (.ret (false))) (.ret (false))) (.fail)) (.fail) := by kernel_rfl
theorem c_meniscuslaw24_known  : Plain Try.prog 16 [] (cBool.enc (true)) :=
  plain_of_tree (n := 200) (EnvOK.add s_meniscuslaw24_open (EnvOK.add s_vignette_Table (EnvOK.add s_iv_Of (EnvOK.add s_iv_Has EnvOK.nil)))) Try.func16 (args := []) rfl (Nat.le_of_ble_eq_true (by kernel_rfl)) LFn.nil cBool (by
    rw [t_meniscuslaw24_known]
    decide +kernel)
theorem s_meniscuslaw24_known : Ev.Spec Try.prog 16 (F0 cBool true) := spec0 (fun vs w => Try.call16 vs w) c_meniscuslaw24_known

/-! meniscuslaw24.VignetteKnown -/
theorem t_meniscuslaw24_VignetteKnown  :
    evFn Try.prog (Env.add 8 (F1 cInt cIv Iv.point) (Env.add 14 (FR (sc 0 [] tNil rNil) (sc 1 [0] (tAgg 0 0 ccNil ccNil_ok ccIv ccIv_ok tNil) (rG_surf 36 rNil)) (fun _ => true) ((fun _ => (((), Iv.whole 4, ()), ((straightOf [1]).2, ()))))) (Env.add 15 (FR (sc 4 [0, 1, 2, 3] (tAgg 0 0 ccNil ccNil_ok ccIv ccIv_ok (tCod 1 cInt (tCod 2 cInt (tCod 3 cInt tNil)))) (rL_surf rNil)) (sc 2 [0, 1] (tSl 0 0 (tCod 1 cInt tNil)) (rG_row 50 rNil)) ((fun x => lenOk x.2.1)) ((fun x => (((tableOf x.1.2.1 x.2.1 x.1.2.2.1 x.1.2.2.2.1 x.1.2.2.2.2.1).2, ()), ((tableOf x.1.2.1 x.2.1 x.1.2.2.1 x.1.2.2.2.1 x.1.2.2.2.2.1).1.map rowVC, ()))))) (Env.add 16 (F0 cBool true) Env.nil)))) Laws.nil 200 Try.f4 (((sc 0 [] tNil rNil).enc ((()), (()))).tmps.map Prod.snd) ((sc 0 [] tNil rNil).enc ((()), (()))).mem cBool.dec =
      .br (true) (.bind ((((), Iv.whole 4, ()), (straightOf [1]).2, ())) fun vy0 => .bind (Iv.point 1) fun viv1 => .br (decide ((0 : Int) ≤ 0 ∧ 0 < (@Nat.cast Int _ vy0.2.1.length))) (.get (vy0.2.1[Int.toNat 0]?) fun vt2 => .br (Ev.lenOk (vy0.2.1.set (Int.toNat 0) (Surf.mk vt2.stop vt2.bent vt2.curve vt2.conic vt2.a4 vt2.a6 vt2.at_ viv1 vt2.ratio))) (.bind ((((tableOf vy0.1.2.1 (vy0.2.1.set (Int.toNat 0) (Surf.mk vt2.stop vt2.bent vt2.curve vt2.conic vt2.a4 vt2.a6 vt2.at_ viv1 vt2.ratio)) 65536 1 4).2, ()), List.map rowVC (tableOf vy0.1.2.1 (vy0.2.1.set (Int.toNat 0) (Surf.mk vt2.stop vt2.bent vt2.curve vt2.conic vt2.a4 vt2.a6 vt2.at_ viv1 vt2.ratio)) 65536 1 4).1, ())) fun vy3 => .br (true) (.bind ((((), Iv.whole 4, ()), (straightOf [1]).2, ())) fun vy4 => .br (Ev.lenOk vy4.2.1) (.bind ((((tableOf vy4.1.2.1 vy4.2.1 0 1 4).2, ()), List.map rowVC (tableOf vy4.1.2.1 vy4.2.1 0 1 4).1, ())) fun vy5 => .br (true) (.bind ((((), Iv.whole 4, ()), (straightOf [1]).2, ())) fun vy6 => .br (Ev.lenOk vy6.2.1) (.bind ((((tableOf vy6.1.2.1 vy6.2.1 1048577 1 4).2, ()), List.map rowVC (tableOf vy6.1.2.1 vy6.2.1 1048577 1 4).1, ())) fun vy7 => .br (true) (.bind ((((), Iv.whole 4, ()), (straightOf [1]).2, ())) fun vy8 => .br (Ev.lenOk vy8.2.1) (.bind ((((tableOf vy8.1.2.1 vy8.2.1 1 0 4).2, ()), List.map rowVC (tableOf vy8.1.2.1 vy8.2.1 1 0 4).1, ())) fun vy9 => .br (true) (.bind ((((), Iv.whole 4, ()), (straightOf [1]).2, ())) fun vy10 => .br (Ev.lenOk vy10.2.1) (.bind ((((tableOf vy10.1.2.1 vy10.2.1 1 17 4).2, ()), List.map rowVC (tableOf vy10.1.2.1 vy10.2.1 1 17 4).1, ())) fun vy11 => .br (true) (.bind ((((), Iv.whole 4, ()), (straightOf [1]).2, ())) fun vy12 => .br (Ev.lenOk vy12.2.1) (.bind ((((tableOf vy12.1.2.1 vy12.2.1 1 1 0).2, ()), List.map rowVC (tableOf vy12.1.2.1 vy12.2.1 1 1 0).1, ())) fun vy13 => .br (Ev.lenOk ([] : List Iv)) (.bind ((((tableOf (Iv.mk 0 0 false) [] 1 1 4).2, ()), List.map rowVC (tableOf (Iv.mk 0 0 false) [] 1 1 4).1, ())) fun vy14 => .bind (true) fun vb15 => .br (vb15) (.br (vy3.1.1 == 0) (.br ((@Nat.cast Int _ vy3.2.1.length) == 1) (.br (decide ((0 : Int) ≤ 0 ∧ 0 < (@Nat.cast Int _ vy3.2.1.length))) (.get (vy3.2.1[Int.toNat 0]?) fun vt16 => .br (vt16.2.2.1 == 0) (.br (decide ((0 : Int) ≤ 0 ∧ 0 < (@Nat.cast Int _ vy3.2.1.length))) (.get (vy3.2.1[Int.toNat 0]?) fun vt17 => .br (vt17.2.1.lo == 0) (.br (vy5.1.1 == 1) (.br (vy7.1.1 == 1) (.br (vy9.1.1 == 1) (.br (vy11.1.1 == 1) (.br (vy13.1.1 == 1) (.ret (vy14.1.1 == 1)) (.ret (false))) (.ret (false))) (.ret (false))) (.ret (false))) (.ret (false))) (.ret (false))) (.fail)) (.ret (false))) (.fail)) (.ret (false))) (.ret (false))) (.ret (false))) (.fail)) (.fail)) (.fail)) (.fail)) (.fail)) (.fail)) (.fail)) (.fail)) (.fail)) (.fail)) (.fail)) (.fail)) (.fail)) (.fail) := by kernel_rfl
theorem c_meniscuslaw24_VignetteKnown : PlainS Try.prog 4 (sc 0 [] tNil rNil) cBool (fun _ => true) ((fun _ => true)) := by
  intro x h N w vs hM hv
  obtain ⟨⟨⟩, ⟨⟩⟩ := x
  refine calls_of_tree (n := 200) (EnvOK.add s_iv_Point (EnvOK.add s_meniscuslaw24_open (EnvOK.add s_vignette_Table (EnvOK.add s_meniscuslaw24_known EnvOK.nil)))) Try.func4 hv (Nat.le_of_ble_eq_true (by kernel_rfl)) LFn.nil hM cBool ?_
  rw [t_meniscuslaw24_VignetteKnown]
  decide +kernel
theorem s_meniscuslaw24_VignetteKnown : Ev.Spec Try.prog 4 (FS (sc 0 [] tNil rNil) cBool (fun _ => true) ((fun _ => true))) := specS rfl (fun vs w => Try.call4 vs w) c_meniscuslaw24_VignetteKnown

/-! meniscuslaw25.open -/
theorem t_meniscuslaw25_open  :
    evFnR Try.prog (Env.add 9 (F1 cInt cIv Iv.whole) (Env.add 26 (FR (sc 1 [0] (tSl 0 0 tNil) (rL_int rNil)) (sc 1 [0] (tAgg 0 0 ccNil ccNil_ok ccIv ccIv_ok tNil) (rG_surf 36 rNil)) (fun _ => true) ((fun x => (fun r : SysV => (((), r.1, ()), (r.2, ()))) (straightOf x.2.1)))) Env.nil)) Laws.nil 200 Try.f17 (((sc 0 [] tNil rNil).enc ((()), (()))).tmps.map Prod.snd) ((sc 0 [] tNil rNil).enc ((()), (()))).mem (sc 1 [0] (tAgg 0 0 ccNil ccNil_ok ccIv ccIv_ok tNil) (rG_surf 36 rNil)).ts (sc 1 [0] (tAgg 0 0 ccNil ccNil_ok ccIv ccIv_ok tNil) (rG_surf 36 rNil)).dec =
      .br (true) (.bind ((((), (straightOf [1]).1, ()), (straightOf [1]).2, ())) fun vy0 => .bind (Iv.whole 4) fun viv1 => .ret ((((), viv1, ()), vy0.2.1, ()))) (.fail) := by kernel_rfl
theorem c_meniscuslaw25_open : PlainR Try.prog 17 (sc 0 [] tNil rNil) (sc 1 [0] (tAgg 0 0 ccNil ccNil_ok ccIv ccIv_ok tNil) (rG_surf 36 rNil)) (fun _ => true) ((fun _ => (((), Iv.whole 4, ()), ((straightOf [1]).2, ())))) := by
  intro x h N w vs hM hv
  obtain ⟨⟨⟩, ⟨⟩⟩ := x
  refine calls_of_treeR (n := 200) (EnvOK.add s_iv_Whole (EnvOK.add s_meniscushand_Straight EnvOK.nil)) Try.func17 hv (Nat.le_of_ble_eq_true (by kernel_rfl)) LFn.nil hM (sc 1 [0] (tAgg 0 0 ccNil ccNil_ok ccIv ccIv_ok tNil) (rG_surf 36 rNil)) rfl ?_
  rw [t_meniscuslaw25_open]
  rfl
theorem s_meniscuslaw25_open : Ev.Spec Try.prog 17 (FR (sc 0 [] tNil rNil) (sc 1 [0] (tAgg 0 0 ccNil ccNil_ok ccIv ccIv_ok tNil) (rG_surf 36 rNil)) (fun _ => true) ((fun _ => (((), Iv.whole 4, ()), ((straightOf [1]).2, ()))))) := specR rfl (fun _ => rfl) (fun vs w => Try.call17 vs w) c_meniscuslaw25_open

/-! meniscuslaw25.known -/
theorem t_meniscuslaw25_known  :
    evFn Try.prog (Env.add 8 (F1 cInt cIv Iv.point) (Env.add 17 (FR (sc 0 [] tNil rNil) (sc 1 [0] (tAgg 0 0 ccNil ccNil_ok ccIv ccIv_ok tNil) (rG_surf 36 rNil)) (fun _ => true) ((fun _ => (((), Iv.whole 4, ()), ((straightOf [1]).2, ()))))) (Env.add 18 (FS (sc 5 [0, 1, 2, 3, 4] (tAgg 0 0 ccNil ccNil_ok ccIv ccIv_ok (tCod 1 cIv (tCod 2 cIv (tCod 3 cInt (tCod 4 cIv tNil))))) (rL_surf rNil)) (cTwo cSpot cInt) ((fun x => lenOk x.2.1)) ((fun x => spotOf x.1.2.1 x.2.1 x.1.2.2.1 x.1.2.2.2.1 x.1.2.2.2.2.1 x.1.2.2.2.2.2.1))) (Env.add 21 (F1 cIv cBool Iv.right) (Env.add 35 (F2 cIv cInt cBool Iv.has) Env.nil))))) Laws.nil 200 Try.f19 [] [] cBool.dec =
      .br (true) (.bind ((((), Iv.whole 4, ()), (straightOf [1]).2, ())) fun vy0 => .bind (Iv.point 0) fun viv1 => .bind (Iv.point 0) fun viv2 => .bind (Iv.point 0) fun viv3 => .br (Ev.lenOk vy0.2.1) (.bind (spotOf vy0.1.2.1 vy0.2.1 viv1 viv2 4 viv3) fun vy4 => .br (vy4.2 == 0) (.br (vy4.1.1 == 32) (.br (vy4.1.2.1 == 0) (.bind (vy4.1.2.2.1.has 0) fun vb5 => .br (vb5) (.bind (vy4.1.2.2.2.1.has 0) fun vb6 => .br (vb6) (.bind (vy4.1.2.2.2.2.right) fun vb7 => .ret (vb7)) (.ret (false))) (.ret (false))) (.ret (false))) (.ret (false))) (.ret (false))) (.fail)) (.fail) := by kernel_rfl
theorem c_meniscuslaw25_known  : Plain Try.prog 19 [] (cBool.enc (true)) :=
  plain_of_tree (n := 200) (EnvOK.add s_iv_Point (EnvOK.add s_meniscuslaw25_open (EnvOK.add s_spot_Of (EnvOK.add s_iv_Right (EnvOK.add s_iv_Has EnvOK.nil))))) Try.func19 (args := []) rfl (Nat.le_of_ble_eq_true (by kernel_rfl)) LFn.nil cBool (by
    rw [t_meniscuslaw25_known]
    decide +kernel)
theorem s_meniscuslaw25_known : Ev.Spec Try.prog 19 (F0 cBool true) := spec0 (fun vs w => Try.call19 vs w) c_meniscuslaw25_known

/-! meniscuslaw25.SpotKnown -/
theorem t_meniscuslaw25_SpotKnown  :
    evFn Try.prog (Env.add 8 (F1 cInt cIv Iv.point) (Env.add 9 (F1 cInt cIv Iv.whole) (Env.add 10 (F0 cIv Iv.none) (Env.add 17 (FR (sc 0 [] tNil rNil) (sc 1 [0] (tAgg 0 0 ccNil ccNil_ok ccIv ccIv_ok tNil) (rG_surf 36 rNil)) (fun _ => true) ((fun _ => (((), Iv.whole 4, ()), ((straightOf [1]).2, ()))))) (Env.add 18 (FS (sc 5 [0, 1, 2, 3, 4] (tAgg 0 0 ccNil ccNil_ok ccIv ccIv_ok (tCod 1 cIv (tCod 2 cIv (tCod 3 cInt (tCod 4 cIv tNil))))) (rL_surf rNil)) (cTwo cSpot cInt) ((fun x => lenOk x.2.1)) ((fun x => spotOf x.1.2.1 x.2.1 x.1.2.2.1 x.1.2.2.2.1 x.1.2.2.2.2.1 x.1.2.2.2.2.2.1))) (Env.add 19 (F0 cBool true) Env.nil)))))) Laws.nil 200 Try.f5 (((sc 0 [] tNil rNil).enc ((()), (()))).tmps.map Prod.snd) ((sc 0 [] tNil rNil).enc ((()), (()))).mem cBool.dec =
      .br (true) (.bind ((((), Iv.whole 4, ()), (straightOf [1]).2, ())) fun vy0 => .bind (Iv.point 1) fun viv1 => .br (decide ((0 : Int) ≤ 0 ∧ 0 < (@Nat.cast Int _ vy0.2.1.length))) (.get (vy0.2.1[Int.toNat 0]?) fun vt2 => .bind (Iv.whole 9) fun viv3 => .bind (Iv.point 0) fun viv4 => .bind (Iv.point 0) fun viv5 => .br (Ev.lenOk (vy0.2.1.set (Int.toNat 0) (Surf.mk vt2.stop vt2.bent vt2.curve vt2.conic vt2.a4 vt2.a6 vt2.at_ viv1 vt2.ratio))) (.bind (spotOf vy0.1.2.1 (vy0.2.1.set (Int.toNat 0) (Surf.mk vt2.stop vt2.bent vt2.curve vt2.conic vt2.a4 vt2.a6 vt2.at_ viv1 vt2.ratio)) viv3 viv4 4 viv5) fun vy6 => .bind (Iv.point 0) fun viv7 => .bind (Iv.point 0) fun viv8 => .bind (Iv.point 0) fun viv9 => .br (Ev.lenOk ([] : List Iv)) (.bind (spotOf (Iv.mk 0 0 false) [] viv7 viv8 4 viv9) fun vy10 => .br (true) (.bind ((((), Iv.whole 4, ()), (straightOf [1]).2, ())) fun vy11 => .bind (Iv.point 0) fun viv12 => .bind (Iv.none) fun viv13 => .bind (Iv.point 0) fun viv14 => .br (Ev.lenOk vy11.2.1) (.bind (spotOf vy11.1.2.1 vy11.2.1 viv12 viv13 4 viv14) fun vy15 => .br (true) (.bind ((((), Iv.whole 4, ()), (straightOf [1]).2, ())) fun vy16 => .bind (Iv.point 0) fun viv17 => .bind (Iv.point 0) fun viv18 => .bind (Iv.point 0) fun viv19 => .br (Ev.lenOk vy16.2.1) (.bind (spotOf vy16.1.2.1 vy16.2.1 viv17 viv18 0 viv19) fun vy20 => .br (true) (.bind ((((), Iv.whole 4, ()), (straightOf [1]).2, ())) fun vy21 => .bind (Iv.point 0) fun viv22 => .bind (Iv.point 0) fun viv23 => .bind (Iv.point 0) fun viv24 => .br (Ev.lenOk vy21.2.1) (.bind (spotOf vy21.1.2.1 vy21.2.1 viv22 viv23 1 viv24) fun vy25 => .br (true) (.bind ((((), Iv.whole 4, ()), (straightOf [1]).2, ())) fun vy26 => .bind (Iv.point 0) fun viv27 => .bind (Iv.point 0) fun viv28 => .bind (Iv.none) fun viv29 => .br (Ev.lenOk vy26.2.1) (.bind (spotOf vy26.1.2.1 vy26.2.1 viv27 viv28 4 viv29) fun vy30 => .bind (true) fun vb31 => .br (vb31) (.br (vy6.2 == 0) (.br (vy6.1.1 == 0) (.br (vy6.1.2.1 == 32) (.bind (Iv.none) fun viv32 => .br (vy6.1.2.2.1.lo == viv32.lo && (vy6.1.2.2.1.hi == viv32.hi && vy6.1.2.2.1.no == viv32.no)) (.bind (Iv.none) fun viv33 => .br (vy6.1.2.2.2.2.lo == viv33.lo && (vy6.1.2.2.2.2.hi == viv33.hi && vy6.1.2.2.2.2.no == viv33.no)) (.br (vy10.2 == 1) (.br (vy15.2 == 1) (.br (vy20.2 == 1) (.br (vy25.2 == 0) (.br (vy25.1.1 == 0) (.br (vy25.1.2.1 == 0) (.br (vy30.2 == 0) (.ret (vy30.1.2.1 == 32)) (.ret (false))) (.ret (false))) (.ret (false))) (.ret (false))) (.ret (false))) (.ret (false))) (.ret (false))) (.ret (false))) (.ret (false))) (.ret (false))) (.ret (false))) (.ret (false))) (.ret (false))) (.fail)) (.fail)) (.fail)) (.fail)) (.fail)) (.fail)) (.fail)) (.fail)) (.fail)) (.fail)) (.fail)) (.fail) := by kernel_rfl
theorem c_meniscuslaw25_SpotKnown : PlainS Try.prog 5 (sc 0 [] tNil rNil) cBool (fun _ => true) ((fun _ => true)) := by
  intro x h N w vs hM hv
  obtain ⟨⟨⟩, ⟨⟩⟩ := x
  refine calls_of_tree (n := 200) (EnvOK.add s_iv_Point (EnvOK.add s_iv_Whole (EnvOK.add s_iv_None (EnvOK.add s_meniscuslaw25_open (EnvOK.add s_spot_Of (EnvOK.add s_meniscuslaw25_known EnvOK.nil)))))) Try.func5 hv (Nat.le_of_ble_eq_true (by kernel_rfl)) LFn.nil hM cBool ?_
  rw [t_meniscuslaw25_SpotKnown]
  decide +kernel
theorem s_meniscuslaw25_SpotKnown : Ev.Spec Try.prog 5 (FS (sc 0 [] tNil rNil) cBool (fun _ => true) ((fun _ => true))) := specS rfl (fun vs w => Try.call5 vs w) c_meniscuslaw25_SpotKnown
end Go.Proofs.Ytliglpiofomelaa
