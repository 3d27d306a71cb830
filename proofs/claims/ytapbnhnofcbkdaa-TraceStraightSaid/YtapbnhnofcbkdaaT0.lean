/-
  Contracts of calls, written by a small program of this session out of the evaluator's trees.
-/
import Derived.Test.YtapbnhnofcbkdaaCore
import Derived.Test.YtapbnhnofcbkdaaCoreLoops
import Derived.Test.YtapbnhnofcbkdaaCore2
import Derived.Test.YtapbnhnofcbkdaaCore3
import Derived.Test.YtapbnhnofcbkdaaCore4
import Derived.Test.YtapbnhnofcbkdaaCore5
import Derived.Test.YtapbnhnofcbkdaaCore6
import Derived.Test.YtapbnhnofcbkdaaCore7
import Derived.Test.YtapbnhnofcbkdaaCore8
import Derived.Test.YtapbnhnofcbkdaaCore9
import Derived.Test.YtapbnhnofcbkdaaEvMore
import Derived.Test.YtapbnhnofcbkdaaStrC
import Derived.Test.YtapbnhnofcbkdaaR0
import Derived.Test.YtapbnhnofcbkdaaEvCod
import Derived.Test.YtapbnhnofcbkdaaEvRet
import Derived.Test.YtapbnhnofcbkdaaProg
namespace Go.Proofs.Ytapbnhnofcbkdaa
open Go Go.RowKit Ev
set_option maxRecDepth 100000
set_option linter.unusedVariables false
set_option linter.unusedSimpArgs false

/-! meniscushand.Straight -/
theorem tl_meniscushand_Straight_4 (t5 : Int) (t4 : Int) (r0 : List Int) (r1 : Iv) (r2 : Iv) (r3 : List Surf) (r4 : List Surf) :
    ev Try.prog (Env.add 5 (F2p cInt cInt cInt pickOk pick) (Env.add 14 (F1 cInt cIv Iv.whole) (Env.add 15 (F1 cInt cIv Iv.point) Env.nil))) Laws.nil 200 none (loopAt Try.f4 4) ((sc 48 [5, 4, 0, 3, 2] (tCod 5 cInt (tCod 4 cInt (tSl 0 0 (tOwn 3 1 (tOwn 2 2 tNil))))) (rL_int (rBoxSl 3 ccIv ccIv_ok (rBoxSl 4 ccIv ccIv_ok (rG_surf 44 (rL_surf rNil)))))).enc ((t5, t4, ()), (r0, r1, r2, r3, r4, ()))) (backK (sc 48 [5, 4, 0, 3, 2] (tCod 5 cInt (tCod 4 cInt (tSl 0 0 (tOwn 3 1 (tOwn 2 2 tNil))))) (rL_int (rBoxSl 3 ccIv ccIv_ok (rBoxSl 4 ccIv ccIv_ok (rG_surf 44 (rL_surf rNil)))))) (ocExit 0 (sc 48 [3, 2] (tOwn 3 0 (tOwn 2 1 tNil)) (rBoxSl 2 ccIv ccIv_ok (rBoxSl 3 ccIv ccIv_ok (rG_surf 44 (rL_surf rNil))))))) =
      .br (decide (t5 < (@Nat.cast Int _ r0.length))) (.br (decide (t5 < 4)) (.br (decide (0 ≤ t5 ∧ t5 < (@Nat.cast Int _ r0.length))) (.get (r0[t5.toNat]?) fun vt0 => .br (pickOk vt0 2) (.bind (pick vt0 2) fun vn1 => .bind (Iv.point 0) fun viv2 => .bind (Iv.point 65536) fun viv3 => .bind (Iv.point 0) fun viv4 => .bind (Iv.point 0) fun viv5 => .bind (Iv.point t4) fun viv6 => .bind (Iv.whole 100) fun viv7 => .bind (Iv.point 65536) fun viv8 => .br (Ev.lenOk (r3 ++ [Surf.mk (vn1 == 0) false viv2 viv3 viv4 viv5 viv6 viv7 viv8])) (.br (decide (0 ≤ t5 ∧ t5 < (@Nat.cast Int _ r0.length))) (.get (r0[t5.toNat]?) fun vt9 => .br (pickOk (IntKind.i64.wrap (Int.tdiv vt9 2)) 327680) (.bind (pick (IntKind.i64.wrap (Int.tdiv vt9 2)) 327680) fun vn10 => .ret (Sum.inl ((IntKind.i64.wrap (t5 + 1), IntKind.i64.wrap (IntKind.i64.wrap (t4 + 1) + vn10), ()), r0, r1, r2, r3 ++ [Surf.mk (vn1 == 0) false viv2 viv3 viv4 viv5 viv6 viv7 viv8], r4, ()))) (.fail)) (.fail)) (.fail)) (.fail)) (.fail)) (.ret (Sum.inr ((), r1, r2, r3, r4, ())))) (.ret (Sum.inr ((), r1, r2, r3, r4, ()))) := by kernel_rfl
theorem ok_meniscushand_Straight_4 : LOK Try.prog (LoopR.of (sc 48 [5, 4, 0, 3, 2] (tCod 5 cInt (tCod 4 cInt (tSl 0 0 (tOwn 3 1 (tOwn 2 2 tNil))))) (rL_int (rBoxSl 3 ccIv ccIv_ok (rBoxSl 4 ccIv ccIv_ok (rG_surf 44 (rL_surf rNil)))))) (ocExit 0 (sc 48 [3, 2] (tOwn 3 0 (tOwn 2 1 tNil)) (rBoxSl 2 ccIv ccIv_ok (rBoxSl 3 ccIv ccIv_ok (rG_surf 44 (rL_surf rNil)))))) (runBy straightStep straightM)) (loopAt Try.f4 4) := by
  refine loop_ok (EnvOK.add s_meniscushand_Pick (EnvOK.add s_meniscusref1_Whole (EnvOK.add s_meniscusref1_Point EnvOK.nil))) (LFn.at (fn := Try.f4) LFn.nil 4) straightStep (n := 200) (fun x z h => ?_) (runBy_ok _ _)
  obtain ⟨⟨t5, t4, ⟨⟩⟩, ⟨r0, r1, r2, r3, r4, ⟨⟩⟩⟩ := x
  rw [tl_meniscushand_Straight_4]
  by_cases h0 : t5 < (r0.length : Int) ∧ t5 < 4
  case neg =>
    rw [← h]
    simp only [straightStep, h0, if_false]
    simp only [den_br, den_bind, den_ret, den_fail, den_inl, den_inr, decide_eq_true_eq, gt_iff_lt, ge_iff_le, beq_iff_eq]
    by_cases c : t5 < (r0.length : Int) <;> by_cases d : t5 < 4 <;> simp only [c, d, if_true, if_false]
    exact absurd ⟨c, d⟩ h0
  by_cases h1 : 0 ≤ t5
  case neg => simp [straightStep, h0, h1] at h
  obtain ⟨v, hg⟩ : ∃ v, r0[t5.toNat]? = some v := ⟨_, List.getElem?_eq_getElem (by omega)⟩
  rw [← h]
  have pk2 : ∀ n : Int, pickOk n 2 = true := fun _ => by simp [pickOk]
  have pk327680 : ∀ n : Int, pickOk n 327680 = true := fun _ => by simp [pickOk]
  simp only [straightStep, airPlane, airNext, h0, h1, hg, and_self, if_true]
  simp only [den_br, den_bind, den_ret, den_fail, den_inl, den_inr, decide_eq_true_eq, gt_iff_lt, ge_iff_le, beq_iff_eq]
  simp only [h0.1, h0.2, h1, hg, and_self, true_and, decide_true, if_true, den_get, den_br, den_bind, den_ret, den_fail, dv_eq, pk2, pk327680]
  rfl
theorem t_meniscushand_Straight (r0 : List Int) :
    evFnR Try.prog (Env.add 5 (F2p cInt cInt cInt pickOk pick) (Env.add 14 (F1 cInt cIv Iv.whole) (Env.add 15 (F1 cInt cIv Iv.point) Env.nil))) (Laws.add 4 (LoopR.of (sc 48 [5, 4, 0, 3, 2] (tCod 5 cInt (tCod 4 cInt (tSl 0 0 (tOwn 3 1 (tOwn 2 2 tNil))))) (rL_int (rBoxSl 3 ccIv ccIv_ok (rBoxSl 4 ccIv ccIv_ok (rG_surf 44 (rL_surf rNil)))))) (ocExit 0 (sc 48 [3, 2] (tOwn 3 0 (tOwn 2 1 tNil)) (rBoxSl 2 ccIv ccIv_ok (rBoxSl 3 ccIv ccIv_ok (rG_surf 44 (rL_surf rNil)))))) (runBy straightStep straightM)) Laws.nil) 200 Try.f4 (((sc 1 [0] (tSl 0 0 tNil) (rL_int rNil)).enc ((()), (r0, ()))).tmps.map Prod.snd) ((sc 1 [0] (tSl 0 0 tNil) (rL_int rNil)).enc ((()), (r0, ()))).mem (sc 1 [0] (tAgg 0 0 ccNil ccNil_ok ccIv ccIv_ok tNil) (rG_surf 44 rNil)).ts (sc 1 [0] (tAgg 0 0 ccNil ccNil_ok ccIv ccIv_ok tNil) (rG_surf 44 rNil)).dec =
      .bind (Iv.whole 8) fun viv0 => .get (runBy straightStep straightM ((0, 655360, ()), r0, viv0, Iv.mk 0 0 false, [], [], ())) fun vy1 => .ret ((((), vy1.2.1, ()), vy1.2.2.2.1, ())) := by kernel_rfl
theorem c_meniscushand_Straight : PlainR Try.prog 4 (sc 1 [0] (tSl 0 0 tNil) (rL_int rNil)) (sc 1 [0] (tAgg 0 0 ccNil ccNil_ok ccIv ccIv_ok tNil) (rG_surf 44 rNil)) (fun _ => true) ((fun x => (fun r : SysV => (((), r.1, ()), (r.2, ()))) (straightOf x.2.1))) := by
  intro x h N w vs hM hv
  obtain ⟨⟨⟩, ⟨r0, ⟨⟩⟩⟩ := x
  refine calls_of_treeR (n := 200) (EnvOK.add s_meniscushand_Pick (EnvOK.add s_meniscusref1_Whole (EnvOK.add s_meniscusref1_Point EnvOK.nil))) Try.func4 hv (Nat.le_of_ble_eq_true (by kernel_rfl)) (LFn.add (fn := Try.f4) (i := 4) (by kernel_rfl) ok_meniscushand_Straight_4 LFn.nil) hM (sc 1 [0] (tAgg 0 0 ccNil ccNil_ok ccIv ccIv_ok tNil) (rG_surf 44 rNil)) rfl ?_
  rw [t_meniscushand_Straight]
  obtain ⟨y, hy, y1, y2⟩ := straight_total r0 (Iv.whole 8) ⟨0, 0, false⟩
  simp only [straightOf, hy]
  rw [show (⟨0, 0, false⟩ : Iv) = ⟨0, 0, false⟩ from rfl]
  simp only [den_bind, den_br, den_get, den_ret, hy]
theorem s_meniscushand_Straight : Ev.Spec Try.prog 4 (FR (sc 1 [0] (tSl 0 0 tNil) (rL_int rNil)) (sc 1 [0] (tAgg 0 0 ccNil ccNil_ok ccIv ccIv_ok tNil) (rG_surf 44 rNil)) (fun _ => true) ((fun x => (fun r : SysV => (((), r.1, ()), (r.2, ()))) (straightOf x.2.1)))) := specR rfl (fun _ => rfl) (fun vs w => Try.call4 vs w) c_meniscushand_Straight

/-! meniscuslaw19.axis -/
theorem t_meniscuslaw19_axis (x0 : Iv) :
    evFn Try.prog (Env.add 7 (F3 cIv cIv cIv cV V.mk) (Env.add 8 (F1 cInt cIv Iv.whole) (Env.add 9 (F1 cInt cIv Iv.point) Env.nil))) Laws.nil 200 Try.f24 [cIv.av x0] [] cRay.dec =
      .bind (Iv.point 0) fun viv0 => .bind (Iv.point 0) fun viv1 => .bind (V.mk x0 viv0 viv1) fun vv2 => .bind (Iv.point 0) fun viv3 => .bind (Iv.point 0) fun viv4 => .bind (Iv.whole 1) fun viv5 => .bind (V.mk viv3 viv4 viv5) fun vv6 => .ret (Ray.mk vv2 vv6) := by kernel_rfl
theorem c_meniscuslaw19_axis (x0 : Iv) : Plain Try.prog 24 [cIv.enc x0] (cRay.enc (axisAt x0)) :=
  plain_of_tree (n := 200) (EnvOK.add s_vec_Of (EnvOK.add s_iv_Whole (EnvOK.add s_iv_Point EnvOK.nil))) Try.func24 (args := [cIv.av x0]) (by simp only [AV.vals, Cod.av_val]) (Nat.le_of_ble_eq_true (by kernel_rfl)) LFn.nil cRay (by
    rw [t_meniscuslaw19_axis]
    rfl)
theorem s_meniscuslaw19_axis : Ev.Spec Try.prog 24 (F1 cIv cRay axisAt) := spec1 (fun vs w => Try.call24 vs w) c_meniscuslaw19_axis

/-! meniscuslaw19.known -/
theorem t_meniscuslaw19_known  :
    evFn Try.prog (Env.add 4 (FR (sc 1 [0] (tSl 0 0 tNil) (rL_int rNil)) (sc 1 [0] (tAgg 0 0 ccNil ccNil_ok ccIv ccIv_ok tNil) (rG_surf 44 rNil)) (fun _ => true) ((fun x => (fun r : SysV => (((), r.1, ()), (r.2, ()))) (straightOf x.2.1)))) (Env.add 8 (F1 cInt cIv Iv.whole) (Env.add 21 (FS (sc 2 [0, 1] (tAgg 0 0 ccNil ccNil_ok ccIv ccIv_ok (tCod 1 cRay tNil)) (rL_surf rNil)) cRes ((fun x => lenOk x.2.1)) ((fun x => traceOf x.2.1 x.1.2.2.1))) (Env.add 24 (F1 cIv cRay axisAt) Env.nil)))) Laws.nil 200 Try.f11 [] [] cBool.dec =
      .bind (Iv.whole 1) fun viv0 => .bind (axisAt viv0) fun vra1 => .br (Ev.lenOk ([] : List Iv)) (.bind (traceOf [] vra1) fun vre2 => .br (true) (.bind ((((), (straightOf [0]).1, ()), (straightOf [0]).2, ())) fun vy3 => .bind (Iv.whole 1) fun viv4 => .bind (axisAt viv4) fun vra5 => .br (Ev.lenOk vy3.2.1) (.bind (traceOf vy3.2.1 vra5) fun vre6 => .br (vre2.1 == 1) (.br (vre2.2.1 == 0) (.bind (Iv.whole 1) fun viv7 => .bind (axisAt viv7) fun vra8 => .br (vre2.2.2.o.x.lo == vra8.o.x.lo && (vre2.2.2.o.x.hi == vra8.o.x.hi && vre2.2.2.o.x.no == vra8.o.x.no) && (vre2.2.2.o.y.lo == vra8.o.y.lo && (vre2.2.2.o.y.hi == vra8.o.y.hi && vre2.2.2.o.y.no == vra8.o.y.no) && (vre2.2.2.o.z.lo == vra8.o.z.lo && (vre2.2.2.o.z.hi == vra8.o.z.hi && vre2.2.2.o.z.no == vra8.o.z.no))) && (vre2.2.2.d.x.lo == vra8.d.x.lo && (vre2.2.2.d.x.hi == vra8.d.x.hi && vre2.2.2.d.x.no == vra8.d.x.no) && (vre2.2.2.d.y.lo == vra8.d.y.lo && (vre2.2.2.d.y.hi == vra8.d.y.hi && vre2.2.2.d.y.no == vra8.d.y.no) && (vre2.2.2.d.z.lo == vra8.d.z.lo && (vre2.2.2.d.z.hi == vra8.d.z.hi && vre2.2.2.d.z.no == vra8.d.z.no))))) (.br (vre6.1 == 1) (.br (vre6.2.1 == 1) (.bind (Iv.whole 10) fun viv9 => .ret (vre6.2.2.o.z.lo == viv9.lo && (vre6.2.2.o.z.hi == viv9.hi && vre6.2.2.o.z.no == viv9.no))) (.ret (false))) (.ret (false))) (.ret (false))) (.ret (false))) (.ret (false))) (.fail)) (.fail)) (.fail) := by kernel_rfl
theorem c_meniscuslaw19_known  : Plain Try.prog 11 [] (cBool.enc (true)) :=
  plain_of_tree (n := 200) (EnvOK.add s_meniscushand_Straight (EnvOK.add s_iv_Whole (EnvOK.add s_trace_Trace (EnvOK.add s_meniscuslaw19_axis EnvOK.nil)))) Try.func11 (args := []) rfl (Nat.le_of_ble_eq_true (by kernel_rfl)) LFn.nil cBool (by
    rw [t_meniscuslaw19_known]
    decide +kernel)
theorem s_meniscuslaw19_known : Ev.Spec Try.prog 11 (F0 cBool true) := spec0 (fun vs w => Try.call11 vs w) c_meniscuslaw19_known

/-! meniscuslaw19.TraceStraight -/
theorem t_meniscuslaw19_TraceStraight (t1 : Int) (t2 : Int) (t3 : Int) (t4 : Int) (t5 : Int) (t6 : Bool) (r0 : List Int) :
    evFn Try.prog (Env.add 4 (FR (sc 1 [0] (tSl 0 0 tNil) (rL_int rNil)) (sc 1 [0] (tAgg 0 0 ccNil ccNil_ok ccIv ccIv_ok tNil) (rG_surf 44 rNil)) (fun _ => true) ((fun x => (fun r : SysV => (((), r.1, ()), (r.2, ()))) (straightOf x.2.1)))) (Env.add 5 (F2p cInt cInt cInt pickOk pick) (Env.add 6 (F1 cV cV V.unit) (Env.add 7 (F3 cIv cIv cIv cV V.mk) (Env.add 8 (F1 cInt cIv Iv.whole) (Env.add 9 (F1 cInt cIv Iv.point) (Env.add 10 (FS (sc 3 [0, 1, 2] (tAgg 0 0 ccNil ccNil_ok ccIv ccIv_ok (tCod 1 cRay (tCod 2 cIv tNil))) (rL_surf rNil)) (cThree cIv cIv cInt) ((fun x => lenOk x.2.1)) ((fun x => throughOf x.2.1 x.1.2.2.1 x.1.2.2.2.1))) (Env.add 11 (F0 cBool true) (Env.add 12 (F1 cIv cBool Iv.right) (Env.add 13 (F0 cIv Iv.none) Env.nil)))))))))) Laws.nil 200 Try.f3 (((sc 7 [0, 1, 2, 3, 4, 5, 6] (tSl 0 0 (tCod 1 cInt (tCod 2 cInt (tCod 3 cInt (tCod 4 cInt (tCod 5 cInt (tCod 6 cBool tNil))))))) (rL_int rNil)).enc ((t1, t2, t3, t4, t5, t6, ()), (r0, ()))).tmps.map Prod.snd) ((sc 7 [0, 1, 2, 3, 4, 5, 6] (tSl 0 0 (tCod 1 cInt (tCod 2 cInt (tCod 3 cInt (tCod 4 cInt (tCod 5 cInt (tCod 6 cBool tNil))))))) (rL_int rNil)).enc ((t1, t2, t3, t4, t5, t6, ()), (r0, ()))).mem cBool.dec =
      .br (true) (.bind ((((), (straightOf r0).1, ()), (straightOf r0).2, ())) fun vy0 => .br (pickOk t3 2) (.bind (pick t3 2) fun vn1 => .br (pickOk t4 (IntKind.i64.wrap (IntKind.i64.wrap (2 + vn1) - 1))) (.bind (pick t4 (IntKind.i64.wrap (IntKind.i64.wrap (2 + vn1) - 1))) fun vn2 => .br (pickOk t1 5) (.bind (pick t1 5) fun vn3 => .br (pickOk t2 5) (.bind (pick t2 5) fun vn4 => .br (pickOk t5 60) (.bind (pick t5 60) fun vn5 => .bind (Iv.whole (IntKind.i64.wrap (IntKind.i64.wrap (IntKind.i64.wrap (2 + vn1) * IntKind.i64.wrap (2 + vn1)) - IntKind.i64.wrap (IntKind.i64.wrap (1 + vn2) * IntKind.i64.wrap (1 + vn2))))) fun viv6 => .bind (Iv.point 0) fun viv7 => .bind (Iv.whole (IntKind.i64.wrap (4 * IntKind.i64.wrap (IntKind.i64.wrap (2 * IntKind.i64.wrap (2 + vn1)) * IntKind.i64.wrap (1 + vn2))))) fun viv8 => .bind (V.mk viv6 viv7 viv8) fun vv9 => .bind (vv9.unit) fun vv10 => .br (t6) (.bind (Iv.point 0) fun viv11 => .bind (Iv.whole (IntKind.i64.wrap (IntKind.i64.wrap (IntKind.i64.wrap (2 + vn1) * IntKind.i64.wrap (2 + vn1)) - IntKind.i64.wrap (IntKind.i64.wrap (1 + vn2) * IntKind.i64.wrap (1 + vn2))))) fun viv12 => .bind (Iv.whole (IntKind.i64.wrap (4 * IntKind.i64.wrap (IntKind.i64.wrap (2 * IntKind.i64.wrap (2 + vn1)) * IntKind.i64.wrap (1 + vn2))))) fun viv13 => .bind (V.mk viv11 viv12 viv13) fun vv14 => .bind (vv14.unit) fun vv15 => .bind (Iv.whole (IntKind.i64.wrap (vn3 - 2))) fun viv16 => .bind (Iv.whole (IntKind.i64.wrap (vn4 - 2))) fun viv17 => .bind (Iv.point 0) fun viv18 => .bind (V.mk viv16 viv17 viv18) fun vv19 => .bind (Iv.whole (IntKind.i64.wrap (1 + vn5))) fun viv20 => .br (Ev.lenOk vy0.2.1) (.bind (throughOf vy0.2.1 (Ray.mk vv19 vv15) viv20) fun vy21 => .bind (true) fun vb22 => .br (!vb22) (.ret (false)) (.br (vy21.2.2 == 1) (.bind (vy21.1.right) fun vb23 => .br (!vb23) (.ret (false)) (.bind (vy21.2.1.right) fun vb24 => .br (!vb24) (.ret (false)) (.br (vy21.2.2 != 1) (.bind (Iv.none) fun viv25 => .br (vy21.1.lo == viv25.lo && (vy21.1.hi == viv25.hi && vy21.1.no == viv25.no)) (.bind (Iv.none) fun viv26 => .ret (vy21.2.1.lo == viv26.lo && (vy21.2.1.hi == viv26.hi && vy21.2.1.no == viv26.no))) (.ret (false))) (.br (t6) (.br (decide (IntKind.i64.wrap (IntKind.i64.wrap (vy21.1.lo * 4) * IntKind.i64.wrap (IntKind.i64.wrap (2 * IntKind.i64.wrap (2 + vn1)) * IntKind.i64.wrap (1 + vn2))) ≤ IntKind.i64.wrap (IntKind.i64.wrap (IntKind.i64.wrap (IntKind.i64.wrap (vn3 - 2) * 4) * IntKind.i64.wrap (IntKind.i64.wrap (2 * IntKind.i64.wrap (2 + vn1)) * IntKind.i64.wrap (1 + vn2))) * 65536))) (.br (decide (IntKind.i64.wrap (IntKind.i64.wrap (vy21.1.hi * 4) * IntKind.i64.wrap (IntKind.i64.wrap (2 * IntKind.i64.wrap (2 + vn1)) * IntKind.i64.wrap (1 + vn2))) ≥ IntKind.i64.wrap (IntKind.i64.wrap (IntKind.i64.wrap (IntKind.i64.wrap (vn3 - 2) * 4) * IntKind.i64.wrap (IntKind.i64.wrap (2 * IntKind.i64.wrap (2 + vn1)) * IntKind.i64.wrap (1 + vn2))) * 65536))) (.br (decide (IntKind.i64.wrap (IntKind.i64.wrap (vy21.2.1.lo * 4) * IntKind.i64.wrap (IntKind.i64.wrap (2 * IntKind.i64.wrap (2 + vn1)) * IntKind.i64.wrap (1 + vn2))) ≤ IntKind.i64.wrap (IntKind.i64.wrap (IntKind.i64.wrap (IntKind.i64.wrap (IntKind.i64.wrap (vn4 - 2) * 4) * IntKind.i64.wrap (IntKind.i64.wrap (2 * IntKind.i64.wrap (2 + vn1)) * IntKind.i64.wrap (1 + vn2))) + IntKind.i64.wrap (IntKind.i64.wrap (IntKind.i64.wrap (IntKind.i64.wrap (2 + vn1) * IntKind.i64.wrap (2 + vn1)) - IntKind.i64.wrap (IntKind.i64.wrap (1 + vn2) * IntKind.i64.wrap (1 + vn2))) * IntKind.i64.wrap (1 + vn5))) * 65536))) (.ret (decide (IntKind.i64.wrap (IntKind.i64.wrap (vy21.2.1.hi * 4) * IntKind.i64.wrap (IntKind.i64.wrap (2 * IntKind.i64.wrap (2 + vn1)) * IntKind.i64.wrap (1 + vn2))) ≥ IntKind.i64.wrap (IntKind.i64.wrap (IntKind.i64.wrap (IntKind.i64.wrap (IntKind.i64.wrap (vn4 - 2) * 4) * IntKind.i64.wrap (IntKind.i64.wrap (2 * IntKind.i64.wrap (2 + vn1)) * IntKind.i64.wrap (1 + vn2))) + IntKind.i64.wrap (IntKind.i64.wrap (IntKind.i64.wrap (IntKind.i64.wrap (2 + vn1) * IntKind.i64.wrap (2 + vn1)) - IntKind.i64.wrap (IntKind.i64.wrap (1 + vn2) * IntKind.i64.wrap (1 + vn2))) * IntKind.i64.wrap (1 + vn5))) * 65536)))) (.ret (false))) (.ret (false))) (.ret (false))) (.br (decide (IntKind.i64.wrap (IntKind.i64.wrap (vy21.1.lo * 4) * IntKind.i64.wrap (IntKind.i64.wrap (2 * IntKind.i64.wrap (2 + vn1)) * IntKind.i64.wrap (1 + vn2))) ≤ IntKind.i64.wrap (IntKind.i64.wrap (IntKind.i64.wrap (IntKind.i64.wrap (IntKind.i64.wrap (vn3 - 2) * 4) * IntKind.i64.wrap (IntKind.i64.wrap (2 * IntKind.i64.wrap (2 + vn1)) * IntKind.i64.wrap (1 + vn2))) + IntKind.i64.wrap (IntKind.i64.wrap (IntKind.i64.wrap (IntKind.i64.wrap (2 + vn1) * IntKind.i64.wrap (2 + vn1)) - IntKind.i64.wrap (IntKind.i64.wrap (1 + vn2) * IntKind.i64.wrap (1 + vn2))) * IntKind.i64.wrap (1 + vn5))) * 65536))) (.br (decide (IntKind.i64.wrap (IntKind.i64.wrap (vy21.1.hi * 4) * IntKind.i64.wrap (IntKind.i64.wrap (2 * IntKind.i64.wrap (2 + vn1)) * IntKind.i64.wrap (1 + vn2))) ≥ IntKind.i64.wrap (IntKind.i64.wrap (IntKind.i64.wrap (IntKind.i64.wrap (IntKind.i64.wrap (vn3 - 2) * 4) * IntKind.i64.wrap (IntKind.i64.wrap (2 * IntKind.i64.wrap (2 + vn1)) * IntKind.i64.wrap (1 + vn2))) + IntKind.i64.wrap (IntKind.i64.wrap (IntKind.i64.wrap (IntKind.i64.wrap (2 + vn1) * IntKind.i64.wrap (2 + vn1)) - IntKind.i64.wrap (IntKind.i64.wrap (1 + vn2) * IntKind.i64.wrap (1 + vn2))) * IntKind.i64.wrap (1 + vn5))) * 65536))) (.br (decide (IntKind.i64.wrap (IntKind.i64.wrap (vy21.2.1.lo * 4) * IntKind.i64.wrap (IntKind.i64.wrap (2 * IntKind.i64.wrap (2 + vn1)) * IntKind.i64.wrap (1 + vn2))) ≤ IntKind.i64.wrap (IntKind.i64.wrap (IntKind.i64.wrap (IntKind.i64.wrap (vn4 - 2) * 4) * IntKind.i64.wrap (IntKind.i64.wrap (2 * IntKind.i64.wrap (2 + vn1)) * IntKind.i64.wrap (1 + vn2))) * 65536))) (.ret (decide (IntKind.i64.wrap (IntKind.i64.wrap (vy21.2.1.hi * 4) * IntKind.i64.wrap (IntKind.i64.wrap (2 * IntKind.i64.wrap (2 + vn1)) * IntKind.i64.wrap (1 + vn2))) ≥ IntKind.i64.wrap (IntKind.i64.wrap (IntKind.i64.wrap (IntKind.i64.wrap (vn4 - 2) * 4) * IntKind.i64.wrap (IntKind.i64.wrap (2 * IntKind.i64.wrap (2 + vn1)) * IntKind.i64.wrap (1 + vn2))) * 65536)))) (.ret (false))) (.ret (false))) (.ret (false))))))) (.br (vy21.2.2 != 1) (.bind (Iv.none) fun viv27 => .br (vy21.1.lo == viv27.lo && (vy21.1.hi == viv27.hi && vy21.1.no == viv27.no)) (.bind (Iv.none) fun viv28 => .ret (vy21.2.1.lo == viv28.lo && (vy21.2.1.hi == viv28.hi && vy21.2.1.no == viv28.no))) (.ret (false))) (.br (t6) (.br (decide (IntKind.i64.wrap (IntKind.i64.wrap (vy21.1.lo * 4) * IntKind.i64.wrap (IntKind.i64.wrap (2 * IntKind.i64.wrap (2 + vn1)) * IntKind.i64.wrap (1 + vn2))) ≤ IntKind.i64.wrap (IntKind.i64.wrap (IntKind.i64.wrap (IntKind.i64.wrap (vn3 - 2) * 4) * IntKind.i64.wrap (IntKind.i64.wrap (2 * IntKind.i64.wrap (2 + vn1)) * IntKind.i64.wrap (1 + vn2))) * 65536))) (.br (decide (IntKind.i64.wrap (IntKind.i64.wrap (vy21.1.hi * 4) * IntKind.i64.wrap (IntKind.i64.wrap (2 * IntKind.i64.wrap (2 + vn1)) * IntKind.i64.wrap (1 + vn2))) ≥ IntKind.i64.wrap (IntKind.i64.wrap (IntKind.i64.wrap (IntKind.i64.wrap (vn3 - 2) * 4) * IntKind.i64.wrap (IntKind.i64.wrap (2 * IntKind.i64.wrap (2 + vn1)) * IntKind.i64.wrap (1 + vn2))) * 65536))) (.br (decide (IntKind.i64.wrap (IntKind.i64.wrap (vy21.2.1.lo * 4) * IntKind.i64.wrap (IntKind.i64.wrap (2 * IntKind.i64.wrap (2 + vn1)) * IntKind.i64.wrap (1 + vn2))) ≤ IntKind.i64.wrap (IntKind.i64.wrap (IntKind.i64.wrap (IntKind.i64.wrap (IntKind.i64.wrap (vn4 - 2) * 4) * IntKind.i64.wrap (IntKind.i64.wrap (2 * IntKind.i64.wrap (2 + vn1)) * IntKind.i64.wrap (1 + vn2))) + IntKind.i64.wrap (IntKind.i64.wrap (IntKind.i64.wrap (IntKind.i64.wrap (2 + vn1) * IntKind.i64.wrap (2 + vn1)) - IntKind.i64.wrap (IntKind.i64.wrap (1 + vn2) * IntKind.i64.wrap (1 + vn2))) * IntKind.i64.wrap (1 + vn5))) * 65536))) (.ret (decide (IntKind.i64.wrap (IntKind.i64.wrap (vy21.2.1.hi * 4) * IntKind.i64.wrap (IntKind.i64.wrap (2 * IntKind.i64.wrap (2 + vn1)) * IntKind.i64.wrap (1 + vn2))) ≥ IntKind.i64.wrap (IntKind.i64.wrap (IntKind.i64.wrap (IntKind.i64.wrap (IntKind.i64.wrap (vn4 - 2) * 4) * IntKind.i64.wrap (IntKind.i64.wrap (2 * IntKind.i64.wrap (2 + vn1)) * IntKind.i64.wrap (1 + vn2))) + IntKind.i64.wrap (IntKind.i64.wrap (IntKind.i64.wrap (IntKind.i64.wrap (2 + vn1) * IntKind.i64.wrap (2 + vn1)) - IntKind.i64.wrap (IntKind.i64.wrap (1 + vn2) * IntKind.i64.wrap (1 + vn2))) * IntKind.i64.wrap (1 + vn5))) * 65536)))) (.ret (false))) (.ret (false))) (.ret (false))) (.br (decide (IntKind.i64.wrap (IntKind.i64.wrap (vy21.1.lo * 4) * IntKind.i64.wrap (IntKind.i64.wrap (2 * IntKind.i64.wrap (2 + vn1)) * IntKind.i64.wrap (1 + vn2))) ≤ IntKind.i64.wrap (IntKind.i64.wrap (IntKind.i64.wrap (IntKind.i64.wrap (IntKind.i64.wrap (vn3 - 2) * 4) * IntKind.i64.wrap (IntKind.i64.wrap (2 * IntKind.i64.wrap (2 + vn1)) * IntKind.i64.wrap (1 + vn2))) + IntKind.i64.wrap (IntKind.i64.wrap (IntKind.i64.wrap (IntKind.i64.wrap (2 + vn1) * IntKind.i64.wrap (2 + vn1)) - IntKind.i64.wrap (IntKind.i64.wrap (1 + vn2) * IntKind.i64.wrap (1 + vn2))) * IntKind.i64.wrap (1 + vn5))) * 65536))) (.br (decide (IntKind.i64.wrap (IntKind.i64.wrap (vy21.1.hi * 4) * IntKind.i64.wrap (IntKind.i64.wrap (2 * IntKind.i64.wrap (2 + vn1)) * IntKind.i64.wrap (1 + vn2))) ≥ IntKind.i64.wrap (IntKind.i64.wrap (IntKind.i64.wrap (IntKind.i64.wrap (IntKind.i64.wrap (vn3 - 2) * 4) * IntKind.i64.wrap (IntKind.i64.wrap (2 * IntKind.i64.wrap (2 + vn1)) * IntKind.i64.wrap (1 + vn2))) + IntKind.i64.wrap (IntKind.i64.wrap (IntKind.i64.wrap (IntKind.i64.wrap (2 + vn1) * IntKind.i64.wrap (2 + vn1)) - IntKind.i64.wrap (IntKind.i64.wrap (1 + vn2) * IntKind.i64.wrap (1 + vn2))) * IntKind.i64.wrap (1 + vn5))) * 65536))) (.br (decide (IntKind.i64.wrap (IntKind.i64.wrap (vy21.2.1.lo * 4) * IntKind.i64.wrap (IntKind.i64.wrap (2 * IntKind.i64.wrap (2 + vn1)) * IntKind.i64.wrap (1 + vn2))) ≤ IntKind.i64.wrap (IntKind.i64.wrap (IntKind.i64.wrap (IntKind.i64.wrap (vn4 - 2) * 4) * IntKind.i64.wrap (IntKind.i64.wrap (2 * IntKind.i64.wrap (2 + vn1)) * IntKind.i64.wrap (1 + vn2))) * 65536))) (.ret (decide (IntKind.i64.wrap (IntKind.i64.wrap (vy21.2.1.hi * 4) * IntKind.i64.wrap (IntKind.i64.wrap (2 * IntKind.i64.wrap (2 + vn1)) * IntKind.i64.wrap (1 + vn2))) ≥ IntKind.i64.wrap (IntKind.i64.wrap (IntKind.i64.wrap (IntKind.i64.wrap (vn4 - 2) * 4) * IntKind.i64.wrap (IntKind.i64.wrap (2 * IntKind.i64.wrap (2 + vn1)) * IntKind.i64.wrap (1 + vn2))) * 65536)))) (.ret (false))) (.ret (false))) (.ret (false))))))) (.fail)) (.bind (Iv.whole (IntKind.i64.wrap (vn3 - 2))) fun viv29 => .bind (Iv.whole (IntKind.i64.wrap (vn4 - 2))) fun viv30 => .bind (Iv.point 0) fun viv31 => .bind (V.mk viv29 viv30 viv31) fun vv32 => .bind (Iv.whole (IntKind.i64.wrap (1 + vn5))) fun viv33 => .br (Ev.lenOk vy0.2.1) (.bind (throughOf vy0.2.1 (Ray.mk vv32 vv10) viv33) fun vy34 => .bind (true) fun vb35 => .br (!vb35) (.ret (false)) (.br (vy34.2.2 == 1) (.bind (vy34.1.right) fun vb36 => .br (!vb36) (.ret (false)) (.bind (vy34.2.1.right) fun vb37 => .br (!vb37) (.ret (false)) (.br (vy34.2.2 != 1) (.bind (Iv.none) fun viv38 => .br (vy34.1.lo == viv38.lo && (vy34.1.hi == viv38.hi && vy34.1.no == viv38.no)) (.bind (Iv.none) fun viv39 => .ret (vy34.2.1.lo == viv39.lo && (vy34.2.1.hi == viv39.hi && vy34.2.1.no == viv39.no))) (.ret (false))) (.br (t6) (.br (decide (IntKind.i64.wrap (IntKind.i64.wrap (vy34.1.lo * 4) * IntKind.i64.wrap (IntKind.i64.wrap (2 * IntKind.i64.wrap (2 + vn1)) * IntKind.i64.wrap (1 + vn2))) ≤ IntKind.i64.wrap (IntKind.i64.wrap (IntKind.i64.wrap (IntKind.i64.wrap (vn3 - 2) * 4) * IntKind.i64.wrap (IntKind.i64.wrap (2 * IntKind.i64.wrap (2 + vn1)) * IntKind.i64.wrap (1 + vn2))) * 65536))) (.br (decide (IntKind.i64.wrap (IntKind.i64.wrap (vy34.1.hi * 4) * IntKind.i64.wrap (IntKind.i64.wrap (2 * IntKind.i64.wrap (2 + vn1)) * IntKind.i64.wrap (1 + vn2))) ≥ IntKind.i64.wrap (IntKind.i64.wrap (IntKind.i64.wrap (IntKind.i64.wrap (vn3 - 2) * 4) * IntKind.i64.wrap (IntKind.i64.wrap (2 * IntKind.i64.wrap (2 + vn1)) * IntKind.i64.wrap (1 + vn2))) * 65536))) (.br (decide (IntKind.i64.wrap (IntKind.i64.wrap (vy34.2.1.lo * 4) * IntKind.i64.wrap (IntKind.i64.wrap (2 * IntKind.i64.wrap (2 + vn1)) * IntKind.i64.wrap (1 + vn2))) ≤ IntKind.i64.wrap (IntKind.i64.wrap (IntKind.i64.wrap (IntKind.i64.wrap (IntKind.i64.wrap (vn4 - 2) * 4) * IntKind.i64.wrap (IntKind.i64.wrap (2 * IntKind.i64.wrap (2 + vn1)) * IntKind.i64.wrap (1 + vn2))) + IntKind.i64.wrap (IntKind.i64.wrap (IntKind.i64.wrap (IntKind.i64.wrap (2 + vn1) * IntKind.i64.wrap (2 + vn1)) - IntKind.i64.wrap (IntKind.i64.wrap (1 + vn2) * IntKind.i64.wrap (1 + vn2))) * IntKind.i64.wrap (1 + vn5))) * 65536))) (.ret (decide (IntKind.i64.wrap (IntKind.i64.wrap (vy34.2.1.hi * 4) * IntKind.i64.wrap (IntKind.i64.wrap (2 * IntKind.i64.wrap (2 + vn1)) * IntKind.i64.wrap (1 + vn2))) ≥ IntKind.i64.wrap (IntKind.i64.wrap (IntKind.i64.wrap (IntKind.i64.wrap (IntKind.i64.wrap (vn4 - 2) * 4) * IntKind.i64.wrap (IntKind.i64.wrap (2 * IntKind.i64.wrap (2 + vn1)) * IntKind.i64.wrap (1 + vn2))) + IntKind.i64.wrap (IntKind.i64.wrap (IntKind.i64.wrap (IntKind.i64.wrap (2 + vn1) * IntKind.i64.wrap (2 + vn1)) - IntKind.i64.wrap (IntKind.i64.wrap (1 + vn2) * IntKind.i64.wrap (1 + vn2))) * IntKind.i64.wrap (1 + vn5))) * 65536)))) (.ret (false))) (.ret (false))) (.ret (false))) (.br (decide (IntKind.i64.wrap (IntKind.i64.wrap (vy34.1.lo * 4) * IntKind.i64.wrap (IntKind.i64.wrap (2 * IntKind.i64.wrap (2 + vn1)) * IntKind.i64.wrap (1 + vn2))) ≤ IntKind.i64.wrap (IntKind.i64.wrap (IntKind.i64.wrap (IntKind.i64.wrap (IntKind.i64.wrap (vn3 - 2) * 4) * IntKind.i64.wrap (IntKind.i64.wrap (2 * IntKind.i64.wrap (2 + vn1)) * IntKind.i64.wrap (1 + vn2))) + IntKind.i64.wrap (IntKind.i64.wrap (IntKind.i64.wrap (IntKind.i64.wrap (2 + vn1) * IntKind.i64.wrap (2 + vn1)) - IntKind.i64.wrap (IntKind.i64.wrap (1 + vn2) * IntKind.i64.wrap (1 + vn2))) * IntKind.i64.wrap (1 + vn5))) * 65536))) (.br (decide (IntKind.i64.wrap (IntKind.i64.wrap (vy34.1.hi * 4) * IntKind.i64.wrap (IntKind.i64.wrap (2 * IntKind.i64.wrap (2 + vn1)) * IntKind.i64.wrap (1 + vn2))) ≥ IntKind.i64.wrap (IntKind.i64.wrap (IntKind.i64.wrap (IntKind.i64.wrap (IntKind.i64.wrap (vn3 - 2) * 4) * IntKind.i64.wrap (IntKind.i64.wrap (2 * IntKind.i64.wrap (2 + vn1)) * IntKind.i64.wrap (1 + vn2))) + IntKind.i64.wrap (IntKind.i64.wrap (IntKind.i64.wrap (IntKind.i64.wrap (2 + vn1) * IntKind.i64.wrap (2 + vn1)) - IntKind.i64.wrap (IntKind.i64.wrap (1 + vn2) * IntKind.i64.wrap (1 + vn2))) * IntKind.i64.wrap (1 + vn5))) * 65536))) (.br (decide (IntKind.i64.wrap (IntKind.i64.wrap (vy34.2.1.lo * 4) * IntKind.i64.wrap (IntKind.i64.wrap (2 * IntKind.i64.wrap (2 + vn1)) * IntKind.i64.wrap (1 + vn2))) ≤ IntKind.i64.wrap (IntKind.i64.wrap (IntKind.i64.wrap (IntKind.i64.wrap (vn4 - 2) * 4) * IntKind.i64.wrap (IntKind.i64.wrap (2 * IntKind.i64.wrap (2 + vn1)) * IntKind.i64.wrap (1 + vn2))) * 65536))) (.ret (decide (IntKind.i64.wrap (IntKind.i64.wrap (vy34.2.1.hi * 4) * IntKind.i64.wrap (IntKind.i64.wrap (2 * IntKind.i64.wrap (2 + vn1)) * IntKind.i64.wrap (1 + vn2))) ≥ IntKind.i64.wrap (IntKind.i64.wrap (IntKind.i64.wrap (IntKind.i64.wrap (vn4 - 2) * 4) * IntKind.i64.wrap (IntKind.i64.wrap (2 * IntKind.i64.wrap (2 + vn1)) * IntKind.i64.wrap (1 + vn2))) * 65536)))) (.ret (false))) (.ret (false))) (.ret (false))))))) (.br (vy34.2.2 != 1) (.bind (Iv.none) fun viv40 => .br (vy34.1.lo == viv40.lo && (vy34.1.hi == viv40.hi && vy34.1.no == viv40.no)) (.bind (Iv.none) fun viv41 => .ret (vy34.2.1.lo == viv41.lo && (vy34.2.1.hi == viv41.hi && vy34.2.1.no == viv41.no))) (.ret (false))) (.br (t6) (.br (decide (IntKind.i64.wrap (IntKind.i64.wrap (vy34.1.lo * 4) * IntKind.i64.wrap (IntKind.i64.wrap (2 * IntKind.i64.wrap (2 + vn1)) * IntKind.i64.wrap (1 + vn2))) ≤ IntKind.i64.wrap (IntKind.i64.wrap (IntKind.i64.wrap (IntKind.i64.wrap (vn3 - 2) * 4) * IntKind.i64.wrap (IntKind.i64.wrap (2 * IntKind.i64.wrap (2 + vn1)) * IntKind.i64.wrap (1 + vn2))) * 65536))) (.br (decide (IntKind.i64.wrap (IntKind.i64.wrap (vy34.1.hi * 4) * IntKind.i64.wrap (IntKind.i64.wrap (2 * IntKind.i64.wrap (2 + vn1)) * IntKind.i64.wrap (1 + vn2))) ≥ IntKind.i64.wrap (IntKind.i64.wrap (IntKind.i64.wrap (IntKind.i64.wrap (vn3 - 2) * 4) * IntKind.i64.wrap (IntKind.i64.wrap (2 * IntKind.i64.wrap (2 + vn1)) * IntKind.i64.wrap (1 + vn2))) * 65536))) (.br (decide (IntKind.i64.wrap (IntKind.i64.wrap (vy34.2.1.lo * 4) * IntKind.i64.wrap (IntKind.i64.wrap (2 * IntKind.i64.wrap (2 + vn1)) * IntKind.i64.wrap (1 + vn2))) ≤ IntKind.i64.wrap (IntKind.i64.wrap (IntKind.i64.wrap (IntKind.i64.wrap (IntKind.i64.wrap (vn4 - 2) * 4) * IntKind.i64.wrap (IntKind.i64.wrap (2 * IntKind.i64.wrap (2 + vn1)) * IntKind.i64.wrap (1 + vn2))) + IntKind.i64.wrap (IntKind.i64.wrap (IntKind.i64.wrap (IntKind.i64.wrap (2 + vn1) * IntKind.i64.wrap (2 + vn1)) - IntKind.i64.wrap (IntKind.i64.wrap (1 + vn2) * IntKind.i64.wrap (1 + vn2))) * IntKind.i64.wrap (1 + vn5))) * 65536))) (.ret (decide (IntKind.i64.wrap (IntKind.i64.wrap (vy34.2.1.hi * 4) * IntKind.i64.wrap (IntKind.i64.wrap (2 * IntKind.i64.wrap (2 + vn1)) * IntKind.i64.wrap (1 + vn2))) ≥ IntKind.i64.wrap (IntKind.i64.wrap (IntKind.i64.wrap (IntKind.i64.wrap (IntKind.i64.wrap (vn4 - 2) * 4) * IntKind.i64.wrap (IntKind.i64.wrap (2 * IntKind.i64.wrap (2 + vn1)) * IntKind.i64.wrap (1 + vn2))) + IntKind.i64.wrap (IntKind.i64.wrap (IntKind.i64.wrap (IntKind.i64.wrap (2 + vn1) * IntKind.i64.wrap (2 + vn1)) - IntKind.i64.wrap (IntKind.i64.wrap (1 + vn2) * IntKind.i64.wrap (1 + vn2))) * IntKind.i64.wrap (1 + vn5))) * 65536)))) (.ret (false))) (.ret (false))) (.ret (false))) (.br (decide (IntKind.i64.wrap (IntKind.i64.wrap (vy34.1.lo * 4) * IntKind.i64.wrap (IntKind.i64.wrap (2 * IntKind.i64.wrap (2 + vn1)) * IntKind.i64.wrap (1 + vn2))) ≤ IntKind.i64.wrap (IntKind.i64.wrap (IntKind.i64.wrap (IntKind.i64.wrap (IntKind.i64.wrap (vn3 - 2) * 4) * IntKind.i64.wrap (IntKind.i64.wrap (2 * IntKind.i64.wrap (2 + vn1)) * IntKind.i64.wrap (1 + vn2))) + IntKind.i64.wrap (IntKind.i64.wrap (IntKind.i64.wrap (IntKind.i64.wrap (2 + vn1) * IntKind.i64.wrap (2 + vn1)) - IntKind.i64.wrap (IntKind.i64.wrap (1 + vn2) * IntKind.i64.wrap (1 + vn2))) * IntKind.i64.wrap (1 + vn5))) * 65536))) (.br (decide (IntKind.i64.wrap (IntKind.i64.wrap (vy34.1.hi * 4) * IntKind.i64.wrap (IntKind.i64.wrap (2 * IntKind.i64.wrap (2 + vn1)) * IntKind.i64.wrap (1 + vn2))) ≥ IntKind.i64.wrap (IntKind.i64.wrap (IntKind.i64.wrap (IntKind.i64.wrap (IntKind.i64.wrap (vn3 - 2) * 4) * IntKind.i64.wrap (IntKind.i64.wrap (2 * IntKind.i64.wrap (2 + vn1)) * IntKind.i64.wrap (1 + vn2))) + IntKind.i64.wrap (IntKind.i64.wrap (IntKind.i64.wrap (IntKind.i64.wrap (2 + vn1) * IntKind.i64.wrap (2 + vn1)) - IntKind.i64.wrap (IntKind.i64.wrap (1 + vn2) * IntKind.i64.wrap (1 + vn2))) * IntKind.i64.wrap (1 + vn5))) * 65536))) (.br (decide (IntKind.i64.wrap (IntKind.i64.wrap (vy34.2.1.lo * 4) * IntKind.i64.wrap (IntKind.i64.wrap (2 * IntKind.i64.wrap (2 + vn1)) * IntKind.i64.wrap (1 + vn2))) ≤ IntKind.i64.wrap (IntKind.i64.wrap (IntKind.i64.wrap (IntKind.i64.wrap (vn4 - 2) * 4) * IntKind.i64.wrap (IntKind.i64.wrap (2 * IntKind.i64.wrap (2 + vn1)) * IntKind.i64.wrap (1 + vn2))) * 65536))) (.ret (decide (IntKind.i64.wrap (IntKind.i64.wrap (vy34.2.1.hi * 4) * IntKind.i64.wrap (IntKind.i64.wrap (2 * IntKind.i64.wrap (2 + vn1)) * IntKind.i64.wrap (1 + vn2))) ≥ IntKind.i64.wrap (IntKind.i64.wrap (IntKind.i64.wrap (IntKind.i64.wrap (vn4 - 2) * 4) * IntKind.i64.wrap (IntKind.i64.wrap (2 * IntKind.i64.wrap (2 + vn1)) * IntKind.i64.wrap (1 + vn2))) * 65536)))) (.ret (false))) (.ret (false))) (.ret (false))))))) (.fail))) (.fail)) (.fail)) (.fail)) (.fail)) (.fail)) (.fail) := by kernel_rfl
theorem c_meniscuslaw19_TraceStraight : PlainS Try.prog 3 (sc 7 [0, 1, 2, 3, 4, 5, 6] (tSl 0 0 (tCod 1 cInt (tCod 2 cInt (tCod 3 cInt (tCod 4 cInt (tCod 5 cInt (tCod 6 cBool tNil))))))) (rL_int rNil)) cBool (fun _ => true) ((fun _ => true)) := by
  intro x h N w vs hM hv
  obtain ⟨⟨t1, t2, t3, t4, t5, t6, ⟨⟩⟩, ⟨r0, ⟨⟩⟩⟩ := x
  refine calls_of_tree (n := 200) (EnvOK.add s_meniscushand_Straight (EnvOK.add s_meniscushand_Pick (EnvOK.add s_vec_Unit (EnvOK.add s_vec_Of (EnvOK.add s_iv_Whole (EnvOK.add s_iv_Point (EnvOK.add s_trace_Through (EnvOK.add s_meniscuslaw19_known (EnvOK.add s_iv_Right (EnvOK.add s_iv_None EnvOK.nil)))))))))) Try.func3 hv (Nat.le_of_ble_eq_true (by kernel_rfl)) LFn.nil hM cBool ?_
  rw [t_meniscuslaw19_TraceStraight]
  have pk : ∀ n m : Int, (0 < m ∧ m ≤ 4611686018427387904) → pickOk n m = true := fun n m h => by simp [pickOk, h]
  have b1 := pick_bd t1 (m := 5) (by decide)
  have b2 := pick_bd t2 (m := 5) (by decide)
  have b3 := pick_bd t3 (m := 2) (by decide)
  have b5 := pick_bd t5 (m := 60) (by decide)
  have pk0 := pk t3 2 (by decide)
  have pk1 := pk t1 5 (by decide)
  have pk2 := pk t2 5 (by decide)
  have pk3 := pk t5 60 (by decide)
  obtain ⟨x, hx⟩ : ∃ x, IntKind.i64.wrap (pick t1 5 - 2) = x := ⟨_, rfl⟩
  obtain ⟨y, hy⟩ : ∃ y, IntKind.i64.wrap (pick t2 5 - 2) = y := ⟨_, rfl⟩
  obtain ⟨z, hz⟩ : ∃ z, IntKind.i64.wrap (1 + pick t5 60) = z := ⟨_, rfl⟩
  have xb : -2 ≤ x ∧ x ≤ 2 := by rw [← hx, wr (by omega)]; omega
  have yb : -2 ≤ y ∧ y ≤ 2 := by rw [← hy, wr (by omega)]; omega
  have zb : 1 ≤ z ∧ z ≤ 60 := by rw [← hz, wr (by omega)]; omega
  have hlen : Ev.lenOk (straightOf r0).2 = true := lenOk_iff.2 (by have := straight_len r0; omega)
  rcases (show pick t3 2 = 0 ∨ pick t3 2 = 1 by omega) with h1 | h1
  · have b4 := pick_bd t4 (m := 1) (by decide)
    have e1 : IntKind.i64.wrap (2 + pick t3 2) = 2 := by rw [h1]; decide +kernel
    have e2 : IntKind.i64.wrap ((2 : Int) - 1) = 1 := by decide +kernel
    have e3 := pk t4 1 (by decide)
    have e4 : IntKind.i64.wrap (1 + pick t4 1) = 1 := by rw [show pick t4 1 = 0 by omega]; decide +kernel
    have e5 : IntKind.i64.wrap (IntKind.i64.wrap ((2 : Int) * 2) - IntKind.i64.wrap ((1 : Int) * 1)) = 3 := by decide +kernel
    have e6 : IntKind.i64.wrap (IntKind.i64.wrap ((2 : Int) * 2) * 1) = 4 := by decide +kernel
    have e7 : IntKind.i64.wrap ((4 : Int) * 4) = 16 := by decide +kernel
    simp only [den_br, den_bind, den_ret, den_fail, if_true, pk0, pk1, pk2, pk3, hx, hy, hz, hlen, e1, e2, e3, e4, e5, e6, e7]
    cases t6
    · simp only [Bool.false_eq_true, if_true, if_false, Bool.not_true]
      have hs := straight_says r0 false x y z (p := 3) (q := 4) (by decide)
      rw [show (rayV false x y 3 4) = Ray.mk (V.mk (Iv.whole x) (Iv.whole y) (Iv.point 0)) (V.unit (V.mk (Iv.whole 3) (Iv.point 0) (Iv.whole 16))) from rfl] at hs
      generalize throughOf (straightOf r0).2 (Ray.mk (V.mk (Iv.whole x) (Iv.whole y) (Iv.point 0)) (V.unit (V.mk (Iv.whole 3) (Iv.point 0) (Iv.whole 16)))) (Iv.whole z) = T at *
      obtain ⟨u, v, k⟩ := T
      by_cases hk : k = 1
      · obtain ⟨g1, g2, ⟨g3, g4⟩, g5, g6⟩ := hs.1 hk
        have ru := right_bd g1
        have rv := right_bd g2
        simp only [if_true, if_false, Bool.false_eq_true] at g1 g2 g3 g4 g5 g6 ru rv
        subst hk
        have q0 : IntKind.i64.wrap (u.lo * 4) = u.lo * 4 := wr (by omega)
        have q1 : IntKind.i64.wrap (u.lo * 4 * 4) = u.lo * 4 * 4 := wr (by omega)
        have q2 : IntKind.i64.wrap (u.hi * 4) = u.hi * 4 := wr (by omega)
        have q3 : IntKind.i64.wrap (u.hi * 4 * 4) = u.hi * 4 * 4 := wr (by omega)
        have q4 : IntKind.i64.wrap (v.lo * 4) = v.lo * 4 := wr (by omega)
        have q5 : IntKind.i64.wrap (v.lo * 4 * 4) = v.lo * 4 * 4 := wr (by omega)
        have q6 : IntKind.i64.wrap (v.hi * 4) = v.hi * 4 := wr (by omega)
        have q7 : IntKind.i64.wrap (v.hi * 4 * 4) = v.hi * 4 * 4 := wr (by omega)
        have q8 : IntKind.i64.wrap (x * 4) = x * 4 := wr (by omega)
        have q9 : IntKind.i64.wrap (x * 4 * 4) = x * 4 * 4 := wr (by omega)
        have q10 : IntKind.i64.wrap (y * 4) = y * 4 := wr (by omega)
        have q11 : IntKind.i64.wrap (y * 4 * 4) = y * 4 * 4 := wr (by omega)
        have q12 : IntKind.i64.wrap (3 * z) = 3 * z := wr (by omega)
        have q13 : IntKind.i64.wrap (x * 4 * 4 + 3 * z) = x * 4 * 4 + 3 * z := wr (by omega)
        have q14 : IntKind.i64.wrap ((x * 4 * 4 + 3 * z) * 65536) = (x * 4 * 4 + 3 * z) * 65536 := wr (by omega)
        have q15 : IntKind.i64.wrap (y * 4 * 4 * 65536) = y * 4 * 4 * 65536 := wr (by omega)
        simp only [g1, g2, beq_self_eq_true, bne_self_eq_false, Bool.not_true, Bool.false_eq_true, if_true, if_false, q0, q1, q2, q3, q4, q5, q6, q7, q8, q9, q10, q11, q12, q13, q14, q15]
        refine (if_pos (decide_eq_true ?_)).trans ((if_pos (decide_eq_true ?_)).trans ((if_pos (decide_eq_true ?_)).trans (congrArg some (decide_eq_true ?_)))) <;> omega
      · obtain ⟨g1, g2⟩ := hs.2 hk
        simp only at g1 g2
        subst g1 g2
        have k1 : (k == 1) = false := by simpa using hk
        have k2 : (k != 1) = true := by simp [hk]
        simp only [k1, k2, Bool.not_true, Bool.false_eq_true, if_true, if_false]
        rfl
    · simp only [Bool.false_eq_true, if_true, if_false, Bool.not_true]
      have hs := straight_says r0 true x y z (p := 3) (q := 4) (by decide)
      rw [show (rayV true x y 3 4) = Ray.mk (V.mk (Iv.whole x) (Iv.whole y) (Iv.point 0)) (V.unit (V.mk (Iv.point 0) (Iv.whole 3) (Iv.whole 16))) from rfl] at hs
      generalize throughOf (straightOf r0).2 (Ray.mk (V.mk (Iv.whole x) (Iv.whole y) (Iv.point 0)) (V.unit (V.mk (Iv.point 0) (Iv.whole 3) (Iv.whole 16)))) (Iv.whole z) = T at *
      obtain ⟨u, v, k⟩ := T
      by_cases hk : k = 1
      · obtain ⟨g1, g2, ⟨g3, g4⟩, g5, g6⟩ := hs.1 hk
        have ru := right_bd g1
        have rv := right_bd g2
        simp only [if_true, if_false, Bool.false_eq_true] at g1 g2 g3 g4 g5 g6 ru rv
        subst hk
        have q0 : IntKind.i64.wrap (u.lo * 4) = u.lo * 4 := wr (by omega)
        have q1 : IntKind.i64.wrap (u.lo * 4 * 4) = u.lo * 4 * 4 := wr (by omega)
        have q2 : IntKind.i64.wrap (u.hi * 4) = u.hi * 4 := wr (by omega)
        have q3 : IntKind.i64.wrap (u.hi * 4 * 4) = u.hi * 4 * 4 := wr (by omega)
        have q4 : IntKind.i64.wrap (v.lo * 4) = v.lo * 4 := wr (by omega)
        have q5 : IntKind.i64.wrap (v.lo * 4 * 4) = v.lo * 4 * 4 := wr (by omega)
        have q6 : IntKind.i64.wrap (v.hi * 4) = v.hi * 4 := wr (by omega)
        have q7 : IntKind.i64.wrap (v.hi * 4 * 4) = v.hi * 4 * 4 := wr (by omega)
        have q8 : IntKind.i64.wrap (x * 4) = x * 4 := wr (by omega)
        have q9 : IntKind.i64.wrap (x * 4 * 4) = x * 4 * 4 := wr (by omega)
        have q10 : IntKind.i64.wrap (y * 4) = y * 4 := wr (by omega)
        have q11 : IntKind.i64.wrap (y * 4 * 4) = y * 4 * 4 := wr (by omega)
        have q12 : IntKind.i64.wrap (3 * z) = 3 * z := wr (by omega)
        have q13 : IntKind.i64.wrap (y * 4 * 4 + 3 * z) = y * 4 * 4 + 3 * z := wr (by omega)
        have q14 : IntKind.i64.wrap ((y * 4 * 4 + 3 * z) * 65536) = (y * 4 * 4 + 3 * z) * 65536 := wr (by omega)
        have q15 : IntKind.i64.wrap (x * 4 * 4 * 65536) = x * 4 * 4 * 65536 := wr (by omega)
        simp only [g1, g2, beq_self_eq_true, bne_self_eq_false, Bool.not_true, Bool.false_eq_true, if_true, if_false, q0, q1, q2, q3, q4, q5, q6, q7, q8, q9, q10, q11, q12, q13, q14, q15]
        refine (if_pos (decide_eq_true ?_)).trans ((if_pos (decide_eq_true ?_)).trans ((if_pos (decide_eq_true ?_)).trans (congrArg some (decide_eq_true ?_)))) <;> omega
      · obtain ⟨g1, g2⟩ := hs.2 hk
        simp only at g1 g2
        subst g1 g2
        have k1 : (k == 1) = false := by simpa using hk
        have k2 : (k != 1) = true := by simp [hk]
        simp only [k1, k2, Bool.not_true, Bool.false_eq_true, if_true, if_false]
        rfl
  · have b4 := pick_bd t4 (m := 2) (by decide)
    have e1 : IntKind.i64.wrap (2 + pick t3 2) = 3 := by rw [h1]; decide +kernel
    have e2 : IntKind.i64.wrap ((3 : Int) - 1) = 2 := by decide +kernel
    have e3 := pk t4 2 (by decide)
    rcases (show pick t4 2 = 0 ∨ pick t4 2 = 1 by omega) with h2 | h2
    · have e4 : IntKind.i64.wrap (1 + pick t4 2) = 1 := by rw [h2]; decide +kernel
      have e5 : IntKind.i64.wrap (IntKind.i64.wrap ((3 : Int) * 3) - IntKind.i64.wrap ((1 : Int) * 1)) = 8 := by decide +kernel
      have e6 : IntKind.i64.wrap (IntKind.i64.wrap ((2 : Int) * 3) * 1) = 6 := by decide +kernel
      have e7 : IntKind.i64.wrap ((4 : Int) * 6) = 24 := by decide +kernel
      simp only [den_br, den_bind, den_ret, den_fail, if_true, pk0, pk1, pk2, pk3, hx, hy, hz, hlen, e1, e2, e3, e4, e5, e6, e7]
      cases t6
      · simp only [Bool.false_eq_true, if_true, if_false, Bool.not_true]
        have hs := straight_says r0 false x y z (p := 8) (q := 6) (by decide)
        rw [show (rayV false x y 8 6) = Ray.mk (V.mk (Iv.whole x) (Iv.whole y) (Iv.point 0)) (V.unit (V.mk (Iv.whole 8) (Iv.point 0) (Iv.whole 24))) from rfl] at hs
        generalize throughOf (straightOf r0).2 (Ray.mk (V.mk (Iv.whole x) (Iv.whole y) (Iv.point 0)) (V.unit (V.mk (Iv.whole 8) (Iv.point 0) (Iv.whole 24)))) (Iv.whole z) = T at *
        obtain ⟨u, v, k⟩ := T
        by_cases hk : k = 1
        · obtain ⟨g1, g2, ⟨g3, g4⟩, g5, g6⟩ := hs.1 hk
          have ru := right_bd g1
          have rv := right_bd g2
          simp only [if_true, if_false, Bool.false_eq_true] at g1 g2 g3 g4 g5 g6 ru rv
          subst hk
          have q0 : IntKind.i64.wrap (u.lo * 4) = u.lo * 4 := wr (by omega)
          have q1 : IntKind.i64.wrap (u.lo * 4 * 6) = u.lo * 4 * 6 := wr (by omega)
          have q2 : IntKind.i64.wrap (u.hi * 4) = u.hi * 4 := wr (by omega)
          have q3 : IntKind.i64.wrap (u.hi * 4 * 6) = u.hi * 4 * 6 := wr (by omega)
          have q4 : IntKind.i64.wrap (v.lo * 4) = v.lo * 4 := wr (by omega)
          have q5 : IntKind.i64.wrap (v.lo * 4 * 6) = v.lo * 4 * 6 := wr (by omega)
          have q6 : IntKind.i64.wrap (v.hi * 4) = v.hi * 4 := wr (by omega)
          have q7 : IntKind.i64.wrap (v.hi * 4 * 6) = v.hi * 4 * 6 := wr (by omega)
          have q8 : IntKind.i64.wrap (x * 4) = x * 4 := wr (by omega)
          have q9 : IntKind.i64.wrap (x * 4 * 6) = x * 4 * 6 := wr (by omega)
          have q10 : IntKind.i64.wrap (y * 4) = y * 4 := wr (by omega)
          have q11 : IntKind.i64.wrap (y * 4 * 6) = y * 4 * 6 := wr (by omega)
          have q12 : IntKind.i64.wrap (8 * z) = 8 * z := wr (by omega)
          have q13 : IntKind.i64.wrap (x * 4 * 6 + 8 * z) = x * 4 * 6 + 8 * z := wr (by omega)
          have q14 : IntKind.i64.wrap ((x * 4 * 6 + 8 * z) * 65536) = (x * 4 * 6 + 8 * z) * 65536 := wr (by omega)
          have q15 : IntKind.i64.wrap (y * 4 * 6 * 65536) = y * 4 * 6 * 65536 := wr (by omega)
          simp only [g1, g2, beq_self_eq_true, bne_self_eq_false, Bool.not_true, Bool.false_eq_true, if_true, if_false, q0, q1, q2, q3, q4, q5, q6, q7, q8, q9, q10, q11, q12, q13, q14, q15]
          refine (if_pos (decide_eq_true ?_)).trans ((if_pos (decide_eq_true ?_)).trans ((if_pos (decide_eq_true ?_)).trans (congrArg some (decide_eq_true ?_)))) <;> omega
        · obtain ⟨g1, g2⟩ := hs.2 hk
          simp only at g1 g2
          subst g1 g2
          have k1 : (k == 1) = false := by simpa using hk
          have k2 : (k != 1) = true := by simp [hk]
          simp only [k1, k2, Bool.not_true, Bool.false_eq_true, if_true, if_false]
          rfl
      · simp only [Bool.false_eq_true, if_true, if_false, Bool.not_true]
        have hs := straight_says r0 true x y z (p := 8) (q := 6) (by decide)
        rw [show (rayV true x y 8 6) = Ray.mk (V.mk (Iv.whole x) (Iv.whole y) (Iv.point 0)) (V.unit (V.mk (Iv.point 0) (Iv.whole 8) (Iv.whole 24))) from rfl] at hs
        generalize throughOf (straightOf r0).2 (Ray.mk (V.mk (Iv.whole x) (Iv.whole y) (Iv.point 0)) (V.unit (V.mk (Iv.point 0) (Iv.whole 8) (Iv.whole 24)))) (Iv.whole z) = T at *
        obtain ⟨u, v, k⟩ := T
        by_cases hk : k = 1
        · obtain ⟨g1, g2, ⟨g3, g4⟩, g5, g6⟩ := hs.1 hk
          have ru := right_bd g1
          have rv := right_bd g2
          simp only [if_true, if_false, Bool.false_eq_true] at g1 g2 g3 g4 g5 g6 ru rv
          subst hk
          have q0 : IntKind.i64.wrap (u.lo * 4) = u.lo * 4 := wr (by omega)
          have q1 : IntKind.i64.wrap (u.lo * 4 * 6) = u.lo * 4 * 6 := wr (by omega)
          have q2 : IntKind.i64.wrap (u.hi * 4) = u.hi * 4 := wr (by omega)
          have q3 : IntKind.i64.wrap (u.hi * 4 * 6) = u.hi * 4 * 6 := wr (by omega)
          have q4 : IntKind.i64.wrap (v.lo * 4) = v.lo * 4 := wr (by omega)
          have q5 : IntKind.i64.wrap (v.lo * 4 * 6) = v.lo * 4 * 6 := wr (by omega)
          have q6 : IntKind.i64.wrap (v.hi * 4) = v.hi * 4 := wr (by omega)
          have q7 : IntKind.i64.wrap (v.hi * 4 * 6) = v.hi * 4 * 6 := wr (by omega)
          have q8 : IntKind.i64.wrap (x * 4) = x * 4 := wr (by omega)
          have q9 : IntKind.i64.wrap (x * 4 * 6) = x * 4 * 6 := wr (by omega)
          have q10 : IntKind.i64.wrap (y * 4) = y * 4 := wr (by omega)
          have q11 : IntKind.i64.wrap (y * 4 * 6) = y * 4 * 6 := wr (by omega)
          have q12 : IntKind.i64.wrap (8 * z) = 8 * z := wr (by omega)
          have q13 : IntKind.i64.wrap (y * 4 * 6 + 8 * z) = y * 4 * 6 + 8 * z := wr (by omega)
          have q14 : IntKind.i64.wrap ((y * 4 * 6 + 8 * z) * 65536) = (y * 4 * 6 + 8 * z) * 65536 := wr (by omega)
          have q15 : IntKind.i64.wrap (x * 4 * 6 * 65536) = x * 4 * 6 * 65536 := wr (by omega)
          simp only [g1, g2, beq_self_eq_true, bne_self_eq_false, Bool.not_true, Bool.false_eq_true, if_true, if_false, q0, q1, q2, q3, q4, q5, q6, q7, q8, q9, q10, q11, q12, q13, q14, q15]
          refine (if_pos (decide_eq_true ?_)).trans ((if_pos (decide_eq_true ?_)).trans ((if_pos (decide_eq_true ?_)).trans (congrArg some (decide_eq_true ?_)))) <;> omega
        · obtain ⟨g1, g2⟩ := hs.2 hk
          simp only at g1 g2
          subst g1 g2
          have k1 : (k == 1) = false := by simpa using hk
          have k2 : (k != 1) = true := by simp [hk]
          simp only [k1, k2, Bool.not_true, Bool.false_eq_true, if_true, if_false]
          rfl
    · have e4 : IntKind.i64.wrap (1 + pick t4 2) = 2 := by rw [h2]; decide +kernel
      have e5 : IntKind.i64.wrap (IntKind.i64.wrap ((3 : Int) * 3) - IntKind.i64.wrap ((2 : Int) * 2)) = 5 := by decide +kernel
      have e6 : IntKind.i64.wrap (IntKind.i64.wrap ((2 : Int) * 3) * 2) = 12 := by decide +kernel
      have e7 : IntKind.i64.wrap ((4 : Int) * 12) = 48 := by decide +kernel
      simp only [den_br, den_bind, den_ret, den_fail, if_true, pk0, pk1, pk2, pk3, hx, hy, hz, hlen, e1, e2, e3, e4, e5, e6, e7]
      cases t6
      · simp only [Bool.false_eq_true, if_true, if_false, Bool.not_true]
        have hs := straight_says r0 false x y z (p := 5) (q := 12) (by decide)
        rw [show (rayV false x y 5 12) = Ray.mk (V.mk (Iv.whole x) (Iv.whole y) (Iv.point 0)) (V.unit (V.mk (Iv.whole 5) (Iv.point 0) (Iv.whole 48))) from rfl] at hs
        generalize throughOf (straightOf r0).2 (Ray.mk (V.mk (Iv.whole x) (Iv.whole y) (Iv.point 0)) (V.unit (V.mk (Iv.whole 5) (Iv.point 0) (Iv.whole 48)))) (Iv.whole z) = T at *
        obtain ⟨u, v, k⟩ := T
        by_cases hk : k = 1
        · obtain ⟨g1, g2, ⟨g3, g4⟩, g5, g6⟩ := hs.1 hk
          have ru := right_bd g1
          have rv := right_bd g2
          simp only [if_true, if_false, Bool.false_eq_true] at g1 g2 g3 g4 g5 g6 ru rv
          subst hk
          have q0 : IntKind.i64.wrap (u.lo * 4) = u.lo * 4 := wr (by omega)
          have q1 : IntKind.i64.wrap (u.lo * 4 * 12) = u.lo * 4 * 12 := wr (by omega)
          have q2 : IntKind.i64.wrap (u.hi * 4) = u.hi * 4 := wr (by omega)
          have q3 : IntKind.i64.wrap (u.hi * 4 * 12) = u.hi * 4 * 12 := wr (by omega)
          have q4 : IntKind.i64.wrap (v.lo * 4) = v.lo * 4 := wr (by omega)
          have q5 : IntKind.i64.wrap (v.lo * 4 * 12) = v.lo * 4 * 12 := wr (by omega)
          have q6 : IntKind.i64.wrap (v.hi * 4) = v.hi * 4 := wr (by omega)
          have q7 : IntKind.i64.wrap (v.hi * 4 * 12) = v.hi * 4 * 12 := wr (by omega)
          have q8 : IntKind.i64.wrap (x * 4) = x * 4 := wr (by omega)
          have q9 : IntKind.i64.wrap (x * 4 * 12) = x * 4 * 12 := wr (by omega)
          have q10 : IntKind.i64.wrap (y * 4) = y * 4 := wr (by omega)
          have q11 : IntKind.i64.wrap (y * 4 * 12) = y * 4 * 12 := wr (by omega)
          have q12 : IntKind.i64.wrap (5 * z) = 5 * z := wr (by omega)
          have q13 : IntKind.i64.wrap (x * 4 * 12 + 5 * z) = x * 4 * 12 + 5 * z := wr (by omega)
          have q14 : IntKind.i64.wrap ((x * 4 * 12 + 5 * z) * 65536) = (x * 4 * 12 + 5 * z) * 65536 := wr (by omega)
          have q15 : IntKind.i64.wrap (y * 4 * 12 * 65536) = y * 4 * 12 * 65536 := wr (by omega)
          simp only [g1, g2, beq_self_eq_true, bne_self_eq_false, Bool.not_true, Bool.false_eq_true, if_true, if_false, q0, q1, q2, q3, q4, q5, q6, q7, q8, q9, q10, q11, q12, q13, q14, q15]
          refine (if_pos (decide_eq_true ?_)).trans ((if_pos (decide_eq_true ?_)).trans ((if_pos (decide_eq_true ?_)).trans (congrArg some (decide_eq_true ?_)))) <;> omega
        · obtain ⟨g1, g2⟩ := hs.2 hk
          simp only at g1 g2
          subst g1 g2
          have k1 : (k == 1) = false := by simpa using hk
          have k2 : (k != 1) = true := by simp [hk]
          simp only [k1, k2, Bool.not_true, Bool.false_eq_true, if_true, if_false]
          rfl
      · simp only [Bool.false_eq_true, if_true, if_false, Bool.not_true]
        have hs := straight_says r0 true x y z (p := 5) (q := 12) (by decide)
        rw [show (rayV true x y 5 12) = Ray.mk (V.mk (Iv.whole x) (Iv.whole y) (Iv.point 0)) (V.unit (V.mk (Iv.point 0) (Iv.whole 5) (Iv.whole 48))) from rfl] at hs
        generalize throughOf (straightOf r0).2 (Ray.mk (V.mk (Iv.whole x) (Iv.whole y) (Iv.point 0)) (V.unit (V.mk (Iv.point 0) (Iv.whole 5) (Iv.whole 48)))) (Iv.whole z) = T at *
        obtain ⟨u, v, k⟩ := T
        by_cases hk : k = 1
        · obtain ⟨g1, g2, ⟨g3, g4⟩, g5, g6⟩ := hs.1 hk
          have ru := right_bd g1
          have rv := right_bd g2
          simp only [if_true, if_false, Bool.false_eq_true] at g1 g2 g3 g4 g5 g6 ru rv
          subst hk
          have q0 : IntKind.i64.wrap (u.lo * 4) = u.lo * 4 := wr (by omega)
          have q1 : IntKind.i64.wrap (u.lo * 4 * 12) = u.lo * 4 * 12 := wr (by omega)
          have q2 : IntKind.i64.wrap (u.hi * 4) = u.hi * 4 := wr (by omega)
          have q3 : IntKind.i64.wrap (u.hi * 4 * 12) = u.hi * 4 * 12 := wr (by omega)
          have q4 : IntKind.i64.wrap (v.lo * 4) = v.lo * 4 := wr (by omega)
          have q5 : IntKind.i64.wrap (v.lo * 4 * 12) = v.lo * 4 * 12 := wr (by omega)
          have q6 : IntKind.i64.wrap (v.hi * 4) = v.hi * 4 := wr (by omega)
          have q7 : IntKind.i64.wrap (v.hi * 4 * 12) = v.hi * 4 * 12 := wr (by omega)
          have q8 : IntKind.i64.wrap (x * 4) = x * 4 := wr (by omega)
          have q9 : IntKind.i64.wrap (x * 4 * 12) = x * 4 * 12 := wr (by omega)
          have q10 : IntKind.i64.wrap (y * 4) = y * 4 := wr (by omega)
          have q11 : IntKind.i64.wrap (y * 4 * 12) = y * 4 * 12 := wr (by omega)
          have q12 : IntKind.i64.wrap (5 * z) = 5 * z := wr (by omega)
          have q13 : IntKind.i64.wrap (y * 4 * 12 + 5 * z) = y * 4 * 12 + 5 * z := wr (by omega)
          have q14 : IntKind.i64.wrap ((y * 4 * 12 + 5 * z) * 65536) = (y * 4 * 12 + 5 * z) * 65536 := wr (by omega)
          have q15 : IntKind.i64.wrap (x * 4 * 12 * 65536) = x * 4 * 12 * 65536 := wr (by omega)
          simp only [g1, g2, beq_self_eq_true, bne_self_eq_false, Bool.not_true, Bool.false_eq_true, if_true, if_false, q0, q1, q2, q3, q4, q5, q6, q7, q8, q9, q10, q11, q12, q13, q14, q15]
          refine (if_pos (decide_eq_true ?_)).trans ((if_pos (decide_eq_true ?_)).trans ((if_pos (decide_eq_true ?_)).trans (congrArg some (decide_eq_true ?_)))) <;> omega
        · obtain ⟨g1, g2⟩ := hs.2 hk
          simp only at g1 g2
          subst g1 g2
          have k1 : (k == 1) = false := by simpa using hk
          have k2 : (k != 1) = true := by simp [hk]
          simp only [k1, k2, Bool.not_true, Bool.false_eq_true, if_true, if_false]
          rfl
theorem s_meniscuslaw19_TraceStraight : Ev.Spec Try.prog 3 (FS (sc 7 [0, 1, 2, 3, 4, 5, 6] (tSl 0 0 (tCod 1 cInt (tCod 2 cInt (tCod 3 cInt (tCod 4 cInt (tCod 5 cInt (tCod 6 cBool tNil))))))) (rL_int rNil)) cBool (fun _ => true) ((fun _ => true))) := specS rfl (fun vs w => Try.call3 vs w) c_meniscuslaw19_TraceStraight
end Go.Proofs.Ytapbnhnofcbkdaa
