/-
  Contracts of calls, written by a small program of this session out of the evaluator's trees.
-/
import Derived.Test.YtlbmjajjldfigaaGreatCore
import Derived.Test.YtlbmjajjldfigaaGreatCoreLoops
import Derived.Test.YtlbmjajjldfigaaGreatCore2
import Derived.Test.YtlbmjajjldfigaaGreatCore3
import Derived.Test.YtlbmjajjldfigaaGreatCore4
import Derived.Test.YtlbmjajjldfigaaGreatCore5
import Derived.Test.YtlbmjajjldfigaaGreatCore6
import Derived.Test.YtlbmjajjldfigaaGreatCore7
import Derived.Test.YtlbmjajjldfigaaGreatCore8
import Derived.Test.YtlbmjajjldfigaaGreatCore9
import Derived.Test.YtlbmjajjldfigaaGreatEvMore
import Derived.Test.YtlbmjajjldfigaaGreatSym
import Derived.Test.YtlbmjajjldfigaaGreatSysF
import Derived.Test.YtlbmjajjldfigaaGreatLess2
import Derived.Test.YtlbmjajjldfigaaGreatEach
import Derived.Test.YtlbmjajjldfigaaGreatLaws1
import Derived.Test.YtlbmjajjldfigaaGreatLaws2
import Derived.Test.YtlbmjajjldfigaaGreatPartN
import Derived.Test.YtlbmjajjldfigaaGreatR0
import Derived.Test.YtlbmjajjldfigaaGreatEvCod
import Derived.Test.YtlbmjajjldfigaaGreatEvRet
import Derived.Test.YtlbmjajjldfigaaGreatProg
namespace Go.Proofs.YtlbmjajjldfigaaGreat
open Go Go.RowKit Ev
set_option maxRecDepth 100000
set_option linter.unusedVariables false
set_option linter.unusedSimpArgs false

/-! meniscushand.Straight -/
theorem tl_meniscushand_Straight_4 (t5 : Int) (t4 : Int) (r0 : List Int) (r1 : Iv) (r2 : Iv) (r3 : List Surf) (r4 : List Surf) :
    ev Tryz.prog (Env.add 19 (F2p cInt cInt cInt pickOk pick) (Env.add 80 (F1 cInt cIv Iv.point) (Env.add 109 (F1 cInt cIv Iv.whole) Env.nil))) Laws.nil 200 none (loopAt Tryz.f63 4) ((sc 48 [5, 4, 0, 3, 2] (tCod 5 cInt (tCod 4 cInt (tSl 0 0 (tOwn 3 1 (tOwn 2 2 tNil))))) (rL_int (rBoxSl 3 ccIv ccIv_ok (rBoxSl 4 ccIv ccIv_ok (rG_surf 38 (rL_surf rNil)))))).enc ((t5, t4, ()), (r0, r1, r2, r3, r4, ()))) (backK (sc 48 [5, 4, 0, 3, 2] (tCod 5 cInt (tCod 4 cInt (tSl 0 0 (tOwn 3 1 (tOwn 2 2 tNil))))) (rL_int (rBoxSl 3 ccIv ccIv_ok (rBoxSl 4 ccIv ccIv_ok (rG_surf 38 (rL_surf rNil)))))) (ocExit 0 (sc 48 [3, 2] (tOwn 3 0 (tOwn 2 1 tNil)) (rBoxSl 2 ccIv ccIv_ok (rBoxSl 3 ccIv ccIv_ok (rG_surf 38 (rL_surf rNil))))))) =
      .br (decide (t5 < (@Nat.cast Int _ r0.length))) (.br (decide (t5 < 4)) (.br (decide (0 ≤ t5 ∧ t5 < (@Nat.cast Int _ r0.length))) (.get (r0[t5.toNat]?) fun vt0 => .br (pickOk vt0 2) (.bind (pick vt0 2) fun vn1 => .bind (Iv.point 0) fun viv2 => .bind (Iv.point 65536) fun viv3 => .bind (Iv.point 0) fun viv4 => .bind (Iv.point 0) fun viv5 => .bind (Iv.point t4) fun viv6 => .bind (Iv.whole 100) fun viv7 => .bind (Iv.point 65536) fun viv8 => .br (Ev.lenOk (r3 ++ [Surf.mk (vn1 == 0) false viv2 viv3 viv4 viv5 viv6 viv7 viv8])) (.br (decide (0 ≤ t5 ∧ t5 < (@Nat.cast Int _ r0.length))) (.get (r0[t5.toNat]?) fun vt9 => .br (pickOk (IntKind.i64.wrap (Int.tdiv vt9 2)) 327680) (.bind (pick (IntKind.i64.wrap (Int.tdiv vt9 2)) 327680) fun vn10 => .ret (Sum.inl ((IntKind.i64.wrap (t5 + 1), IntKind.i64.wrap (IntKind.i64.wrap (t4 + 1) + vn10), ()), r0, r1, r2, r3 ++ [Surf.mk (vn1 == 0) false viv2 viv3 viv4 viv5 viv6 viv7 viv8], r4, ()))) (.fail)) (.fail)) (.fail)) (.fail)) (.fail)) (.ret (Sum.inr ((), r1, r2, r3, r4, ())))) (.ret (Sum.inr ((), r1, r2, r3, r4, ()))) := by kernel_rfl
theorem ok_meniscushand_Straight_4 : LOK Tryz.prog (LoopR.of (sc 48 [5, 4, 0, 3, 2] (tCod 5 cInt (tCod 4 cInt (tSl 0 0 (tOwn 3 1 (tOwn 2 2 tNil))))) (rL_int (rBoxSl 3 ccIv ccIv_ok (rBoxSl 4 ccIv ccIv_ok (rG_surf 38 (rL_surf rNil)))))) (ocExit 0 (sc 48 [3, 2] (tOwn 3 0 (tOwn 2 1 tNil)) (rBoxSl 2 ccIv ccIv_ok (rBoxSl 3 ccIv ccIv_ok (rG_surf 38 (rL_surf rNil)))))) (runBy straightStep straightM)) (loopAt Tryz.f63 4) := by
  refine loop_ok (EnvOK.add s_meniscushand_Pick (EnvOK.add s_meniscusref1_Point (EnvOK.add s_meniscusref1_Whole EnvOK.nil))) (LFn.at (fn := Tryz.f63) LFn.nil 4) straightStep (n := 200) (fun x z h => ?_) (runBy_ok _ _)
  obtain ⟨⟨t5, t4, ⟨⟩⟩, ⟨r0, r1, r2, r3, r4, ⟨⟩⟩⟩ := x
  rw [tl_meniscushand_Straight_4]
  by_cases h0 : t5 < (r0.length : Int) ∧ t5 < 4
  case neg =>
    rw [← h]
    simp only [straightStep, h0, if_false]
    simp only [den_br, den_bind, den_ret, den_fail, den_inl, den_inr, decide_eq_true_eq, gt_iff_lt, ge_iff_le, beq_iff_eq]
    by_cases c : t5 < (r0.length : Int) <;> by_cases d : t5 < 4 <;> simp only [c, d, if_true, if_false]
    exact absurd ⟨c, d⟩ h0
  by_cases h1 : 0 ≤ t5
  case neg => simp [straightStep, h0, h1] at h
  obtain ⟨v, hg⟩ : ∃ v, r0[t5.toNat]? = some v := ⟨_, List.getElem?_eq_getElem (by omega)⟩
  rw [← h]
  have pk2 : ∀ n : Int, pickOk n 2 = true := fun _ => by simp [pickOk]
  have pk327680 : ∀ n : Int, pickOk n 327680 = true := fun _ => by simp [pickOk]
  simp only [straightStep, airPlane, airNext, h0, h1, hg, and_self, if_true]
  simp only [den_br, den_bind, den_ret, den_fail, den_inl, den_inr, decide_eq_true_eq, gt_iff_lt, ge_iff_le, beq_iff_eq]
  simp only [h0.1, h0.2, h1, hg, and_self, true_and, decide_true, if_true, den_get, den_br, den_bind, den_ret, den_fail, dv_eq, pk2, pk327680]
  rfl
theorem t_meniscushand_Straight (r0 : List Int) :
    evFnR Tryz.prog (Env.add 19 (F2p cInt cInt cInt pickOk pick) (Env.add 80 (F1 cInt cIv Iv.point) (Env.add 109 (F1 cInt cIv Iv.whole) Env.nil))) (Laws.add 4 (LoopR.of (sc 48 [5, 4, 0, 3, 2] (tCod 5 cInt (tCod 4 cInt (tSl 0 0 (tOwn 3 1 (tOwn 2 2 tNil))))) (rL_int (rBoxSl 3 ccIv ccIv_ok (rBoxSl 4 ccIv ccIv_ok (rG_surf 38 (rL_surf rNil)))))) (ocExit 0 (sc 48 [3, 2] (tOwn 3 0 (tOwn 2 1 tNil)) (rBoxSl 2 ccIv ccIv_ok (rBoxSl 3 ccIv ccIv_ok (rG_surf 38 (rL_surf rNil)))))) (runBy straightStep straightM)) Laws.nil) 200 Tryz.f63 (((sc 1 [0] (tSl 0 0 tNil) (rL_int rNil)).enc ((()), (r0, ()))).tmps.map Prod.snd) ((sc 1 [0] (tSl 0 0 tNil) (rL_int rNil)).enc ((()), (r0, ()))).mem (sc 1 [0] (tAgg 0 0 ccNil ccNil_ok ccIv ccIv_ok tNil) (rG_surf 38 rNil)).ts (sc 1 [0] (tAgg 0 0 ccNil ccNil_ok ccIv ccIv_ok tNil) (rG_surf 38 rNil)).dec =
      .bind (Iv.whole 8) fun viv0 => .get (runBy straightStep straightM ((0, 655360, ()), r0, viv0, Iv.mk 0 0 false, [], [], ())) fun vy1 => .ret ((((), vy1.2.1, ()), vy1.2.2.2.1, ())) := by kernel_rfl
theorem c_meniscushand_Straight : PlainR Tryz.prog 63 (sc 1 [0] (tSl 0 0 tNil) (rL_int rNil)) (sc 1 [0] (tAgg 0 0 ccNil ccNil_ok ccIv ccIv_ok tNil) (rG_surf 38 rNil)) (fun _ => true) ((fun x => (fun r : SysV => (((), r.1, ()), (r.2, ()))) (straightOf x.2.1))) := by
  intro x h N w vs hM hv
  obtain ⟨⟨⟩, ⟨r0, ⟨⟩⟩⟩ := x
  refine calls_of_treeR (n := 200) (EnvOK.add s_meniscushand_Pick (EnvOK.add s_meniscusref1_Point (EnvOK.add s_meniscusref1_Whole EnvOK.nil))) Tryz.func63 hv (Nat.le_of_ble_eq_true (by kernel_rfl)) (LFn.add (fn := Tryz.f63) (i := 4) (by kernel_rfl) ok_meniscushand_Straight_4 LFn.nil) hM (sc 1 [0] (tAgg 0 0 ccNil ccNil_ok ccIv ccIv_ok tNil) (rG_surf 38 rNil)) rfl ?_
  rw [t_meniscushand_Straight]
  obtain ⟨y, hy, y1, y2⟩ := straight_total r0 (Iv.whole 8) ⟨0, 0, false⟩
  simp only [straightOf, hy]
  rw [show (⟨0, 0, false⟩ : Iv) = ⟨0, 0, false⟩ from rfl]
  simp only [den_bind, den_br, den_get, den_ret, hy]
theorem s_meniscushand_Straight : Ev.Spec Tryz.prog 63 (FR (sc 1 [0] (tSl 0 0 tNil) (rL_int rNil)) (sc 1 [0] (tAgg 0 0 ccNil ccNil_ok ccIv ccIv_ok tNil) (rG_surf 38 rNil)) (fun _ => true) ((fun x => (fun r : SysV => (((), r.1, ()), (r.2, ()))) (straightOf x.2.1)))) := specR rfl (fun _ => rfl) (fun vs w => Tryz.call63 vs w) c_meniscushand_Straight

/-! meniscuslaw19.axis -/
theorem t_meniscuslaw19_axis (x0 : Iv) :
    evFn Tryz.prog (Env.add 21 (F1 cInt cIv Iv.point) (Env.add 23 (F3 cIv cIv cIv cV V.mk) (Env.add 52 (F1 cInt cIv Iv.whole) Env.nil))) Laws.nil 200 Tryz.f62 [cIv.av x0] [] cRay.dec =
      .bind (Iv.point 0) fun viv0 => .bind (Iv.point 0) fun viv1 => .bind (V.mk x0 viv0 viv1) fun vv2 => .bind (Iv.point 0) fun viv3 => .bind (Iv.point 0) fun viv4 => .bind (Iv.whole 1) fun viv5 => .bind (V.mk viv3 viv4 viv5) fun vv6 => .ret (Ray.mk vv2 vv6) := by kernel_rfl
theorem c_meniscuslaw19_axis (x0 : Iv) : Plain Tryz.prog 62 [cIv.enc x0] (cRay.enc (axisAt x0)) :=
  plain_of_tree (n := 200) (EnvOK.add s_iv_Point (EnvOK.add s_vec_Of (EnvOK.add s_iv_Whole EnvOK.nil))) Tryz.func62 (args := [cIv.av x0]) (by simp only [AV.vals, Cod.av_val]) (Nat.le_of_ble_eq_true (by kernel_rfl)) LFn.nil cRay (by
    rw [t_meniscuslaw19_axis]
    rfl)
theorem s_meniscuslaw19_axis : Ev.Spec Tryz.prog 62 (F1 cIv cRay axisAt) := spec1 (fun vs w => Tryz.call62 vs w) c_meniscuslaw19_axis

/-! meniscuslaw19.known -/
theorem t_meniscuslaw19_known  :
    evFn Tryz.prog (Env.add 26 (FS (sc 2 [0, 1] (tAgg 0 0 ccNil ccNil_ok ccIv ccIv_ok (tCod 1 cRay tNil)) (rL_surf rNil)) cRes ((fun x => lenOk x.2.1)) ((fun x => traceOf x.2.1 x.1.2.2.1))) (Env.add 52 (F1 cInt cIv Iv.whole) (Env.add 62 (F1 cIv cRay axisAt) (Env.add 63 (FR (sc 1 [0] (tSl 0 0 tNil) (rL_int rNil)) (sc 1 [0] (tAgg 0 0 ccNil ccNil_ok ccIv ccIv_ok tNil) (rG_surf 38 rNil)) (fun _ => true) ((fun x => (fun r : SysV => (((), r.1, ()), (r.2, ()))) (straightOf x.2.1)))) Env.nil)))) Laws.nil 200 Tryz.f27 [] [] cBool.dec =
      .bind (Iv.whole 1) fun viv0 => .bind (axisAt viv0) fun vra1 => .br (Ev.lenOk ([] : List Iv)) (.bind (traceOf [] vra1) fun vre2 => .br (true) (.bind ((((), (straightOf [0]).1, ()), (straightOf [0]).2, ())) fun vy3 => .bind (Iv.whole 1) fun viv4 => .bind (axisAt viv4) fun vra5 => .br (Ev.lenOk vy3.2.1) (.bind (traceOf vy3.2.1 vra5) fun vre6 => .br (vre2.1 == 1) (.br (vre2.2.1 == 0) (.bind (Iv.whole 1) fun viv7 => .bind (axisAt viv7) fun vra8 => .br (vre2.2.2.o.x.lo == vra8.o.x.lo && (vre2.2.2.o.x.hi == vra8.o.x.hi && vre2.2.2.o.x.no == vra8.o.x.no) && (vre2.2.2.o.y.lo == vra8.o.y.lo && (vre2.2.2.o.y.hi == vra8.o.y.hi && vre2.2.2.o.y.no == vra8.o.y.no) && (vre2.2.2.o.z.lo == vra8.o.z.lo && (vre2.2.2.o.z.hi == vra8.o.z.hi && vre2.2.2.o.z.no == vra8.o.z.no))) && (vre2.2.2.d.x.lo == vra8.d.x.lo && (vre2.2.2.d.x.hi == vra8.d.x.hi && vre2.2.2.d.x.no == vra8.d.x.no) && (vre2.2.2.d.y.lo == vra8.d.y.lo && (vre2.2.2.d.y.hi == vra8.d.y.hi && vre2.2.2.d.y.no == vra8.d.y.no) && (vre2.2.2.d.z.lo == vra8.d.z.lo && (vre2.2.2.d.z.hi == vra8.d.z.hi && vre2.2.2.d.z.no == vra8.d.z.no))))) (.br (vre6.1 == 1) (.br (vre6.2.1 == 1) (.bind (Iv.whole 10) fun viv9 => .ret (vre6.2.2.o.z.lo == viv9.lo && (vre6.2.2.o.z.hi == viv9.hi && vre6.2.2.o.z.no == viv9.no))) (.ret (false))) (.ret (false))) (.ret (false))) (.ret (false))) (.ret (false))) (.fail)) (.fail)) (.fail) := by kernel_rfl
theorem c_meniscuslaw19_known  : Plain Tryz.prog 27 [] (cBool.enc (true)) :=
  plain_of_tree (n := 200) (EnvOK.add s_trace_Trace (EnvOK.add s_iv_Whole (EnvOK.add s_meniscuslaw19_axis (EnvOK.add s_meniscushand_Straight EnvOK.nil)))) Tryz.func27 (args := []) rfl (Nat.le_of_ble_eq_true (by kernel_rfl)) LFn.nil cBool (by
    rw [t_meniscuslaw19_known]
    decide +kernel)
theorem s_meniscuslaw19_known : Ev.Spec Tryz.prog 27 (F0 cBool true) := spec0 (fun vs w => Tryz.call27 vs w) c_meniscuslaw19_known

/-! meniscuslaw19.TraceParts -/
theorem t_meniscuslaw19_TraceParts (t0 : Int) (t2 : RawRay) (t3 : Int) (r0 : List RawFace) :
    evFn Tryz.prog (Env.add 10 (FR (sc 5 [0, 1, 2, 3, 4] (tCod 0 cInt (tSl 1 0 (tSl 2 1 (tCod 3 cInt (tCod 4 cBool tNil))))) (rL_rface (rL_int rNil))) (sc 1 [0] (tAgg 0 0 ccNil ccNil_ok ccIv ccIv_ok tNil) (rG_surf 38 rNil)) ((fun x => mostOk x.1.2.1)) ((fun x => (fun r : SysV => (((), r.1, ()), (r.2, ()))) (systemOf x.1.1 x.2.1 x.2.2.1 x.1.2.1 x.1.2.2.1)))) (Env.add 11 (F1 cRawRay cRay rayOf) (Env.add 19 (F2p cInt cInt cInt pickOk pick) (Env.add 22 (F2 cSurf cRay (cTwo cRay cInt) stepOf) (Env.add 26 (FS (sc 2 [0, 1] (tAgg 0 0 ccNil ccNil_ok ccIv ccIv_ok (tCod 1 cRay tNil)) (rL_surf rNil)) cRes ((fun x => lenOk x.2.1)) ((fun x => traceOf x.2.1 x.1.2.2.1))) (Env.add 27 (F0 cBool true) Env.nil)))))) Laws.nil 200 Tryz.f6 (((sc 4 [0, 1, 2, 3] (tCod 0 cInt (tSl 1 0 (tCod 2 cRawRay (tCod 3 cInt tNil)))) (rL_rface rNil)).enc ((t0, t2, t3, ()), (r0, ()))).tmps.map Prod.snd) ((sc 4 [0, 1, 2, 3] (tCod 0 cInt (tSl 1 0 (tCod 2 cRawRay (tCod 3 cInt tNil)))) (rL_rface rNil)).enc ((t0, t2, t3, ()), (r0, ()))).mem cBool.dec =
      .br (mostOk 6) (.bind ((((), (systemOf t0 r0 [] 6 false).1, ()), (systemOf t0 r0 [] 6 false).2, ())) fun vy0 => .bind (rayOf t2) fun vra1 => .br (pickOk t3 (IntKind.i64.wrap ((@Nat.cast Int _ vy0.2.1.length) + 1))) (.bind (pick t3 (IntKind.i64.wrap ((@Nat.cast Int _ vy0.2.1.length) + 1))) fun vn2 => .br (Ev.lenOk vy0.2.1) (.bind (traceOf vy0.2.1 vra1) fun vre3 => .br (decide ((0 : Int) ≤ 0 ∧ 0 ≤ vn2 ∧ vn2 ≤ (@Nat.cast Int _ vy0.2.1.length))) (.br (Ev.lenOk (List.drop (Int.toNat 0) (List.take vn2.toNat vy0.2.1))) (.bind (traceOf (List.drop (Int.toNat 0) (List.take vn2.toNat vy0.2.1)) vra1) fun vre4 => .bind (true) fun vb5 => .br (!vb5) (.ret (false)) (.br (vre4.1 != 1) (.br (vre4.1 != vre3.1) (.ret (false)) (.br (vre4.2.1 != vre3.2.1) (.ret (false)) (.br (vre4.1 == 1) (.br (decide (0 ≤ vn2 ∧ vn2 ≤ (@Nat.cast Int _ vy0.2.1.length) ∧ (@Nat.cast Int _ vy0.2.1.length) ≤ (@Nat.cast Int _ vy0.2.1.length))) (.br (Ev.lenOk (List.drop vn2.toNat (List.take ((@Nat.cast Int _ vy0.2.1.length)).toNat vy0.2.1))) (.bind (traceOf (List.drop vn2.toNat (List.take ((@Nat.cast Int _ vy0.2.1.length)).toNat vy0.2.1)) vre4.2.2) fun vre6 => .br (vre6.1 != vre3.1) (.ret (false)) (.br (IntKind.i64.wrap (vre6.2.1 + vn2) != vre3.2.1) (.ret (false)) (.br (!(vre6.2.2.o.x.lo == vre3.2.2.o.x.lo && (vre6.2.2.o.x.hi == vre3.2.2.o.x.hi && vre6.2.2.o.x.no == vre3.2.2.o.x.no) && (vre6.2.2.o.y.lo == vre3.2.2.o.y.lo && (vre6.2.2.o.y.hi == vre3.2.2.o.y.hi && vre6.2.2.o.y.no == vre3.2.2.o.y.no) && (vre6.2.2.o.z.lo == vre3.2.2.o.z.lo && (vre6.2.2.o.z.hi == vre3.2.2.o.z.hi && vre6.2.2.o.z.no == vre3.2.2.o.z.no))) && (vre6.2.2.d.x.lo == vre3.2.2.d.x.lo && (vre6.2.2.d.x.hi == vre3.2.2.d.x.hi && vre6.2.2.d.x.no == vre3.2.2.d.x.no) && (vre6.2.2.d.y.lo == vre3.2.2.d.y.lo && (vre6.2.2.d.y.hi == vre3.2.2.d.y.hi && vre6.2.2.d.y.no == vre3.2.2.d.y.no) && (vre6.2.2.d.z.lo == vre3.2.2.d.z.lo && (vre6.2.2.d.z.hi == vre3.2.2.d.z.hi && vre6.2.2.d.z.no == vre3.2.2.d.z.no)))))) (.ret (false)) (.br ((@Nat.cast Int _ vy0.2.1.length) == 1) (.br (decide ((0 : Int) ≤ 0 ∧ 0 < (@Nat.cast Int _ vy0.2.1.length))) (.get (vy0.2.1[Int.toNat 0]?) fun vt7 => .bind (stepOf vt7 vra1) fun vy8 => .br (vy8.2 == vre3.1) (.ret (vy8.1.o.x.lo == vre3.2.2.o.x.lo && (vy8.1.o.x.hi == vre3.2.2.o.x.hi && vy8.1.o.x.no == vre3.2.2.o.x.no) && (vy8.1.o.y.lo == vre3.2.2.o.y.lo && (vy8.1.o.y.hi == vre3.2.2.o.y.hi && vy8.1.o.y.no == vre3.2.2.o.y.no) && (vy8.1.o.z.lo == vre3.2.2.o.z.lo && (vy8.1.o.z.hi == vre3.2.2.o.z.hi && vy8.1.o.z.no == vre3.2.2.o.z.no))) && (vy8.1.d.x.lo == vre3.2.2.d.x.lo && (vy8.1.d.x.hi == vre3.2.2.d.x.hi && vy8.1.d.x.no == vre3.2.2.d.x.no) && (vy8.1.d.y.lo == vre3.2.2.d.y.lo && (vy8.1.d.y.hi == vre3.2.2.d.y.hi && vy8.1.d.y.no == vre3.2.2.d.y.no) && (vy8.1.d.z.lo == vre3.2.2.d.z.lo && (vy8.1.d.z.hi == vre3.2.2.d.z.hi && vy8.1.d.z.no == vre3.2.2.d.z.no)))))) (.ret (false))) (.fail)) (.ret (true)))))) (.fail)) (.fail)) (.br ((@Nat.cast Int _ vy0.2.1.length) == 1) (.br (decide ((0 : Int) ≤ 0 ∧ 0 < (@Nat.cast Int _ vy0.2.1.length))) (.get (vy0.2.1[Int.toNat 0]?) fun vt9 => .bind (stepOf vt9 vra1) fun vy10 => .br (vy10.2 == vre3.1) (.ret (vy10.1.o.x.lo == vre3.2.2.o.x.lo && (vy10.1.o.x.hi == vre3.2.2.o.x.hi && vy10.1.o.x.no == vre3.2.2.o.x.no) && (vy10.1.o.y.lo == vre3.2.2.o.y.lo && (vy10.1.o.y.hi == vre3.2.2.o.y.hi && vy10.1.o.y.no == vre3.2.2.o.y.no) && (vy10.1.o.z.lo == vre3.2.2.o.z.lo && (vy10.1.o.z.hi == vre3.2.2.o.z.hi && vy10.1.o.z.no == vre3.2.2.o.z.no))) && (vy10.1.d.x.lo == vre3.2.2.d.x.lo && (vy10.1.d.x.hi == vre3.2.2.d.x.hi && vy10.1.d.x.no == vre3.2.2.d.x.no) && (vy10.1.d.y.lo == vre3.2.2.d.y.lo && (vy10.1.d.y.hi == vre3.2.2.d.y.hi && vy10.1.d.y.no == vre3.2.2.d.y.no) && (vy10.1.d.z.lo == vre3.2.2.d.z.lo && (vy10.1.d.z.hi == vre3.2.2.d.z.hi && vy10.1.d.z.no == vre3.2.2.d.z.no)))))) (.ret (false))) (.fail)) (.ret (true)))))) (.br (vre4.1 == 1) (.br (decide (0 ≤ vn2 ∧ vn2 ≤ (@Nat.cast Int _ vy0.2.1.length) ∧ (@Nat.cast Int _ vy0.2.1.length) ≤ (@Nat.cast Int _ vy0.2.1.length))) (.br (Ev.lenOk (List.drop vn2.toNat (List.take ((@Nat.cast Int _ vy0.2.1.length)).toNat vy0.2.1))) (.bind (traceOf (List.drop vn2.toNat (List.take ((@Nat.cast Int _ vy0.2.1.length)).toNat vy0.2.1)) vre4.2.2) fun vre11 => .br (vre11.1 != vre3.1) (.ret (false)) (.br (IntKind.i64.wrap (vre11.2.1 + vn2) != vre3.2.1) (.ret (false)) (.br (!(vre11.2.2.o.x.lo == vre3.2.2.o.x.lo && (vre11.2.2.o.x.hi == vre3.2.2.o.x.hi && vre11.2.2.o.x.no == vre3.2.2.o.x.no) && (vre11.2.2.o.y.lo == vre3.2.2.o.y.lo && (vre11.2.2.o.y.hi == vre3.2.2.o.y.hi && vre11.2.2.o.y.no == vre3.2.2.o.y.no) && (vre11.2.2.o.z.lo == vre3.2.2.o.z.lo && (vre11.2.2.o.z.hi == vre3.2.2.o.z.hi && vre11.2.2.o.z.no == vre3.2.2.o.z.no))) && (vre11.2.2.d.x.lo == vre3.2.2.d.x.lo && (vre11.2.2.d.x.hi == vre3.2.2.d.x.hi && vre11.2.2.d.x.no == vre3.2.2.d.x.no) && (vre11.2.2.d.y.lo == vre3.2.2.d.y.lo && (vre11.2.2.d.y.hi == vre3.2.2.d.y.hi && vre11.2.2.d.y.no == vre3.2.2.d.y.no) && (vre11.2.2.d.z.lo == vre3.2.2.d.z.lo && (vre11.2.2.d.z.hi == vre3.2.2.d.z.hi && vre11.2.2.d.z.no == vre3.2.2.d.z.no)))))) (.ret (false)) (.br ((@Nat.cast Int _ vy0.2.1.length) == 1) (.br (decide ((0 : Int) ≤ 0 ∧ 0 < (@Nat.cast Int _ vy0.2.1.length))) (.get (vy0.2.1[Int.toNat 0]?) fun vt12 => .bind (stepOf vt12 vra1) fun vy13 => .br (vy13.2 == vre3.1) (.ret (vy13.1.o.x.lo == vre3.2.2.o.x.lo && (vy13.1.o.x.hi == vre3.2.2.o.x.hi && vy13.1.o.x.no == vre3.2.2.o.x.no) && (vy13.1.o.y.lo == vre3.2.2.o.y.lo && (vy13.1.o.y.hi == vre3.2.2.o.y.hi && vy13.1.o.y.no == vre3.2.2.o.y.no) && (vy13.1.o.z.lo == vre3.2.2.o.z.lo && (vy13.1.o.z.hi == vre3.2.2.o.z.hi && vy13.1.o.z.no == vre3.2.2.o.z.no))) && (vy13.1.d.x.lo == vre3.2.2.d.x.lo && (vy13.1.d.x.hi == vre3.2.2.d.x.hi && vy13.1.d.x.no == vre3.2.2.d.x.no) && (vy13.1.d.y.lo == vre3.2.2.d.y.lo && (vy13.1.d.y.hi == vre3.2.2.d.y.hi && vy13.1.d.y.no == vre3.2.2.d.y.no) && (vy13.1.d.z.lo == vre3.2.2.d.z.lo && (vy13.1.d.z.hi == vre3.2.2.d.z.hi && vy13.1.d.z.no == vre3.2.2.d.z.no)))))) (.ret (false))) (.fail)) (.ret (true)))))) (.fail)) (.fail)) (.br ((@Nat.cast Int _ vy0.2.1.length) == 1) (.br (decide ((0 : Int) ≤ 0 ∧ 0 < (@Nat.cast Int _ vy0.2.1.length))) (.get (vy0.2.1[Int.toNat 0]?) fun vt14 => .bind (stepOf vt14 vra1) fun vy15 => .br (vy15.2 == vre3.1) (.ret (vy15.1.o.x.lo == vre3.2.2.o.x.lo && (vy15.1.o.x.hi == vre3.2.2.o.x.hi && vy15.1.o.x.no == vre3.2.2.o.x.no) && (vy15.1.o.y.lo == vre3.2.2.o.y.lo && (vy15.1.o.y.hi == vre3.2.2.o.y.hi && vy15.1.o.y.no == vre3.2.2.o.y.no) && (vy15.1.o.z.lo == vre3.2.2.o.z.lo && (vy15.1.o.z.hi == vre3.2.2.o.z.hi && vy15.1.o.z.no == vre3.2.2.o.z.no))) && (vy15.1.d.x.lo == vre3.2.2.d.x.lo && (vy15.1.d.x.hi == vre3.2.2.d.x.hi && vy15.1.d.x.no == vre3.2.2.d.x.no) && (vy15.1.d.y.lo == vre3.2.2.d.y.lo && (vy15.1.d.y.hi == vre3.2.2.d.y.hi && vy15.1.d.y.no == vre3.2.2.d.y.no) && (vy15.1.d.z.lo == vre3.2.2.d.z.lo && (vy15.1.d.z.hi == vre3.2.2.d.z.hi && vy15.1.d.z.no == vre3.2.2.d.z.no)))))) (.ret (false))) (.fail)) (.ret (true)))))) (.fail)) (.fail)) (.fail)) (.fail)) (.fail) := by kernel_rfl
theorem c_meniscuslaw19_TraceParts : PlainS Tryz.prog 6 (sc 4 [0, 1, 2, 3] (tCod 0 cInt (tSl 1 0 (tCod 2 cRawRay (tCod 3 cInt tNil)))) (rL_rface rNil)) cBool (fun _ => true) ((fun _ => true)) := by
  intro x h N w vs hM hv
  obtain ⟨⟨t0, t2, t3, ⟨⟩⟩, ⟨r0, ⟨⟩⟩⟩ := x
  refine calls_of_tree (n := 200) (EnvOK.add s_meniscushand_System (EnvOK.add s_meniscushand_Ray (EnvOK.add s_meniscushand_Pick (EnvOK.add s_step_Go (EnvOK.add s_trace_Trace (EnvOK.add s_meniscuslaw19_known EnvOK.nil)))))) Tryz.func6 hv (Nat.le_of_ble_eq_true (by kernel_rfl)) LFn.nil hM cBool ?_
  rw [t_meniscuslaw19_TraceParts]
  have hR := systemOf_R t0 r0 [] false (most := 6) rfl
  have hlen := hR.len
  simp only [show mostOk 6 = true from rfl, if_true, den_br, den_bind, den_get, den_ret, den_fail]
  generalize (systemOf t0 r0 [] 6 false).2 = l at *
  generalize rayOf t2 = r at *
  have hw : IntKind.i64.wrap ((l.length : Int) + 1) = (l.length : Int) + 1 := wr (by omega)
  have hp : pickOk t3 ((l.length : Int) + 1) = true := by simp [pickOk]; omega
  have hb := pick_bd t3 (m := (l.length : Int) + 1) (by omega)
  simp only [hw, hp, if_true]
  generalize pick t3 ((l.length : Int) + 1) = k at *
  obtain ⟨n, rfl⟩ : ∃ n : Nat, k = n := ⟨k.toNat, by omega⟩
  have hn : n ≤ l.length := by omega
  have l0 : lenOk l = true := lenOk_iff.2 (by omega)
  have l1 : lenOk (l.take n) = true := lenOk_iff.2 (by simp; omega)
  have l2 : lenOk (l.drop n) = true := lenOk_iff.2 (by simp; omega)
  have d1 : ((0 : Int) ≤ 0 ∧ (0 : Int) ≤ (n : Int) ∧ (n : Int) ≤ (l.length : Int)) := ⟨by omega, by omega, by omega⟩
  have d2 : ((0 : Int) ≤ (n : Int) ∧ (n : Int) ≤ (l.length : Int) ∧ (l.length : Int) ≤ (l.length : Int)) := ⟨by omega, by omega, by omega⟩
  have z0 : Int.toNat 0 = 0 := rfl
  have one : ∀ (a : Bool), (if ((l.length : Int) == 1) = true then a else true) = true ∨ True := fun _ => .inr trivial
  obtain ⟨p1, p2⟩ := trace_parts l n hn r
  have t1 : ∀ s, l = [s] → (traceOf l r).1 = (stepOf s r).2 ∧ (traceOf l r).2.2 = (stepOf s r).1 := by rintro s rfl; exact trace_one s r
  have ha := trace_at (l.drop n) 0 (traceOf (l.take n) r).2.2
  simp only [z0, List.drop_zero, Int.toNat_natCast, List.take_length, l0, l1, l2, d1, d2, and_self, decide_true, if_true, Bool.not_true, Bool.false_eq_true, if_false]
  by_cases c : (traceOf (l.take n) r).1 = 1
  · have h := p2 c
    have hat : IntKind.i64.wrap ((traceOf (l.drop n) (traceOf (l.take n) r).2.2).2.1 + (n : Int)) = (traceOf (l.drop n) (traceOf (l.take n) r).2.2).2.1 + (n : Int) := by
      have e : traceOf (l.drop n) (traceOf (l.take n) r).2.2 = traceGo (l.drop n) 0 (traceOf (l.take n) r).2.2 := rfl
      rw [e]
      simp only [List.length_drop] at ha
      exact wr (by omega)
    rw [hat]
    have e1 : (traceOf (l.drop n) (traceOf (l.take n) r).2.2).1 = (traceOf l r).1 := by rw [h]
    have e2 : (traceOf (l.drop n) (traceOf (l.take n) r).2.2).2.1 + (n : Int) = (traceOf l r).2.1 := by rw [h]
    have e3 : (traceOf (l.drop n) (traceOf (l.take n) r).2.2).2.2 = (traceOf l r).2.2 := by rw [h]
    rw [e1, e2, e3, c]
    simp only [bne_self_eq_false, beq_self_eq_true, Bool.and_self, Bool.not_true, Bool.false_eq_true, if_true, if_false]
    by_cases c1 : ((l.length : Int) == 1) = true
    · obtain ⟨s, rfl⟩ := single_of c1
      obtain ⟨q1, q2⟩ := t1 s rfl
      simp [q1, q2, den_get, den_bind, den_br, den_ret]
    · simp only [c1, if_false]
      rfl
  · have h := p1 c
    have c' : ((traceOf (l.take n) r).1 == 1) = false := by simpa using c
    have c2 : ((traceOf (l.take n) r).1 != 1) = true := by simpa using c
    rw [← h] at c' c2
    rw [← h]
    simp only [c', c2, bne_self_eq_false, beq_self_eq_true, Bool.and_self, Bool.not_true, Bool.false_eq_true, if_true, if_false]
    by_cases c1 : ((l.length : Int) == 1) = true
    · obtain ⟨s, rfl⟩ := single_of c1
      obtain ⟨q1, q2⟩ := t1 s rfl
      simp [q1, q2, den_get, den_bind, den_br, den_ret]
    · simp only [c1, if_false]
      rfl
theorem s_meniscuslaw19_TraceParts : Ev.Spec Tryz.prog 6 (FS (sc 4 [0, 1, 2, 3] (tCod 0 cInt (tSl 1 0 (tCod 2 cRawRay (tCod 3 cInt tNil)))) (rL_rface rNil)) cBool (fun _ => true) ((fun _ => true))) := specS rfl (fun vs w => Tryz.call6 vs w) c_meniscuslaw19_TraceParts
end Go.Proofs.YtlbmjajjldfigaaGreat
