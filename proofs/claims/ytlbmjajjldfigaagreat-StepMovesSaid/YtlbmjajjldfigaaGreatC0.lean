/-
  Contracts of calls, written by a small program of this session out of the evaluator's trees.
-/
import Derived.Test.YtlbmjajjldfigaaGreatCore
import Derived.Test.YtlbmjajjldfigaaGreatCoreLoops
import Derived.Test.YtlbmjajjldfigaaGreatCore2
import Derived.Test.YtlbmjajjldfigaaGreatCore3
import Derived.Test.YtlbmjajjldfigaaGreatCore4
import Derived.Test.YtlbmjajjldfigaaGreatCore5
import Derived.Test.YtlbmjajjldfigaaGreatCore6
import Derived.Test.YtlbmjajjldfigaaGreatCore7
import Derived.Test.YtlbmjajjldfigaaGreatCore8
import Derived.Test.YtlbmjajjldfigaaGreatCore9
import Derived.Test.YtlbmjajjldfigaaGreatEvMore
import Derived.Test.YtlbmjajjldfigaaGreatSym
import Derived.Test.YtlbmjajjldfigaaGreatSysF
import Derived.Test.YtlbmjajjldfigaaGreatLess2
import Derived.Test.YtlbmjajjldfigaaGreatEach
import Derived.Test.YtlbmjajjldfigaaGreatLaws1
import Derived.Test.YtlbmjajjldfigaaGreatLaws2
import Derived.Test.YtlbmjajjldfigaaGreatMovZ
import Derived.Test.YtlbmjajjldfigaaGreatR0
import Derived.Test.YtlbmjajjldfigaaGreatEvCod
import Derived.Test.YtlbmjajjldfigaaGreatEvRet
import Derived.Test.YtlbmjajjldfigaaGreatProg
namespace Go.Proofs.YtlbmjajjldfigaaGreat
open Go Go.RowKit Ev
set_option maxRecDepth 100000
set_option linter.unusedVariables false
set_option linter.unusedSimpArgs false

/-! meniscuslaw18.plane -/
theorem t_meniscuslaw18_plane (x0 : Iv) (x1 : Iv) (x2 : Iv) :
    evFn Tryz.prog (Env.add 21 (F1 cInt cIv Iv.point) (Env.add 52 (F1 cInt cIv Iv.whole) Env.nil)) Laws.nil 200 Tryz.f59 [cIv.av x0, cIv.av x1, cIv.av x2] [] cSurf.dec =
      .bind (Iv.point 0) fun viv0 => .bind (Iv.whole 1) fun viv1 => .bind (Iv.point 0) fun viv2 => .bind (Iv.point 0) fun viv3 => .ret (Surf.mk false false viv0 viv1 viv2 viv3 x0 x2 x1) := by kernel_rfl
theorem c_meniscuslaw18_plane (x0 : Iv) (x1 : Iv) (x2 : Iv) : Plain Tryz.prog 59 [cIv.enc x0, cIv.enc x1, cIv.enc x2] (cSurf.enc (planeOf x0 x1 x2)) :=
  plain_of_tree (n := 200) (EnvOK.add s_iv_Point (EnvOK.add s_iv_Whole EnvOK.nil)) Tryz.func59 (args := [cIv.av x0, cIv.av x1, cIv.av x2]) (by simp only [AV.vals, Cod.av_val]) (Nat.le_of_ble_eq_true (by kernel_rfl)) LFn.nil cSurf (by
    rw [t_meniscuslaw18_plane]
    rfl)
theorem s_meniscuslaw18_plane : Ev.Spec Tryz.prog 59 (F3 cIv cIv cIv cSurf planeOf) := spec3 (fun vs w => Tryz.call59 vs w) c_meniscuslaw18_plane

/-! meniscuslaw18.axis -/
theorem t_meniscuslaw18_axis (x0 : Iv) :
    evFn Tryz.prog (Env.add 21 (F1 cInt cIv Iv.point) (Env.add 23 (F3 cIv cIv cIv cV V.mk) (Env.add 52 (F1 cInt cIv Iv.whole) Env.nil))) Laws.nil 200 Tryz.f60 [cIv.av x0] [] cRay.dec =
      .bind (Iv.point 0) fun viv0 => .bind (Iv.point 0) fun viv1 => .bind (V.mk x0 viv0 viv1) fun vv2 => .bind (Iv.point 0) fun viv3 => .bind (Iv.point 0) fun viv4 => .bind (Iv.whole 1) fun viv5 => .bind (V.mk viv3 viv4 viv5) fun vv6 => .ret (Ray.mk vv2 vv6) := by kernel_rfl
theorem c_meniscuslaw18_axis (x0 : Iv) : Plain Tryz.prog 60 [cIv.enc x0] (cRay.enc (axisAt x0)) :=
  plain_of_tree (n := 200) (EnvOK.add s_iv_Point (EnvOK.add s_vec_Of (EnvOK.add s_iv_Whole EnvOK.nil))) Tryz.func60 (args := [cIv.av x0]) (by simp only [AV.vals, Cod.av_val]) (Nat.le_of_ble_eq_true (by kernel_rfl)) LFn.nil cRay (by
    rw [t_meniscuslaw18_axis]
    rfl)
theorem s_meniscuslaw18_axis : Ev.Spec Tryz.prog 60 (F1 cIv cRay axisAt) := spec1 (fun vs w => Tryz.call60 vs w) c_meniscuslaw18_axis

/-! meniscuslaw18.known -/
theorem t_meniscuslaw18_known  :
    evFn Tryz.prog (Env.add 21 (F1 cInt cIv Iv.point) (Env.add 22 (F2 cSurf cRay (cTwo cRay cInt) stepOf) (Env.add 23 (F3 cIv cIv cIv cV V.mk) (Env.add 25 (F0 cRay Ray.none) (Env.add 52 (F1 cInt cIv Iv.whole) (Env.add 59 (F3 cIv cIv cIv cSurf planeOf) (Env.add 60 (F1 cIv cRay axisAt) Env.nil))))))) Laws.nil 200 Tryz.f24 [] [] cBool.dec =
      .bind (Iv.whole 5) fun viv0 => .bind (Iv.whole 1) fun viv1 => .bind (Iv.whole 9) fun viv2 => .bind (planeOf viv0 viv1 viv2) fun vsu3 => .bind (Iv.whole 4) fun viv4 => .bind (axisAt viv4) fun vra5 => .bind (stepOf vsu3 vra5) fun vy6 => .bind (Iv.whole 5) fun viv7 => .bind (Iv.whole 1) fun viv8 => .bind (Iv.whole 9) fun viv9 => .bind (planeOf viv7 viv8 viv9) fun vsu10 => .bind (Iv.whole 2) fun viv11 => .bind (axisAt viv11) fun vra12 => .bind (stepOf vsu10 vra12) fun vy13 => .br (vy6.2 == 2) (.bind (Ray.none) fun vra14 => .br (vy6.1.o.x.lo == vra14.o.x.lo && (vy6.1.o.x.hi == vra14.o.x.hi && vy6.1.o.x.no == vra14.o.x.no) && (vy6.1.o.y.lo == vra14.o.y.lo && (vy6.1.o.y.hi == vra14.o.y.hi && vy6.1.o.y.no == vra14.o.y.no) && (vy6.1.o.z.lo == vra14.o.z.lo && (vy6.1.o.z.hi == vra14.o.z.hi && vy6.1.o.z.no == vra14.o.z.no))) && (vy6.1.d.x.lo == vra14.d.x.lo && (vy6.1.d.x.hi == vra14.d.x.hi && vy6.1.d.x.no == vra14.d.x.no) && (vy6.1.d.y.lo == vra14.d.y.lo && (vy6.1.d.y.hi == vra14.d.y.hi && vy6.1.d.y.no == vra14.d.y.no) && (vy6.1.d.z.lo == vra14.d.z.lo && (vy6.1.d.z.hi == vra14.d.z.hi && vy6.1.d.z.no == vra14.d.z.no))))) (.br (vy13.2 == 1) (.bind (Iv.whole 2) fun viv15 => .bind (Iv.point 0) fun viv16 => .bind (Iv.whole 5) fun viv17 => .bind (V.mk viv15 viv16 viv17) fun vv18 => .ret (vy13.1.o.x.lo == vv18.x.lo && (vy13.1.o.x.hi == vv18.x.hi && vy13.1.o.x.no == vv18.x.no) && (vy13.1.o.y.lo == vv18.y.lo && (vy13.1.o.y.hi == vv18.y.hi && vy13.1.o.y.no == vv18.y.no) && (vy13.1.o.z.lo == vv18.z.lo && (vy13.1.o.z.hi == vv18.z.hi && vy13.1.o.z.no == vv18.z.no))))) (.ret (false))) (.ret (false))) (.ret (false)) := by kernel_rfl
theorem c_meniscuslaw18_known  : Plain Tryz.prog 24 [] (cBool.enc (true)) :=
  plain_of_tree (n := 200) (EnvOK.add s_iv_Point (EnvOK.add s_step_Go (EnvOK.add s_vec_Of (EnvOK.add s_meniscushand_NoRay (EnvOK.add s_iv_Whole (EnvOK.add s_meniscuslaw18_plane (EnvOK.add s_meniscuslaw18_axis EnvOK.nil))))))) Tryz.func24 (args := []) rfl (Nat.le_of_ble_eq_true (by kernel_rfl)) LFn.nil cBool (by
    rw [t_meniscuslaw18_known]
    decide +kernel)
theorem s_meniscuslaw18_known : Ev.Spec Tryz.prog 24 (F0 cBool true) := spec0 (fun vs w => Tryz.call24 vs w) c_meniscuslaw18_known

/-! meniscuslaw18.StepMoves -/
theorem tl_meniscuslaw18_StepMoves_7 (t38 : Int) (t37 : Int) (t3 : Int) (r0 : List Surf) (r1 : Ray) (r2 : Ray) :
    ev Tryz.prog (Env.add 10 (FR (sc 5 [0, 1, 2, 3, 4] (tCod 0 cInt (tSl 1 0 (tSl 2 1 (tCod 3 cInt (tCod 4 cBool tNil))))) (rL_rface (rL_int rNil))) (sc 1 [0] (tAgg 0 0 ccNil ccNil_ok ccIv ccIv_ok tNil) (rG_surf 38 rNil)) ((fun x => mostOk x.1.2.1)) ((fun x => (fun r : SysV => (((), r.1, ()), (r.2, ()))) (systemOf x.1.1 x.2.1 x.2.2.1 x.1.2.1 x.1.2.2.1)))) (Env.add 11 (F1 cRawRay cRay rayOf) (Env.add 19 (F2p cInt cInt cInt pickOk pick) (Env.add 20 (F2 cIv cIv cIv Iv.add) (Env.add 21 (F1 cInt cIv Iv.point) (Env.add 22 (F2 cSurf cRay (cTwo cRay cInt) stepOf) (Env.add 23 (F3 cIv cIv cIv cV V.mk) (Env.add 24 (F0 cBool true) Env.nil)))))))) Laws.nil 200 none (loopAt Tryz.f4 7) ((sc 94 [38, 37, 3, 36, 10, 11] (tCod 38 cInt (tCod 37 cInt (tCod 3 cInt (tSl 36 0 (tOwn 10 1 (tOwn 11 2 tNil)))))) (rG_surf 38 (rBox ccRay ccRay_ok (rBox ccRay ccRay_ok rNil)))).enc ((t38, t37, t3, ()), (r0, r1, r2, ()))) (backK (sc 94 [38, 37, 3, 36, 10, 11] (tCod 38 cInt (tCod 37 cInt (tCod 3 cInt (tSl 36 0 (tOwn 10 1 (tOwn 11 2 tNil)))))) (rG_surf 38 (rBox ccRay ccRay_ok (rBox ccRay ccRay_ok rNil)))) (ocOr (ocExit 0 (sc 94 [] tNil rNil)) (ocRet (sc 94 [8] (tCod 8 cBool tNil) rNil)))) =
      .br (decide (t38 < t37)) (.br (decide (0 ≤ t38 ∧ t38 < (@Nat.cast Int _ r0.length))) (.get (r0[t38.toNat]?) fun vt0 => .bind (stepOf vt0 r1) fun vy1 => .bind (Iv.point t3) fun viv2 => .bind (vt0.at_.add viv2) fun viv3 => .bind (stepOf (Surf.mk vt0.stop vt0.bent vt0.curve vt0.conic vt0.a4 vt0.a6 viv3 vt0.open2 vt0.ratio) r2) fun vy4 => .br (vy1.2 != vy4.2) (.ret (Sum.inr (Sum.inr ((false, ()), ())))) (.br (!(vy1.1.d.x.lo == vy4.1.d.x.lo && (vy1.1.d.x.hi == vy4.1.d.x.hi && vy1.1.d.x.no == vy4.1.d.x.no) && (vy1.1.d.y.lo == vy4.1.d.y.lo && (vy1.1.d.y.hi == vy4.1.d.y.hi && vy1.1.d.y.no == vy4.1.d.y.no) && (vy1.1.d.z.lo == vy4.1.d.z.lo && (vy1.1.d.z.hi == vy4.1.d.z.hi && vy1.1.d.z.no == vy4.1.d.z.no))))) (.ret (Sum.inr (Sum.inr ((false, ()), ())))) (.br (vy1.2 == 1) (.bind (Iv.point t3) fun viv5 => .bind (vy1.1.o.z.add viv5) fun viv6 => .bind (V.mk vy1.1.o.x vy1.1.o.y viv6) fun vv7 => .br (!(vy4.1.o.x.lo == vv7.x.lo && (vy4.1.o.x.hi == vv7.x.hi && vy4.1.o.x.no == vv7.x.no) && (vy4.1.o.y.lo == vv7.y.lo && (vy4.1.o.y.hi == vv7.y.hi && vy4.1.o.y.no == vv7.y.no) && (vy4.1.o.z.lo == vv7.z.lo && (vy4.1.o.z.hi == vv7.z.hi && vy4.1.o.z.no == vv7.z.no))))) (.ret (Sum.inr (Sum.inr ((false, ()), ())))) (.ret (Sum.inl ((IntKind.i64.wrap (t38 + 1), t37, t3, ()), r0, r1, r2, ())))) (.ret (Sum.inl ((IntKind.i64.wrap (t38 + 1), t37, t3, ()), r0, r1, r2, ())))))) (.fail)) (.ret (Sum.inr (Sum.inl ((), ())))) := by kernel_rfl
theorem ok_meniscuslaw18_StepMoves_7 : LOK Tryz.prog (LoopR.of (sc 94 [38, 37, 3, 36, 10, 11] (tCod 38 cInt (tCod 37 cInt (tCod 3 cInt (tSl 36 0 (tOwn 10 1 (tOwn 11 2 tNil)))))) (rG_surf 38 (rBox ccRay ccRay_ok (rBox ccRay ccRay_ok rNil)))) (ocOr (ocExit 0 (sc 94 [] tNil rNil)) (ocRet (sc 94 [8] (tCod 8 cBool tNil) rNil))) (runBy (eachStep Prod.fst smBad (fun _ _ => ((), ())) ((false, ()), ())) (eachM Prod.fst))) (loopAt Tryz.f4 7) := by
  refine loop_ok (EnvOK.add s_meniscushand_System (EnvOK.add s_meniscushand_Ray (EnvOK.add s_meniscushand_Pick (EnvOK.add s_iv_Add (EnvOK.add s_iv_Point (EnvOK.add s_step_Go (EnvOK.add s_vec_Of (EnvOK.add s_meniscuslaw18_known EnvOK.nil)))))))) (LFn.at (fn := Tryz.f4) LFn.nil 7) ((eachStep Prod.fst smBad (fun _ _ => ((), ())) ((false, ()), ()))) (n := 200) (fun x z h => ?_) (runBy_ok _ _)
  obtain ⟨⟨t38, t37, t3, ⟨⟩⟩, ⟨r0, r1, r2, ⟨⟩⟩⟩ := x
  rw [tl_meniscuslaw18_StepMoves_7]
  rw [← h]
  simp only [eachStep, Prod.fst, den_br, den_bind, den_get, den_ret, den_fail, decide_eq_true_eq]
  by_cases h0 : t38 < t37 <;> simp only [h0, if_true, if_false]
  by_cases h1 : 0 ≤ t38 ∧ t38 < (r0.length : Int) <;> simp only [h1, and_self, if_true, if_false]
  cases hg : r0[t38.toNat]? with
  | none => rfl
  | some f =>
    simp only [den_br, den_bind, den_get, den_ret, den_fail, h1, and_self, if_true, decide_true, smBad, rE, vE, ivE, Surf.moved]
    grind
theorem t_meniscuslaw18_StepMoves (t0 : Int) (t2 : RawRay) (t3 : Int) (r0 : List RawFace) :
    evFn Tryz.prog (Env.add 10 (FR (sc 5 [0, 1, 2, 3, 4] (tCod 0 cInt (tSl 1 0 (tSl 2 1 (tCod 3 cInt (tCod 4 cBool tNil))))) (rL_rface (rL_int rNil))) (sc 1 [0] (tAgg 0 0 ccNil ccNil_ok ccIv ccIv_ok tNil) (rG_surf 38 rNil)) ((fun x => mostOk x.1.2.1)) ((fun x => (fun r : SysV => (((), r.1, ()), (r.2, ()))) (systemOf x.1.1 x.2.1 x.2.2.1 x.1.2.1 x.1.2.2.1)))) (Env.add 11 (F1 cRawRay cRay rayOf) (Env.add 19 (F2p cInt cInt cInt pickOk pick) (Env.add 20 (F2 cIv cIv cIv Iv.add) (Env.add 21 (F1 cInt cIv Iv.point) (Env.add 22 (F2 cSurf cRay (cTwo cRay cInt) stepOf) (Env.add 23 (F3 cIv cIv cIv cV V.mk) (Env.add 24 (F0 cBool true) Env.nil)))))))) (Laws.add 7 (LoopR.of (sc 94 [38, 37, 3, 36, 10, 11] (tCod 38 cInt (tCod 37 cInt (tCod 3 cInt (tSl 36 0 (tOwn 10 1 (tOwn 11 2 tNil)))))) (rG_surf 38 (rBox ccRay ccRay_ok (rBox ccRay ccRay_ok rNil)))) (ocOr (ocExit 0 (sc 94 [] tNil rNil)) (ocRet (sc 94 [8] (tCod 8 cBool tNil) rNil))) (runBy (eachStep Prod.fst smBad (fun _ _ => ((), ())) ((false, ()), ())) (eachM Prod.fst))) Laws.nil) 200 Tryz.f4 (((sc 4 [0, 1, 2, 3] (tCod 0 cInt (tSl 1 0 (tCod 2 cRawRay (tCod 3 cInt tNil)))) (rL_rface rNil)).enc ((t0, t2, t3, ()), (r0, ()))).tmps.map Prod.snd) ((sc 4 [0, 1, 2, 3] (tCod 0 cInt (tSl 1 0 (tCod 2 cRawRay (tCod 3 cInt tNil)))) (rL_rface rNil)).enc ((t0, t2, t3, ()), (r0, ()))).mem cBool.dec =
      .br (mostOk 4) (.bind ((((), (systemOf t0 r0 [] 4 false).1, ()), (systemOf t0 r0 [] 4 false).2, ())) fun vy0 => .bind (rayOf t2) fun vra1 => .br (pickOk t3 13107200) (.bind (pick t3 13107200) fun vn2 => .bind (Iv.point (IntKind.i64.wrap (vn2 - 6553600))) fun viv3 => .bind (vra1.o.z.add viv3) fun viv4 => .get (runBy (eachStep Prod.fst smBad (fun x x_1 => ((), ())) ((false, ()), ())) (eachM Prod.fst) ((0, (@Nat.cast Int _ vy0.2.1.length), IntKind.i64.wrap (vn2 - 6553600), ()), vy0.2.1, vra1, Ray.mk (V.mk vra1.o.x vra1.o.y viv4) vra1.d, ())) fun vy5 => .sum (vy5) (fun vs6 => .bind (true) fun vb7 => .ret (vb7)) (fun vs8 => .ret (vs8.1.1))) (.fail)) (.fail) := by kernel_rfl
theorem c_meniscuslaw18_StepMoves : PlainS Tryz.prog 4 (sc 4 [0, 1, 2, 3] (tCod 0 cInt (tSl 1 0 (tCod 2 cRawRay (tCod 3 cInt tNil)))) (rL_rface rNil)) cBool (fun _ => true) ((fun _ => true)) := by
  intro x h N w vs hM hv
  obtain ⟨⟨t0, t2, t3, ⟨⟩⟩, ⟨r0, ⟨⟩⟩⟩ := x
  refine calls_of_tree (n := 200) (EnvOK.add s_meniscushand_System (EnvOK.add s_meniscushand_Ray (EnvOK.add s_meniscushand_Pick (EnvOK.add s_iv_Add (EnvOK.add s_iv_Point (EnvOK.add s_step_Go (EnvOK.add s_vec_Of (EnvOK.add s_meniscuslaw18_known EnvOK.nil)))))))) Tryz.func4 hv (Nat.le_of_ble_eq_true (by kernel_rfl)) (LFn.add (fn := Tryz.f4) (i := 7) (by kernel_rfl) ok_meniscuslaw18_StepMoves_7 LFn.nil) hM cBool ?_
  rw [t_meniscuslaw18_StepMoves]
  have hR := systemOf_R t0 r0 [] false (most := 4) rfl
  have hlen : (systemOf t0 r0 [] 4 false).2.length ≤ 1048576 := by have := hR.len; omega
  have hlo : Ev.lenOk (systemOf t0 r0 [] 4 false).2 = true := lenOk_iff.2 hlen
  simp only [show mostOk 4 = true from rfl, if_true, den_br, den_bind, den_get, den_ret, den_fail]
  have hb := pick_bd t3 (m := 13107200) (by decide)
  have hp : pickOk t3 13107200 = true := by simp [pickOk]
  have hw : IntKind.i64.wrap (pick t3 13107200 - 6553600) = pick t3 13107200 - 6553600 := wr (by omega)
  have hat := systemOf_at t0 r0 [] (most := 4) rfl
  simp only [hp, if_true, hw]
  have hr := each_run (L := Prod.fst) (bad := smBad) (out := fun _ _ => ((), ())) (no := ((false, ()), ())) (a := (pick t3 13107200 - 6553600, ())) (s := ((systemOf t0 r0 [] 4 false).2, rayOf t2, (rayOf t2).moved (pick t3 13107200 - 6553600), ())) hlen (fun f hf => by
    obtain ⟨f1, f2⟩ := hR.surfs f hf
    have h4 := hat f hf
    exact sm_good f1 (surfRight_at f2) (by omega) (by omega))
  have e : (rayOf t2).moved (pick t3 13107200 - 6553600) = ⟨⟨(rayOf t2).o.x, (rayOf t2).o.y, (rayOf t2).o.z.add (Iv.point (pick t3 13107200 - 6553600))⟩, (rayOf t2).d⟩ := rfl
  rw [e] at hr
  simp only [hr, den_get, den_inl, den_bind, den_ret]
theorem s_meniscuslaw18_StepMoves : Ev.Spec Tryz.prog 4 (FS (sc 4 [0, 1, 2, 3] (tCod 0 cInt (tSl 1 0 (tCod 2 cRawRay (tCod 3 cInt tNil)))) (rL_rface rNil)) cBool (fun _ => true) ((fun _ => true))) := specS rfl (fun vs w => Tryz.call4 vs w) c_meniscuslaw18_StepMoves
end Go.Proofs.YtlbmjajjldfigaaGreat
