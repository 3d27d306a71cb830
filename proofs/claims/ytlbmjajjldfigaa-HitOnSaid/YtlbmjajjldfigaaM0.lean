/-
  Contracts of calls, written by a small program of this session out of the evaluator's trees.
-/
import Derived.Test.YtlbmjajjldfigaaCore
import Derived.Test.YtlbmjajjldfigaaCoreLoops
import Derived.Test.YtlbmjajjldfigaaCore2
import Derived.Test.YtlbmjajjldfigaaCore3
import Derived.Test.YtlbmjajjldfigaaCore4
import Derived.Test.YtlbmjajjldfigaaCore5
import Derived.Test.YtlbmjajjldfigaaCore6
import Derived.Test.YtlbmjajjldfigaaCore7
import Derived.Test.YtlbmjajjldfigaaCore8
import Derived.Test.YtlbmjajjldfigaaCore9
import Derived.Test.YtlbmjajjldfigaaEvMore
import Derived.Test.YtlbmjajjldfigaaSym
import Derived.Test.YtlbmjajjldfigaaSysF
import Derived.Test.YtlbmjajjldfigaaLess2
import Derived.Test.YtlbmjajjldfigaaEach
import Derived.Test.YtlbmjajjldfigaaLaws1
import Derived.Test.YtlbmjajjldfigaaLaws2
import Derived.Test.YtlbmjajjldfigaaLawM
import Derived.Test.YtlbmjajjldfigaaR0
import Derived.Test.YtlbmjajjldfigaaEvCod
import Derived.Test.YtlbmjajjldfigaaEvRet
import Derived.Test.YtlbmjajjldfigaaProg
namespace Go.Proofs.Ytlbmjajjldfigaa
open Go Go.RowKit Ev
set_option maxRecDepth 100000
set_option linter.unusedVariables false
set_option linter.unusedSimpArgs false

/-! meniscuslaw15.plane -/
theorem t_meniscuslaw15_plane (x0 : Iv) :
    evFn Try.prog (Env.add 20 (F1 cInt cIv Iv.whole) (Env.add 29 (F1 cInt cIv Iv.point) Env.nil)) Laws.nil 200 Try.f60 [cIv.av x0] [] cSurf.dec =
      .bind (Iv.point 0) fun viv0 => .bind (Iv.whole 1) fun viv1 => .bind (Iv.point 0) fun viv2 => .bind (Iv.point 0) fun viv3 => .bind (Iv.whole 100) fun viv4 => .bind (Iv.whole 1) fun viv5 => .ret (Surf.mk false false viv0 viv1 viv2 viv3 x0 viv4 viv5) := by kernel_rfl
theorem c_meniscuslaw15_plane (x0 : Iv) : Plain Try.prog 60 [cIv.enc x0] (cSurf.enc (planeAt x0)) :=
  plain_of_tree (n := 200) (EnvOK.add s_iv_Whole (EnvOK.add s_iv_Point EnvOK.nil)) Try.func60 (args := [cIv.av x0]) (by simp only [AV.vals, Cod.av_val]) (Nat.le_of_ble_eq_true (by kernel_rfl)) LFn.nil cSurf (by
    rw [t_meniscuslaw15_plane]
    rfl)
theorem s_meniscuslaw15_plane : Ev.Spec Try.prog 60 (F1 cIv cSurf planeAt) := spec1 (fun vs w => Try.call60 vs w) c_meniscuslaw15_plane

/-! meniscuslaw15.axis -/
theorem t_meniscuslaw15_axis (x0 : Iv) :
    evFn Try.prog (Env.add 20 (F1 cInt cIv Iv.whole) (Env.add 29 (F1 cInt cIv Iv.point) (Env.add 62 (F3 cIv cIv cIv cV V.mk) Env.nil))) Laws.nil 200 Try.f61 [cIv.av x0] [] cRay.dec =
      .bind (Iv.point 0) fun viv0 => .bind (Iv.point 0) fun viv1 => .bind (V.mk x0 viv0 viv1) fun vv2 => .bind (Iv.point 0) fun viv3 => .bind (Iv.point 0) fun viv4 => .bind (Iv.whole 1) fun viv5 => .bind (V.mk viv3 viv4 viv5) fun vv6 => .ret (Ray.mk vv2 vv6) := by kernel_rfl
theorem c_meniscuslaw15_axis (x0 : Iv) : Plain Try.prog 61 [cIv.enc x0] (cRay.enc (axisAt x0)) :=
  plain_of_tree (n := 200) (EnvOK.add s_iv_Whole (EnvOK.add s_iv_Point (EnvOK.add s_vec_Of EnvOK.nil))) Try.func61 (args := [cIv.av x0]) (by simp only [AV.vals, Cod.av_val]) (Nat.le_of_ble_eq_true (by kernel_rfl)) LFn.nil cRay (by
    rw [t_meniscuslaw15_axis]
    rfl)
theorem s_meniscuslaw15_axis : Ev.Spec Try.prog 61 (F1 cIv cRay axisAt) := spec1 (fun vs w => Try.call61 vs w) c_meniscuslaw15_axis

/-! meniscuslaw15.known -/
theorem t_meniscuslaw15_known  :
    evFn Try.prog (Env.add 16 (F2 cSurf cRay (cThree cIv cV cInt) hitOf) (Env.add 20 (F1 cInt cIv Iv.whole) (Env.add 25 (F1 cIv cBool Iv.right) (Env.add 29 (F1 cInt cIv Iv.point) (Env.add 60 (F1 cIv cSurf planeAt) (Env.add 61 (F1 cIv cRay axisAt) (Env.add 62 (F3 cIv cIv cIv cV V.mk) Env.nil))))))) Laws.nil 200 Try.f27 [] [] cBool.dec =
      .bind (Iv.whole 10) fun viv0 => .bind (planeAt viv0) fun vsu1 => .bind (Iv.point 0) fun viv2 => .bind (axisAt viv2) fun vra3 => .bind (hitOf vsu1 vra3) fun vy4 => .br (vy4.2.2 == 1) (.bind (Iv.whole 10) fun viv5 => .br (vy4.1.lo == viv5.lo && (vy4.1.hi == viv5.hi && vy4.1.no == viv5.no)) (.bind (Iv.point 0) fun viv6 => .bind (Iv.point 0) fun viv7 => .bind (Iv.point 0) fun viv8 => .bind (V.mk viv6 viv7 viv8) fun vv9 => .br (vy4.2.1.x.lo == vv9.x.lo && (vy4.2.1.x.hi == vv9.x.hi && vy4.2.1.x.no == vv9.x.no) && (vy4.2.1.y.lo == vv9.y.lo && (vy4.2.1.y.hi == vv9.y.hi && vy4.2.1.y.no == vv9.y.no) && (vy4.2.1.z.lo == vv9.z.lo && (vy4.2.1.z.hi == vv9.z.hi && vy4.2.1.z.no == vv9.z.no)))) (.bind (vy4.1.right) fun vb10 => .ret (vb10)) (.ret (false))) (.ret (false))) (.ret (false)) := by kernel_rfl
theorem c_meniscuslaw15_known  : Plain Try.prog 27 [] (cBool.enc (true)) :=
  plain_of_tree (n := 200) (EnvOK.add s_hit_Of (EnvOK.add s_iv_Whole (EnvOK.add s_iv_Right (EnvOK.add s_iv_Point (EnvOK.add s_meniscuslaw15_plane (EnvOK.add s_meniscuslaw15_axis (EnvOK.add s_vec_Of EnvOK.nil))))))) Try.func27 (args := []) rfl (Nat.le_of_ble_eq_true (by kernel_rfl)) LFn.nil cBool (by
    rw [t_meniscuslaw15_known]
    decide +kernel)
theorem s_meniscuslaw15_known : Ev.Spec Try.prog 27 (F0 cBool true) := spec0 (fun vs w => Try.call27 vs w) c_meniscuslaw15_known

/-! meniscuslaw15.HitOn -/
theorem tl_meniscuslaw15_HitOn_4 (t25 : Int) (t24 : Int) (r0 : List Surf) (r1 : Ray) :
    ev Try.prog (Env.add 14 (FR (sc 5 [0, 1, 2, 3, 4] (tCod 0 cInt (tSl 1 0 (tSl 2 1 (tCod 3 cInt (tCod 4 cBool tNil))))) (rL_rface (rL_int rNil))) (sc 1 [0] (tAgg 0 0 ccNil ccNil_ok ccIv ccIv_ok tNil) (rG_surf 51 rNil)) ((fun x => mostOk x.1.2.1)) ((fun x => (fun r : SysV => (((), r.1, ()), (r.2, ()))) (systemOf x.1.1 x.2.1 x.2.2.1 x.1.2.1 x.1.2.2.1)))) (Env.add 15 (F1 cRawRay cRay rayOf) (Env.add 16 (F2 cSurf cRay (cThree cIv cV cInt) hitOf) (Env.add 17 (F0 cIv Iv.none) (Env.add 18 (F1 cV cBool V.right) (Env.add 19 (F2 cIv cIv cIv Iv.sub) (Env.add 20 (F1 cInt cIv Iv.whole) (Env.add 21 (F2 cIv cIv cIv Iv.mul) (Env.add 22 (F2 cSurf cIv (cTwo cIv cIv) sagOf) (Env.add 23 (F2 cIv cIv cIv Iv.add) (Env.add 24 (F1 cIv cIv Iv.sqr) (Env.add 25 (F1 cIv cBool Iv.right) (Env.add 26 (F2 cIv cIv cIv Iv.meet) (Env.add 27 (F0 cBool true) Env.nil)))))))))))))) Laws.nil 200 none (loopAt Try.f4 4) ((sc 92 [25, 24, 23, 8] (tCod 25 cInt (tCod 24 cInt (tSl 23 0 (tOwn 8 1 tNil)))) (rG_surf 51 (rBox ccRay ccRay_ok rNil))).enc ((t25, t24, ()), (r0, r1, ()))) (backK (sc 92 [25, 24, 23, 8] (tCod 25 cInt (tCod 24 cInt (tSl 23 0 (tOwn 8 1 tNil)))) (rG_surf 51 (rBox ccRay ccRay_ok rNil))) (ocOr (ocExit 0 (sc 92 [] tNil rNil)) (ocRet (sc 92 [6] (tCod 6 cBool tNil) rNil)))) =
      .br (decide (t25 < t24)) (.br (decide (0 ≤ t25 ∧ t25 < (@Nat.cast Int _ r0.length))) (.get (r0[t25.toNat]?) fun vt0 => .bind (hitOf vt0 r1) fun vy1 => .br (vy1.2.2 != 1) (.bind (Iv.none) fun viv2 => .br (!(vy1.1.lo == viv2.lo && (vy1.1.hi == viv2.hi && vy1.1.no == viv2.no))) (.ret (Sum.inr (Sum.inr ((false, ()), ())))) (.bind (vy1.2.1.right) fun vb3 => .br (vb3) (.ret (Sum.inr (Sum.inr ((false, ()), ())))) (.ret (Sum.inl ((IntKind.i64.wrap (t25 + 1), t24, ()), r0, r1, ()))))) (.bind (Iv.whole 1) fun viv4 => .bind (vt0.conic.mul vy1.2.1.z) fun viv5 => .bind (vt0.curve.mul viv5) fun viv6 => .bind (viv4.sub viv6) fun viv7 => .bind (vy1.2.1.x.sqr) fun viv8 => .bind (vy1.2.1.y.sqr) fun viv9 => .bind (viv8.add viv9) fun viv10 => .bind (sagOf vt0 viv10) fun vy11 => .bind (vy11.1.right) fun vb12 => .br (vb12) (.br (vt0.bent) (.bind (vy11.1.meet vy1.2.1.z) fun viv13 => .bind (viv13.right) fun vb14 => .br (!vb14) (.ret (Sum.inr (Sum.inr ((false, ()), ())))) (.ret (Sum.inl ((IntKind.i64.wrap (t25 + 1), t24, ()), r0, r1, ())))) (.bind (viv7.right) fun vb15 => .br (vb15) (.br (decide (viv7.lo > 0)) (.bind (vy11.1.meet vy1.2.1.z) fun viv16 => .bind (viv16.right) fun vb17 => .br (!vb17) (.ret (Sum.inr (Sum.inr ((false, ()), ())))) (.ret (Sum.inl ((IntKind.i64.wrap (t25 + 1), t24, ()), r0, r1, ())))) (.ret (Sum.inl ((IntKind.i64.wrap (t25 + 1), t24, ()), r0, r1, ())))) (.ret (Sum.inl ((IntKind.i64.wrap (t25 + 1), t24, ()), r0, r1, ()))))) (.ret (Sum.inl ((IntKind.i64.wrap (t25 + 1), t24, ()), r0, r1, ()))))) (.fail)) (.ret (Sum.inr (Sum.inl ((), ())))) := by kernel_rfl
theorem ok_meniscuslaw15_HitOn_4 : LOK Try.prog (LoopR.of (sc 92 [25, 24, 23, 8] (tCod 25 cInt (tCod 24 cInt (tSl 23 0 (tOwn 8 1 tNil)))) (rG_surf 51 (rBox ccRay ccRay_ok rNil))) (ocOr (ocExit 0 (sc 92 [] tNil rNil)) (ocRet (sc 92 [6] (tCod 6 cBool tNil) rNil))) (runBy (eachStep Prod.fst hoBad (fun _ _ => ((), ())) ((false, ()), ())) (eachM Prod.fst))) (loopAt Try.f4 4) := by
  refine loop_ok (EnvOK.add s_meniscushand_System (EnvOK.add s_meniscushand_Ray (EnvOK.add s_hit_Of (EnvOK.add s_iv_None (EnvOK.add s_vec_Right (EnvOK.add s_iv_Sub (EnvOK.add s_iv_Whole (EnvOK.add s_iv_Mul (EnvOK.add s_sag_Of (EnvOK.add s_iv_Add (EnvOK.add s_iv_Sqr (EnvOK.add s_iv_Right (EnvOK.add s_iv_Meet (EnvOK.add s_meniscuslaw15_known EnvOK.nil)))))))))))))) (LFn.at (fn := Try.f4) LFn.nil 4) ((eachStep Prod.fst hoBad (fun _ _ => ((), ())) ((false, ()), ()))) (n := 200) (fun x z h => ?_) (runBy_ok _ _)
  obtain ⟨⟨t25, t24, ⟨⟩⟩, ⟨r0, r1, ⟨⟩⟩⟩ := x
  rw [tl_meniscuslaw15_HitOn_4]
  rw [← h]
  simp only [eachStep, Prod.fst, den_br, den_bind, den_get, den_ret, den_fail, decide_eq_true_eq]
  by_cases h0 : t25 < t24 <;> simp only [h0, if_true, if_false]
  by_cases h1 : 0 ≤ t25 ∧ t25 < (r0.length : Int) <;> simp only [h1, and_self, if_true, if_false]
  cases hg : r0[t25.toNat]? with
  | none => rfl
  | some f =>
    simp only [den_br, den_bind, den_get, den_ret, den_fail, h1, and_self, if_true, decide_true, hoBad, ivE]
    grind
theorem t_meniscuslaw15_HitOn (t0 : Int) (t2 : RawRay) (r0 : List RawFace) :
    evFn Try.prog (Env.add 14 (FR (sc 5 [0, 1, 2, 3, 4] (tCod 0 cInt (tSl 1 0 (tSl 2 1 (tCod 3 cInt (tCod 4 cBool tNil))))) (rL_rface (rL_int rNil))) (sc 1 [0] (tAgg 0 0 ccNil ccNil_ok ccIv ccIv_ok tNil) (rG_surf 51 rNil)) ((fun x => mostOk x.1.2.1)) ((fun x => (fun r : SysV => (((), r.1, ()), (r.2, ()))) (systemOf x.1.1 x.2.1 x.2.2.1 x.1.2.1 x.1.2.2.1)))) (Env.add 15 (F1 cRawRay cRay rayOf) (Env.add 16 (F2 cSurf cRay (cThree cIv cV cInt) hitOf) (Env.add 17 (F0 cIv Iv.none) (Env.add 18 (F1 cV cBool V.right) (Env.add 19 (F2 cIv cIv cIv Iv.sub) (Env.add 20 (F1 cInt cIv Iv.whole) (Env.add 21 (F2 cIv cIv cIv Iv.mul) (Env.add 22 (F2 cSurf cIv (cTwo cIv cIv) sagOf) (Env.add 23 (F2 cIv cIv cIv Iv.add) (Env.add 24 (F1 cIv cIv Iv.sqr) (Env.add 25 (F1 cIv cBool Iv.right) (Env.add 26 (F2 cIv cIv cIv Iv.meet) (Env.add 27 (F0 cBool true) Env.nil)))))))))))))) (Laws.add 4 (LoopR.of (sc 92 [25, 24, 23, 8] (tCod 25 cInt (tCod 24 cInt (tSl 23 0 (tOwn 8 1 tNil)))) (rG_surf 51 (rBox ccRay ccRay_ok rNil))) (ocOr (ocExit 0 (sc 92 [] tNil rNil)) (ocRet (sc 92 [6] (tCod 6 cBool tNil) rNil))) (runBy (eachStep Prod.fst hoBad (fun _ _ => ((), ())) ((false, ()), ())) (eachM Prod.fst))) Laws.nil) 200 Try.f4 (((sc 3 [0, 1, 2] (tCod 0 cInt (tSl 1 0 (tCod 2 cRawRay tNil))) (rL_rface rNil)).enc ((t0, t2, ()), (r0, ()))).tmps.map Prod.snd) ((sc 3 [0, 1, 2] (tCod 0 cInt (tSl 1 0 (tCod 2 cRawRay tNil))) (rL_rface rNil)).enc ((t0, t2, ()), (r0, ()))).mem cBool.dec =
      .br (mostOk 4) (.bind ((((), (systemOf t0 r0 [] 4 false).1, ()), (systemOf t0 r0 [] 4 false).2, ())) fun vy0 => .bind (rayOf t2) fun vra1 => .get (runBy (eachStep Prod.fst hoBad (fun x x_1 => ((), ())) ((false, ()), ())) (eachM Prod.fst) ((0, (@Nat.cast Int _ vy0.2.1.length), ()), vy0.2.1, vra1, ())) fun vy2 => .sum (vy2) (fun vs3 => .bind (true) fun vb4 => .ret (vb4)) (fun vs5 => .ret (vs5.1.1))) (.fail) := by kernel_rfl
theorem c_meniscuslaw15_HitOn : PlainS Try.prog 4 (sc 3 [0, 1, 2] (tCod 0 cInt (tSl 1 0 (tCod 2 cRawRay tNil))) (rL_rface rNil)) cBool (fun _ => true) ((fun _ => true)) := by
  intro x h N w vs hM hv
  obtain ⟨⟨t0, t2, ⟨⟩⟩, ⟨r0, ⟨⟩⟩⟩ := x
  refine calls_of_tree (n := 200) (EnvOK.add s_meniscushand_System (EnvOK.add s_meniscushand_Ray (EnvOK.add s_hit_Of (EnvOK.add s_iv_None (EnvOK.add s_vec_Right (EnvOK.add s_iv_Sub (EnvOK.add s_iv_Whole (EnvOK.add s_iv_Mul (EnvOK.add s_sag_Of (EnvOK.add s_iv_Add (EnvOK.add s_iv_Sqr (EnvOK.add s_iv_Right (EnvOK.add s_iv_Meet (EnvOK.add s_meniscuslaw15_known EnvOK.nil)))))))))))))) Try.func4 hv (Nat.le_of_ble_eq_true (by kernel_rfl)) (LFn.add (fn := Try.f4) (i := 4) (by kernel_rfl) ok_meniscuslaw15_HitOn_4 LFn.nil) hM cBool ?_
  rw [t_meniscuslaw15_HitOn]
  have hR := systemOf_R t0 r0 [] false (most := 4) rfl
  have hlen : (systemOf t0 r0 [] 4 false).2.length ≤ 1048576 := by have := hR.len; omega
  have hlo : Ev.lenOk (systemOf t0 r0 [] 4 false).2 = true := lenOk_iff.2 hlen
  simp only [show mostOk 4 = true from rfl, if_true, den_br, den_bind, den_get, den_ret, den_fail]
  have hr := each_run (L := Prod.fst) (bad := hoBad) (out := fun _ _ => ((), ())) (no := ((false, ()), ())) (a := ()) (s := ((systemOf t0 r0 [] 4 false).2, rayOf t2, ())) hlen (fun f hf => ho_good)
  simp only [hr, den_get, den_inl, den_bind, den_ret]
theorem s_meniscuslaw15_HitOn : Ev.Spec Try.prog 4 (FS (sc 3 [0, 1, 2] (tCod 0 cInt (tSl 1 0 (tCod 2 cRawRay tNil))) (rL_rface rNil)) cBool (fun _ => true) ((fun _ => true))) := specS rfl (fun vs w => Try.call4 vs w) c_meniscuslaw15_HitOn
end Go.Proofs.Ytlbmjajjldfigaa
