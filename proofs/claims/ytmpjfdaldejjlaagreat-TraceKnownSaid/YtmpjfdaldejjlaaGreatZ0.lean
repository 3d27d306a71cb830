/-
  Contracts of calls, written by a small program of this session out of the evaluator's trees.
-/
import Derived.Test.YtmpjfdaldejjlaaGreatCore
import Derived.Test.YtmpjfdaldejjlaaGreatCoreLoops
import Derived.Test.YtmpjfdaldejjlaaGreatCore2
import Derived.Test.YtmpjfdaldejjlaaGreatCore3
import Derived.Test.YtmpjfdaldejjlaaGreatCore4
import Derived.Test.YtmpjfdaldejjlaaGreatCore5
import Derived.Test.YtmpjfdaldejjlaaGreatCore6
import Derived.Test.YtmpjfdaldejjlaaGreatCore7
import Derived.Test.YtmpjfdaldejjlaaGreatCore8
import Derived.Test.YtmpjfdaldejjlaaGreatCore9
import Derived.Test.YtmpjfdaldejjlaaGreatEvMore
import Derived.Test.YtmpjfdaldejjlaaGreatSym
import Derived.Test.YtmpjfdaldejjlaaGreatSysF
import Derived.Test.YtmpjfdaldejjlaaGreatLess2
import Derived.Test.YtmpjfdaldejjlaaGreatEach
import Derived.Test.YtmpjfdaldejjlaaGreatLaws1
import Derived.Test.YtmpjfdaldejjlaaGreatLaws2
import Derived.Test.YtmpjfdaldejjlaaGreatR1
import Derived.Test.YtmpjfdaldejjlaaGreatEvCod
import Derived.Test.YtmpjfdaldejjlaaGreatEvRet
import Derived.Test.YtmpjfdaldejjlaaGreatProg
namespace Go.Proofs.YtmpjfdaldejjlaaGreat
open Go Go.RowKit Ev
set_option maxRecDepth 100000
set_option linter.unusedVariables false
set_option linter.unusedSimpArgs false

/-! meniscushand.V -/
theorem t_meniscushand_V (x0 : Six) :
    evFn Tryz.prog (Env.add 46 (F2 cInt cInt cIv rawIv) Env.nil) Laws.nil 200 Tryz.f18 [cSix.av x0] [] cV.dec =
      .bind (Go.Proofs.YtmpjfdaldejjlaaGreat.rawIv x0.fst x0.snd.fst) fun viv0 =>
      .bind (Go.Proofs.YtmpjfdaldejjlaaGreat.rawIv x0.snd.snd.fst x0.snd.snd.snd.fst) fun viv1 =>
      .bind (Go.Proofs.YtmpjfdaldejjlaaGreat.rawIv x0.snd.snd.snd.snd.fst x0.snd.snd.snd.snd.snd) fun viv2 =>
      .ret (Go.Proofs.YtmpjfdaldejjlaaGreat.V.mk viv0 viv1 viv2) := by kernel_rfl
theorem c_meniscushand_V (x0 : Six) : Plain Tryz.prog 18 [cSix.enc x0] (cV.enc (vRaw x0)) :=
  plain_of_tree (n := 200) (EnvOK.add s_meniscushand_Iv EnvOK.nil) Tryz.func18 (args := [cSix.av x0]) (by simp only [AV.vals, Cod.av_val]) (Nat.le_of_ble_eq_true (by kernel_rfl)) LFn.nil cV (by
    rw [t_meniscushand_V]
    rfl)
theorem s_meniscushand_V : Ev.Spec Tryz.prog 18 (F1 cSix cV vRaw) := spec1 (fun vs w => Tryz.call18 vs w) c_meniscushand_V

/-! vec.Turn -/
theorem tl_vec_Turn_2 (t9 : Int) (t8 : Int) (r0 : V) (r1 : V) :
    ev Tryz.prog (Env.add 93 (F1 cIv cIv Iv.neg) Env.nil) Laws.nil 200 none (loopAt Tryz.f39 2) ((sc 20 [9, 8, 2, 4] (tCod 9 cInt (tCod 8 cInt (tOwn 2 0 (tOwn 4 1 tNil)))) (rBox ccV ccV_ok (rBox ccV ccV_ok rNil))).enc ((t9, t8, ()), (r0, r1, ()))) (backK (sc 20 [9, 8, 2, 4] (tCod 9 cInt (tCod 8 cInt (tOwn 2 0 (tOwn 4 1 tNil)))) (rBox ccV ccV_ok (rBox ccV ccV_ok rNil))) (ocExit 0 (sc 20 [2, 4] (tOwn 2 0 (tOwn 4 1 tNil)) (rBox ccV ccV_ok (rBox ccV ccV_ok rNil))))) =
      .br (Decidable.decide (t9 < t8))
       (
        .bind (r0.y.neg) fun viv0 =>
        .ret (Sum.inl ((Go.IntKind.i64.wrap (t9 + 1), t8, ()), Go.Proofs.YtmpjfdaldejjlaaGreat.V.mk viv0 r0.x r0.z, r1, ())))
       (
        .ret (Sum.inr ((), r0, r1, ()))) := by kernel_rfl
theorem ok_vec_Turn_2 : LOK Tryz.prog (LoopR.of (sc 20 [9, 8, 2, 4] (tCod 9 cInt (tCod 8 cInt (tOwn 2 0 (tOwn 4 1 tNil)))) (rBox ccV ccV_ok (rBox ccV ccV_ok rNil))) (ocExit 0 (sc 20 [2, 4] (tOwn 2 0 (tOwn 4 1 tNil)) (rBox ccV ccV_ok (rBox ccV ccV_ok rNil)))) (runBy turnStep turnM)) (loopAt Tryz.f39 2) := by
  refine loop_ok (EnvOK.add s_iv_Neg EnvOK.nil) (LFn.at (fn := Tryz.f39) LFn.nil 2) turnStep (n := 200) (fun x z h => ?_) (runBy_ok _ _)
  obtain ⟨⟨t9, t8, ⟨⟩⟩, ⟨r0, r1, ⟨⟩⟩⟩ := x
  rw [tl_vec_Turn_2]
  rw [← h]
  simp only [den_br, den_bind, den_ret, den_fail, den_inl, den_inr, decide_eq_true_eq, gt_iff_lt, ge_iff_le, beq_iff_eq]
  simp only [turnStep]
  by_cases h0 : t9 < t8 <;> simp only [h0, if_true, if_false] <;> rfl
theorem t_vec_Turn (x0 : V) (x1 : Int) :
    evFn Tryz.prog (Env.add 93 (F1 cIv cIv Iv.neg) Env.nil) (Laws.add 2 (LoopR.of (sc 20 [9, 8, 2, 4] (tCod 9 cInt (tCod 8 cInt (tOwn 2 0 (tOwn 4 1 tNil)))) (rBox ccV ccV_ok (rBox ccV ccV_ok rNil))) (ocExit 0 (sc 20 [2, 4] (tOwn 2 0 (tOwn 4 1 tNil)) (rBox ccV ccV_ok (rBox ccV ccV_ok rNil)))) (runBy turnStep turnM)) Laws.nil) 200 Tryz.f39 [cV.av x0, cInt.av x1] [] cV.dec =
      .get (Go.Proofs.YtmpjfdaldejjlaaGreat.runBy Go.Proofs.YtmpjfdaldejjlaaGreat.turnStep Go.Proofs.YtmpjfdaldejjlaaGreat.turnM ((0, (Go.IntKind.i64.wrap (x1.tmod 4 + 4)).tmod 4, ()), x0, Go.Proofs.YtmpjfdaldejjlaaGreat.V.mk (Go.Proofs.YtmpjfdaldejjlaaGreat.Iv.mk 0 0 Bool.false) (Go.Proofs.YtmpjfdaldejjlaaGreat.Iv.mk 0 0 Bool.false) (Go.Proofs.YtmpjfdaldejjlaaGreat.Iv.mk 0 0 Bool.false), ())) fun vy0 =>
      .ret (vy0.snd.fst) := by kernel_rfl
theorem c_vec_Turn (x0 : V) (x1 : Int) : Plain Tryz.prog 39 [cV.enc x0, cInt.enc x1] (cV.enc (V.turn x0 x1)) :=
  plain_of_tree (n := 200) (EnvOK.add s_iv_Neg EnvOK.nil) Tryz.func39 (args := [cV.av x0, cInt.av x1]) (by simp only [AV.vals, Cod.av_val]) (Nat.le_of_ble_eq_true (by kernel_rfl)) (LFn.add (fn := Tryz.f39) (i := 2) (by kernel_rfl) ok_vec_Turn_2 LFn.nil) cV (by
    rw [t_vec_Turn]
    rw [turn_run]; rfl)
theorem s_vec_Turn : Ev.Spec Tryz.prog 39 (F2 cV cInt cV V.turn) := spec2 (fun vs w => Tryz.call39 vs w) c_vec_Turn

/-! meniscuslaw15.plane -/
theorem t_meniscuslaw15_plane (x0 : Iv) :
    evFn Tryz.prog (Env.add 31 (F1 cInt cIv Iv.point) (Env.add 42 (F1 cInt cIv Iv.whole) Env.nil)) Laws.nil 200 Tryz.f73 [cIv.av x0] [] cSurf.dec =
      .bind (Go.Proofs.YtmpjfdaldejjlaaGreat.Iv.point 0) fun viv0 =>
      .bind (Go.Proofs.YtmpjfdaldejjlaaGreat.Iv.whole 1) fun viv1 =>
      .bind (Go.Proofs.YtmpjfdaldejjlaaGreat.Iv.point 0) fun viv2 =>
      .bind (Go.Proofs.YtmpjfdaldejjlaaGreat.Iv.point 0) fun viv3 =>
      .bind (Go.Proofs.YtmpjfdaldejjlaaGreat.Iv.whole 100) fun viv4 =>
      .bind (Go.Proofs.YtmpjfdaldejjlaaGreat.Iv.whole 1) fun viv5 =>
      .ret (Go.Proofs.YtmpjfdaldejjlaaGreat.Surf.mk Bool.false Bool.false viv0 viv1 viv2 viv3 x0 viv4 viv5) := by kernel_rfl
theorem c_meniscuslaw15_plane (x0 : Iv) : Plain Tryz.prog 73 [cIv.enc x0] (cSurf.enc (planeAt x0)) :=
  plain_of_tree (n := 200) (EnvOK.add s_iv_Point (EnvOK.add s_iv_Whole EnvOK.nil)) Tryz.func73 (args := [cIv.av x0]) (by simp only [AV.vals, Cod.av_val]) (Nat.le_of_ble_eq_true (by kernel_rfl)) LFn.nil cSurf (by
    rw [t_meniscuslaw15_plane]
    rfl)
theorem s_meniscuslaw15_plane : Ev.Spec Tryz.prog 73 (F1 cIv cSurf planeAt) := spec1 (fun vs w => Tryz.call73 vs w) c_meniscuslaw15_plane

/-! meniscuslaw15.axis -/
theorem t_meniscuslaw15_axis (x0 : Iv) :
    evFn Tryz.prog (Env.add 31 (F1 cInt cIv Iv.point) (Env.add 33 (F3 cIv cIv cIv cV V.mk) (Env.add 42 (F1 cInt cIv Iv.whole) Env.nil))) Laws.nil 200 Tryz.f74 [cIv.av x0] [] cRay.dec =
      .bind (Go.Proofs.YtmpjfdaldejjlaaGreat.Iv.point 0) fun viv0 =>
      .bind (Go.Proofs.YtmpjfdaldejjlaaGreat.Iv.point 0) fun viv1 =>
      .bind (Go.Proofs.YtmpjfdaldejjlaaGreat.V.mk x0 viv0 viv1) fun vv2 =>
      .bind (Go.Proofs.YtmpjfdaldejjlaaGreat.Iv.point 0) fun viv3 =>
      .bind (Go.Proofs.YtmpjfdaldejjlaaGreat.Iv.point 0) fun viv4 =>
      .bind (Go.Proofs.YtmpjfdaldejjlaaGreat.Iv.whole 1) fun viv5 =>
      .bind (Go.Proofs.YtmpjfdaldejjlaaGreat.V.mk viv3 viv4 viv5) fun vv6 =>
      .ret (Go.Proofs.YtmpjfdaldejjlaaGreat.Ray.mk vv2 vv6) := by kernel_rfl
theorem c_meniscuslaw15_axis (x0 : Iv) : Plain Tryz.prog 74 [cIv.enc x0] (cRay.enc (axisAt x0)) :=
  plain_of_tree (n := 200) (EnvOK.add s_iv_Point (EnvOK.add s_vec_Of (EnvOK.add s_iv_Whole EnvOK.nil))) Tryz.func74 (args := [cIv.av x0]) (by simp only [AV.vals, Cod.av_val]) (Nat.le_of_ble_eq_true (by kernel_rfl)) LFn.nil cRay (by
    rw [t_meniscuslaw15_axis]
    rfl)
theorem s_meniscuslaw15_axis : Ev.Spec Tryz.prog 74 (F1 cIv cRay axisAt) := spec1 (fun vs w => Tryz.call74 vs w) c_meniscuslaw15_axis

/-! meniscuslaw15.known -/
theorem t_meniscuslaw15_known  :
    evFn Tryz.prog (Env.add 19 (F2 cSurf cRay (cThree cIv cV cInt) hitOf) (Env.add 23 (F1 cIv cBool Iv.right) (Env.add 31 (F1 cInt cIv Iv.point) (Env.add 33 (F3 cIv cIv cIv cV V.mk) (Env.add 42 (F1 cInt cIv Iv.whole) (Env.add 73 (F1 cIv cSurf planeAt) (Env.add 74 (F1 cIv cRay axisAt) Env.nil))))))) Laws.nil 200 Tryz.f21 [] [] cBool.dec =
      .bind (Go.Proofs.YtmpjfdaldejjlaaGreat.Iv.whole 10) fun viv0 =>
      .bind (Go.Proofs.YtmpjfdaldejjlaaGreat.planeAt viv0) fun vsu1 =>
      .bind (Go.Proofs.YtmpjfdaldejjlaaGreat.Iv.point 0) fun viv2 =>
      .bind (Go.Proofs.YtmpjfdaldejjlaaGreat.axisAt viv2) fun vra3 =>
      .bind (Go.Proofs.YtmpjfdaldejjlaaGreat.hitOf vsu1 vra3) fun vy4 =>
      .br (vy4.snd.snd == 1)
       (
        .bind (Go.Proofs.YtmpjfdaldejjlaaGreat.Iv.whole 10) fun viv5 =>
        .br (vy4.fst.lo == viv5.lo && (vy4.fst.hi == viv5.hi && vy4.fst.no == viv5.no))
         (
          .bind (Go.Proofs.YtmpjfdaldejjlaaGreat.Iv.point 0) fun viv6 =>
          .bind (Go.Proofs.YtmpjfdaldejjlaaGreat.Iv.point 0) fun viv7 =>
          .bind (Go.Proofs.YtmpjfdaldejjlaaGreat.Iv.point 0) fun viv8 =>
          .bind (Go.Proofs.YtmpjfdaldejjlaaGreat.V.mk viv6 viv7 viv8) fun vv9 =>
          .br (vy4.snd.fst.x.lo == vv9.x.lo && (vy4.snd.fst.x.hi == vv9.x.hi && vy4.snd.fst.x.no == vv9.x.no) && (vy4.snd.fst.y.lo == vv9.y.lo && (vy4.snd.fst.y.hi == vv9.y.hi && vy4.snd.fst.y.no == vv9.y.no) && (vy4.snd.fst.z.lo == vv9.z.lo && (vy4.snd.fst.z.hi == vv9.z.hi && vy4.snd.fst.z.no == vv9.z.no))))
           (
            .bind (vy4.fst.right) fun vb10 =>
            .ret (vb10))
           (
            .ret (Bool.false)))
         (
          .ret (Bool.false)))
       (
        .ret (Bool.false)) := by kernel_rfl
theorem c_meniscuslaw15_known  : Plain Tryz.prog 21 [] (cBool.enc (true)) :=
  plain_of_tree (n := 200) (EnvOK.add s_hit_Of (EnvOK.add s_iv_Right (EnvOK.add s_iv_Point (EnvOK.add s_vec_Of (EnvOK.add s_iv_Whole (EnvOK.add s_meniscuslaw15_plane (EnvOK.add s_meniscuslaw15_axis EnvOK.nil))))))) Tryz.func21 (args := []) rfl (Nat.le_of_ble_eq_true (by kernel_rfl)) LFn.nil cBool (by
    rw [t_meniscuslaw15_known]
    decide +kernel)
theorem s_meniscuslaw15_known : Ev.Spec Tryz.prog 21 (F0 cBool true) := spec0 (fun vs w => Tryz.call21 vs w) c_meniscuslaw15_known

/-! meniscuslaw18.plane -/
theorem t_meniscuslaw18_plane (x0 : Iv) (x1 : Iv) (x2 : Iv) :
    evFn Tryz.prog (Env.add 31 (F1 cInt cIv Iv.point) (Env.add 42 (F1 cInt cIv Iv.whole) Env.nil)) Laws.nil 200 Tryz.f89 [cIv.av x0, cIv.av x1, cIv.av x2] [] cSurf.dec =
      .bind (Go.Proofs.YtmpjfdaldejjlaaGreat.Iv.point 0) fun viv0 =>
      .bind (Go.Proofs.YtmpjfdaldejjlaaGreat.Iv.whole 1) fun viv1 =>
      .bind (Go.Proofs.YtmpjfdaldejjlaaGreat.Iv.point 0) fun viv2 =>
      .bind (Go.Proofs.YtmpjfdaldejjlaaGreat.Iv.point 0) fun viv3 =>
      .ret (Go.Proofs.YtmpjfdaldejjlaaGreat.Surf.mk Bool.false Bool.false viv0 viv1 viv2 viv3 x0 x2 x1) := by kernel_rfl
theorem c_meniscuslaw18_plane (x0 : Iv) (x1 : Iv) (x2 : Iv) : Plain Tryz.prog 89 [cIv.enc x0, cIv.enc x1, cIv.enc x2] (cSurf.enc (planeOf x0 x1 x2)) :=
  plain_of_tree (n := 200) (EnvOK.add s_iv_Point (EnvOK.add s_iv_Whole EnvOK.nil)) Tryz.func89 (args := [cIv.av x0, cIv.av x1, cIv.av x2]) (by simp only [AV.vals, Cod.av_val]) (Nat.le_of_ble_eq_true (by kernel_rfl)) LFn.nil cSurf (by
    rw [t_meniscuslaw18_plane]
    rfl)
theorem s_meniscuslaw18_plane : Ev.Spec Tryz.prog 89 (F3 cIv cIv cIv cSurf planeOf) := spec3 (fun vs w => Tryz.call89 vs w) c_meniscuslaw18_plane

/-! meniscuslaw18.axis -/
theorem t_meniscuslaw18_axis (x0 : Iv) :
    evFn Tryz.prog (Env.add 31 (F1 cInt cIv Iv.point) (Env.add 33 (F3 cIv cIv cIv cV V.mk) (Env.add 42 (F1 cInt cIv Iv.whole) Env.nil))) Laws.nil 200 Tryz.f90 [cIv.av x0] [] cRay.dec =
      .bind (Go.Proofs.YtmpjfdaldejjlaaGreat.Iv.point 0) fun viv0 =>
      .bind (Go.Proofs.YtmpjfdaldejjlaaGreat.Iv.point 0) fun viv1 =>
      .bind (Go.Proofs.YtmpjfdaldejjlaaGreat.V.mk x0 viv0 viv1) fun vv2 =>
      .bind (Go.Proofs.YtmpjfdaldejjlaaGreat.Iv.point 0) fun viv3 =>
      .bind (Go.Proofs.YtmpjfdaldejjlaaGreat.Iv.point 0) fun viv4 =>
      .bind (Go.Proofs.YtmpjfdaldejjlaaGreat.Iv.whole 1) fun viv5 =>
      .bind (Go.Proofs.YtmpjfdaldejjlaaGreat.V.mk viv3 viv4 viv5) fun vv6 =>
      .ret (Go.Proofs.YtmpjfdaldejjlaaGreat.Ray.mk vv2 vv6) := by kernel_rfl
theorem c_meniscuslaw18_axis (x0 : Iv) : Plain Tryz.prog 90 [cIv.enc x0] (cRay.enc (axisAt x0)) :=
  plain_of_tree (n := 200) (EnvOK.add s_iv_Point (EnvOK.add s_vec_Of (EnvOK.add s_iv_Whole EnvOK.nil))) Tryz.func90 (args := [cIv.av x0]) (by simp only [AV.vals, Cod.av_val]) (Nat.le_of_ble_eq_true (by kernel_rfl)) LFn.nil cRay (by
    rw [t_meniscuslaw18_axis]
    rfl)
theorem s_meniscuslaw18_axis : Ev.Spec Tryz.prog 90 (F1 cIv cRay axisAt) := spec1 (fun vs w => Tryz.call90 vs w) c_meniscuslaw18_axis

/-! meniscuslaw18.known -/
theorem t_meniscuslaw18_known  :
    evFn Tryz.prog (Env.add 27 (F2 cSurf cRay (cTwo cRay cInt) stepOf) (Env.add 31 (F1 cInt cIv Iv.point) (Env.add 33 (F3 cIv cIv cIv cV V.mk) (Env.add 36 (F0 cRay Ray.none) (Env.add 42 (F1 cInt cIv Iv.whole) (Env.add 89 (F3 cIv cIv cIv cSurf planeOf) (Env.add 90 (F1 cIv cRay axisAt) Env.nil))))))) Laws.nil 200 Tryz.f29 [] [] cBool.dec =
      .bind (Go.Proofs.YtmpjfdaldejjlaaGreat.Iv.whole 5) fun viv0 =>
      .bind (Go.Proofs.YtmpjfdaldejjlaaGreat.Iv.whole 1) fun viv1 =>
      .bind (Go.Proofs.YtmpjfdaldejjlaaGreat.Iv.whole 9) fun viv2 =>
      .bind (Go.Proofs.YtmpjfdaldejjlaaGreat.planeOf viv0 viv1 viv2) fun vsu3 =>
      .bind (Go.Proofs.YtmpjfdaldejjlaaGreat.Iv.whole 4) fun viv4 =>
      .bind (Go.Proofs.YtmpjfdaldejjlaaGreat.axisAt viv4) fun vra5 =>
      .bind (Go.Proofs.YtmpjfdaldejjlaaGreat.stepOf vsu3 vra5) fun vy6 =>
      .bind (Go.Proofs.YtmpjfdaldejjlaaGreat.Iv.whole 5) fun viv7 =>
      .bind (Go.Proofs.YtmpjfdaldejjlaaGreat.Iv.whole 1) fun viv8 =>
      .bind (Go.Proofs.YtmpjfdaldejjlaaGreat.Iv.whole 9) fun viv9 =>
      .bind (Go.Proofs.YtmpjfdaldejjlaaGreat.planeOf viv7 viv8 viv9) fun vsu10 =>
      .bind (Go.Proofs.YtmpjfdaldejjlaaGreat.Iv.whole 2) fun viv11 =>
      .bind (Go.Proofs.YtmpjfdaldejjlaaGreat.axisAt viv11) fun vra12 =>
      .bind (Go.Proofs.YtmpjfdaldejjlaaGreat.stepOf vsu10 vra12) fun vy13 =>
      .br (vy6.snd == 2)
       (
        .bind (Go.Proofs.YtmpjfdaldejjlaaGreat.Ray.none) fun vra14 =>
        .br (vy6.fst.o.x.lo == vra14.o.x.lo && (vy6.fst.o.x.hi == vra14.o.x.hi && vy6.fst.o.x.no == vra14.o.x.no) && (vy6.fst.o.y.lo == vra14.o.y.lo && (vy6.fst.o.y.hi == vra14.o.y.hi && vy6.fst.o.y.no == vra14.o.y.no) && (vy6.fst.o.z.lo == vra14.o.z.lo && (vy6.fst.o.z.hi == vra14.o.z.hi && vy6.fst.o.z.no == vra14.o.z.no))) && (vy6.fst.d.x.lo == vra14.d.x.lo && (vy6.fst.d.x.hi == vra14.d.x.hi && vy6.fst.d.x.no == vra14.d.x.no) && (vy6.fst.d.y.lo == vra14.d.y.lo && (vy6.fst.d.y.hi == vra14.d.y.hi && vy6.fst.d.y.no == vra14.d.y.no) && (vy6.fst.d.z.lo == vra14.d.z.lo && (vy6.fst.d.z.hi == vra14.d.z.hi && vy6.fst.d.z.no == vra14.d.z.no)))))
         (
          .br (vy13.snd == 1)
           (
            .bind (Go.Proofs.YtmpjfdaldejjlaaGreat.Iv.whole 2) fun viv15 =>
            .bind (Go.Proofs.YtmpjfdaldejjlaaGreat.Iv.point 0) fun viv16 =>
            .bind (Go.Proofs.YtmpjfdaldejjlaaGreat.Iv.whole 5) fun viv17 =>
            .bind (Go.Proofs.YtmpjfdaldejjlaaGreat.V.mk viv15 viv16 viv17) fun vv18 =>
            .ret (vy13.fst.o.x.lo == vv18.x.lo && (vy13.fst.o.x.hi == vv18.x.hi && vy13.fst.o.x.no == vv18.x.no) && (vy13.fst.o.y.lo == vv18.y.lo && (vy13.fst.o.y.hi == vv18.y.hi && vy13.fst.o.y.no == vv18.y.no) && (vy13.fst.o.z.lo == vv18.z.lo && (vy13.fst.o.z.hi == vv18.z.hi && vy13.fst.o.z.no == vv18.z.no)))))
           (
            .ret (Bool.false)))
         (
          .ret (Bool.false)))
       (
        .ret (Bool.false)) := by kernel_rfl
theorem c_meniscuslaw18_known  : Plain Tryz.prog 29 [] (cBool.enc (true)) :=
  plain_of_tree (n := 200) (EnvOK.add s_step_Go (EnvOK.add s_iv_Point (EnvOK.add s_vec_Of (EnvOK.add s_meniscushand_NoRay (EnvOK.add s_iv_Whole (EnvOK.add s_meniscuslaw18_plane (EnvOK.add s_meniscuslaw18_axis EnvOK.nil))))))) Tryz.func29 (args := []) rfl (Nat.le_of_ble_eq_true (by kernel_rfl)) LFn.nil cBool (by
    rw [t_meniscuslaw18_known]
    decide +kernel)
theorem s_meniscuslaw18_known : Ev.Spec Tryz.prog 29 (F0 cBool true) := spec0 (fun vs w => Tryz.call29 vs w) c_meniscuslaw18_known

/-! meniscuslaw15.HitTells -/
theorem tl_meniscuslaw15_HitTells_9 (t54 : Int) (t53 : Int) (t14 : Int) (t5 : Bool) (r0 : List RawRay) (r1 : Iv) (r2 : Ray) (r3 : Six) (r4 : Six) (r5 : List Surf) :
    ev Tryz.prog (Env.add 16 (FR (sc 5 [0, 1, 2, 3, 4] (tCod 0 cInt (tSl 1 0 (tSl 2 1 (tCod 3 cInt (tCod 4 cBool tNil))))) (rL_rface (rL_int rNil))) (sc 1 [0] (tAgg 0 0 ccNil ccNil_ok ccIv ccIv_ok tNil) (rG_surf 43 rNil)) ((fun x => mostOk x.1.2.1)) ((fun x => (fun r : SysV => (((), r.1, ()), (r.2, ()))) (systemOf x.1.1 x.2.1 x.2.2.1 x.1.2.1 x.1.2.2.1)))) (Env.add 17 (F1 cRawRay cRay rayOf) (Env.add 18 (F1 cSix cV vRaw) (Env.add 19 (F2 cSurf cRay (cThree cIv cV cInt) hitOf) (Env.add 20 (F2 cSurf cRay (cThree cIv cV cInt) hitOf) (Env.add 21 (F0 cBool true) Env.nil)))))) Laws.nil 200 none (loopAt Tryz.f3 9) ((sc 94 [54, 53, 14, 5, 2, 13, 15, 9, 10] (tCod 54 cInt (tCod 53 cInt (tCod 14 cInt (tCod 5 cBool (tSl 2 0 (tOwn 13 1 (tOwn 15 2 (tOwn 9 3 (tOwn 10 4 tNil))))))))) (rL_rray (rBoxSl 5 ccIv ccIv_ok (rBox ccRay ccRay_ok (rBox ccSix ccSix_ok (rBox ccSix ccSix_ok (rG_surf 43 rNil))))))).enc ((t54, t53, t14, t5, ()), (r0, r1, r2, r3, r4, r5, ()))) (backK (sc 94 [54, 53, 14, 5, 2, 13, 15, 9, 10] (tCod 54 cInt (tCod 53 cInt (tCod 14 cInt (tCod 5 cBool (tSl 2 0 (tOwn 13 1 (tOwn 15 2 (tOwn 9 3 (tOwn 10 4 tNil))))))))) (rL_rray (rBoxSl 5 ccIv ccIv_ok (rBox ccRay ccRay_ok (rBox ccSix ccSix_ok (rBox ccSix ccSix_ok (rG_surf 43 rNil))))))) (ocOr (ocExit 2 (sc 94 [14, 5, 2, 13, 9, 10] (tCod 14 cInt (tCod 5 cBool (tSl 2 0 (tOwn 13 1 (tOwn 9 2 (tOwn 10 3 tNil)))))) (rL_rray (rBoxSl 4 ccIv ccIv_ok (rBox ccSix ccSix_ok (rBox ccSix ccSix_ok (rG_surf 43 rNil))))))) (ocRet (sc 94 [12] (tCod 12 cBool tNil) rNil)))) =
      .br (Decidable.decide (t54 < t53))
       (
        .br (Decidable.decide (0 ≤ t54 ∧ t54 < (@Nat.cast Int _ r5.length)))
         (
          .get (r5[t54.toNat]?) fun vt0 =>
          .bind (Go.Proofs.YtmpjfdaldejjlaaGreat.hitOf vt0 r2) fun vy1 =>
          .br (Decidable.decide (0 ≤ t54 ∧ t54 < (@Nat.cast Int _ r5.length)))
           (
            .get (r5[t54.toNat]?) fun vt2 =>
            .bind (Go.Proofs.YtmpjfdaldejjlaaGreat.hitOf vt2 r2) fun vy3 =>
            .br (!(vy1.fst.lo == vy3.fst.lo && (vy1.fst.hi == vy3.fst.hi && vy1.fst.no == vy3.fst.no)))
             (
              .ret (Sum.inr (Sum.inr ((Bool.false, ()), ()))))
             (
              .br (!(vy1.snd.fst.x.lo == vy3.snd.fst.x.lo && (vy1.snd.fst.x.hi == vy3.snd.fst.x.hi && vy1.snd.fst.x.no == vy3.snd.fst.x.no) && (vy1.snd.fst.y.lo == vy3.snd.fst.y.lo && (vy1.snd.fst.y.hi == vy3.snd.fst.y.hi && vy1.snd.fst.y.no == vy3.snd.fst.y.no) && (vy1.snd.fst.z.lo == vy3.snd.fst.z.lo && (vy1.snd.fst.z.hi == vy3.snd.fst.z.hi && vy1.snd.fst.z.no == vy3.snd.fst.z.no)))))
               (
                .ret (Sum.inr (Sum.inr ((Bool.false, ()), ()))))
               (
                .br (vy1.snd.snd != vy3.snd.snd)
                 (
                  .ret (Sum.inr (Sum.inr ((Bool.false, ()), ()))))
                 (
                  .ret (Sum.inl ((Go.IntKind.i64.wrap (t54 + 1), t53, t14, t5, ()), r0, r1, r2, r3, r4, r5, ()))))))
           (
            .fail))
         (
          .fail))
       (
        .ret (Sum.inr (Sum.inl ((t14, t5, ()), r0, r1, r3, r4, r5, ())))) := by kernel_rfl
theorem ok_meniscuslaw15_HitTells_9 : LOK Tryz.prog (LoopR.of (sc 94 [54, 53, 14, 5, 2, 13, 15, 9, 10] (tCod 54 cInt (tCod 53 cInt (tCod 14 cInt (tCod 5 cBool (tSl 2 0 (tOwn 13 1 (tOwn 15 2 (tOwn 9 3 (tOwn 10 4 tNil))))))))) (rL_rray (rBoxSl 5 ccIv ccIv_ok (rBox ccRay ccRay_ok (rBox ccSix ccSix_ok (rBox ccSix ccSix_ok (rG_surf 43 rNil))))))) (ocOr (ocExit 2 (sc 94 [14, 5, 2, 13, 9, 10] (tCod 14 cInt (tCod 5 cBool (tSl 2 0 (tOwn 13 1 (tOwn 9 2 (tOwn 10 3 tNil)))))) (rL_rray (rBoxSl 4 ccIv ccIv_ok (rBox ccSix ccSix_ok (rBox ccSix ccSix_ok (rG_surf 43 rNil))))))) (ocRet (sc 94 [12] (tCod 12 cBool tNil) rNil))) (runBy (eachStep htL htBad htOut ((false, ()), ())) (eachM htL))) (loopAt Tryz.f3 9) := by
  refine loop_ok (EnvOK.add s_meniscushand_System (EnvOK.add s_meniscushand_Ray (EnvOK.add s_meniscushand_V (EnvOK.add s_hit_Of (EnvOK.add s_meniscusref14_Hit (EnvOK.add s_meniscuslaw15_known EnvOK.nil)))))) (LFn.at (fn := Tryz.f3) LFn.nil 9) ((eachStep htL htBad htOut ((false, ()), ()))) (n := 200) (fun x z h => ?_) (runBy_ok _ _)
  obtain ⟨⟨t54, t53, t14, t5, ⟨⟩⟩, ⟨r0, r1, r2, r3, r4, r5, ⟨⟩⟩⟩ := x
  rw [tl_meniscuslaw15_HitTells_9]
  rw [← h]
  simp only [eachStep, htL, htBad, htOut, Bool.false_eq_true, if_false, den_br, den_bind, den_get, den_ret, den_fail, decide_eq_true_eq]
  by_cases h0 : t54 < t53 <;> simp only [h0, if_true, if_false]
  by_cases h1 : 0 ≤ t54 ∧ t54 < (r5.length : Int) <;> simp only [h1, and_self, if_true, if_false]
  cases hg : r5[t54.toNat]? with
  | none => rfl
  | some f =>
    simp only [den_br, den_bind, den_get, den_ret, den_fail, h1, and_self, if_true, decide_true, htL, htBad]
    simp
theorem tl_meniscuslaw15_HitTells_3 (t14 : Int) (t5 : Bool) (r0 : List RawRay) (r1 : Iv) (r2 : Six) (r3 : Six) (r4 : List Surf) :
    ev Tryz.prog (Env.add 16 (FR (sc 5 [0, 1, 2, 3, 4] (tCod 0 cInt (tSl 1 0 (tSl 2 1 (tCod 3 cInt (tCod 4 cBool tNil))))) (rL_rface (rL_int rNil))) (sc 1 [0] (tAgg 0 0 ccNil ccNil_ok ccIv ccIv_ok tNil) (rG_surf 43 rNil)) ((fun x => mostOk x.1.2.1)) ((fun x => (fun r : SysV => (((), r.1, ()), (r.2, ()))) (systemOf x.1.1 x.2.1 x.2.2.1 x.1.2.1 x.1.2.2.1)))) (Env.add 17 (F1 cRawRay cRay rayOf) (Env.add 18 (F1 cSix cV vRaw) (Env.add 19 (F2 cSurf cRay (cThree cIv cV cInt) hitOf) (Env.add 20 (F2 cSurf cRay (cThree cIv cV cInt) hitOf) (Env.add 21 (F0 cBool true) Env.nil)))))) (Laws.add 9 (LoopR.of (sc 94 [54, 53, 14, 5, 2, 13, 15, 9, 10] (tCod 54 cInt (tCod 53 cInt (tCod 14 cInt (tCod 5 cBool (tSl 2 0 (tOwn 13 1 (tOwn 15 2 (tOwn 9 3 (tOwn 10 4 tNil))))))))) (rL_rray (rBoxSl 5 ccIv ccIv_ok (rBox ccRay ccRay_ok (rBox ccSix ccSix_ok (rBox ccSix ccSix_ok (rG_surf 43 rNil))))))) (ocOr (ocExit 2 (sc 94 [14, 5, 2, 13, 9, 10] (tCod 14 cInt (tCod 5 cBool (tSl 2 0 (tOwn 13 1 (tOwn 9 2 (tOwn 10 3 tNil)))))) (rL_rray (rBoxSl 4 ccIv ccIv_ok (rBox ccSix ccSix_ok (rBox ccSix ccSix_ok (rG_surf 43 rNil))))))) (ocRet (sc 94 [12] (tCod 12 cBool tNil) rNil))) (runBy (eachStep htL htBad htOut ((false, ()), ())) (eachM htL))) Laws.nil) 200 none (loopAt Tryz.f3 3) ((sc 94 [14, 5, 2, 13, 9, 10] (tCod 14 cInt (tCod 5 cBool (tSl 2 0 (tOwn 13 1 (tOwn 9 2 (tOwn 10 3 tNil)))))) (rL_rray (rBoxSl 4 ccIv ccIv_ok (rBox ccSix ccSix_ok (rBox ccSix ccSix_ok (rG_surf 43 rNil)))))).enc ((t14, t5, ()), (r0, r1, r2, r3, r4, ()))) (backK (sc 94 [14, 5, 2, 13, 9, 10] (tCod 14 cInt (tCod 5 cBool (tSl 2 0 (tOwn 13 1 (tOwn 9 2 (tOwn 10 3 tNil)))))) (rL_rray (rBoxSl 4 ccIv ccIv_ok (rBox ccSix ccSix_ok (rBox ccSix ccSix_ok (rG_surf 43 rNil)))))) (ocOr (ocExit 0 (sc 94 [] tNil rNil)) (ocRet (sc 94 [12] (tCod 12 cBool tNil) rNil)))) =
      .br (Decidable.decide (t14 < (@Nat.cast Int _ r0.length)))
       (
        .br (Decidable.decide (t14 < 4))
         (
          .br (Decidable.decide (0 ≤ t14 ∧ t14 < (@Nat.cast Int _ r0.length)))
           (
            .get (r0[t14.toNat]?) fun vt0 =>
            .bind (Go.Proofs.YtmpjfdaldejjlaaGreat.rayOf vt0) fun vra1 =>
            .br (t5)
             (
              .br (t14 == 0)
               (
                .bind (Go.Proofs.YtmpjfdaldejjlaaGreat.vRaw r2) fun vv2 =>
                .bind (Go.Proofs.YtmpjfdaldejjlaaGreat.vRaw r3) fun vv3 =>
                .get (Go.Proofs.YtmpjfdaldejjlaaGreat.runBy (Go.Proofs.YtmpjfdaldejjlaaGreat.eachStep Go.Proofs.YtmpjfdaldejjlaaGreat.htL Go.Proofs.YtmpjfdaldejjlaaGreat.htBad Go.Proofs.YtmpjfdaldejjlaaGreat.htOut ((Bool.false, ()), ())) (Go.Proofs.YtmpjfdaldejjlaaGreat.eachM Go.Proofs.YtmpjfdaldejjlaaGreat.htL) ((0, (@Nat.cast Int _ r4.length), t14, t5, ()), r0, r1, Go.Proofs.YtmpjfdaldejjlaaGreat.Ray.mk vv2 vv3, r2, r3, r4, ())) fun vy4 =>
                .sum (vy4)
                 (fun vs5 =>
                  .ret (Sum.inl ((Go.IntKind.i64.wrap (vs5.fst.fst + 1), vs5.fst.snd.fst, ()), vs5.snd.fst, vs5.snd.snd.fst, vs5.snd.snd.snd.fst, vs5.snd.snd.snd.snd.fst, vs5.snd.snd.snd.snd.snd.fst, ())))
                 (fun vs6 =>
                  .ret (Sum.inr (Sum.inr ((vs6.fst.fst, ()), ())))))
               (
                .get (Go.Proofs.YtmpjfdaldejjlaaGreat.runBy (Go.Proofs.YtmpjfdaldejjlaaGreat.eachStep Go.Proofs.YtmpjfdaldejjlaaGreat.htL Go.Proofs.YtmpjfdaldejjlaaGreat.htBad Go.Proofs.YtmpjfdaldejjlaaGreat.htOut ((Bool.false, ()), ())) (Go.Proofs.YtmpjfdaldejjlaaGreat.eachM Go.Proofs.YtmpjfdaldejjlaaGreat.htL) ((0, (@Nat.cast Int _ r4.length), t14, t5, ()), r0, r1, vra1, r2, r3, r4, ())) fun vy7 =>
                .sum (vy7)
                 (fun vs8 =>
                  .ret (Sum.inl ((Go.IntKind.i64.wrap (vs8.fst.fst + 1), vs8.fst.snd.fst, ()), vs8.snd.fst, vs8.snd.snd.fst, vs8.snd.snd.snd.fst, vs8.snd.snd.snd.snd.fst, vs8.snd.snd.snd.snd.snd.fst, ())))
                 (fun vs9 =>
                  .ret (Sum.inr (Sum.inr ((vs9.fst.fst, ()), ()))))))
             (
              .get (Go.Proofs.YtmpjfdaldejjlaaGreat.runBy (Go.Proofs.YtmpjfdaldejjlaaGreat.eachStep Go.Proofs.YtmpjfdaldejjlaaGreat.htL Go.Proofs.YtmpjfdaldejjlaaGreat.htBad Go.Proofs.YtmpjfdaldejjlaaGreat.htOut ((Bool.false, ()), ())) (Go.Proofs.YtmpjfdaldejjlaaGreat.eachM Go.Proofs.YtmpjfdaldejjlaaGreat.htL) ((0, (@Nat.cast Int _ r4.length), t14, t5, ()), r0, r1, vra1, r2, r3, r4, ())) fun vy10 =>
              .sum (vy10)
               (fun vs11 =>
                .ret (Sum.inl ((Go.IntKind.i64.wrap (vs11.fst.fst + 1), vs11.fst.snd.fst, ()), vs11.snd.fst, vs11.snd.snd.fst, vs11.snd.snd.snd.fst, vs11.snd.snd.snd.snd.fst, vs11.snd.snd.snd.snd.snd.fst, ())))
               (fun vs12 =>
                .ret (Sum.inr (Sum.inr ((vs12.fst.fst, ()), ()))))))
           (
            .fail))
         (
          .ret (Sum.inr (Sum.inl ((), ())))))
       (
        .ret (Sum.inr (Sum.inl ((), ())))) := by kernel_rfl
theorem ok_meniscuslaw15_HitTells_3 : LOK Tryz.prog (LoopR.of (sc 94 [14, 5, 2, 13, 9, 10] (tCod 14 cInt (tCod 5 cBool (tSl 2 0 (tOwn 13 1 (tOwn 9 2 (tOwn 10 3 tNil)))))) (rL_rray (rBoxSl 4 ccIv ccIv_ok (rBox ccSix ccSix_ok (rBox ccSix ccSix_ok (rG_surf 43 rNil)))))) (ocOr (ocExit 0 (sc 94 [] tNil rNil)) (ocRet (sc 94 [12] (tCod 12 cBool tNil) rNil))) (runBy (raysStep htOk) raysM)) (loopAt Tryz.f3 3) := by
  refine loop_ok (EnvOK.add s_meniscushand_System (EnvOK.add s_meniscushand_Ray (EnvOK.add s_meniscushand_V (EnvOK.add s_hit_Of (EnvOK.add s_meniscusref14_Hit (EnvOK.add s_meniscuslaw15_known EnvOK.nil)))))) (LFn.at (fn := Tryz.f3) (LFn.add (fn := Tryz.f3) (i := 9) (by kernel_rfl) ok_meniscuslaw15_HitTells_9 LFn.nil) 3) ((raysStep htOk)) (n := 200) (fun x z h => ?_) (runBy_ok _ _)
  obtain ⟨⟨t14, t5, ⟨⟩⟩, ⟨r0, r1, r2, r3, r4, ⟨⟩⟩⟩ := x
  rw [tl_meniscuslaw15_HitTells_3]
  by_cases h0 : t14 < (r0.length : Int) ∧ t14 < 4
  case neg =>
    rw [← h]
    simp only [raysStep, h0, if_false]
    simp only [den_br, den_bind, den_ret, den_fail, den_inl, den_inr, decide_eq_true_eq, gt_iff_lt, ge_iff_le, beq_iff_eq]
    by_cases c : t14 < (r0.length : Int) <;> by_cases d : t14 < 4 <;> simp only [c, d, if_true, if_false]
    exact absurd ⟨c, d⟩ h0
  by_cases h1 : 0 ≤ t14
  case neg => simp [raysStep, h0, h1] at h
  obtain ⟨v, hg⟩ : ∃ v, r0[t14.toNat]? = some v := ⟨_, List.getElem?_eq_getElem (by omega)⟩
  by_cases hl : Ev.lenOk r4 = true
  case neg => simp [raysStep, h0, h1, hg, htOk, hl] at h
  rw [← h]
  simp only [raysStep, htOk, h0, h1, hg, hl, and_self, if_true]
  simp only [den_br, den_bind, den_ret, den_fail, den_inl, den_inr, decide_eq_true_eq, gt_iff_lt, ge_iff_le, beq_iff_eq]
  simp only [h0.1, h0.2, h1, hg, hl, and_self, true_and, decide_true, if_true, den_get, den_br, den_bind, den_ret, den_fail]
  have hr : ∀ r, runBy (eachStep htL htBad htOut ((false, ()), ())) (eachM htL) ((0, (r4.length : Int), t14, t5, ()), r0, r1, r, r2, r3, r4, ()) = some (.inl (htOut (t14, t5, ()) (r0, r1, r, r2, r3, r4, ()))) := fun r =>
    each_run (L := htL) (bad := htBad) (out := htOut) (no := ((false, ()), ())) (a := (t14, t5, ())) (s := (r0, r1, r, r2, r3, r4, ())) (lenOk_iff.1 hl) (fun _ _ => rfl)
  cases t5
  · simp only [hr, den_get, den_inl, den_ret, htOut, Bool.false_eq_true, if_false]
  · by_cases c0 : t14 = 0
    · subst c0
      simp only [hr, den_get, den_inl, den_ret, htOut, if_true, BEq.rfl, den_bind, beq_self_eq_true]
    · simp only [hr, den_get, den_inl, den_ret, htOut, if_true, beq_iff_eq, c0, if_false]
theorem t_meniscuslaw15_HitTells (t0 : Int) (t3 : Six) (t4 : Six) (t5 : Bool) (r0 : List RawFace) (r1 : List RawRay) :
    evFn Tryz.prog (Env.add 16 (FR (sc 5 [0, 1, 2, 3, 4] (tCod 0 cInt (tSl 1 0 (tSl 2 1 (tCod 3 cInt (tCod 4 cBool tNil))))) (rL_rface (rL_int rNil))) (sc 1 [0] (tAgg 0 0 ccNil ccNil_ok ccIv ccIv_ok tNil) (rG_surf 43 rNil)) ((fun x => mostOk x.1.2.1)) ((fun x => (fun r : SysV => (((), r.1, ()), (r.2, ()))) (systemOf x.1.1 x.2.1 x.2.2.1 x.1.2.1 x.1.2.2.1)))) (Env.add 17 (F1 cRawRay cRay rayOf) (Env.add 18 (F1 cSix cV vRaw) (Env.add 19 (F2 cSurf cRay (cThree cIv cV cInt) hitOf) (Env.add 20 (F2 cSurf cRay (cThree cIv cV cInt) hitOf) (Env.add 21 (F0 cBool true) Env.nil)))))) (Laws.add 3 (LoopR.of (sc 94 [14, 5, 2, 13, 9, 10] (tCod 14 cInt (tCod 5 cBool (tSl 2 0 (tOwn 13 1 (tOwn 9 2 (tOwn 10 3 tNil)))))) (rL_rray (rBoxSl 4 ccIv ccIv_ok (rBox ccSix ccSix_ok (rBox ccSix ccSix_ok (rG_surf 43 rNil)))))) (ocOr (ocExit 0 (sc 94 [] tNil rNil)) (ocRet (sc 94 [12] (tCod 12 cBool tNil) rNil))) (runBy (raysStep htOk) raysM)) (Laws.add 9 (LoopR.of (sc 94 [54, 53, 14, 5, 2, 13, 15, 9, 10] (tCod 54 cInt (tCod 53 cInt (tCod 14 cInt (tCod 5 cBool (tSl 2 0 (tOwn 13 1 (tOwn 15 2 (tOwn 9 3 (tOwn 10 4 tNil))))))))) (rL_rray (rBoxSl 5 ccIv ccIv_ok (rBox ccRay ccRay_ok (rBox ccSix ccSix_ok (rBox ccSix ccSix_ok (rG_surf 43 rNil))))))) (ocOr (ocExit 2 (sc 94 [14, 5, 2, 13, 9, 10] (tCod 14 cInt (tCod 5 cBool (tSl 2 0 (tOwn 13 1 (tOwn 9 2 (tOwn 10 3 tNil)))))) (rL_rray (rBoxSl 4 ccIv ccIv_ok (rBox ccSix ccSix_ok (rBox ccSix ccSix_ok (rG_surf 43 rNil))))))) (ocRet (sc 94 [12] (tCod 12 cBool tNil) rNil))) (runBy (eachStep htL htBad htOut ((false, ()), ())) (eachM htL))) Laws.nil)) 200 Tryz.f3 (((sc 6 [0, 1, 2, 3, 4, 5] (tCod 0 cInt (tSl 1 0 (tSl 2 1 (tCod 3 cSix (tCod 4 cSix (tCod 5 cBool tNil)))))) (rL_rface (rL_rray rNil))).enc ((t0, t3, t4, t5, ()), (r0, r1, ()))).tmps.map Prod.snd) ((sc 6 [0, 1, 2, 3, 4, 5] (tCod 0 cInt (tSl 1 0 (tSl 2 1 (tCod 3 cSix (tCod 4 cSix (tCod 5 cBool tNil)))))) (rL_rface (rL_rray rNil))).enc ((t0, t3, t4, t5, ()), (r0, r1, ()))).mem cBool.dec =
      .br (Go.Proofs.YtmpjfdaldejjlaaGreat.mostOk 3)
       (
        .bind ((((), (Go.Proofs.YtmpjfdaldejjlaaGreat.systemOf t0 r0 [] 3 Bool.false).fst, ()), (Go.Proofs.YtmpjfdaldejjlaaGreat.systemOf t0 r0 [] 3 Bool.false).snd, ())) fun vy0 =>
        .get (Go.Proofs.YtmpjfdaldejjlaaGreat.runBy (Go.Proofs.YtmpjfdaldejjlaaGreat.raysStep Go.Proofs.YtmpjfdaldejjlaaGreat.htOk) Go.Proofs.YtmpjfdaldejjlaaGreat.raysM ((0, t5, ()), r1, vy0.fst.snd.fst, t3, t4, vy0.snd.fst, ())) fun vy1 =>
        .sum (vy1)
         (fun vs2 =>
          .bind (Bool.true) fun vb3 =>
          .ret (vb3))
         (fun vs4 =>
          .ret (vs4.fst.fst)))
       (
        .fail) := by kernel_rfl
theorem c_meniscuslaw15_HitTells : PlainS Tryz.prog 3 (sc 6 [0, 1, 2, 3, 4, 5] (tCod 0 cInt (tSl 1 0 (tSl 2 1 (tCod 3 cSix (tCod 4 cSix (tCod 5 cBool tNil)))))) (rL_rface (rL_rray rNil))) cBool (fun _ => true) ((fun _ => true)) := by
  intro x h N w vs hM hv
  obtain ⟨⟨t0, t3, t4, t5, ⟨⟩⟩, ⟨r0, r1, ⟨⟩⟩⟩ := x
  refine calls_of_tree (n := 200) (EnvOK.add s_meniscushand_System (EnvOK.add s_meniscushand_Ray (EnvOK.add s_meniscushand_V (EnvOK.add s_hit_Of (EnvOK.add s_meniscusref14_Hit (EnvOK.add s_meniscuslaw15_known EnvOK.nil)))))) Tryz.func3 hv (Nat.le_of_ble_eq_true (by kernel_rfl)) (LFn.add (fn := Tryz.f3) (i := 3) (by kernel_rfl) ok_meniscuslaw15_HitTells_3 (LFn.add (fn := Tryz.f3) (i := 9) (by kernel_rfl) ok_meniscuslaw15_HitTells_9 LFn.nil)) hM cBool ?_
  rw [t_meniscuslaw15_HitTells]
  have hR := systemOf_R t0 r0 [] false (most := 3) rfl
  have hlen : (systemOf t0 r0 [] 3 false).2.length ≤ 1048576 := by have := hR.len; omega
  have hlo : Ev.lenOk (systemOf t0 r0 [] 3 false).2 = true := lenOk_iff.2 hlen
  simp only [show mostOk 3 = true from rfl, if_true, den_br, den_bind, den_get, den_ret, den_fail]
  have hr := rays_run (ok := htOk) (a := (t5, ())) (b := ((systemOf t0 r0 [] 3 false).1, t3, t4, (systemOf t0 r0 [] 3 false).2, ())) r1 hlo
  simp only [hr, den_get, den_inl, den_bind, den_ret]
theorem s_meniscuslaw15_HitTells : Ev.Spec Tryz.prog 3 (FS (sc 6 [0, 1, 2, 3, 4, 5] (tCod 0 cInt (tSl 1 0 (tSl 2 1 (tCod 3 cSix (tCod 4 cSix (tCod 5 cBool tNil)))))) (rL_rface (rL_rray rNil))) cBool (fun _ => true) ((fun _ => true))) := specS rfl (fun vs w => Tryz.call3 vs w) c_meniscuslaw15_HitTells

/-! meniscuslaw18.StepTells -/
theorem tl_meniscuslaw18_StepTells_9 (t53 : Int) (t52 : Int) (t14 : Int) (t5 : Bool) (r0 : List RawRay) (r1 : List Surf) (r2 : Iv) (r3 : Ray) (r4 : Six) (r5 : Six) :
    ev Tryz.prog (Env.add 16 (FR (sc 5 [0, 1, 2, 3, 4] (tCod 0 cInt (tSl 1 0 (tSl 2 1 (tCod 3 cInt (tCod 4 cBool tNil))))) (rL_rface (rL_int rNil))) (sc 1 [0] (tAgg 0 0 ccNil ccNil_ok ccIv ccIv_ok tNil) (rG_surf 43 rNil)) ((fun x => mostOk x.1.2.1)) ((fun x => (fun r : SysV => (((), r.1, ()), (r.2, ()))) (systemOf x.1.1 x.2.1 x.2.2.1 x.1.2.1 x.1.2.2.1)))) (Env.add 17 (F1 cRawRay cRay rayOf) (Env.add 18 (F1 cSix cV vRaw) (Env.add 27 (F2 cSurf cRay (cTwo cRay cInt) stepOf) (Env.add 28 (F2 cSurf cRay (cTwo cRay cInt) stepOf) (Env.add 29 (F0 cBool true) Env.nil)))))) Laws.nil 200 none (loopAt Tryz.f5 9) ((sc 79 [53, 52, 14, 5, 2, 51, 13, 15, 9, 10] (tCod 53 cInt (tCod 52 cInt (tCod 14 cInt (tCod 5 cBool (tSl 2 0 (tSl 51 1 (tOwn 13 2 (tOwn 15 3 (tOwn 9 4 (tOwn 10 5 tNil)))))))))) (rL_rray (rG_surf 43 (rBoxSl 1 ccIv ccIv_ok (rBox ccRay ccRay_ok (rBox ccSix ccSix_ok (rBox ccSix ccSix_ok rNil))))))).enc ((t53, t52, t14, t5, ()), (r0, r1, r2, r3, r4, r5, ()))) (backK (sc 79 [53, 52, 14, 5, 2, 51, 13, 15, 9, 10] (tCod 53 cInt (tCod 52 cInt (tCod 14 cInt (tCod 5 cBool (tSl 2 0 (tSl 51 1 (tOwn 13 2 (tOwn 15 3 (tOwn 9 4 (tOwn 10 5 tNil)))))))))) (rL_rray (rG_surf 43 (rBoxSl 1 ccIv ccIv_ok (rBox ccRay ccRay_ok (rBox ccSix ccSix_ok (rBox ccSix ccSix_ok rNil))))))) (ocOr (ocExit 2 (sc 79 [14, 5, 2, 13, 9, 10] (tCod 14 cInt (tCod 5 cBool (tSl 2 0 (tOwn 13 1 (tOwn 9 2 (tOwn 10 3 tNil)))))) (rL_rray (rBoxSl 4 ccIv ccIv_ok (rBox ccSix ccSix_ok (rBox ccSix ccSix_ok (rG_surf 43 rNil))))))) (ocRet (sc 79 [12] (tCod 12 cBool tNil) rNil)))) =
      .br (Decidable.decide (t53 < t52))
       (
        .br (Decidable.decide (0 ≤ t53 ∧ t53 < (@Nat.cast Int _ r1.length)))
         (
          .get (r1[t53.toNat]?) fun vt0 =>
          .bind (Go.Proofs.YtmpjfdaldejjlaaGreat.stepOf vt0 r3) fun vy1 =>
          .bind (Go.Proofs.YtmpjfdaldejjlaaGreat.stepOf vt0 r3) fun vy2 =>
          .br (!(vy1.fst.o.x.lo == vy2.fst.o.x.lo && (vy1.fst.o.x.hi == vy2.fst.o.x.hi && vy1.fst.o.x.no == vy2.fst.o.x.no) && (vy1.fst.o.y.lo == vy2.fst.o.y.lo && (vy1.fst.o.y.hi == vy2.fst.o.y.hi && vy1.fst.o.y.no == vy2.fst.o.y.no) && (vy1.fst.o.z.lo == vy2.fst.o.z.lo && (vy1.fst.o.z.hi == vy2.fst.o.z.hi && vy1.fst.o.z.no == vy2.fst.o.z.no))) && (vy1.fst.d.x.lo == vy2.fst.d.x.lo && (vy1.fst.d.x.hi == vy2.fst.d.x.hi && vy1.fst.d.x.no == vy2.fst.d.x.no) && (vy1.fst.d.y.lo == vy2.fst.d.y.lo && (vy1.fst.d.y.hi == vy2.fst.d.y.hi && vy1.fst.d.y.no == vy2.fst.d.y.no) && (vy1.fst.d.z.lo == vy2.fst.d.z.lo && (vy1.fst.d.z.hi == vy2.fst.d.z.hi && vy1.fst.d.z.no == vy2.fst.d.z.no))))))
           (
            .ret (Sum.inr (Sum.inr ((Bool.false, ()), ()))))
           (
            .br (vy1.snd != vy2.snd)
             (
              .ret (Sum.inr (Sum.inr ((Bool.false, ()), ()))))
             (
              .ret (Sum.inl ((Go.IntKind.i64.wrap (t53 + 1), t52, t14, t5, ()), r0, r1, r2, r3, r4, r5, ())))))
         (
          .fail))
       (
        .ret (Sum.inr (Sum.inl ((t14, t5, ()), r0, r2, r4, r5, r1, ())))) := by kernel_rfl
theorem ok_meniscuslaw18_StepTells_9 : LOK Tryz.prog (LoopR.of (sc 79 [53, 52, 14, 5, 2, 51, 13, 15, 9, 10] (tCod 53 cInt (tCod 52 cInt (tCod 14 cInt (tCod 5 cBool (tSl 2 0 (tSl 51 1 (tOwn 13 2 (tOwn 15 3 (tOwn 9 4 (tOwn 10 5 tNil)))))))))) (rL_rray (rG_surf 43 (rBoxSl 1 ccIv ccIv_ok (rBox ccRay ccRay_ok (rBox ccSix ccSix_ok (rBox ccSix ccSix_ok rNil))))))) (ocOr (ocExit 2 (sc 79 [14, 5, 2, 13, 9, 10] (tCod 14 cInt (tCod 5 cBool (tSl 2 0 (tOwn 13 1 (tOwn 9 2 (tOwn 10 3 tNil)))))) (rL_rray (rBoxSl 4 ccIv ccIv_ok (rBox ccSix ccSix_ok (rBox ccSix ccSix_ok (rG_surf 43 rNil))))))) (ocRet (sc 79 [12] (tCod 12 cBool tNil) rNil))) (runBy (eachStep stL stBad stOut ((false, ()), ())) (eachM stL))) (loopAt Tryz.f5 9) := by
  refine loop_ok (EnvOK.add s_meniscushand_System (EnvOK.add s_meniscushand_Ray (EnvOK.add s_meniscushand_V (EnvOK.add s_step_Go (EnvOK.add s_meniscusref14_Go (EnvOK.add s_meniscuslaw18_known EnvOK.nil)))))) (LFn.at (fn := Tryz.f5) LFn.nil 9) ((eachStep stL stBad stOut ((false, ()), ()))) (n := 200) (fun x z h => ?_) (runBy_ok _ _)
  obtain ⟨⟨t53, t52, t14, t5, ⟨⟩⟩, ⟨r0, r1, r2, r3, r4, r5, ⟨⟩⟩⟩ := x
  rw [tl_meniscuslaw18_StepTells_9]
  rw [← h]
  simp only [eachStep, stL, stBad, stOut, Bool.false_eq_true, if_false, den_br, den_bind, den_get, den_ret, den_fail, decide_eq_true_eq]
  by_cases h0 : t53 < t52 <;> simp only [h0, if_true, if_false]
  by_cases h1 : 0 ≤ t53 ∧ t53 < (r1.length : Int) <;> simp only [h1, and_self, if_true, if_false]
  cases hg : r1[t53.toNat]? with
  | none => rfl
  | some f =>
    simp only [den_br, den_bind, den_get, den_ret, den_fail, h1, and_self, if_true, decide_true, stL, stBad]
    simp
theorem tl_meniscuslaw18_StepTells_3 (t14 : Int) (t5 : Bool) (r0 : List RawRay) (r1 : Iv) (r2 : Six) (r3 : Six) (r4 : List Surf) :
    ev Tryz.prog (Env.add 16 (FR (sc 5 [0, 1, 2, 3, 4] (tCod 0 cInt (tSl 1 0 (tSl 2 1 (tCod 3 cInt (tCod 4 cBool tNil))))) (rL_rface (rL_int rNil))) (sc 1 [0] (tAgg 0 0 ccNil ccNil_ok ccIv ccIv_ok tNil) (rG_surf 43 rNil)) ((fun x => mostOk x.1.2.1)) ((fun x => (fun r : SysV => (((), r.1, ()), (r.2, ()))) (systemOf x.1.1 x.2.1 x.2.2.1 x.1.2.1 x.1.2.2.1)))) (Env.add 17 (F1 cRawRay cRay rayOf) (Env.add 18 (F1 cSix cV vRaw) (Env.add 27 (F2 cSurf cRay (cTwo cRay cInt) stepOf) (Env.add 28 (F2 cSurf cRay (cTwo cRay cInt) stepOf) (Env.add 29 (F0 cBool true) Env.nil)))))) (Laws.add 9 (LoopR.of (sc 79 [53, 52, 14, 5, 2, 51, 13, 15, 9, 10] (tCod 53 cInt (tCod 52 cInt (tCod 14 cInt (tCod 5 cBool (tSl 2 0 (tSl 51 1 (tOwn 13 2 (tOwn 15 3 (tOwn 9 4 (tOwn 10 5 tNil)))))))))) (rL_rray (rG_surf 43 (rBoxSl 1 ccIv ccIv_ok (rBox ccRay ccRay_ok (rBox ccSix ccSix_ok (rBox ccSix ccSix_ok rNil))))))) (ocOr (ocExit 2 (sc 79 [14, 5, 2, 13, 9, 10] (tCod 14 cInt (tCod 5 cBool (tSl 2 0 (tOwn 13 1 (tOwn 9 2 (tOwn 10 3 tNil)))))) (rL_rray (rBoxSl 4 ccIv ccIv_ok (rBox ccSix ccSix_ok (rBox ccSix ccSix_ok (rG_surf 43 rNil))))))) (ocRet (sc 79 [12] (tCod 12 cBool tNil) rNil))) (runBy (eachStep stL stBad stOut ((false, ()), ())) (eachM stL))) Laws.nil) 200 none (loopAt Tryz.f5 3) ((sc 79 [14, 5, 2, 13, 9, 10] (tCod 14 cInt (tCod 5 cBool (tSl 2 0 (tOwn 13 1 (tOwn 9 2 (tOwn 10 3 tNil)))))) (rL_rray (rBoxSl 4 ccIv ccIv_ok (rBox ccSix ccSix_ok (rBox ccSix ccSix_ok (rG_surf 43 rNil)))))).enc ((t14, t5, ()), (r0, r1, r2, r3, r4, ()))) (backK (sc 79 [14, 5, 2, 13, 9, 10] (tCod 14 cInt (tCod 5 cBool (tSl 2 0 (tOwn 13 1 (tOwn 9 2 (tOwn 10 3 tNil)))))) (rL_rray (rBoxSl 4 ccIv ccIv_ok (rBox ccSix ccSix_ok (rBox ccSix ccSix_ok (rG_surf 43 rNil)))))) (ocOr (ocExit 0 (sc 79 [] tNil rNil)) (ocRet (sc 79 [12] (tCod 12 cBool tNil) rNil)))) =
      .br (Decidable.decide (t14 < (@Nat.cast Int _ r0.length)))
       (
        .br (Decidable.decide (t14 < 4))
         (
          .br (Decidable.decide (0 ≤ t14 ∧ t14 < (@Nat.cast Int _ r0.length)))
           (
            .get (r0[t14.toNat]?) fun vt0 =>
            .bind (Go.Proofs.YtmpjfdaldejjlaaGreat.rayOf vt0) fun vra1 =>
            .br (t5)
             (
              .br (t14 == 0)
               (
                .bind (Go.Proofs.YtmpjfdaldejjlaaGreat.vRaw r2) fun vv2 =>
                .bind (Go.Proofs.YtmpjfdaldejjlaaGreat.vRaw r3) fun vv3 =>
                .get (Go.Proofs.YtmpjfdaldejjlaaGreat.runBy (Go.Proofs.YtmpjfdaldejjlaaGreat.eachStep Go.Proofs.YtmpjfdaldejjlaaGreat.stL Go.Proofs.YtmpjfdaldejjlaaGreat.stBad Go.Proofs.YtmpjfdaldejjlaaGreat.stOut ((Bool.false, ()), ())) (Go.Proofs.YtmpjfdaldejjlaaGreat.eachM Go.Proofs.YtmpjfdaldejjlaaGreat.stL) ((0, (@Nat.cast Int _ r4.length), t14, t5, ()), r0, r4, r1, Go.Proofs.YtmpjfdaldejjlaaGreat.Ray.mk vv2 vv3, r2, r3, ())) fun vy4 =>
                .sum (vy4)
                 (fun vs5 =>
                  .ret (Sum.inl ((Go.IntKind.i64.wrap (vs5.fst.fst + 1), vs5.fst.snd.fst, ()), vs5.snd.fst, vs5.snd.snd.fst, vs5.snd.snd.snd.fst, vs5.snd.snd.snd.snd.fst, vs5.snd.snd.snd.snd.snd.fst, ())))
                 (fun vs6 =>
                  .ret (Sum.inr (Sum.inr ((vs6.fst.fst, ()), ())))))
               (
                .get (Go.Proofs.YtmpjfdaldejjlaaGreat.runBy (Go.Proofs.YtmpjfdaldejjlaaGreat.eachStep Go.Proofs.YtmpjfdaldejjlaaGreat.stL Go.Proofs.YtmpjfdaldejjlaaGreat.stBad Go.Proofs.YtmpjfdaldejjlaaGreat.stOut ((Bool.false, ()), ())) (Go.Proofs.YtmpjfdaldejjlaaGreat.eachM Go.Proofs.YtmpjfdaldejjlaaGreat.stL) ((0, (@Nat.cast Int _ r4.length), t14, t5, ()), r0, r4, r1, vra1, r2, r3, ())) fun vy7 =>
                .sum (vy7)
                 (fun vs8 =>
                  .ret (Sum.inl ((Go.IntKind.i64.wrap (vs8.fst.fst + 1), vs8.fst.snd.fst, ()), vs8.snd.fst, vs8.snd.snd.fst, vs8.snd.snd.snd.fst, vs8.snd.snd.snd.snd.fst, vs8.snd.snd.snd.snd.snd.fst, ())))
                 (fun vs9 =>
                  .ret (Sum.inr (Sum.inr ((vs9.fst.fst, ()), ()))))))
             (
              .get (Go.Proofs.YtmpjfdaldejjlaaGreat.runBy (Go.Proofs.YtmpjfdaldejjlaaGreat.eachStep Go.Proofs.YtmpjfdaldejjlaaGreat.stL Go.Proofs.YtmpjfdaldejjlaaGreat.stBad Go.Proofs.YtmpjfdaldejjlaaGreat.stOut ((Bool.false, ()), ())) (Go.Proofs.YtmpjfdaldejjlaaGreat.eachM Go.Proofs.YtmpjfdaldejjlaaGreat.stL) ((0, (@Nat.cast Int _ r4.length), t14, t5, ()), r0, r4, r1, vra1, r2, r3, ())) fun vy10 =>
              .sum (vy10)
               (fun vs11 =>
                .ret (Sum.inl ((Go.IntKind.i64.wrap (vs11.fst.fst + 1), vs11.fst.snd.fst, ()), vs11.snd.fst, vs11.snd.snd.fst, vs11.snd.snd.snd.fst, vs11.snd.snd.snd.snd.fst, vs11.snd.snd.snd.snd.snd.fst, ())))
               (fun vs12 =>
                .ret (Sum.inr (Sum.inr ((vs12.fst.fst, ()), ()))))))
           (
            .fail))
         (
          .ret (Sum.inr (Sum.inl ((), ())))))
       (
        .ret (Sum.inr (Sum.inl ((), ())))) := by kernel_rfl
theorem ok_meniscuslaw18_StepTells_3 : LOK Tryz.prog (LoopR.of (sc 79 [14, 5, 2, 13, 9, 10] (tCod 14 cInt (tCod 5 cBool (tSl 2 0 (tOwn 13 1 (tOwn 9 2 (tOwn 10 3 tNil)))))) (rL_rray (rBoxSl 4 ccIv ccIv_ok (rBox ccSix ccSix_ok (rBox ccSix ccSix_ok (rG_surf 43 rNil)))))) (ocOr (ocExit 0 (sc 79 [] tNil rNil)) (ocRet (sc 79 [12] (tCod 12 cBool tNil) rNil))) (runBy (raysStep htOk) raysM)) (loopAt Tryz.f5 3) := by
  refine loop_ok (EnvOK.add s_meniscushand_System (EnvOK.add s_meniscushand_Ray (EnvOK.add s_meniscushand_V (EnvOK.add s_step_Go (EnvOK.add s_meniscusref14_Go (EnvOK.add s_meniscuslaw18_known EnvOK.nil)))))) (LFn.at (fn := Tryz.f5) (LFn.add (fn := Tryz.f5) (i := 9) (by kernel_rfl) ok_meniscuslaw18_StepTells_9 LFn.nil) 3) ((raysStep htOk)) (n := 200) (fun x z h => ?_) (runBy_ok _ _)
  obtain ⟨⟨t14, t5, ⟨⟩⟩, ⟨r0, r1, r2, r3, r4, ⟨⟩⟩⟩ := x
  rw [tl_meniscuslaw18_StepTells_3]
  by_cases h0 : t14 < (r0.length : Int) ∧ t14 < 4
  case neg =>
    rw [← h]
    simp only [raysStep, h0, if_false]
    simp only [den_br, den_bind, den_ret, den_fail, den_inl, den_inr, decide_eq_true_eq, gt_iff_lt, ge_iff_le, beq_iff_eq]
    by_cases c : t14 < (r0.length : Int) <;> by_cases d : t14 < 4 <;> simp only [c, d, if_true, if_false]
    exact absurd ⟨c, d⟩ h0
  by_cases h1 : 0 ≤ t14
  case neg => simp [raysStep, h0, h1] at h
  obtain ⟨v, hg⟩ : ∃ v, r0[t14.toNat]? = some v := ⟨_, List.getElem?_eq_getElem (by omega)⟩
  by_cases hl : Ev.lenOk r4 = true
  case neg => simp [raysStep, h0, h1, hg, htOk, hl] at h
  rw [← h]
  simp only [raysStep, htOk, h0, h1, hg, hl, and_self, if_true]
  simp only [den_br, den_bind, den_ret, den_fail, den_inl, den_inr, decide_eq_true_eq, gt_iff_lt, ge_iff_le, beq_iff_eq]
  simp only [h0.1, h0.2, h1, hg, hl, and_self, true_and, decide_true, if_true, den_get, den_br, den_bind, den_ret, den_fail]
  have hr : ∀ r, runBy (eachStep stL stBad stOut ((false, ()), ())) (eachM stL) ((0, (r4.length : Int), t14, t5, ()), r0, r4, r1, r, r2, r3, ()) = some (.inl (stOut (t14, t5, ()) (r0, r4, r1, r, r2, r3, ()))) := fun r =>
    each_run (L := stL) (bad := stBad) (out := stOut) (no := ((false, ()), ())) (a := (t14, t5, ())) (s := (r0, r4, r1, r, r2, r3, ())) (lenOk_iff.1 hl) (fun _ _ => rfl)
  cases t5
  · simp only [hr, den_get, den_inl, den_ret, stOut, Bool.false_eq_true, if_false]
  · by_cases c0 : t14 = 0
    · subst c0
      simp only [hr, den_get, den_inl, den_ret, stOut, if_true, BEq.rfl, den_bind, beq_self_eq_true]
    · simp only [hr, den_get, den_inl, den_ret, stOut, if_true, beq_iff_eq, c0, if_false]
theorem t_meniscuslaw18_StepTells (t0 : Int) (t3 : Six) (t4 : Six) (t5 : Bool) (r0 : List RawFace) (r1 : List RawRay) :
    evFn Tryz.prog (Env.add 16 (FR (sc 5 [0, 1, 2, 3, 4] (tCod 0 cInt (tSl 1 0 (tSl 2 1 (tCod 3 cInt (tCod 4 cBool tNil))))) (rL_rface (rL_int rNil))) (sc 1 [0] (tAgg 0 0 ccNil ccNil_ok ccIv ccIv_ok tNil) (rG_surf 43 rNil)) ((fun x => mostOk x.1.2.1)) ((fun x => (fun r : SysV => (((), r.1, ()), (r.2, ()))) (systemOf x.1.1 x.2.1 x.2.2.1 x.1.2.1 x.1.2.2.1)))) (Env.add 17 (F1 cRawRay cRay rayOf) (Env.add 18 (F1 cSix cV vRaw) (Env.add 27 (F2 cSurf cRay (cTwo cRay cInt) stepOf) (Env.add 28 (F2 cSurf cRay (cTwo cRay cInt) stepOf) (Env.add 29 (F0 cBool true) Env.nil)))))) (Laws.add 3 (LoopR.of (sc 79 [14, 5, 2, 13, 9, 10] (tCod 14 cInt (tCod 5 cBool (tSl 2 0 (tOwn 13 1 (tOwn 9 2 (tOwn 10 3 tNil)))))) (rL_rray (rBoxSl 4 ccIv ccIv_ok (rBox ccSix ccSix_ok (rBox ccSix ccSix_ok (rG_surf 43 rNil)))))) (ocOr (ocExit 0 (sc 79 [] tNil rNil)) (ocRet (sc 79 [12] (tCod 12 cBool tNil) rNil))) (runBy (raysStep htOk) raysM)) (Laws.add 9 (LoopR.of (sc 79 [53, 52, 14, 5, 2, 51, 13, 15, 9, 10] (tCod 53 cInt (tCod 52 cInt (tCod 14 cInt (tCod 5 cBool (tSl 2 0 (tSl 51 1 (tOwn 13 2 (tOwn 15 3 (tOwn 9 4 (tOwn 10 5 tNil)))))))))) (rL_rray (rG_surf 43 (rBoxSl 1 ccIv ccIv_ok (rBox ccRay ccRay_ok (rBox ccSix ccSix_ok (rBox ccSix ccSix_ok rNil))))))) (ocOr (ocExit 2 (sc 79 [14, 5, 2, 13, 9, 10] (tCod 14 cInt (tCod 5 cBool (tSl 2 0 (tOwn 13 1 (tOwn 9 2 (tOwn 10 3 tNil)))))) (rL_rray (rBoxSl 4 ccIv ccIv_ok (rBox ccSix ccSix_ok (rBox ccSix ccSix_ok (rG_surf 43 rNil))))))) (ocRet (sc 79 [12] (tCod 12 cBool tNil) rNil))) (runBy (eachStep stL stBad stOut ((false, ()), ())) (eachM stL))) Laws.nil)) 200 Tryz.f5 (((sc 6 [0, 1, 2, 3, 4, 5] (tCod 0 cInt (tSl 1 0 (tSl 2 1 (tCod 3 cSix (tCod 4 cSix (tCod 5 cBool tNil)))))) (rL_rface (rL_rray rNil))).enc ((t0, t3, t4, t5, ()), (r0, r1, ()))).tmps.map Prod.snd) ((sc 6 [0, 1, 2, 3, 4, 5] (tCod 0 cInt (tSl 1 0 (tSl 2 1 (tCod 3 cSix (tCod 4 cSix (tCod 5 cBool tNil)))))) (rL_rface (rL_rray rNil))).enc ((t0, t3, t4, t5, ()), (r0, r1, ()))).mem cBool.dec =
      .br (Go.Proofs.YtmpjfdaldejjlaaGreat.mostOk 3)
       (
        .bind ((((), (Go.Proofs.YtmpjfdaldejjlaaGreat.systemOf t0 r0 [] 3 Bool.false).fst, ()), (Go.Proofs.YtmpjfdaldejjlaaGreat.systemOf t0 r0 [] 3 Bool.false).snd, ())) fun vy0 =>
        .get (Go.Proofs.YtmpjfdaldejjlaaGreat.runBy (Go.Proofs.YtmpjfdaldejjlaaGreat.raysStep Go.Proofs.YtmpjfdaldejjlaaGreat.htOk) Go.Proofs.YtmpjfdaldejjlaaGreat.raysM ((0, t5, ()), r1, vy0.fst.snd.fst, t3, t4, vy0.snd.fst, ())) fun vy1 =>
        .sum (vy1)
         (fun vs2 =>
          .bind (Bool.true) fun vb3 =>
          .ret (vb3))
         (fun vs4 =>
          .ret (vs4.fst.fst)))
       (
        .fail) := by kernel_rfl
theorem c_meniscuslaw18_StepTells : PlainS Tryz.prog 5 (sc 6 [0, 1, 2, 3, 4, 5] (tCod 0 cInt (tSl 1 0 (tSl 2 1 (tCod 3 cSix (tCod 4 cSix (tCod 5 cBool tNil)))))) (rL_rface (rL_rray rNil))) cBool (fun _ => true) ((fun _ => true)) := by
  intro x h N w vs hM hv
  obtain ⟨⟨t0, t3, t4, t5, ⟨⟩⟩, ⟨r0, r1, ⟨⟩⟩⟩ := x
  refine calls_of_tree (n := 200) (EnvOK.add s_meniscushand_System (EnvOK.add s_meniscushand_Ray (EnvOK.add s_meniscushand_V (EnvOK.add s_step_Go (EnvOK.add s_meniscusref14_Go (EnvOK.add s_meniscuslaw18_known EnvOK.nil)))))) Tryz.func5 hv (Nat.le_of_ble_eq_true (by kernel_rfl)) (LFn.add (fn := Tryz.f5) (i := 3) (by kernel_rfl) ok_meniscuslaw18_StepTells_3 (LFn.add (fn := Tryz.f5) (i := 9) (by kernel_rfl) ok_meniscuslaw18_StepTells_9 LFn.nil)) hM cBool ?_
  rw [t_meniscuslaw18_StepTells]
  have hR := systemOf_R t0 r0 [] false (most := 3) rfl
  have hlen : (systemOf t0 r0 [] 3 false).2.length ≤ 1048576 := by have := hR.len; omega
  have hlo : Ev.lenOk (systemOf t0 r0 [] 3 false).2 = true := lenOk_iff.2 hlen
  simp only [show mostOk 3 = true from rfl, if_true, den_br, den_bind, den_get, den_ret, den_fail]
  have hr := rays_run (ok := htOk) (a := (t5, ())) (b := ((systemOf t0 r0 [] 3 false).1, t3, t4, (systemOf t0 r0 [] 3 false).2, ())) r1 hlo
  simp only [hr, den_get, den_inl, den_bind, den_ret]
theorem s_meniscuslaw18_StepTells : Ev.Spec Tryz.prog 5 (FS (sc 6 [0, 1, 2, 3, 4, 5] (tCod 0 cInt (tSl 1 0 (tSl 2 1 (tCod 3 cSix (tCod 4 cSix (tCod 5 cBool tNil)))))) (rL_rface (rL_rray rNil))) cBool (fun _ => true) ((fun _ => true))) := specS rfl (fun vs w => Tryz.call5 vs w) c_meniscuslaw18_StepTells

/-! meniscuslaw18.StepOpens -/
theorem tl_meniscuslaw18_StepOpens_4 (t26 : Int) (t25 : Int) (t3 : Int) (r0 : List Surf) (r1 : Ray) :
    ev Tryz.prog (Env.add 16 (FR (sc 5 [0, 1, 2, 3, 4] (tCod 0 cInt (tSl 1 0 (tSl 2 1 (tCod 3 cInt (tCod 4 cBool tNil))))) (rL_rface (rL_int rNil))) (sc 1 [0] (tAgg 0 0 ccNil ccNil_ok ccIv ccIv_ok tNil) (rG_surf 43 rNil)) ((fun x => mostOk x.1.2.1)) ((fun x => (fun r : SysV => (((), r.1, ()), (r.2, ()))) (systemOf x.1.1 x.2.1 x.2.2.1 x.1.2.1 x.1.2.2.1)))) (Env.add 17 (F1 cRawRay cRay rayOf) (Env.add 27 (F2 cSurf cRay (cTwo cRay cInt) stepOf) (Env.add 29 (F0 cBool true) (Env.add 30 (F2 cIv cIv cIv Iv.add) (Env.add 31 (F1 cInt cIv Iv.point) (Env.add 32 (F2p cInt cInt cInt pickOk pick) Env.nil))))))) Laws.nil 200 none (loopAt Tryz.f6 4) ((sc 72 [26, 25, 3, 24, 10] (tCod 26 cInt (tCod 25 cInt (tCod 3 cInt (tSl 24 0 (tOwn 10 1 tNil))))) (rG_surf 43 (rBox ccRay ccRay_ok rNil))).enc ((t26, t25, t3, ()), (r0, r1, ()))) (backK (sc 72 [26, 25, 3, 24, 10] (tCod 26 cInt (tCod 25 cInt (tCod 3 cInt (tSl 24 0 (tOwn 10 1 tNil))))) (rG_surf 43 (rBox ccRay ccRay_ok rNil))) (ocOr (ocExit 0 (sc 72 [] tNil rNil)) (ocRet (sc 72 [8] (tCod 8 cBool tNil) rNil)))) =
      .br (Decidable.decide (t26 < t25))
       (
        .br (Decidable.decide (0 ≤ t26 ∧ t26 < (@Nat.cast Int _ r0.length)))
         (
          .get (r0[t26.toNat]?) fun vt0 =>
          .br (Go.Proofs.YtmpjfdaldejjlaaGreat.pickOk t3 5898240)
           (
            .bind (Go.Proofs.YtmpjfdaldejjlaaGreat.pick t3 5898240) fun vn1 =>
            .bind (Go.Proofs.YtmpjfdaldejjlaaGreat.Iv.point vn1) fun viv2 =>
            .bind (vt0.open2.add viv2) fun viv3 =>
            .bind (Go.Proofs.YtmpjfdaldejjlaaGreat.stepOf vt0 r1) fun vy4 =>
            .bind (Go.Proofs.YtmpjfdaldejjlaaGreat.stepOf (Go.Proofs.YtmpjfdaldejjlaaGreat.Surf.mk vt0.stop vt0.bent vt0.curve vt0.conic vt0.a4 vt0.a6 vt0.at_ viv3 vt0.ratio) r1) fun vy5 =>
            .br (vy4.snd == 1)
             (
              .br (vy5.snd != vy4.snd)
               (
                .ret (Sum.inr (Sum.inr ((Bool.false, ()), ()))))
               (
                .br (!(vy4.fst.o.x.lo == vy5.fst.o.x.lo && (vy4.fst.o.x.hi == vy5.fst.o.x.hi && vy4.fst.o.x.no == vy5.fst.o.x.no) && (vy4.fst.o.y.lo == vy5.fst.o.y.lo && (vy4.fst.o.y.hi == vy5.fst.o.y.hi && vy4.fst.o.y.no == vy5.fst.o.y.no) && (vy4.fst.o.z.lo == vy5.fst.o.z.lo && (vy4.fst.o.z.hi == vy5.fst.o.z.hi && vy4.fst.o.z.no == vy5.fst.o.z.no))) && (vy4.fst.d.x.lo == vy5.fst.d.x.lo && (vy4.fst.d.x.hi == vy5.fst.d.x.hi && vy4.fst.d.x.no == vy5.fst.d.x.no) && (vy4.fst.d.y.lo == vy5.fst.d.y.lo && (vy4.fst.d.y.hi == vy5.fst.d.y.hi && vy4.fst.d.y.no == vy5.fst.d.y.no) && (vy4.fst.d.z.lo == vy5.fst.d.z.lo && (vy4.fst.d.z.hi == vy5.fst.d.z.hi && vy4.fst.d.z.no == vy5.fst.d.z.no))))))
                 (
                  .ret (Sum.inr (Sum.inr ((Bool.false, ()), ()))))
                 (
                  .br (vy5.snd == 2)
                   (
                    .br (vy4.snd == 1)
                     (
                      .ret (Sum.inr (Sum.inr ((Bool.false, ()), ()))))
                     (
                      .ret (Sum.inl ((Go.IntKind.i64.wrap (t26 + 1), t25, t3, ()), r0, r1, ()))))
                   (
                    .ret (Sum.inl ((Go.IntKind.i64.wrap (t26 + 1), t25, t3, ()), r0, r1, ()))))))
             (
              .br (vy5.snd == 2)
               (
                .br (vy4.snd == 1)
                 (
                  .ret (Sum.inr (Sum.inr ((Bool.false, ()), ()))))
                 (
                  .ret (Sum.inl ((Go.IntKind.i64.wrap (t26 + 1), t25, t3, ()), r0, r1, ()))))
               (
                .ret (Sum.inl ((Go.IntKind.i64.wrap (t26 + 1), t25, t3, ()), r0, r1, ())))))
           (
            .fail))
         (
          .fail))
       (
        .ret (Sum.inr (Sum.inl ((), ())))) := by kernel_rfl
theorem ok_meniscuslaw18_StepOpens_4 : LOK Tryz.prog (LoopR.of (sc 72 [26, 25, 3, 24, 10] (tCod 26 cInt (tCod 25 cInt (tCod 3 cInt (tSl 24 0 (tOwn 10 1 tNil))))) (rG_surf 43 (rBox ccRay ccRay_ok rNil))) (ocOr (ocExit 0 (sc 72 [] tNil rNil)) (ocRet (sc 72 [8] (tCod 8 cBool tNil) rNil))) (runBy (eachStep Prod.fst soBad (fun _ _ => ((), ())) ((false, ()), ())) (eachM Prod.fst))) (loopAt Tryz.f6 4) := by
  refine loop_ok (EnvOK.add s_meniscushand_System (EnvOK.add s_meniscushand_Ray (EnvOK.add s_step_Go (EnvOK.add s_meniscuslaw18_known (EnvOK.add s_iv_Add (EnvOK.add s_iv_Point (EnvOK.add s_meniscushand_Pick EnvOK.nil))))))) (LFn.at (fn := Tryz.f6) LFn.nil 4) ((eachStep Prod.fst soBad (fun _ _ => ((), ())) ((false, ()), ()))) (n := 200) (fun x z h => ?_) (runBy_ok _ _)
  obtain ⟨⟨t26, t25, t3, ⟨⟩⟩, ⟨r0, r1, ⟨⟩⟩⟩ := x
  rw [tl_meniscuslaw18_StepOpens_4]
  rw [← h]
  simp only [eachStep, Prod.fst, den_br, den_bind, den_get, den_ret, den_fail, decide_eq_true_eq]
  by_cases h0 : t26 < t25 <;> simp only [h0, if_true, if_false]
  by_cases h1 : 0 ≤ t26 ∧ t26 < (r0.length : Int) <;> simp only [h1, and_self, if_true, if_false]
  cases hg : r0[t26.toNat]? with
  | none => rfl
  | some f =>
    simp only [den_br, den_bind, den_get, den_ret, den_fail, h1, and_self, if_true, decide_true, soBad, rE, vE, ivE, Surf.wider]
    have hp : ∀ n : Int, pickOk n 5898240 = true := fun _ => by simp [pickOk]
    simp only [hp, if_true]
    grind
theorem t_meniscuslaw18_StepOpens (t0 : Int) (t2 : RawRay) (t3 : Int) (r0 : List RawFace) :
    evFn Tryz.prog (Env.add 16 (FR (sc 5 [0, 1, 2, 3, 4] (tCod 0 cInt (tSl 1 0 (tSl 2 1 (tCod 3 cInt (tCod 4 cBool tNil))))) (rL_rface (rL_int rNil))) (sc 1 [0] (tAgg 0 0 ccNil ccNil_ok ccIv ccIv_ok tNil) (rG_surf 43 rNil)) ((fun x => mostOk x.1.2.1)) ((fun x => (fun r : SysV => (((), r.1, ()), (r.2, ()))) (systemOf x.1.1 x.2.1 x.2.2.1 x.1.2.1 x.1.2.2.1)))) (Env.add 17 (F1 cRawRay cRay rayOf) (Env.add 27 (F2 cSurf cRay (cTwo cRay cInt) stepOf) (Env.add 29 (F0 cBool true) (Env.add 30 (F2 cIv cIv cIv Iv.add) (Env.add 31 (F1 cInt cIv Iv.point) (Env.add 32 (F2p cInt cInt cInt pickOk pick) Env.nil))))))) (Laws.add 4 (LoopR.of (sc 72 [26, 25, 3, 24, 10] (tCod 26 cInt (tCod 25 cInt (tCod 3 cInt (tSl 24 0 (tOwn 10 1 tNil))))) (rG_surf 43 (rBox ccRay ccRay_ok rNil))) (ocOr (ocExit 0 (sc 72 [] tNil rNil)) (ocRet (sc 72 [8] (tCod 8 cBool tNil) rNil))) (runBy (eachStep Prod.fst soBad (fun _ _ => ((), ())) ((false, ()), ())) (eachM Prod.fst))) Laws.nil) 200 Tryz.f6 (((sc 4 [0, 1, 2, 3] (tCod 0 cInt (tSl 1 0 (tCod 2 cRawRay (tCod 3 cInt tNil)))) (rL_rface rNil)).enc ((t0, t2, t3, ()), (r0, ()))).tmps.map Prod.snd) ((sc 4 [0, 1, 2, 3] (tCod 0 cInt (tSl 1 0 (tCod 2 cRawRay (tCod 3 cInt tNil)))) (rL_rface rNil)).enc ((t0, t2, t3, ()), (r0, ()))).mem cBool.dec =
      .br (Go.Proofs.YtmpjfdaldejjlaaGreat.mostOk 4)
       (
        .bind ((((), (Go.Proofs.YtmpjfdaldejjlaaGreat.systemOf t0 r0 [] 4 Bool.false).fst, ()), (Go.Proofs.YtmpjfdaldejjlaaGreat.systemOf t0 r0 [] 4 Bool.false).snd, ())) fun vy0 =>
        .bind (Go.Proofs.YtmpjfdaldejjlaaGreat.rayOf t2) fun vra1 =>
        .get (Go.Proofs.YtmpjfdaldejjlaaGreat.runBy (Go.Proofs.YtmpjfdaldejjlaaGreat.eachStep Prod.fst Go.Proofs.YtmpjfdaldejjlaaGreat.soBad (fun x x_1 => ((), ())) ((Bool.false, ()), ())) (Go.Proofs.YtmpjfdaldejjlaaGreat.eachM Prod.fst) ((0, (@Nat.cast Int _ vy0.snd.fst.length), t3, ()), vy0.snd.fst, vra1, ())) fun vy2 =>
        .sum (vy2)
         (fun vs3 =>
          .bind (Bool.true) fun vb4 =>
          .ret (vb4))
         (fun vs5 =>
          .ret (vs5.fst.fst)))
       (
        .fail) := by kernel_rfl
theorem c_meniscuslaw18_StepOpens : PlainS Tryz.prog 6 (sc 4 [0, 1, 2, 3] (tCod 0 cInt (tSl 1 0 (tCod 2 cRawRay (tCod 3 cInt tNil)))) (rL_rface rNil)) cBool (fun _ => true) ((fun _ => true)) := by
  intro x h N w vs hM hv
  obtain ⟨⟨t0, t2, t3, ⟨⟩⟩, ⟨r0, ⟨⟩⟩⟩ := x
  refine calls_of_tree (n := 200) (EnvOK.add s_meniscushand_System (EnvOK.add s_meniscushand_Ray (EnvOK.add s_step_Go (EnvOK.add s_meniscuslaw18_known (EnvOK.add s_iv_Add (EnvOK.add s_iv_Point (EnvOK.add s_meniscushand_Pick EnvOK.nil))))))) Tryz.func6 hv (Nat.le_of_ble_eq_true (by kernel_rfl)) (LFn.add (fn := Tryz.f6) (i := 4) (by kernel_rfl) ok_meniscuslaw18_StepOpens_4 LFn.nil) hM cBool ?_
  rw [t_meniscuslaw18_StepOpens]
  have hR := systemOf_R t0 r0 [] false (most := 4) rfl
  have hlen : (systemOf t0 r0 [] 4 false).2.length ≤ 1048576 := by have := hR.len; omega
  have hlo : Ev.lenOk (systemOf t0 r0 [] 4 false).2 = true := lenOk_iff.2 hlen
  simp only [show mostOk 4 = true from rfl, if_true, den_br, den_bind, den_get, den_ret, den_fail]
  have hr := each_run (L := Prod.fst) (bad := soBad) (out := fun _ _ => ((), ())) (no := ((false, ()), ())) (a := (t3, ())) (s := ((systemOf t0 r0 [] 4 false).2, rayOf t2, ())) hlen (fun f hf => so_good (hR.surfs f hf).1.o2)
  simp only [hr, den_get, den_inl, den_bind, den_ret]
theorem s_meniscuslaw18_StepOpens : Ev.Spec Tryz.prog 6 (FS (sc 4 [0, 1, 2, 3] (tCod 0 cInt (tSl 1 0 (tCod 2 cRawRay (tCod 3 cInt tNil)))) (rL_rface rNil)) cBool (fun _ => true) ((fun _ => true))) := specS rfl (fun vs w => Tryz.call6 vs w) c_meniscuslaw18_StepOpens
end Go.Proofs.YtmpjfdaldejjlaaGreat
