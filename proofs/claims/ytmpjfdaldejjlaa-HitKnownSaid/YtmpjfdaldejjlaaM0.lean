/-
  Contracts of calls, written by a small program of this session out of the evaluator's trees.
-/
import Derived.Test.YtmpjfdaldejjlaaCore
import Derived.Test.YtmpjfdaldejjlaaCoreLoops
import Derived.Test.YtmpjfdaldejjlaaCore2
import Derived.Test.YtmpjfdaldejjlaaCore3
import Derived.Test.YtmpjfdaldejjlaaCore4
import Derived.Test.YtmpjfdaldejjlaaHornerS
import Derived.Test.YtmpjfdaldejjlaaK2
import Derived.Test.YtmpjfdaldejjlaaL0
import Derived.Test.YtmpjfdaldejjlaaEvCod
import Derived.Test.YtmpjfdaldejjlaaEvRet
import Derived.Test.YtmpjfdaldejjlaaProg
namespace Go.Proofs.Ytmpjfdaldejjlaa
open Go Go.RowKit Ev
set_option maxRecDepth 100000
set_option linter.unusedVariables false
set_option linter.unusedSimpArgs false

/-! meniscuslaw15.plane -/
theorem t_meniscuslaw15_plane (x0 : Iv) :
    evFn Try.prog (Env.add 11 (F1 cInt cIv Iv.whole) (Env.add 17 (F1 cInt cIv Iv.point) Env.nil)) Laws.nil 200 Try.f10 [cIv.av x0] [] cSurf.dec =
      .bind (Go.Proofs.Ytmpjfdaldejjlaa.Iv.point 0) fun viv0 =>
      .bind (Go.Proofs.Ytmpjfdaldejjlaa.Iv.whole 1) fun viv1 =>
      .bind (Go.Proofs.Ytmpjfdaldejjlaa.Iv.point 0) fun viv2 =>
      .bind (Go.Proofs.Ytmpjfdaldejjlaa.Iv.point 0) fun viv3 =>
      .bind (Go.Proofs.Ytmpjfdaldejjlaa.Iv.whole 100) fun viv4 =>
      .bind (Go.Proofs.Ytmpjfdaldejjlaa.Iv.whole 1) fun viv5 =>
      .ret (Go.Proofs.Ytmpjfdaldejjlaa.Surf.mk Bool.false Bool.false viv0 viv1 viv2 viv3 x0 viv4 viv5) := by kernel_rfl
theorem c_meniscuslaw15_plane (x0 : Iv) : Plain Try.prog 10 [cIv.enc x0] (cSurf.enc (planeAt x0)) :=
  plain_of_tree (n := 200) (EnvOK.add s_iv_Whole (EnvOK.add s_iv_Point EnvOK.nil)) Try.func10 (args := [cIv.av x0]) (by simp only [AV.vals, Cod.av_val]) (Nat.le_of_ble_eq_true (by kernel_rfl)) LFn.nil cSurf (by
    rw [t_meniscuslaw15_plane]
    rfl)
theorem s_meniscuslaw15_plane : Ev.Spec Try.prog 10 (F1 cIv cSurf planeAt) := spec1 (fun vs w => Try.call10 vs w) c_meniscuslaw15_plane

/-! meniscuslaw15.axis -/
theorem t_meniscuslaw15_axis (x0 : Iv) :
    evFn Try.prog (Env.add 11 (F1 cInt cIv Iv.whole) (Env.add 17 (F1 cInt cIv Iv.point) (Env.add 20 (F3 cIv cIv cIv cV V.mk) Env.nil))) Laws.nil 200 Try.f14 [cIv.av x0] [] cRay.dec =
      .bind (Go.Proofs.Ytmpjfdaldejjlaa.Iv.point 0) fun viv0 =>
      .bind (Go.Proofs.Ytmpjfdaldejjlaa.Iv.point 0) fun viv1 =>
      .bind (Go.Proofs.Ytmpjfdaldejjlaa.V.mk x0 viv0 viv1) fun vv2 =>
      .bind (Go.Proofs.Ytmpjfdaldejjlaa.Iv.point 0) fun viv3 =>
      .bind (Go.Proofs.Ytmpjfdaldejjlaa.Iv.point 0) fun viv4 =>
      .bind (Go.Proofs.Ytmpjfdaldejjlaa.Iv.whole 1) fun viv5 =>
      .bind (Go.Proofs.Ytmpjfdaldejjlaa.V.mk viv3 viv4 viv5) fun vv6 =>
      .ret (Go.Proofs.Ytmpjfdaldejjlaa.Ray.mk vv2 vv6) := by kernel_rfl
theorem c_meniscuslaw15_axis (x0 : Iv) : Plain Try.prog 14 [cIv.enc x0] (cRay.enc (axisAt x0)) :=
  plain_of_tree (n := 200) (EnvOK.add s_iv_Whole (EnvOK.add s_iv_Point (EnvOK.add s_vec_Of EnvOK.nil))) Try.func14 (args := [cIv.av x0]) (by simp only [AV.vals, Cod.av_val]) (Nat.le_of_ble_eq_true (by kernel_rfl)) LFn.nil cRay (by
    rw [t_meniscuslaw15_axis]
    rfl)
theorem s_meniscuslaw15_axis : Ev.Spec Try.prog 14 (F1 cIv cRay axisAt) := spec1 (fun vs w => Try.call14 vs w) c_meniscuslaw15_axis

/-! meniscuslaw15.known -/
theorem t_meniscuslaw15_known  :
    evFn Try.prog (Env.add 10 (F1 cIv cSurf planeAt) (Env.add 11 (F1 cInt cIv Iv.whole) (Env.add 13 (F2 cSurf cRay (cThree cIv cV cInt) hitOf) (Env.add 14 (F1 cIv cRay axisAt) (Env.add 17 (F1 cInt cIv Iv.point) (Env.add 20 (F3 cIv cIv cIv cV V.mk) (Env.add 29 (F1 cIv cBool Iv.right) Env.nil))))))) Laws.nil 200 Try.f18 [] [] cBool.dec =
      .bind (Go.Proofs.Ytmpjfdaldejjlaa.Iv.whole 10) fun viv0 =>
      .bind (Go.Proofs.Ytmpjfdaldejjlaa.planeAt viv0) fun vsu1 =>
      .bind (Go.Proofs.Ytmpjfdaldejjlaa.Iv.point 0) fun viv2 =>
      .bind (Go.Proofs.Ytmpjfdaldejjlaa.axisAt viv2) fun vra3 =>
      .bind (Go.Proofs.Ytmpjfdaldejjlaa.hitOf vsu1 vra3) fun vy4 =>
      .br (vy4.snd.snd == 1)
       (
        .bind (Go.Proofs.Ytmpjfdaldejjlaa.Iv.whole 10) fun viv5 =>
        .br (vy4.fst.lo == viv5.lo && (vy4.fst.hi == viv5.hi && vy4.fst.no == viv5.no))
         (
          .bind (Go.Proofs.Ytmpjfdaldejjlaa.Iv.point 0) fun viv6 =>
          .bind (Go.Proofs.Ytmpjfdaldejjlaa.Iv.point 0) fun viv7 =>
          .bind (Go.Proofs.Ytmpjfdaldejjlaa.Iv.point 0) fun viv8 =>
          .bind (Go.Proofs.Ytmpjfdaldejjlaa.V.mk viv6 viv7 viv8) fun vv9 =>
          .br (vy4.snd.fst.x.lo == vv9.x.lo && (vy4.snd.fst.x.hi == vv9.x.hi && vy4.snd.fst.x.no == vv9.x.no) && (vy4.snd.fst.y.lo == vv9.y.lo && (vy4.snd.fst.y.hi == vv9.y.hi && vy4.snd.fst.y.no == vv9.y.no) && (vy4.snd.fst.z.lo == vv9.z.lo && (vy4.snd.fst.z.hi == vv9.z.hi && vy4.snd.fst.z.no == vv9.z.no))))
           (
            .bind (vy4.fst.right) fun vb10 =>
            .ret (vb10))
           (
            .ret (Bool.false)))
         (
          .ret (Bool.false)))
       (
        .ret (Bool.false)) := by kernel_rfl
theorem c_meniscuslaw15_known  : Plain Try.prog 18 [] (cBool.enc (true)) :=
  plain_of_tree (n := 200) (EnvOK.add s_meniscuslaw15_plane (EnvOK.add s_iv_Whole (EnvOK.add s_hit_Of (EnvOK.add s_meniscuslaw15_axis (EnvOK.add s_iv_Point (EnvOK.add s_vec_Of (EnvOK.add s_iv_Right EnvOK.nil))))))) Try.func18 (args := []) rfl (Nat.le_of_ble_eq_true (by kernel_rfl)) LFn.nil cBool (by
    rw [t_meniscuslaw15_known]
    decide +kernel)
theorem s_meniscuslaw15_known : Ev.Spec Try.prog 18 (F0 cBool true) := spec0 (fun vs w => Try.call18 vs w) c_meniscuslaw15_known

/-! meniscuslaw15.HitKnown -/
theorem t_meniscuslaw15_HitKnown  :
    evFn Try.prog (Env.add 10 (F1 cIv cSurf planeAt) (Env.add 11 (F1 cInt cIv Iv.whole) (Env.add 12 (F2 cIv cIv cIv Iv.div) (Env.add 13 (F2 cSurf cRay (cThree cIv cV cInt) hitOf) (Env.add 14 (F1 cIv cRay axisAt) (Env.add 15 (F2 cInt cInt cIv Iv.of) (Env.add 16 (F0 cIv Iv.none) (Env.add 17 (F1 cInt cIv Iv.point) (Env.add 18 (F0 cBool true) (Env.add 19 (F2 cIv cInt cBool Iv.has) (Env.add 20 (F3 cIv cIv cIv cV V.mk) Env.nil))))))))))) Laws.nil 200 Try.f3 (((sc 0 [] tNil rNil).enc ((()), (()))).tmps.map Prod.snd) ((sc 0 [] tNil rNil).enc ((()), (()))).mem cBool.dec =
      .bind (Go.Proofs.Ytmpjfdaldejjlaa.Iv.whole 10) fun viv0 =>
      .bind (Go.Proofs.Ytmpjfdaldejjlaa.planeAt viv0) fun vsu1 =>
      .bind (Go.Proofs.Ytmpjfdaldejjlaa.Iv.whole 1) fun viv2 =>
      .bind (Go.Proofs.Ytmpjfdaldejjlaa.Iv.whole 5) fun viv3 =>
      .bind (viv2.div viv3) fun viv4 =>
      .bind (Go.Proofs.Ytmpjfdaldejjlaa.Iv.whole 3) fun viv5 =>
      .bind (Go.Proofs.Ytmpjfdaldejjlaa.axisAt viv5) fun vra6 =>
      .bind (Go.Proofs.Ytmpjfdaldejjlaa.hitOf (Go.Proofs.Ytmpjfdaldejjlaa.Surf.mk vsu1.stop vsu1.bent viv4 vsu1.conic vsu1.a4 vsu1.a6 vsu1.at_ vsu1.open2 vsu1.ratio) vra6) fun vy7 =>
      .bind (Go.Proofs.Ytmpjfdaldejjlaa.Iv.whole 6) fun viv8 =>
      .bind (Go.Proofs.Ytmpjfdaldejjlaa.axisAt viv8) fun vra9 =>
      .bind (Go.Proofs.Ytmpjfdaldejjlaa.hitOf (Go.Proofs.Ytmpjfdaldejjlaa.Surf.mk vsu1.stop vsu1.bent viv4 vsu1.conic vsu1.a4 vsu1.a6 vsu1.at_ vsu1.open2 vsu1.ratio) vra9) fun vy10 =>
      .bind (Go.Proofs.Ytmpjfdaldejjlaa.Iv.of 262144 393216) fun viv11 =>
      .bind (Go.Proofs.Ytmpjfdaldejjlaa.axisAt viv11) fun vra12 =>
      .bind (Go.Proofs.Ytmpjfdaldejjlaa.hitOf (Go.Proofs.Ytmpjfdaldejjlaa.Surf.mk vsu1.stop vsu1.bent viv4 vsu1.conic vsu1.a4 vsu1.a6 vsu1.at_ vsu1.open2 vsu1.ratio) vra12) fun vy13 =>
      .bind (Go.Proofs.Ytmpjfdaldejjlaa.Iv.whole 10) fun viv14 =>
      .bind (Go.Proofs.Ytmpjfdaldejjlaa.planeAt viv14) fun vsu15 =>
      .bind (Go.Proofs.Ytmpjfdaldejjlaa.Iv.whole 10) fun viv16 =>
      .bind (Go.Proofs.Ytmpjfdaldejjlaa.Iv.whole 10) fun viv17 =>
      .bind (Go.Proofs.Ytmpjfdaldejjlaa.axisAt viv17) fun vra18 =>
      .bind (Go.Proofs.Ytmpjfdaldejjlaa.hitOf (Go.Proofs.Ytmpjfdaldejjlaa.Surf.mk vsu15.stop Bool.true vsu15.curve vsu15.conic viv16 vsu15.a6 vsu15.at_ vsu15.open2 vsu15.ratio) vra18) fun vy19 =>
      .bind (Go.Proofs.Ytmpjfdaldejjlaa.Iv.none) fun viv20 =>
      .bind (Go.Proofs.Ytmpjfdaldejjlaa.planeAt viv20) fun vsu21 =>
      .bind (Go.Proofs.Ytmpjfdaldejjlaa.Iv.point 0) fun viv22 =>
      .bind (Go.Proofs.Ytmpjfdaldejjlaa.axisAt viv22) fun vra23 =>
      .bind (Go.Proofs.Ytmpjfdaldejjlaa.hitOf vsu21 vra23) fun vy24 =>
      .bind (Bool.true) fun vb25 =>
      .br (vb25)
       (
        .br (vy7.snd.snd == 1)
         (
          .bind (vy7.fst.has 720896) fun vb26 =>
          .br (vb26)
           (
            .br (Decidable.decide (Go.IntKind.i64.wrap (vy7.fst.hi - vy7.fst.lo) < 1200))
             (
              .bind (vy7.snd.fst.z.has 65536) fun vb27 =>
              .br (vb27)
               (
                .br (vy10.snd.snd == 2)
                 (
                  .br (vy13.snd.snd == 0)
                   (
                    .bind (Go.Proofs.Ytmpjfdaldejjlaa.Iv.none) fun viv28 =>
                    .bind (Go.Proofs.Ytmpjfdaldejjlaa.Iv.none) fun viv29 =>
                    .bind (Go.Proofs.Ytmpjfdaldejjlaa.Iv.none) fun viv30 =>
                    .bind (Go.Proofs.Ytmpjfdaldejjlaa.V.mk viv28 viv29 viv30) fun vv31 =>
                    .br (vy13.snd.fst.x.lo == vv31.x.lo && (vy13.snd.fst.x.hi == vv31.x.hi && vy13.snd.fst.x.no == vv31.x.no) && (vy13.snd.fst.y.lo == vv31.y.lo && (vy13.snd.fst.y.hi == vv31.y.hi && vy13.snd.fst.y.no == vv31.y.no) && (vy13.snd.fst.z.lo == vv31.z.lo && (vy13.snd.fst.z.hi == vv31.z.hi && vy13.snd.fst.z.no == vv31.z.no))))
                     (
                      .br (vy19.snd.snd == 1)
                       (
                        .br (Decidable.decide (vy19.fst.lo ≤ 661914))
                         (
                          .br (Decidable.decide (vy19.fst.hi ≥ 661913))
                           (
                            .bind (Go.Proofs.Ytmpjfdaldejjlaa.Iv.whole 10) fun viv32 =>
                            .br (vy19.snd.fst.x.lo == viv32.lo && (vy19.snd.fst.x.hi == viv32.hi && vy19.snd.fst.x.no == viv32.no))
                             (
                              .ret (vy24.snd.snd == 0))
                             (
                              .ret (Bool.false)))
                           (
                            .ret (Bool.false)))
                         (
                          .ret (Bool.false)))
                       (
                        .ret (Bool.false)))
                     (
                      .ret (Bool.false)))
                   (
                    .ret (Bool.false)))
                 (
                  .ret (Bool.false)))
               (
                .ret (Bool.false)))
             (
              .ret (Bool.false)))
           (
            .ret (Bool.false)))
         (
          .ret (Bool.false)))
       (
        .ret (Bool.false)) := by kernel_rfl
theorem c_meniscuslaw15_HitKnown : PlainS Try.prog 3 (sc 0 [] tNil rNil) cBool (fun _ => true) ((fun _ => true)) := by
  intro x h N w vs hM hv
  obtain ⟨⟨⟩, ⟨⟩⟩ := x
  refine calls_of_tree (n := 200) (EnvOK.add s_meniscuslaw15_plane (EnvOK.add s_iv_Whole (EnvOK.add s_iv_Div (EnvOK.add s_hit_Of (EnvOK.add s_meniscuslaw15_axis (EnvOK.add s_iv_Of (EnvOK.add s_iv_None (EnvOK.add s_iv_Point (EnvOK.add s_meniscuslaw15_known (EnvOK.add s_iv_Has (EnvOK.add s_vec_Of EnvOK.nil))))))))))) Try.func3 hv (Nat.le_of_ble_eq_true (by kernel_rfl)) LFn.nil hM cBool ?_
  rw [t_meniscuslaw15_HitKnown]
  decide +kernel
theorem s_meniscuslaw15_HitKnown : Ev.Spec Try.prog 3 (FS (sc 0 [] tNil rNil) cBool (fun _ => true) ((fun _ => true))) := specS rfl (fun vs w => Try.call3 vs w) c_meniscuslaw15_HitKnown
end Go.Proofs.Ytmpjfdaldejjlaa
