/-
  Contracts of calls, written by a small program of this session out of the evaluator's trees.
-/
import Derived.Test.YtmpjfdaldejjlaaCore
import Derived.Test.YtmpjfdaldejjlaaCoreLoops
import Derived.Test.YtmpjfdaldejjlaaCore2
import Derived.Test.YtmpjfdaldejjlaaCore3
import Derived.Test.YtmpjfdaldejjlaaCore4
import Derived.Test.YtmpjfdaldejjlaaCore5
import Derived.Test.YtmpjfdaldejjlaaCore6
import Derived.Test.YtmpjfdaldejjlaaCore7
import Derived.Test.YtmpjfdaldejjlaaCore8
import Derived.Test.YtmpjfdaldejjlaaCore9
import Derived.Test.YtmpjfdaldejjlaaEvMore
import Derived.Test.YtmpjfdaldejjlaaSym
import Derived.Test.YtmpjfdaldejjlaaSysF
import Derived.Test.YtmpjfdaldejjlaaLaws1
import Derived.Test.YtmpjfdaldejjlaaR0
import Derived.Test.YtmpjfdaldejjlaaEvCod
import Derived.Test.YtmpjfdaldejjlaaEvRet
import Derived.Test.YtmpjfdaldejjlaaProg
namespace Go.Proofs.Ytmpjfdaldejjlaa
open Go Go.RowKit Ev
set_option maxRecDepth 100000
set_option linter.unusedVariables false
set_option linter.unusedSimpArgs false

/-! vec.Turn -/
theorem tl_vec_Turn_2 (t9 : Int) (t8 : Int) (r0 : V) (r1 : V) :
    ev Try.prog (Env.add 59 (F1 cIv cIv Iv.neg) Env.nil) Laws.nil 200 none (loopAt Try.f33 2) ((sc 20 [9, 8, 2, 4] (tCod 9 cInt (tCod 8 cInt (tOwn 2 0 (tOwn 4 1 tNil)))) (rBox ccV ccV_ok (rBox ccV ccV_ok rNil))).enc ((t9, t8, ()), (r0, r1, ()))) (backK (sc 20 [9, 8, 2, 4] (tCod 9 cInt (tCod 8 cInt (tOwn 2 0 (tOwn 4 1 tNil)))) (rBox ccV ccV_ok (rBox ccV ccV_ok rNil))) (ocExit 0 (sc 20 [2, 4] (tOwn 2 0 (tOwn 4 1 tNil)) (rBox ccV ccV_ok (rBox ccV ccV_ok rNil))))) =
      .br (Decidable.decide (t9 < t8))
       (
        .bind (r0.y.neg) fun viv0 =>
        .ret (Sum.inl ((Go.IntKind.i64.wrap (t9 + 1), t8, ()), Go.Proofs.Ytmpjfdaldejjlaa.V.mk viv0 r0.x r0.z, r1, ())))
       (
        .ret (Sum.inr ((), r0, r1, ()))) := by kernel_rfl
theorem ok_vec_Turn_2 : LOK Try.prog (LoopR.of (sc 20 [9, 8, 2, 4] (tCod 9 cInt (tCod 8 cInt (tOwn 2 0 (tOwn 4 1 tNil)))) (rBox ccV ccV_ok (rBox ccV ccV_ok rNil))) (ocExit 0 (sc 20 [2, 4] (tOwn 2 0 (tOwn 4 1 tNil)) (rBox ccV ccV_ok (rBox ccV ccV_ok rNil)))) (runBy turnStep turnM)) (loopAt Try.f33 2) := by
  refine loop_ok (EnvOK.add s_iv_Neg EnvOK.nil) (LFn.at (fn := Try.f33) LFn.nil 2) turnStep (n := 200) (fun x z h => ?_) (runBy_ok _ _)
  obtain ⟨⟨t9, t8, ⟨⟩⟩, ⟨r0, r1, ⟨⟩⟩⟩ := x
  rw [tl_vec_Turn_2]
  rw [← h]
  simp only [den_br, den_bind, den_ret, den_fail, den_inl, den_inr, decide_eq_true_eq, gt_iff_lt, ge_iff_le, beq_iff_eq]
  simp only [turnStep]
  by_cases h0 : t9 < t8 <;> simp only [h0, if_true, if_false] <;> rfl
theorem t_vec_Turn (x0 : V) (x1 : Int) :
    evFn Try.prog (Env.add 59 (F1 cIv cIv Iv.neg) Env.nil) (Laws.add 2 (LoopR.of (sc 20 [9, 8, 2, 4] (tCod 9 cInt (tCod 8 cInt (tOwn 2 0 (tOwn 4 1 tNil)))) (rBox ccV ccV_ok (rBox ccV ccV_ok rNil))) (ocExit 0 (sc 20 [2, 4] (tOwn 2 0 (tOwn 4 1 tNil)) (rBox ccV ccV_ok (rBox ccV ccV_ok rNil)))) (runBy turnStep turnM)) Laws.nil) 200 Try.f33 [cV.av x0, cInt.av x1] [] cV.dec =
      .get (Go.Proofs.Ytmpjfdaldejjlaa.runBy Go.Proofs.Ytmpjfdaldejjlaa.turnStep Go.Proofs.Ytmpjfdaldejjlaa.turnM ((0, (Go.IntKind.i64.wrap (x1.tmod 4 + 4)).tmod 4, ()), x0, Go.Proofs.Ytmpjfdaldejjlaa.V.mk (Go.Proofs.Ytmpjfdaldejjlaa.Iv.mk 0 0 Bool.false) (Go.Proofs.Ytmpjfdaldejjlaa.Iv.mk 0 0 Bool.false) (Go.Proofs.Ytmpjfdaldejjlaa.Iv.mk 0 0 Bool.false), ())) fun vy0 =>
      .ret (vy0.snd.fst) := by kernel_rfl
theorem c_vec_Turn (x0 : V) (x1 : Int) : Plain Try.prog 33 [cV.enc x0, cInt.enc x1] (cV.enc (V.turn x0 x1)) :=
  plain_of_tree (n := 200) (EnvOK.add s_iv_Neg EnvOK.nil) Try.func33 (args := [cV.av x0, cInt.av x1]) (by simp only [AV.vals, Cod.av_val]) (Nat.le_of_ble_eq_true (by kernel_rfl)) (LFn.add (fn := Try.f33) (i := 2) (by kernel_rfl) ok_vec_Turn_2 LFn.nil) cV (by
    rw [t_vec_Turn]
    rw [turn_run]; rfl)
theorem s_vec_Turn : Ev.Spec Try.prog 33 (F2 cV cInt cV V.turn) := spec2 (fun vs w => Try.call33 vs w) c_vec_Turn

/-! meniscuslaw15.plane -/
theorem t_meniscuslaw15_plane (x0 : Iv) :
    evFn Try.prog (Env.add 11 (F1 cInt cIv Iv.whole) (Env.add 17 (F1 cInt cIv Iv.point) Env.nil)) Laws.nil 200 Try.f10 [cIv.av x0] [] cSurf.dec =
      .bind (Go.Proofs.Ytmpjfdaldejjlaa.Iv.point 0) fun viv0 =>
      .bind (Go.Proofs.Ytmpjfdaldejjlaa.Iv.whole 1) fun viv1 =>
      .bind (Go.Proofs.Ytmpjfdaldejjlaa.Iv.point 0) fun viv2 =>
      .bind (Go.Proofs.Ytmpjfdaldejjlaa.Iv.point 0) fun viv3 =>
      .bind (Go.Proofs.Ytmpjfdaldejjlaa.Iv.whole 100) fun viv4 =>
      .bind (Go.Proofs.Ytmpjfdaldejjlaa.Iv.whole 1) fun viv5 =>
      .ret (Go.Proofs.Ytmpjfdaldejjlaa.Surf.mk Bool.false Bool.false viv0 viv1 viv2 viv3 x0 viv4 viv5) := by kernel_rfl
theorem c_meniscuslaw15_plane (x0 : Iv) : Plain Try.prog 10 [cIv.enc x0] (cSurf.enc (planeAt x0)) :=
  plain_of_tree (n := 200) (EnvOK.add s_iv_Whole (EnvOK.add s_iv_Point EnvOK.nil)) Try.func10 (args := [cIv.av x0]) (by simp only [AV.vals, Cod.av_val]) (Nat.le_of_ble_eq_true (by kernel_rfl)) LFn.nil cSurf (by
    rw [t_meniscuslaw15_plane]
    rfl)
theorem s_meniscuslaw15_plane : Ev.Spec Try.prog 10 (F1 cIv cSurf planeAt) := spec1 (fun vs w => Try.call10 vs w) c_meniscuslaw15_plane

/-! meniscuslaw15.axis -/
theorem t_meniscuslaw15_axis (x0 : Iv) :
    evFn Try.prog (Env.add 11 (F1 cInt cIv Iv.whole) (Env.add 17 (F1 cInt cIv Iv.point) (Env.add 20 (F3 cIv cIv cIv cV V.mk) Env.nil))) Laws.nil 200 Try.f14 [cIv.av x0] [] cRay.dec =
      .bind (Go.Proofs.Ytmpjfdaldejjlaa.Iv.point 0) fun viv0 =>
      .bind (Go.Proofs.Ytmpjfdaldejjlaa.Iv.point 0) fun viv1 =>
      .bind (Go.Proofs.Ytmpjfdaldejjlaa.V.mk x0 viv0 viv1) fun vv2 =>
      .bind (Go.Proofs.Ytmpjfdaldejjlaa.Iv.point 0) fun viv3 =>
      .bind (Go.Proofs.Ytmpjfdaldejjlaa.Iv.point 0) fun viv4 =>
      .bind (Go.Proofs.Ytmpjfdaldejjlaa.Iv.whole 1) fun viv5 =>
      .bind (Go.Proofs.Ytmpjfdaldejjlaa.V.mk viv3 viv4 viv5) fun vv6 =>
      .ret (Go.Proofs.Ytmpjfdaldejjlaa.Ray.mk vv2 vv6) := by kernel_rfl
theorem c_meniscuslaw15_axis (x0 : Iv) : Plain Try.prog 14 [cIv.enc x0] (cRay.enc (axisAt x0)) :=
  plain_of_tree (n := 200) (EnvOK.add s_iv_Whole (EnvOK.add s_iv_Point (EnvOK.add s_vec_Of EnvOK.nil))) Try.func14 (args := [cIv.av x0]) (by simp only [AV.vals, Cod.av_val]) (Nat.le_of_ble_eq_true (by kernel_rfl)) LFn.nil cRay (by
    rw [t_meniscuslaw15_axis]
    rfl)
theorem s_meniscuslaw15_axis : Ev.Spec Try.prog 14 (F1 cIv cRay axisAt) := spec1 (fun vs w => Try.call14 vs w) c_meniscuslaw15_axis

/-! meniscuslaw15.known -/
theorem t_meniscuslaw15_known  :
    evFn Try.prog (Env.add 10 (F1 cIv cSurf planeAt) (Env.add 11 (F1 cInt cIv Iv.whole) (Env.add 13 (F2 cSurf cRay (cThree cIv cV cInt) hitOf) (Env.add 14 (F1 cIv cRay axisAt) (Env.add 17 (F1 cInt cIv Iv.point) (Env.add 20 (F3 cIv cIv cIv cV V.mk) (Env.add 29 (F1 cIv cBool Iv.right) Env.nil))))))) Laws.nil 200 Try.f18 [] [] cBool.dec =
      .bind (Go.Proofs.Ytmpjfdaldejjlaa.Iv.whole 10) fun viv0 =>
      .bind (Go.Proofs.Ytmpjfdaldejjlaa.planeAt viv0) fun vsu1 =>
      .bind (Go.Proofs.Ytmpjfdaldejjlaa.Iv.point 0) fun viv2 =>
      .bind (Go.Proofs.Ytmpjfdaldejjlaa.axisAt viv2) fun vra3 =>
      .bind (Go.Proofs.Ytmpjfdaldejjlaa.hitOf vsu1 vra3) fun vy4 =>
      .br (vy4.snd.snd == 1)
       (
        .bind (Go.Proofs.Ytmpjfdaldejjlaa.Iv.whole 10) fun viv5 =>
        .br (vy4.fst.lo == viv5.lo && (vy4.fst.hi == viv5.hi && vy4.fst.no == viv5.no))
         (
          .bind (Go.Proofs.Ytmpjfdaldejjlaa.Iv.point 0) fun viv6 =>
          .bind (Go.Proofs.Ytmpjfdaldejjlaa.Iv.point 0) fun viv7 =>
          .bind (Go.Proofs.Ytmpjfdaldejjlaa.Iv.point 0) fun viv8 =>
          .bind (Go.Proofs.Ytmpjfdaldejjlaa.V.mk viv6 viv7 viv8) fun vv9 =>
          .br (vy4.snd.fst.x.lo == vv9.x.lo && (vy4.snd.fst.x.hi == vv9.x.hi && vy4.snd.fst.x.no == vv9.x.no) && (vy4.snd.fst.y.lo == vv9.y.lo && (vy4.snd.fst.y.hi == vv9.y.hi && vy4.snd.fst.y.no == vv9.y.no) && (vy4.snd.fst.z.lo == vv9.z.lo && (vy4.snd.fst.z.hi == vv9.z.hi && vy4.snd.fst.z.no == vv9.z.no))))
           (
            .bind (vy4.fst.right) fun vb10 =>
            .ret (vb10))
           (
            .ret (Bool.false)))
         (
          .ret (Bool.false)))
       (
        .ret (Bool.false)) := by kernel_rfl
theorem c_meniscuslaw15_known  : Plain Try.prog 18 [] (cBool.enc (true)) :=
  plain_of_tree (n := 200) (EnvOK.add s_meniscuslaw15_plane (EnvOK.add s_iv_Whole (EnvOK.add s_hit_Of (EnvOK.add s_meniscuslaw15_axis (EnvOK.add s_iv_Point (EnvOK.add s_vec_Of (EnvOK.add s_iv_Right EnvOK.nil))))))) Try.func18 (args := []) rfl (Nat.le_of_ble_eq_true (by kernel_rfl)) LFn.nil cBool (by
    rw [t_meniscuslaw15_known]
    decide +kernel)
theorem s_meniscuslaw15_known : Ev.Spec Try.prog 18 (F0 cBool true) := spec0 (fun vs w => Try.call18 vs w) c_meniscuslaw15_known

/-! meniscuslaw15.HitMoves -/
theorem tl_meniscuslaw15_HitMoves_7 (t40 : Int) (t39 : Int) (t3 : Int) (r0 : List Surf) (r1 : Ray) (r2 : Ray) :
    ev Try.prog (Env.add 13 (F2 cSurf cRay (cThree cIv cV cInt) hitOf) (Env.add 17 (F1 cInt cIv Iv.point) (Env.add 18 (F0 cBool true) (Env.add 21 (FR (sc 5 [0, 1, 2, 3, 4] (tCod 0 cInt (tSl 1 0 (tSl 2 1 (tCod 3 cInt (tCod 4 cBool tNil))))) (rL_rface (rL_int rNil))) (sc 1 [0] (tAgg 0 0 ccNil ccNil_ok ccIv ccIv_ok tNil) (rG_surf 25 rNil)) ((fun x => mostOk x.1.2.1)) ((fun x => (fun r : SysV => (((), r.1, ()), (r.2, ()))) (systemOf x.1.1 x.2.1 x.2.2.1 x.1.2.1 x.1.2.2.1)))) (Env.add 22 (F1 cRawRay cRay rayOf) (Env.add 23 (F1 cV cBool V.right) (Env.add 27 (F2 cIv cIv cIv Iv.add) (Env.add 31 (F2p cInt cInt cInt pickOk pick) Env.nil)))))))) Laws.nil 200 none (loopAt Try.f6 7) ((sc 86 [40, 39, 3, 38, 10, 11] (tCod 40 cInt (tCod 39 cInt (tCod 3 cInt (tSl 38 0 (tOwn 10 1 (tOwn 11 2 tNil)))))) (rG_surf 25 (rBox ccRay ccRay_ok (rBox ccRay ccRay_ok rNil)))).enc ((t40, t39, t3, ()), (r0, r1, r2, ()))) (backK (sc 86 [40, 39, 3, 38, 10, 11] (tCod 40 cInt (tCod 39 cInt (tCod 3 cInt (tSl 38 0 (tOwn 10 1 (tOwn 11 2 tNil)))))) (rG_surf 25 (rBox ccRay ccRay_ok (rBox ccRay ccRay_ok rNil)))) (ocOr (ocExit 0 (sc 86 [] tNil rNil)) (ocRet (sc 86 [8] (tCod 8 cBool tNil) rNil)))) =
      .br (Decidable.decide (t40 < t39))
       (
        .br (Decidable.decide (0 ≤ t40 ∧ t40 < (@Nat.cast Int _ r0.length)))
         (
          .get (r0[t40.toNat]?) fun vt0 =>
          .bind (Go.Proofs.Ytmpjfdaldejjlaa.hitOf vt0 r1) fun vy1 =>
          .bind (Go.Proofs.Ytmpjfdaldejjlaa.Iv.point t3) fun viv2 =>
          .bind (vt0.at_.add viv2) fun viv3 =>
          .bind (Go.Proofs.Ytmpjfdaldejjlaa.hitOf (Go.Proofs.Ytmpjfdaldejjlaa.Surf.mk vt0.stop vt0.bent vt0.curve vt0.conic vt0.a4 vt0.a6 viv3 vt0.open2 vt0.ratio) r2) fun vy4 =>
          .br (!(vy1.fst.lo == vy4.fst.lo && (vy1.fst.hi == vy4.fst.hi && vy1.fst.no == vy4.fst.no)))
           (
            .ret (Sum.inr (Sum.inr ((Bool.false, ()), ()))))
           (
            .br (!(vy1.snd.fst.x.lo == vy4.snd.fst.x.lo && (vy1.snd.fst.x.hi == vy4.snd.fst.x.hi && vy1.snd.fst.x.no == vy4.snd.fst.x.no) && (vy1.snd.fst.y.lo == vy4.snd.fst.y.lo && (vy1.snd.fst.y.hi == vy4.snd.fst.y.hi && vy1.snd.fst.y.no == vy4.snd.fst.y.no) && (vy1.snd.fst.z.lo == vy4.snd.fst.z.lo && (vy1.snd.fst.z.hi == vy4.snd.fst.z.hi && vy1.snd.fst.z.no == vy4.snd.fst.z.no)))))
             (
              .ret (Sum.inr (Sum.inr ((Bool.false, ()), ()))))
             (
              .br (vy1.snd.snd != vy4.snd.snd)
               (
                .ret (Sum.inr (Sum.inr ((Bool.false, ()), ()))))
               (
                .bind (vy1.snd.fst.right) fun vb5 =>
                .br (!(vy1.snd.snd == 1) == vb5)
                 (
                  .ret (Sum.inr (Sum.inr ((Bool.false, ()), ()))))
                 (
                  .ret (Sum.inl ((Go.IntKind.i64.wrap (t40 + 1), t39, t3, ()), r0, r1, r2, ())))))))
         (
          .fail))
       (
        .ret (Sum.inr (Sum.inl ((), ())))) := by kernel_rfl
theorem ok_meniscuslaw15_HitMoves_7 : LOK Try.prog (LoopR.of (sc 86 [40, 39, 3, 38, 10, 11] (tCod 40 cInt (tCod 39 cInt (tCod 3 cInt (tSl 38 0 (tOwn 10 1 (tOwn 11 2 tNil)))))) (rG_surf 25 (rBox ccRay ccRay_ok (rBox ccRay ccRay_ok rNil)))) (ocOr (ocExit 0 (sc 86 [] tNil rNil)) (ocRet (sc 86 [8] (tCod 8 cBool tNil) rNil))) (runBy (allStep hitMovesBad) allM)) (loopAt Try.f6 7) := by
  refine loop_ok (EnvOK.add s_hit_Of (EnvOK.add s_iv_Point (EnvOK.add s_meniscuslaw15_known (EnvOK.add s_meniscushand_System (EnvOK.add s_meniscushand_Ray (EnvOK.add s_vec_Right (EnvOK.add s_iv_Add (EnvOK.add s_meniscushand_Pick EnvOK.nil)))))))) (LFn.at (fn := Try.f6) LFn.nil 7) ((allStep hitMovesBad)) (n := 200) (fun x z h => ?_) (runBy_ok _ _)
  obtain ⟨⟨t40, t39, t3, ⟨⟩⟩, ⟨r0, r1, r2, ⟨⟩⟩⟩ := x
  rw [tl_meniscuslaw15_HitMoves_7]
  rw [← h]
  simp only [allStep, den_br, den_bind, den_get, den_ret, den_fail, decide_eq_true_eq]
  by_cases h0 : t40 < t39 <;> simp only [h0, if_true, if_false]
  by_cases h1 : 0 ≤ t40 ∧ t40 < (r0.length : Int) <;> simp only [h1, and_self, if_true, if_false]
  cases hg : r0[t40.toNat]? with
  | none => rfl
  | some f =>
    simp only [den_br, den_bind, den_get, den_ret, den_fail, hitMovesBad, ivE, vE, Surf.moved]
    grind
theorem t_meniscuslaw15_HitMoves (t0 : Int) (t2 : RawRay) (t3 : Int) (r0 : List RawFace) :
    evFn Try.prog (Env.add 13 (F2 cSurf cRay (cThree cIv cV cInt) hitOf) (Env.add 17 (F1 cInt cIv Iv.point) (Env.add 18 (F0 cBool true) (Env.add 21 (FR (sc 5 [0, 1, 2, 3, 4] (tCod 0 cInt (tSl 1 0 (tSl 2 1 (tCod 3 cInt (tCod 4 cBool tNil))))) (rL_rface (rL_int rNil))) (sc 1 [0] (tAgg 0 0 ccNil ccNil_ok ccIv ccIv_ok tNil) (rG_surf 25 rNil)) ((fun x => mostOk x.1.2.1)) ((fun x => (fun r : SysV => (((), r.1, ()), (r.2, ()))) (systemOf x.1.1 x.2.1 x.2.2.1 x.1.2.1 x.1.2.2.1)))) (Env.add 22 (F1 cRawRay cRay rayOf) (Env.add 23 (F1 cV cBool V.right) (Env.add 27 (F2 cIv cIv cIv Iv.add) (Env.add 31 (F2p cInt cInt cInt pickOk pick) Env.nil)))))))) (Laws.add 7 (LoopR.of (sc 86 [40, 39, 3, 38, 10, 11] (tCod 40 cInt (tCod 39 cInt (tCod 3 cInt (tSl 38 0 (tOwn 10 1 (tOwn 11 2 tNil)))))) (rG_surf 25 (rBox ccRay ccRay_ok (rBox ccRay ccRay_ok rNil)))) (ocOr (ocExit 0 (sc 86 [] tNil rNil)) (ocRet (sc 86 [8] (tCod 8 cBool tNil) rNil))) (runBy (allStep hitMovesBad) allM)) Laws.nil) 200 Try.f6 (((sc 4 [0, 1, 2, 3] (tCod 0 cInt (tSl 1 0 (tCod 2 cRawRay (tCod 3 cInt tNil)))) (rL_rface rNil)).enc ((t0, t2, t3, ()), (r0, ()))).tmps.map Prod.snd) ((sc 4 [0, 1, 2, 3] (tCod 0 cInt (tSl 1 0 (tCod 2 cRawRay (tCod 3 cInt tNil)))) (rL_rface rNil)).enc ((t0, t2, t3, ()), (r0, ()))).mem cBool.dec =
      .br (Go.Proofs.Ytmpjfdaldejjlaa.mostOk 4)
       (
        .bind ((((), (Go.Proofs.Ytmpjfdaldejjlaa.systemOf t0 r0 [] 4 Bool.false).fst, ()), (Go.Proofs.Ytmpjfdaldejjlaa.systemOf t0 r0 [] 4 Bool.false).snd, ())) fun vy0 =>
        .bind (Go.Proofs.Ytmpjfdaldejjlaa.rayOf t2) fun vra1 =>
        .br (Go.Proofs.Ytmpjfdaldejjlaa.pickOk t3 13107200)
         (
          .bind (Go.Proofs.Ytmpjfdaldejjlaa.pick t3 13107200) fun vn2 =>
          .bind (Go.Proofs.Ytmpjfdaldejjlaa.Iv.point (Go.IntKind.i64.wrap (vn2 - 6553600))) fun viv3 =>
          .bind (vra1.o.z.add viv3) fun viv4 =>
          .get (Go.Proofs.Ytmpjfdaldejjlaa.runBy (Go.Proofs.Ytmpjfdaldejjlaa.allStep Go.Proofs.Ytmpjfdaldejjlaa.hitMovesBad) Go.Proofs.Ytmpjfdaldejjlaa.allM ((0, (@Nat.cast Int _ vy0.snd.fst.length), Go.IntKind.i64.wrap (vn2 - 6553600), ()), vy0.snd.fst, vra1, Go.Proofs.Ytmpjfdaldejjlaa.Ray.mk (Go.Proofs.Ytmpjfdaldejjlaa.V.mk vra1.o.x vra1.o.y viv4) vra1.d, ())) fun vy5 =>
          .sum (vy5)
           (fun vs6 =>
            .bind (Bool.true) fun vb7 =>
            .ret (vb7))
           (fun vs8 =>
            .ret (vs8.fst.fst)))
         (
          .fail))
       (
        .fail) := by kernel_rfl
theorem c_meniscuslaw15_HitMoves : PlainS Try.prog 6 (sc 4 [0, 1, 2, 3] (tCod 0 cInt (tSl 1 0 (tCod 2 cRawRay (tCod 3 cInt tNil)))) (rL_rface rNil)) cBool (fun _ => true) ((fun _ => true)) := by
  intro x h N w vs hM hv
  obtain ⟨⟨t0, t2, t3, ⟨⟩⟩, ⟨r0, ⟨⟩⟩⟩ := x
  refine calls_of_tree (n := 200) (EnvOK.add s_hit_Of (EnvOK.add s_iv_Point (EnvOK.add s_meniscuslaw15_known (EnvOK.add s_meniscushand_System (EnvOK.add s_meniscushand_Ray (EnvOK.add s_vec_Right (EnvOK.add s_iv_Add (EnvOK.add s_meniscushand_Pick EnvOK.nil)))))))) Try.func6 hv (Nat.le_of_ble_eq_true (by kernel_rfl)) (LFn.add (fn := Try.f6) (i := 7) (by kernel_rfl) ok_meniscuslaw15_HitMoves_7 LFn.nil) hM cBool ?_
  rw [t_meniscuslaw15_HitMoves]
  have hR := systemOf_R t0 r0 [] false (most := 4) rfl
  have hz : (rayOf t2).o.z = ⟨0, 0, false⟩ := rfl
  have hlen : (systemOf t0 r0 [] 4 false).2.length ≤ 1048576 := by have := hR.len; omega
  simp only [den_br, den_bind, den_ret, den_fail, den_inl, den_inr, decide_eq_true_eq, gt_iff_lt, ge_iff_le, beq_iff_eq]
  have hb := pick_bd t3 (m := 13107200) (by decide)
  have hp : pickOk t3 13107200 = true := by simp [pickOk]
  have hw : IntKind.i64.wrap (pick t3 13107200 - 6553600) = pick t3 13107200 - 6553600 := wr (by omega)
  simp only [show mostOk 4 = true from rfl, hp, if_true, hw]
  have hr := all_run (bad := hitMovesBad) (a := (pick t3 13107200 - 6553600, ())) (b := (rayOf t2, (rayOf t2).moved (pick t3 13107200 - 6553600), ())) hlen (fun f hf => by
    obtain ⟨f1, f2⟩ := hR.surfs f hf
    have at0 := f1.at0
    have at1 := f1.at1
    have br := right_bd (surfRight_at f2)
    exact hitMoves_good (by rw [hz]; decide) (surfRight_at f2) (by omega) (by rw [hz]; decide) (by omega))
  have e : (rayOf t2).moved (pick t3 13107200 - 6553600) = ⟨⟨(rayOf t2).o.x, (rayOf t2).o.y, (rayOf t2).o.z.add (Iv.point (pick t3 13107200 - 6553600))⟩, (rayOf t2).d⟩ := rfl
  rw [e] at hr
  rw [hr]
  rfl
theorem s_meniscuslaw15_HitMoves : Ev.Spec Try.prog 6 (FS (sc 4 [0, 1, 2, 3] (tCod 0 cInt (tSl 1 0 (tCod 2 cRawRay (tCod 3 cInt tNil)))) (rL_rface rNil)) cBool (fun _ => true) ((fun _ => true))) := specS rfl (fun vs w => Try.call6 vs w) c_meniscuslaw15_HitMoves

/-! meniscuslaw15.HitTurns -/
theorem tl_meniscuslaw15_HitTurns_6 (t48 : Int) (t47 : Int) (t3 : Int) (r0 : List Surf) (r1 : Ray) (r2 : Ray) (r3 : Ray) :
    ev Try.prog (Env.add 13 (F2 cSurf cRay (cThree cIv cV cInt) hitOf) (Env.add 18 (F0 cBool true) (Env.add 21 (FR (sc 5 [0, 1, 2, 3, 4] (tCod 0 cInt (tSl 1 0 (tSl 2 1 (tCod 3 cInt (tCod 4 cBool tNil))))) (rL_rface (rL_int rNil))) (sc 1 [0] (tAgg 0 0 ccNil ccNil_ok ccIv ccIv_ok tNil) (rG_surf 25 rNil)) ((fun x => mostOk x.1.2.1)) ((fun x => (fun r : SysV => (((), r.1, ()), (r.2, ()))) (systemOf x.1.1 x.2.1 x.2.2.1 x.1.2.1 x.1.2.2.1)))) (Env.add 22 (F1 cRawRay cRay rayOf) (Env.add 33 (F2 cV cInt cV V.turn) (Env.add 34 (F1 cV cV V.mirror) (Env.add 34 (F1 cV cV V.mirror) Env.nil))))))) Laws.nil 200 none (loopAt Try.f7 6) ((sc 110 [48, 47, 3, 46, 10, 11, 12] (tCod 48 cInt (tCod 47 cInt (tCod 3 cInt (tSl 46 0 (tOwn 10 1 (tOwn 11 2 (tOwn 12 3 tNil))))))) (rG_surf 25 (rBox ccRay ccRay_ok (rBox ccRay ccRay_ok (rBox ccRay ccRay_ok rNil))))).enc ((t48, t47, t3, ()), (r0, r1, r2, r3, ()))) (backK (sc 110 [48, 47, 3, 46, 10, 11, 12] (tCod 48 cInt (tCod 47 cInt (tCod 3 cInt (tSl 46 0 (tOwn 10 1 (tOwn 11 2 (tOwn 12 3 tNil))))))) (rG_surf 25 (rBox ccRay ccRay_ok (rBox ccRay ccRay_ok (rBox ccRay ccRay_ok rNil))))) (ocOr (ocExit 0 (sc 110 [] tNil rNil)) (ocRet (sc 110 [8] (tCod 8 cBool tNil) rNil)))) =
      .br (Decidable.decide (t48 < t47))
       (
        .br (Decidable.decide (0 ≤ t48 ∧ t48 < (@Nat.cast Int _ r0.length)))
         (
          .get (r0[t48.toNat]?) fun vt0 =>
          .bind (Go.Proofs.Ytmpjfdaldejjlaa.hitOf vt0 r1) fun vy1 =>
          .bind (Go.Proofs.Ytmpjfdaldejjlaa.hitOf vt0 r2) fun vy2 =>
          .bind (Go.Proofs.Ytmpjfdaldejjlaa.hitOf vt0 r3) fun vy3 =>
          .br (vy1.snd.snd != vy2.snd.snd)
           (
            .ret (Sum.inr (Sum.inr ((Bool.false, ()), ()))))
           (
            .br (!(vy1.fst.lo == vy2.fst.lo && (vy1.fst.hi == vy2.fst.hi && vy1.fst.no == vy2.fst.no)))
             (
              .ret (Sum.inr (Sum.inr ((Bool.false, ()), ()))))
             (
              .br (vy1.snd.snd != vy3.snd.snd)
               (
                .ret (Sum.inr (Sum.inr ((Bool.false, ()), ()))))
               (
                .br (!(vy1.fst.lo == vy3.fst.lo && (vy1.fst.hi == vy3.fst.hi && vy1.fst.no == vy3.fst.no)))
                 (
                  .ret (Sum.inr (Sum.inr ((Bool.false, ()), ()))))
                 (
                  .br (vy1.snd.snd == 1)
                   (
                    .bind (vy1.snd.fst.turn t3) fun vv4 =>
                    .br (!(vy2.snd.fst.x.lo == vv4.x.lo && (vy2.snd.fst.x.hi == vv4.x.hi && vy2.snd.fst.x.no == vv4.x.no) && (vy2.snd.fst.y.lo == vv4.y.lo && (vy2.snd.fst.y.hi == vv4.y.hi && vy2.snd.fst.y.no == vv4.y.no) && (vy2.snd.fst.z.lo == vv4.z.lo && (vy2.snd.fst.z.hi == vv4.z.hi && vy2.snd.fst.z.no == vv4.z.no)))))
                     (
                      .ret (Sum.inr (Sum.inr ((Bool.false, ()), ()))))
                     (
                      .bind (vy1.snd.fst.mirror) fun vv5 =>
                      .br (!(vy3.snd.fst.x.lo == vv5.x.lo && (vy3.snd.fst.x.hi == vv5.x.hi && vy3.snd.fst.x.no == vv5.x.no) && (vy3.snd.fst.y.lo == vv5.y.lo && (vy3.snd.fst.y.hi == vv5.y.hi && vy3.snd.fst.y.no == vv5.y.no) && (vy3.snd.fst.z.lo == vv5.z.lo && (vy3.snd.fst.z.hi == vv5.z.hi && vy3.snd.fst.z.no == vv5.z.no)))))
                       (
                        .ret (Sum.inr (Sum.inr ((Bool.false, ()), ()))))
                       (
                        .ret (Sum.inl ((Go.IntKind.i64.wrap (t48 + 1), t47, t3, ()), r0, r1, r2, r3, ())))))
                   (
                    .ret (Sum.inl ((Go.IntKind.i64.wrap (t48 + 1), t47, t3, ()), r0, r1, r2, r3, ()))))))))
         (
          .fail))
       (
        .ret (Sum.inr (Sum.inl ((), ())))) := by kernel_rfl
theorem ok_meniscuslaw15_HitTurns_6 : LOK Try.prog (LoopR.of (sc 110 [48, 47, 3, 46, 10, 11, 12] (tCod 48 cInt (tCod 47 cInt (tCod 3 cInt (tSl 46 0 (tOwn 10 1 (tOwn 11 2 (tOwn 12 3 tNil))))))) (rG_surf 25 (rBox ccRay ccRay_ok (rBox ccRay ccRay_ok (rBox ccRay ccRay_ok rNil))))) (ocOr (ocExit 0 (sc 110 [] tNil rNil)) (ocRet (sc 110 [8] (tCod 8 cBool tNil) rNil))) (runBy (allStep hitTurnsBad) allM)) (loopAt Try.f7 6) := by
  refine loop_ok (EnvOK.add s_hit_Of (EnvOK.add s_meniscuslaw15_known (EnvOK.add s_meniscushand_System (EnvOK.add s_meniscushand_Ray (EnvOK.add s_vec_Turn (EnvOK.add s_vec_Mirror (EnvOK.add s_vec_Mirror EnvOK.nil))))))) (LFn.at (fn := Try.f7) LFn.nil 6) ((allStep hitTurnsBad)) (n := 200) (fun x z h => ?_) (runBy_ok _ _)
  obtain ⟨⟨t48, t47, t3, ⟨⟩⟩, ⟨r0, r1, r2, r3, ⟨⟩⟩⟩ := x
  rw [tl_meniscuslaw15_HitTurns_6]
  rw [← h]
  simp only [allStep, den_br, den_bind, den_get, den_ret, den_fail, decide_eq_true_eq]
  by_cases h0 : t48 < t47 <;> simp only [h0, if_true, if_false]
  by_cases h1 : 0 ≤ t48 ∧ t48 < (r0.length : Int) <;> simp only [h1, and_self, if_true, if_false]
  cases hg : r0[t48.toNat]? with
  | none => rfl
  | some f =>
    simp only [den_br, den_bind, den_get, den_ret, den_fail, hitTurnsBad, ivE, vE]
    all_goals (rcases Bool.eq_false_or_eq_true ((hitOf f r1).2.2 != (hitOf f r2).2.2) with hc0 | hc0 <;> (try simp only [hc0, Bool.not_true, Bool.not_false, Bool.true_or, Bool.false_or, Bool.or_true, Bool.or_false, Bool.true_and, Bool.false_and, Bool.and_true, Bool.and_false, if_true, if_false, Bool.false_eq_true]) <;> try rfl)
    all_goals (rcases Bool.eq_false_or_eq_true ((hitOf f r1).1.lo == (hitOf f r2).1.lo && ((hitOf f r1).1.hi == (hitOf f r2).1.hi && (hitOf f r1).1.no == (hitOf f r2).1.no)) with hc1 | hc1 <;> (try simp only [hc1, Bool.not_true, Bool.not_false, Bool.true_or, Bool.false_or, Bool.or_true, Bool.or_false, Bool.true_and, Bool.false_and, Bool.and_true, Bool.and_false, if_true, if_false, Bool.false_eq_true]) <;> try rfl)
    all_goals (rcases Bool.eq_false_or_eq_true ((hitOf f r1).2.2 != (hitOf f r3).2.2) with hc2 | hc2 <;> (try simp only [hc2, Bool.not_true, Bool.not_false, Bool.true_or, Bool.false_or, Bool.or_true, Bool.or_false, Bool.true_and, Bool.false_and, Bool.and_true, Bool.and_false, if_true, if_false, Bool.false_eq_true]) <;> try rfl)
    all_goals (rcases Bool.eq_false_or_eq_true ((hitOf f r1).1.lo == (hitOf f r3).1.lo && ((hitOf f r1).1.hi == (hitOf f r3).1.hi && (hitOf f r1).1.no == (hitOf f r3).1.no)) with hc3 | hc3 <;> (try simp only [hc3, Bool.not_true, Bool.not_false, Bool.true_or, Bool.false_or, Bool.or_true, Bool.or_false, Bool.true_and, Bool.false_and, Bool.and_true, Bool.and_false, if_true, if_false, Bool.false_eq_true]) <;> try rfl)
    all_goals (rcases Bool.eq_false_or_eq_true ((hitOf f r1).2.2 == 1) with hc4 | hc4 <;> (try simp only [hc4, Bool.not_true, Bool.not_false, Bool.true_or, Bool.false_or, Bool.or_true, Bool.or_false, Bool.true_and, Bool.false_and, Bool.and_true, Bool.and_false, if_true, if_false, Bool.false_eq_true]) <;> try rfl)
    all_goals (rcases Bool.eq_false_or_eq_true (((hitOf f r2).2.1.x.lo == ((hitOf f r1).2.1.turn t3).x.lo && ((hitOf f r2).2.1.x.hi == ((hitOf f r1).2.1.turn t3).x.hi && (hitOf f r2).2.1.x.no == ((hitOf f r1).2.1.turn t3).x.no)) && (((hitOf f r2).2.1.y.lo == ((hitOf f r1).2.1.turn t3).y.lo && ((hitOf f r2).2.1.y.hi == ((hitOf f r1).2.1.turn t3).y.hi && (hitOf f r2).2.1.y.no == ((hitOf f r1).2.1.turn t3).y.no)) && ((hitOf f r2).2.1.z.lo == ((hitOf f r1).2.1.turn t3).z.lo && ((hitOf f r2).2.1.z.hi == ((hitOf f r1).2.1.turn t3).z.hi && (hitOf f r2).2.1.z.no == ((hitOf f r1).2.1.turn t3).z.no)))) with hc5 | hc5 <;> (try simp only [hc5, Bool.not_true, Bool.not_false, Bool.true_or, Bool.false_or, Bool.or_true, Bool.or_false, Bool.true_and, Bool.false_and, Bool.and_true, Bool.and_false, if_true, if_false, Bool.false_eq_true]) <;> try rfl)
    all_goals (rcases Bool.eq_false_or_eq_true (((hitOf f r3).2.1.x.lo == (hitOf f r1).2.1.mirror.x.lo && ((hitOf f r3).2.1.x.hi == (hitOf f r1).2.1.mirror.x.hi && (hitOf f r3).2.1.x.no == (hitOf f r1).2.1.mirror.x.no)) && (((hitOf f r3).2.1.y.lo == (hitOf f r1).2.1.mirror.y.lo && ((hitOf f r3).2.1.y.hi == (hitOf f r1).2.1.mirror.y.hi && (hitOf f r3).2.1.y.no == (hitOf f r1).2.1.mirror.y.no)) && ((hitOf f r3).2.1.z.lo == (hitOf f r1).2.1.mirror.z.lo && ((hitOf f r3).2.1.z.hi == (hitOf f r1).2.1.mirror.z.hi && (hitOf f r3).2.1.z.no == (hitOf f r1).2.1.mirror.z.no)))) with hc6 | hc6 <;> (try simp only [hc6, Bool.not_true, Bool.not_false, Bool.true_or, Bool.false_or, Bool.or_true, Bool.or_false, Bool.true_and, Bool.false_and, Bool.and_true, Bool.and_false, if_true, if_false, Bool.false_eq_true]) <;> try rfl)
theorem t_meniscuslaw15_HitTurns (t0 : Int) (t2 : RawRay) (t3 : Int) (r0 : List RawFace) :
    evFn Try.prog (Env.add 13 (F2 cSurf cRay (cThree cIv cV cInt) hitOf) (Env.add 18 (F0 cBool true) (Env.add 21 (FR (sc 5 [0, 1, 2, 3, 4] (tCod 0 cInt (tSl 1 0 (tSl 2 1 (tCod 3 cInt (tCod 4 cBool tNil))))) (rL_rface (rL_int rNil))) (sc 1 [0] (tAgg 0 0 ccNil ccNil_ok ccIv ccIv_ok tNil) (rG_surf 25 rNil)) ((fun x => mostOk x.1.2.1)) ((fun x => (fun r : SysV => (((), r.1, ()), (r.2, ()))) (systemOf x.1.1 x.2.1 x.2.2.1 x.1.2.1 x.1.2.2.1)))) (Env.add 22 (F1 cRawRay cRay rayOf) (Env.add 33 (F2 cV cInt cV V.turn) (Env.add 34 (F1 cV cV V.mirror) (Env.add 34 (F1 cV cV V.mirror) Env.nil))))))) (Laws.add 6 (LoopR.of (sc 110 [48, 47, 3, 46, 10, 11, 12] (tCod 48 cInt (tCod 47 cInt (tCod 3 cInt (tSl 46 0 (tOwn 10 1 (tOwn 11 2 (tOwn 12 3 tNil))))))) (rG_surf 25 (rBox ccRay ccRay_ok (rBox ccRay ccRay_ok (rBox ccRay ccRay_ok rNil))))) (ocOr (ocExit 0 (sc 110 [] tNil rNil)) (ocRet (sc 110 [8] (tCod 8 cBool tNil) rNil))) (runBy (allStep hitTurnsBad) allM)) Laws.nil) 200 Try.f7 (((sc 4 [0, 1, 2, 3] (tCod 0 cInt (tSl 1 0 (tCod 2 cRawRay (tCod 3 cInt tNil)))) (rL_rface rNil)).enc ((t0, t2, t3, ()), (r0, ()))).tmps.map Prod.snd) ((sc 4 [0, 1, 2, 3] (tCod 0 cInt (tSl 1 0 (tCod 2 cRawRay (tCod 3 cInt tNil)))) (rL_rface rNil)).enc ((t0, t2, t3, ()), (r0, ()))).mem cBool.dec =
      .br (Go.Proofs.Ytmpjfdaldejjlaa.mostOk 3)
       (
        .bind ((((), (Go.Proofs.Ytmpjfdaldejjlaa.systemOf t0 r0 [] 3 Bool.false).fst, ()), (Go.Proofs.Ytmpjfdaldejjlaa.systemOf t0 r0 [] 3 Bool.false).snd, ())) fun vy0 =>
        .bind (Go.Proofs.Ytmpjfdaldejjlaa.rayOf t2) fun vra1 =>
        .bind (vra1.o.turn t3) fun vv2 =>
        .bind (vra1.d.turn t3) fun vv3 =>
        .bind (vra1.o.mirror) fun vv4 =>
        .bind (vra1.d.mirror) fun vv5 =>
        .get (Go.Proofs.Ytmpjfdaldejjlaa.runBy (Go.Proofs.Ytmpjfdaldejjlaa.allStep Go.Proofs.Ytmpjfdaldejjlaa.hitTurnsBad) Go.Proofs.Ytmpjfdaldejjlaa.allM ((0, (@Nat.cast Int _ vy0.snd.fst.length), t3, ()), vy0.snd.fst, vra1, Go.Proofs.Ytmpjfdaldejjlaa.Ray.mk vv2 vv3, Go.Proofs.Ytmpjfdaldejjlaa.Ray.mk vv4 vv5, ())) fun vy6 =>
        .sum (vy6)
         (fun vs7 =>
          .bind (Bool.true) fun vb8 =>
          .ret (vb8))
         (fun vs9 =>
          .ret (vs9.fst.fst)))
       (
        .fail) := by kernel_rfl
theorem c_meniscuslaw15_HitTurns : PlainS Try.prog 7 (sc 4 [0, 1, 2, 3] (tCod 0 cInt (tSl 1 0 (tCod 2 cRawRay (tCod 3 cInt tNil)))) (rL_rface rNil)) cBool (fun _ => true) ((fun _ => true)) := by
  intro x h N w vs hM hv
  obtain ⟨⟨t0, t2, t3, ⟨⟩⟩, ⟨r0, ⟨⟩⟩⟩ := x
  refine calls_of_tree (n := 200) (EnvOK.add s_hit_Of (EnvOK.add s_meniscuslaw15_known (EnvOK.add s_meniscushand_System (EnvOK.add s_meniscushand_Ray (EnvOK.add s_vec_Turn (EnvOK.add s_vec_Mirror (EnvOK.add s_vec_Mirror EnvOK.nil))))))) Try.func7 hv (Nat.le_of_ble_eq_true (by kernel_rfl)) (LFn.add (fn := Try.f7) (i := 6) (by kernel_rfl) ok_meniscuslaw15_HitTurns_6 LFn.nil) hM cBool ?_
  rw [t_meniscuslaw15_HitTurns]
  have hR := systemOf_R t0 r0 [] false (most := 3) rfl
  have hz : (rayOf t2).o.z = ⟨0, 0, false⟩ := rfl
  have hlen : (systemOf t0 r0 [] 3 false).2.length ≤ 1048576 := by have := hR.len; omega
  simp only [den_br, den_bind, den_ret, den_fail, den_inl, den_inr, decide_eq_true_eq, gt_iff_lt, ge_iff_le, beq_iff_eq]
  simp only [show mostOk 3 = true from rfl, if_true]
  have hr := all_run (bad := hitTurnsBad) (a := (t3, ())) (b := (rayOf t2, (rayOf t2).turned t3, (rayOf t2).mirrored, ())) hlen (fun f _ => hitTurns_good f (rayOf t2) t3)
  rw [show (⟨(rayOf t2).o.turn t3, (rayOf t2).d.turn t3⟩ : Ray) = (rayOf t2).turned t3 from rfl, show (⟨(rayOf t2).o.mirror, (rayOf t2).d.mirror⟩ : Ray) = (rayOf t2).mirrored from rfl, hr]
  rfl
theorem s_meniscuslaw15_HitTurns : Ev.Spec Try.prog 7 (FS (sc 4 [0, 1, 2, 3] (tCod 0 cInt (tSl 1 0 (tCod 2 cRawRay (tCod 3 cInt tNil)))) (rL_rface rNil)) cBool (fun _ => true) ((fun _ => true))) := specS rfl (fun vs w => Try.call7 vs w) c_meniscuslaw15_HitTurns
end Go.Proofs.Ytmpjfdaldejjlaa
