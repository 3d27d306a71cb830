/-
  Contracts of calls, written by a small program of this session out of the evaluator's trees.
-/
import Derived.Test.YthplkbeiapgclaaCore
import Derived.Test.YthplkbeiapgclaaCoreLoops
import Derived.Test.YthplkbeiapgclaaEvCod
import Derived.Test.YthplkbeiapgclaaProg
import Derived.Test.YthplkbeiapgclaaK0
namespace Go.Proofs.Ythplkbeiapgclaa
open Go Go.RowKit Ev
set_option maxRecDepth 100000
set_option linter.unusedVariables false
set_option linter.unusedSimpArgs false

/-! snell.Bend -/
theorem t_snell_Bend (x0 : V) (x1 : V) (x2 : Iv) :
    evFn Try.prog (Env.add 22 (F1 cInt cIv Iv.point) (Env.add 28 (F1 cV cBool V.right) (Env.add 29 (F2 cIv cIv cIv Iv.sub) (Env.add 30 (F2 cIv cIv cIv Iv.mul) (Env.add 33 (F1 cIv cIv Iv.sqr) (Env.add 93 (F1 cIv cIv Iv.root) (Env.add 116 (F2 cV cV cV V.add) (Env.add 117 (F2 cV cIv cV V.scale) (Env.add 136 (F2 cV cV cIv V.dot) (Env.add 137 (F0 cV V.none) Env.nil)))))))))) Laws.nil 200 Try.f87 [cV.av x0, cV.av x1, cIv.av x2] [] (cTwo cV cInt).dec =
      .bind (Go.Proofs.Ythplkbeiapgclaa.Iv.point 65536) fun iv0 =>
      .bind (x0.dot x1) fun iv1 =>
      .br (iv1.no)
       (
        .bind (Go.Proofs.Ythplkbeiapgclaa.V.none) fun v2 =>
        .ret ((v2, 0)))
       (
        .br (Decidable.decide (iv1.lo ≤ 0))
         (
          .bind (Go.Proofs.Ythplkbeiapgclaa.V.none) fun v3 =>
          .ret ((v3, 0)))
         (
          .bind (x2.sqr) fun iv4 =>
          .bind (iv1.sqr) fun iv5 =>
          .bind (iv0.sub iv5) fun iv6 =>
          .bind (iv4.mul iv6) fun iv7 =>
          .bind (iv0.sub iv7) fun iv8 =>
          .br (iv8.no)
           (
            .bind (Go.Proofs.Ythplkbeiapgclaa.V.none) fun v9 =>
            .ret ((v9, 0)))
           (
            .br (Decidable.decide (iv8.hi < 0))
             (
              .bind (Go.Proofs.Ythplkbeiapgclaa.V.none) fun v10 =>
              .ret ((v10, 2)))
             (
              .br (Decidable.decide (iv8.lo < 0))
               (
                .bind (Go.Proofs.Ythplkbeiapgclaa.V.none) fun v11 =>
                .ret ((v11, 0)))
               (
                .bind (x0.scale x2) fun v12 =>
                .bind (iv8.root) fun iv13 =>
                .bind (x2.mul iv1) fun iv14 =>
                .bind (iv13.sub iv14) fun iv15 =>
                .bind (x1.scale iv15) fun v16 =>
                .bind (v12.add v16) fun v17 =>
                .bind (v17.right) fun b18 =>
                .br (!b18)
                 (
                  .bind (Go.Proofs.Ythplkbeiapgclaa.V.none) fun v19 =>
                  .ret ((v19, 0)))
                 (
                  .ret ((v17, 1)))))))) := by kernel_rfl
theorem c_snell_Bend (x0 : V) (x1 : V) (x2 : Iv) : Plain Try.prog 87 [cV.enc x0, cV.enc x1, cIv.enc x2] ((cTwo cV cInt).enc (bend x0 x1 x2)) :=
  plain_of_tree (n := 200) (EnvOK.add s_iv_Point (EnvOK.add s_vec_Right (EnvOK.add s_iv_Sub (EnvOK.add s_iv_Mul (EnvOK.add s_iv_Sqr (EnvOK.add s_iv_Root (EnvOK.add s_vec_Add (EnvOK.add s_vec_Scale (EnvOK.add s_vec_Dot (EnvOK.add s_snell_nones EnvOK.nil)))))))))) Try.func87 (args := [cV.av x0, cV.av x1, cIv.av x2]) (by simp only [AV.vals, Cod.av_val]) (Nat.le_of_ble_eq_true (by kernel_rfl)) LFn.nil (cTwo cV cInt) (by
    rw [t_snell_Bend]
    simp only [den_br, den_bind, den_ret, den_fail, decide_eq_true_eq]
    grind [bend])
theorem s_snell_Bend : Ev.Spec Try.prog 87 (F3 cV cV cIv (cTwo cV cInt) bend) := spec3 (fun vs w => Try.call87 vs w) c_snell_Bend

/-! sag.round -/
theorem t_sag_round (x0 : Surf) (x1 : Iv) :
    evFn Try.prog (Env.add 17 (F2 cIv cIv cIv Iv.div) (Env.add 22 (F1 cInt cIv Iv.point) (Env.add 29 (F2 cIv cIv cIv Iv.sub) (Env.add 30 (F2 cIv cIv cIv Iv.mul) (Env.add 32 (F2 cIv cIv cIv Iv.add) (Env.add 33 (F1 cIv cIv Iv.sqr) (Env.add 93 (F1 cIv cIv Iv.root) (Env.add 100 (F2 cIv cInt cIv Iv.times) Env.nil)))))))) Laws.nil 200 Try.f82 [cSurf.av x0, cIv.av x1] [] (cTwo cIv cIv).dec =
      .bind (Go.Proofs.Ythplkbeiapgclaa.Iv.point 65536) fun iv0 =>
      .bind (x0.curve.sqr) fun iv1 =>
      .bind (x0.conic.mul iv1) fun iv2 =>
      .bind (iv2.mul x1) fun iv3 =>
      .bind (iv0.sub iv3) fun iv4 =>
      .bind (iv4.root) fun iv5 =>
      .bind (x0.curve.mul x1) fun iv6 =>
      .bind (iv0.add iv5) fun iv7 =>
      .bind (iv6.div iv7) fun iv8 =>
      .bind (iv5.times 2) fun iv9 =>
      .bind (x0.curve.div iv9) fun iv10 =>
      .ret ((iv8, iv10)) := by kernel_rfl
theorem c_sag_round (x0 : Surf) (x1 : Iv) : Plain Try.prog 82 [cSurf.enc x0, cIv.enc x1] ((cTwo cIv cIv).enc (sagRound x0 x1)) :=
  plain_of_tree (n := 200) (EnvOK.add s_iv_Div (EnvOK.add s_iv_Point (EnvOK.add s_iv_Sub (EnvOK.add s_iv_Mul (EnvOK.add s_iv_Add (EnvOK.add s_iv_Sqr (EnvOK.add s_iv_Root (EnvOK.add s_iv_Times EnvOK.nil)))))))) Try.func82 (args := [cSurf.av x0, cIv.av x1]) (by simp only [AV.vals, Cod.av_val]) (Nat.le_of_ble_eq_true (by kernel_rfl)) LFn.nil (cTwo cIv cIv) (by
    rw [t_sag_round]
    rfl)
theorem s_sag_round : Ev.Spec Try.prog 82 (F2 cSurf cIv (cTwo cIv cIv) sagRound) := spec2 (fun vs w => Try.call82 vs w) c_sag_round

/-! hit.Of -/
theorem t_hit_Of (x0 : Surf) (x1 : Ray) :
    evFn Try.prog (Env.add 28 (F1 cV cBool V.right) (Env.add 29 (F2 cIv cIv cIv Iv.sub) (Env.add 69 (F3 cSurf cV cV (cTwo cIv cInt) hitRound) (Env.add 71 (F1 cInt (cThree cIv cV cInt) ((fun is => (Iv.none, V.none, is)))) (Env.add 72 (F2 cRay cIv cV along) Env.nil))))) Laws.nil 200 Try.f18 [cSurf.av x0, cRay.av x1] [] (cThree cIv cV cInt).dec =
      .bind (x1.o.z.sub x0.at_) fun iv0 =>
      .bind (Go.Proofs.Ythplkbeiapgclaa.hitRound x0 (Go.Proofs.Ythplkbeiapgclaa.V.mk x1.o.x x1.o.y iv0) x1.d) fun y1 =>
      .br (x0.bent)
       (
        .br (y1.snd == 1)
         (
          .fail)
         (
          .br (y1.snd != 1)
           (
            .bind ((Go.Proofs.Ythplkbeiapgclaa.Iv.none, Go.Proofs.Ythplkbeiapgclaa.V.none, y1.snd)) fun y2 =>
            .ret (y2))
           (
            .bind (Go.Proofs.Ythplkbeiapgclaa.along (Go.Proofs.Ythplkbeiapgclaa.Ray.mk (Go.Proofs.Ythplkbeiapgclaa.V.mk x1.o.x x1.o.y iv0) x1.d) y1.fst) fun v3 =>
            .bind (v3.right) fun b4 =>
            .br (!b4)
             (
              .bind ((Go.Proofs.Ythplkbeiapgclaa.Iv.none, Go.Proofs.Ythplkbeiapgclaa.V.none, 0)) fun y5 =>
              .ret (y5))
             (
              .ret ((y1.fst, v3, 1))))))
       (
        .br (y1.snd != 1)
         (
          .bind ((Go.Proofs.Ythplkbeiapgclaa.Iv.none, Go.Proofs.Ythplkbeiapgclaa.V.none, y1.snd)) fun y6 =>
          .ret (y6))
         (
          .bind (Go.Proofs.Ythplkbeiapgclaa.along (Go.Proofs.Ythplkbeiapgclaa.Ray.mk (Go.Proofs.Ythplkbeiapgclaa.V.mk x1.o.x x1.o.y iv0) x1.d) y1.fst) fun v7 =>
          .bind (v7.right) fun b8 =>
          .br (!b8)
           (
            .bind ((Go.Proofs.Ythplkbeiapgclaa.Iv.none, Go.Proofs.Ythplkbeiapgclaa.V.none, 0)) fun y9 =>
            .ret (y9))
           (
            .ret ((y1.fst, v7, 1))))) := by kernel_rfl
theorem c_hit_Of (x0 : Surf) (x1 : Ray) (h : (fun s _ => !s.bent) x0 x1 = true) : Plain Try.prog 18 [cSurf.enc x0, cRay.enc x1] ((cThree cIv cV cInt).enc (hitFlat x0 x1)) :=
  plain_of_tree (n := 200) (EnvOK.add s_vec_Right (EnvOK.add s_iv_Sub (EnvOK.add s_hit_round (EnvOK.add s_hit_none (EnvOK.add s_vec_Along EnvOK.nil))))) Try.func18 (args := [cSurf.av x0, cRay.av x1]) (by simp only [AV.vals, Cod.av_val]) (Nat.le_of_ble_eq_true (by kernel_rfl)) LFn.nil (cThree cIv cV cInt) (by
    rw [t_hit_Of]
    simp at h
    simp only [den_br, den_bind, den_ret, den_fail, h, hitFlat, hitEnd, Ray.back]
    grind)
theorem s_hit_Of : Ev.Spec Try.prog 18 (F2p cSurf cRay (cThree cIv cV cInt) (fun s _ => !s.bent) hitFlat) := spec2p (fun vs w => Try.call18 vs w) c_hit_Of

/-! meniscuslaw15.plane -/
theorem t_meniscuslaw15_plane (x0 : Iv) :
    evFn Try.prog (Env.add 16 (F1 cInt cIv Iv.whole) (Env.add 22 (F1 cInt cIv Iv.point) Env.nil)) Laws.nil 200 Try.f15 [cIv.av x0] [] cSurf.dec =
      .bind (Go.Proofs.Ythplkbeiapgclaa.Iv.point 0) fun iv0 =>
      .bind (Go.Proofs.Ythplkbeiapgclaa.Iv.whole 1) fun iv1 =>
      .bind (Go.Proofs.Ythplkbeiapgclaa.Iv.point 0) fun iv2 =>
      .bind (Go.Proofs.Ythplkbeiapgclaa.Iv.point 0) fun iv3 =>
      .bind (Go.Proofs.Ythplkbeiapgclaa.Iv.whole 100) fun iv4 =>
      .bind (Go.Proofs.Ythplkbeiapgclaa.Iv.whole 1) fun iv5 =>
      .ret (Go.Proofs.Ythplkbeiapgclaa.Surf.mk Bool.false Bool.false iv0 iv1 iv2 iv3 x0 iv4 iv5) := by kernel_rfl
theorem c_meniscuslaw15_plane (x0 : Iv) : Plain Try.prog 15 [cIv.enc x0] (cSurf.enc (planeAt x0)) :=
  plain_of_tree (n := 200) (EnvOK.add s_iv_Whole (EnvOK.add s_iv_Point EnvOK.nil)) Try.func15 (args := [cIv.av x0]) (by simp only [AV.vals, Cod.av_val]) (Nat.le_of_ble_eq_true (by kernel_rfl)) LFn.nil cSurf (by
    rw [t_meniscuslaw15_plane]
    rfl)
theorem s_meniscuslaw15_plane : Ev.Spec Try.prog 15 (F1 cIv cSurf planeAt) := spec1 (fun vs w => Try.call15 vs w) c_meniscuslaw15_plane

/-! meniscuslaw15.axis -/
theorem t_meniscuslaw15_axis (x0 : Iv) :
    evFn Try.prog (Env.add 16 (F1 cInt cIv Iv.whole) (Env.add 22 (F1 cInt cIv Iv.point) (Env.add 25 (F3 cIv cIv cIv cV V.mk) Env.nil))) Laws.nil 200 Try.f19 [cIv.av x0] [] cRay.dec =
      .bind (Go.Proofs.Ythplkbeiapgclaa.Iv.point 0) fun iv0 =>
      .bind (Go.Proofs.Ythplkbeiapgclaa.Iv.point 0) fun iv1 =>
      .bind (Go.Proofs.Ythplkbeiapgclaa.V.mk x0 iv0 iv1) fun v2 =>
      .bind (Go.Proofs.Ythplkbeiapgclaa.Iv.point 0) fun iv3 =>
      .bind (Go.Proofs.Ythplkbeiapgclaa.Iv.point 0) fun iv4 =>
      .bind (Go.Proofs.Ythplkbeiapgclaa.Iv.whole 1) fun iv5 =>
      .bind (Go.Proofs.Ythplkbeiapgclaa.V.mk iv3 iv4 iv5) fun v6 =>
      .ret (Go.Proofs.Ythplkbeiapgclaa.Ray.mk v2 v6) := by kernel_rfl
theorem c_meniscuslaw15_axis (x0 : Iv) : Plain Try.prog 19 [cIv.enc x0] (cRay.enc (axisAt x0)) :=
  plain_of_tree (n := 200) (EnvOK.add s_iv_Whole (EnvOK.add s_iv_Point (EnvOK.add s_vec_Of EnvOK.nil))) Try.func19 (args := [cIv.av x0]) (by simp only [AV.vals, Cod.av_val]) (Nat.le_of_ble_eq_true (by kernel_rfl)) LFn.nil cRay (by
    rw [t_meniscuslaw15_axis]
    rfl)
theorem s_meniscuslaw15_axis : Ev.Spec Try.prog 19 (F1 cIv cRay axisAt) := spec1 (fun vs w => Try.call19 vs w) c_meniscuslaw15_axis

/-! meniscushand.Pick -/
theorem t_meniscushand_Pick (x0 : Int) (x1 : Int) :
    evFn Try.prog Env.nil Laws.nil 200 Try.f36 [cInt.av x0, cInt.av x1] [] cInt.dec =
      .br (x1 != 0)
       (
        .br (Decidable.decide (x0.tmod x1 < 0))
         (
          .ret (Go.IntKind.i64.wrap (x0.tmod x1 + x1)))
         (
          .ret (x0.tmod x1)))
       (
        .fail) := by kernel_rfl
theorem c_meniscushand_Pick (x0 : Int) (x1 : Int) (h : pickOk x0 x1 = true) : Plain Try.prog 36 [cInt.enc x0, cInt.enc x1] (cInt.enc (pick x0 x1)) :=
  plain_of_tree (n := 200) EnvOK.nil Try.func36 (args := [cInt.av x0, cInt.av x1]) (by simp only [AV.vals, Cod.av_val]) (Nat.le_of_ble_eq_true (by kernel_rfl)) LFn.nil cInt (by
    rw [t_meniscushand_Pick]
    simp [pickOk] at h
    have p := tmod_pick x0 h.1
    have hne : (x1 != 0) = true := by simp; omega
    simp only [Tr.den, hne]
    by_cases hlt : x0.tmod x1 < 0
    · simp only [hlt, decide_true]
      rw [IntWalk.i64_in _ (by omega), p.1 hlt]
    · simp only [hlt, decide_false]
      rw [p.2.1 (by omega)])
theorem s_meniscushand_Pick : Ev.Spec Try.prog 36 (F2p cInt cInt cInt pickOk pick) := spec2p (fun vs w => Try.call36 vs w) c_meniscushand_Pick

/-! meniscusref1.In -/
theorem t_meniscusref1_In (x0 : Int) :
    evFn Try.prog Env.nil Laws.nil 200 Try.f85 [cInt.av x0] [] cBool.dec =
      .br (Decidable.decide (x0 ≥ -1073741824))
       (
        .ret (Decidable.decide (x0 ≤ 1073741824)))
       (
        .ret (Bool.false)) := by kernel_rfl
theorem c_meniscusref1_In (x0 : Int) : Plain Try.prog 85 [cInt.enc x0] (cBool.enc (numIn x0)) :=
  plain_of_tree (n := 200) EnvOK.nil Try.func85 (args := [cInt.av x0]) (by simp only [AV.vals, Cod.av_val]) (Nat.le_of_ble_eq_true (by kernel_rfl)) LFn.nil cBool (by
    rw [t_meniscusref1_In]
    simp only [Tr.den]
    grind [numIn])
theorem s_meniscusref1_In : Ev.Spec Try.prog 85 (F1 cInt cBool numIn) := spec1 (fun vs w => Try.call85 vs w) c_meniscusref1_In

/-! meniscusref1.Right -/
theorem t_meniscusref1_Right (x0 : Iv) :
    evFn Try.prog (Env.add 85 (F1 cInt cBool numIn) Env.nil) Laws.nil 200 Try.f37 [cIv.av x0] [] cBool.dec =
      .br (!x0.no)
       (
        .bind (Go.Proofs.Ythplkbeiapgclaa.numIn x0.lo) fun b0 =>
        .br (b0)
         (
          .bind (Go.Proofs.Ythplkbeiapgclaa.numIn x0.hi) fun b1 =>
          .br (b1)
           (
            .ret (Decidable.decide (x0.lo ≤ x0.hi)))
           (
            .ret (Bool.false)))
         (
          .ret (Bool.false)))
       (
        .ret (Bool.false)) := by kernel_rfl
theorem c_meniscusref1_Right (x0 : Iv) : Plain Try.prog 37 [cIv.enc x0] (cBool.enc (Iv.right x0)) :=
  plain_of_tree (n := 200) (EnvOK.add s_meniscusref1_In EnvOK.nil) Try.func37 (args := [cIv.av x0]) (by simp only [AV.vals, Cod.av_val]) (Nat.le_of_ble_eq_true (by kernel_rfl)) LFn.nil cBool (by
    rw [t_meniscusref1_Right]
    simp only [Tr.den]
    grind [Iv.right])
theorem s_meniscusref1_Right : Ev.Spec Try.prog 37 (F1 cIv cBool Iv.right) := spec1 (fun vs w => Try.call37 vs w) c_meniscusref1_Right

/-! meniscuslaw15.known -/
theorem t_meniscuslaw15_known  :
    evFn Try.prog (Env.add 15 (F1 cIv cSurf planeAt) (Env.add 16 (F1 cInt cIv Iv.whole) (Env.add 18 (F2p cSurf cRay (cThree cIv cV cInt) (fun s _ => !s.bent) hitFlat) (Env.add 19 (F1 cIv cRay axisAt) (Env.add 22 (F1 cInt cIv Iv.point) (Env.add 25 (F3 cIv cIv cIv cV V.mk) (Env.add 34 (F1 cIv cBool Iv.right) Env.nil))))))) Laws.nil 200 Try.f23 [] [] cBool.dec =
      .bind (Go.Proofs.Ythplkbeiapgclaa.Iv.whole 10) fun iv0 =>
      .bind (Go.Proofs.Ythplkbeiapgclaa.planeAt iv0) fun su1 =>
      .bind (Go.Proofs.Ythplkbeiapgclaa.Iv.point 0) fun iv2 =>
      .bind (Go.Proofs.Ythplkbeiapgclaa.axisAt iv2) fun ra3 =>
      .br (!su1.bent)
       (
        .bind (Go.Proofs.Ythplkbeiapgclaa.hitFlat su1 ra3) fun y4 =>
        .br (y4.snd.snd == 1)
         (
          .bind (Go.Proofs.Ythplkbeiapgclaa.Iv.whole 10) fun iv5 =>
          .br (y4.fst.lo == iv5.lo && (y4.fst.hi == iv5.hi && y4.fst.no == iv5.no))
           (
            .bind (Go.Proofs.Ythplkbeiapgclaa.Iv.point 0) fun iv6 =>
            .bind (Go.Proofs.Ythplkbeiapgclaa.Iv.point 0) fun iv7 =>
            .bind (Go.Proofs.Ythplkbeiapgclaa.Iv.point 0) fun iv8 =>
            .bind (Go.Proofs.Ythplkbeiapgclaa.V.mk iv6 iv7 iv8) fun v9 =>
            .br (y4.snd.fst.x.lo == v9.x.lo && (y4.snd.fst.x.hi == v9.x.hi && y4.snd.fst.x.no == v9.x.no) && (y4.snd.fst.y.lo == v9.y.lo && (y4.snd.fst.y.hi == v9.y.hi && y4.snd.fst.y.no == v9.y.no) && (y4.snd.fst.z.lo == v9.z.lo && (y4.snd.fst.z.hi == v9.z.hi && y4.snd.fst.z.no == v9.z.no))))
             (
              .bind (y4.fst.right) fun b10 =>
              .ret (b10))
             (
              .ret (Bool.false)))
           (
            .ret (Bool.false)))
         (
          .ret (Bool.false)))
       (
        .fail) := by kernel_rfl
theorem c_meniscuslaw15_known  : Plain Try.prog 23 [] (cBool.enc (true)) :=
  plain_of_tree (n := 200) (EnvOK.add s_meniscuslaw15_plane (EnvOK.add s_iv_Whole (EnvOK.add s_hit_Of (EnvOK.add s_meniscuslaw15_axis (EnvOK.add s_iv_Point (EnvOK.add s_vec_Of (EnvOK.add s_iv_Right EnvOK.nil))))))) Try.func23 (args := []) rfl (Nat.le_of_ble_eq_true (by kernel_rfl)) LFn.nil cBool (by
    rw [t_meniscuslaw15_known]
    decide +kernel)
theorem s_meniscuslaw15_known : Ev.Spec Try.prog 23 (F0 cBool true) := spec0 (fun vs w => Try.call23 vs w) c_meniscuslaw15_known

/-! normal.Of -/
theorem t_normal_Of (x0 : Surf) (x1 : V) :
    evFn Try.prog (Env.add 22 (F1 cInt cIv Iv.point) (Env.add 25 (F3 cIv cIv cIv cV V.mk) (Env.add 29 (F2 cIv cIv cIv Iv.sub) (Env.add 30 (F2 cIv cIv cIv Iv.mul) (Env.add 32 (F2 cIv cIv cIv Iv.add) (Env.add 33 (F1 cIv cIv Iv.sqr) (Env.add 46 (F1 cV cV V.unit) (Env.add 80 (F1 cIv cIv Iv.neg) (Env.add 100 (F2 cIv cInt cIv Iv.times) Env.nil))))))))) Laws.nil 200 Try.f88 [cSurf.av x0, cV.av x1] [] cV.dec =
      .bind (Go.Proofs.Ythplkbeiapgclaa.Iv.point 65536) fun iv0 =>
      .br (!x0.bent)
       (
        .bind (x0.curve.mul x1.x) fun iv1 =>
        .bind (iv1.neg) fun iv2 =>
        .bind (x0.curve.mul x1.y) fun iv3 =>
        .bind (iv3.neg) fun iv4 =>
        .bind (x0.conic.mul x1.z) fun iv5 =>
        .bind (x0.curve.mul iv5) fun iv6 =>
        .bind (iv0.sub iv6) fun iv7 =>
        .bind (Go.Proofs.Ythplkbeiapgclaa.V.mk iv2 iv4 iv7) fun v8 =>
        .bind (v8.unit) fun v9 =>
        .ret (v9))
       (
        .bind (x1.x.sqr) fun iv10 =>
        .bind (x1.y.sqr) fun iv11 =>
        .bind (iv10.add iv11) fun iv12 =>
        .fail) := by kernel_rfl
theorem c_normal_Of (x0 : Surf) (x1 : V) (h : (fun s _ => !s.bent) x0 x1 = true) : Plain Try.prog 88 [cSurf.enc x0, cV.enc x1] (cV.enc (normalFlat x0 x1)) :=
  plain_of_tree (n := 200) (EnvOK.add s_iv_Point (EnvOK.add s_vec_Of (EnvOK.add s_iv_Sub (EnvOK.add s_iv_Mul (EnvOK.add s_iv_Add (EnvOK.add s_iv_Sqr (EnvOK.add s_vec_Unit (EnvOK.add s_iv_Neg (EnvOK.add s_iv_Times EnvOK.nil))))))))) Try.func88 (args := [cSurf.av x0, cV.av x1]) (by simp only [AV.vals, Cod.av_val]) (Nat.le_of_ble_eq_true (by kernel_rfl)) LFn.nil cV (by
    rw [t_normal_Of]
    simp at h
    simp only [den_br, den_bind, den_ret, den_fail, h, normalFlat]
    rfl)
theorem s_normal_Of : Ev.Spec Try.prog 88 (F2p cSurf cV cV (fun s _ => !s.bent) normalFlat) := spec2p (fun vs w => Try.call88 vs w) c_normal_Of

/-! step.Go -/
theorem t_step_Go (x0 : Surf) (x1 : Ray) :
    evFn Try.prog (Env.add 18 (F2p cSurf cRay (cThree cIv cV cInt) (fun s _ => !s.bent) hitFlat) (Env.add 32 (F2 cIv cIv cIv Iv.add) (Env.add 33 (F1 cIv cIv Iv.sqr) (Env.add 86 (F2 cIv cIv cInt notAbove) (Env.add 87 (F3 cV cV cIv (cTwo cV cInt) bend) (Env.add 88 (F2p cSurf cV cV (fun s _ => !s.bent) normalFlat) (Env.add 89 (F0 cRay Ray.none) Env.nil))))))) Laws.nil 200 Try.f41 [cSurf.av x0, cRay.av x1] [] (cTwo cRay cInt).dec =
      .br (!x0.bent)
       (
        .bind (Go.Proofs.Ythplkbeiapgclaa.hitFlat x0 x1) fun y0 =>
        .br (y0.snd.snd != 1)
         (
          .br (y0.snd.snd == 2)
           (
            .bind (Go.Proofs.Ythplkbeiapgclaa.Ray.none) fun ra1 =>
            .ret ((ra1, 2)))
           (
            .bind (Go.Proofs.Ythplkbeiapgclaa.Ray.none) fun ra2 =>
            .ret ((ra2, 3))))
         (
          .bind (y0.snd.fst.x.sqr) fun iv3 =>
          .bind (y0.snd.fst.y.sqr) fun iv4 =>
          .bind (iv3.add iv4) fun iv5 =>
          .bind (Go.Proofs.Ythplkbeiapgclaa.notAbove iv5 x0.open2) fun n6 =>
          .br (n6 != 1)
           (
            .br (n6 == 2)
             (
              .bind (Go.Proofs.Ythplkbeiapgclaa.Ray.none) fun ra7 =>
              .ret ((ra7, 2)))
             (
              .bind (Go.Proofs.Ythplkbeiapgclaa.Ray.none) fun ra8 =>
              .ret ((ra8, 3))))
           (
            .bind (y0.snd.fst.z.add x0.at_) fun iv9 =>
            .br (iv9.no)
             (
              .bind (Go.Proofs.Ythplkbeiapgclaa.Ray.none) fun ra10 =>
              .ret ((ra10, 3)))
             (
              .br (x0.stop)
               (
                .ret ((Go.Proofs.Ythplkbeiapgclaa.Ray.mk (Go.Proofs.Ythplkbeiapgclaa.V.mk y0.snd.fst.x y0.snd.fst.y iv9) x1.d, 1)))
               (
                .br (!x0.bent)
                 (
                  .bind (Go.Proofs.Ythplkbeiapgclaa.normalFlat x0 y0.snd.fst) fun v11 =>
                  .bind (Go.Proofs.Ythplkbeiapgclaa.bend x1.d v11 x0.ratio) fun y12 =>
                  .br (y12.snd != 1)
                   (
                    .br (y12.snd == 2)
                     (
                      .bind (Go.Proofs.Ythplkbeiapgclaa.Ray.none) fun ra13 =>
                      .ret ((ra13, 2)))
                     (
                      .bind (Go.Proofs.Ythplkbeiapgclaa.Ray.none) fun ra14 =>
                      .ret ((ra14, 3))))
                   (
                    .ret ((Go.Proofs.Ythplkbeiapgclaa.Ray.mk (Go.Proofs.Ythplkbeiapgclaa.V.mk y0.snd.fst.x y0.snd.fst.y iv9) y12.fst, 1))))
                 (
                  .fail))))))
       (
        .fail) := by kernel_rfl
theorem c_step_Go (x0 : Surf) (x1 : Ray) (h : (fun s _ => !s.bent) x0 x1 = true) : Plain Try.prog 41 [cSurf.enc x0, cRay.enc x1] ((cTwo cRay cInt).enc (stepFlat x0 x1)) :=
  plain_of_tree (n := 200) (EnvOK.add s_hit_Of (EnvOK.add s_iv_Add (EnvOK.add s_iv_Sqr (EnvOK.add s_tri_NotAbove (EnvOK.add s_snell_Bend (EnvOK.add s_normal_Of (EnvOK.add s_step_nones EnvOK.nil))))))) Try.func41 (args := [cSurf.av x0, cRay.av x1]) (by simp only [AV.vals, Cod.av_val]) (Nat.le_of_ble_eq_true (by kernel_rfl)) LFn.nil (cTwo cRay cInt) (by
    rw [t_step_Go]
    simp at h
    simp only [den_br, den_bind, den_ret, den_fail, h, stepFlat, stepEnd, lost, decide_eq_true_eq]
    grind)
theorem s_step_Go : Ev.Spec Try.prog 41 (F2p cSurf cRay (cTwo cRay cInt) (fun s _ => !s.bent) stepFlat) := spec2p (fun vs w => Try.call41 vs w) c_step_Go

/-! meniscusref1.None -/
theorem t_meniscusref1_None  :
    evFn Try.prog Env.nil Laws.nil 200 Try.f130 [] [] cIv.dec =
      .ret (Go.Proofs.Ythplkbeiapgclaa.Iv.mk 0 0 Bool.true) := by kernel_rfl
theorem c_meniscusref1_None  : Plain Try.prog 130 [] (cIv.enc (Iv.none)) :=
  plain_of_tree (n := 200) EnvOK.nil Try.func130 (args := []) rfl (Nat.le_of_ble_eq_true (by kernel_rfl)) LFn.nil cIv (by
    rw [t_meniscusref1_None]
    rfl)
theorem s_meniscusref1_None : Ev.Spec Try.prog 130 (F0 cIv Iv.none) := spec0 (fun vs w => Try.call130 vs w) c_meniscusref1_None

/-! meniscusref14.none -/
theorem t_meniscusref14_none  :
    evFn Try.prog (Env.add 130 (F0 cIv Iv.none) Env.nil) Laws.nil 200 Try.f165 [] [] cIv.dec =
      .bind (Go.Proofs.Ythplkbeiapgclaa.Iv.none) fun iv0 =>
      .ret (iv0) := by kernel_rfl
theorem c_meniscusref14_none  : Plain Try.prog 165 [] (cIv.enc (Iv.none)) :=
  plain_of_tree (n := 200) (EnvOK.add s_meniscusref1_None EnvOK.nil) Try.func165 (args := []) rfl (Nat.le_of_ble_eq_true (by kernel_rfl)) LFn.nil cIv (by
    rw [t_meniscusref14_none]
    rfl)
theorem s_meniscusref14_none : Ev.Spec Try.prog 165 (F0 cIv Iv.none) := spec0 (fun vs w => Try.call165 vs w) c_meniscusref14_none

/-! meniscusref14.NoV -/
theorem t_meniscusref14_NoV  :
    evFn Try.prog (Env.add 165 (F0 cIv Iv.none) Env.nil) Laws.nil 200 Try.f138 [] [] cV.dec =
      .bind (Go.Proofs.Ythplkbeiapgclaa.Iv.none) fun iv0 =>
      .bind (Go.Proofs.Ythplkbeiapgclaa.Iv.none) fun iv1 =>
      .bind (Go.Proofs.Ythplkbeiapgclaa.Iv.none) fun iv2 =>
      .ret (Go.Proofs.Ythplkbeiapgclaa.V.mk iv0 iv1 iv2) := by kernel_rfl
theorem c_meniscusref14_NoV  : Plain Try.prog 138 [] (cV.enc (V.none)) :=
  plain_of_tree (n := 200) (EnvOK.add s_meniscusref14_none EnvOK.nil) Try.func138 (args := []) rfl (Nat.le_of_ble_eq_true (by kernel_rfl)) LFn.nil cV (by
    rw [t_meniscusref14_NoV]
    rfl)
theorem s_meniscusref14_NoV : Ev.Spec Try.prog 138 (F0 cV V.none) := spec0 (fun vs w => Try.call138 vs w) c_meniscusref14_NoV

/-! meniscusref14.NoRay -/
theorem t_meniscusref14_NoRay  :
    evFn Try.prog (Env.add 138 (F0 cV V.none) Env.nil) Laws.nil 200 Try.f90 [] [] cRay.dec =
      .bind (Go.Proofs.Ythplkbeiapgclaa.V.none) fun v0 =>
      .bind (Go.Proofs.Ythplkbeiapgclaa.V.none) fun v1 =>
      .ret (Go.Proofs.Ythplkbeiapgclaa.Ray.mk v0 v1) := by kernel_rfl
theorem c_meniscusref14_NoRay  : Plain Try.prog 90 [] (cRay.enc (Ray.none)) :=
  plain_of_tree (n := 200) (EnvOK.add s_meniscusref14_NoV EnvOK.nil) Try.func90 (args := []) rfl (Nat.le_of_ble_eq_true (by kernel_rfl)) LFn.nil cRay (by
    rw [t_meniscusref14_NoRay]
    rfl)
theorem s_meniscusref14_NoRay : Ev.Spec Try.prog 90 (F0 cRay Ray.none) := spec0 (fun vs w => Try.call90 vs w) c_meniscusref14_NoRay

/-! meniscushand.NoRay -/
theorem t_meniscushand_NoRay  :
    evFn Try.prog (Env.add 90 (F0 cRay Ray.none) Env.nil) Laws.nil 200 Try.f44 [] [] cRay.dec =
      .bind (Go.Proofs.Ythplkbeiapgclaa.Ray.none) fun ra0 =>
      .ret (ra0) := by kernel_rfl
theorem c_meniscushand_NoRay  : Plain Try.prog 44 [] (cRay.enc (Ray.none)) :=
  plain_of_tree (n := 200) (EnvOK.add s_meniscusref14_NoRay EnvOK.nil) Try.func44 (args := []) rfl (Nat.le_of_ble_eq_true (by kernel_rfl)) LFn.nil cRay (by
    rw [t_meniscushand_NoRay]
    rfl)
theorem s_meniscushand_NoRay : Ev.Spec Try.prog 44 (F0 cRay Ray.none) := spec0 (fun vs w => Try.call44 vs w) c_meniscushand_NoRay

/-! meniscuslaw18.plane -/
theorem t_meniscuslaw18_plane (x0 : Iv) (x1 : Iv) (x2 : Iv) :
    evFn Try.prog (Env.add 16 (F1 cInt cIv Iv.whole) (Env.add 22 (F1 cInt cIv Iv.point) Env.nil)) Laws.nil 200 Try.f40 [cIv.av x0, cIv.av x1, cIv.av x2] [] cSurf.dec =
      .bind (Go.Proofs.Ythplkbeiapgclaa.Iv.point 0) fun iv0 =>
      .bind (Go.Proofs.Ythplkbeiapgclaa.Iv.whole 1) fun iv1 =>
      .bind (Go.Proofs.Ythplkbeiapgclaa.Iv.point 0) fun iv2 =>
      .bind (Go.Proofs.Ythplkbeiapgclaa.Iv.point 0) fun iv3 =>
      .ret (Go.Proofs.Ythplkbeiapgclaa.Surf.mk Bool.false Bool.false iv0 iv1 iv2 iv3 x0 x2 x1) := by kernel_rfl
theorem c_meniscuslaw18_plane (x0 : Iv) (x1 : Iv) (x2 : Iv) : Plain Try.prog 40 [cIv.enc x0, cIv.enc x1, cIv.enc x2] (cSurf.enc (planeOf x0 x1 x2)) :=
  plain_of_tree (n := 200) (EnvOK.add s_iv_Whole (EnvOK.add s_iv_Point EnvOK.nil)) Try.func40 (args := [cIv.av x0, cIv.av x1, cIv.av x2]) (by simp only [AV.vals, Cod.av_val]) (Nat.le_of_ble_eq_true (by kernel_rfl)) LFn.nil cSurf (by
    rw [t_meniscuslaw18_plane]
    rfl)
theorem s_meniscuslaw18_plane : Ev.Spec Try.prog 40 (F3 cIv cIv cIv cSurf planeOf) := spec3 (fun vs w => Try.call40 vs w) c_meniscuslaw18_plane

/-! meniscuslaw18.axis -/
theorem t_meniscuslaw18_axis (x0 : Iv) :
    evFn Try.prog (Env.add 16 (F1 cInt cIv Iv.whole) (Env.add 22 (F1 cInt cIv Iv.point) (Env.add 25 (F3 cIv cIv cIv cV V.mk) Env.nil))) Laws.nil 200 Try.f42 [cIv.av x0] [] cRay.dec =
      .bind (Go.Proofs.Ythplkbeiapgclaa.Iv.point 0) fun iv0 =>
      .bind (Go.Proofs.Ythplkbeiapgclaa.Iv.point 0) fun iv1 =>
      .bind (Go.Proofs.Ythplkbeiapgclaa.V.mk x0 iv0 iv1) fun v2 =>
      .bind (Go.Proofs.Ythplkbeiapgclaa.Iv.point 0) fun iv3 =>
      .bind (Go.Proofs.Ythplkbeiapgclaa.Iv.point 0) fun iv4 =>
      .bind (Go.Proofs.Ythplkbeiapgclaa.Iv.whole 1) fun iv5 =>
      .bind (Go.Proofs.Ythplkbeiapgclaa.V.mk iv3 iv4 iv5) fun v6 =>
      .ret (Go.Proofs.Ythplkbeiapgclaa.Ray.mk v2 v6) := by kernel_rfl
theorem c_meniscuslaw18_axis (x0 : Iv) : Plain Try.prog 42 [cIv.enc x0] (cRay.enc (axisAt x0)) :=
  plain_of_tree (n := 200) (EnvOK.add s_iv_Whole (EnvOK.add s_iv_Point (EnvOK.add s_vec_Of EnvOK.nil))) Try.func42 (args := [cIv.av x0]) (by simp only [AV.vals, Cod.av_val]) (Nat.le_of_ble_eq_true (by kernel_rfl)) LFn.nil cRay (by
    rw [t_meniscuslaw18_axis]
    rfl)
theorem s_meniscuslaw18_axis : Ev.Spec Try.prog 42 (F1 cIv cRay axisAt) := spec1 (fun vs w => Try.call42 vs w) c_meniscuslaw18_axis

/-! meniscuslaw18.known -/
theorem t_meniscuslaw18_known  :
    evFn Try.prog (Env.add 16 (F1 cInt cIv Iv.whole) (Env.add 22 (F1 cInt cIv Iv.point) (Env.add 25 (F3 cIv cIv cIv cV V.mk) (Env.add 40 (F3 cIv cIv cIv cSurf planeOf) (Env.add 41 (F2p cSurf cRay (cTwo cRay cInt) (fun s _ => !s.bent) stepFlat) (Env.add 42 (F1 cIv cRay axisAt) (Env.add 44 (F0 cRay Ray.none) Env.nil))))))) Laws.nil 200 Try.f43 [] [] cBool.dec =
      .bind (Go.Proofs.Ythplkbeiapgclaa.Iv.whole 5) fun iv0 =>
      .bind (Go.Proofs.Ythplkbeiapgclaa.Iv.whole 1) fun iv1 =>
      .bind (Go.Proofs.Ythplkbeiapgclaa.Iv.whole 9) fun iv2 =>
      .bind (Go.Proofs.Ythplkbeiapgclaa.planeOf iv0 iv1 iv2) fun su3 =>
      .bind (Go.Proofs.Ythplkbeiapgclaa.Iv.whole 4) fun iv4 =>
      .bind (Go.Proofs.Ythplkbeiapgclaa.axisAt iv4) fun ra5 =>
      .br (!su3.bent)
       (
        .bind (Go.Proofs.Ythplkbeiapgclaa.stepFlat su3 ra5) fun y6 =>
        .bind (Go.Proofs.Ythplkbeiapgclaa.Iv.whole 5) fun iv7 =>
        .bind (Go.Proofs.Ythplkbeiapgclaa.Iv.whole 1) fun iv8 =>
        .bind (Go.Proofs.Ythplkbeiapgclaa.Iv.whole 9) fun iv9 =>
        .bind (Go.Proofs.Ythplkbeiapgclaa.planeOf iv7 iv8 iv9) fun su10 =>
        .bind (Go.Proofs.Ythplkbeiapgclaa.Iv.whole 2) fun iv11 =>
        .bind (Go.Proofs.Ythplkbeiapgclaa.axisAt iv11) fun ra12 =>
        .br (!su10.bent)
         (
          .bind (Go.Proofs.Ythplkbeiapgclaa.stepFlat su10 ra12) fun y13 =>
          .br (y6.snd == 2)
           (
            .bind (Go.Proofs.Ythplkbeiapgclaa.Ray.none) fun ra14 =>
            .br (y6.fst.o.x.lo == ra14.o.x.lo && (y6.fst.o.x.hi == ra14.o.x.hi && y6.fst.o.x.no == ra14.o.x.no) && (y6.fst.o.y.lo == ra14.o.y.lo && (y6.fst.o.y.hi == ra14.o.y.hi && y6.fst.o.y.no == ra14.o.y.no) && (y6.fst.o.z.lo == ra14.o.z.lo && (y6.fst.o.z.hi == ra14.o.z.hi && y6.fst.o.z.no == ra14.o.z.no))) && (y6.fst.d.x.lo == ra14.d.x.lo && (y6.fst.d.x.hi == ra14.d.x.hi && y6.fst.d.x.no == ra14.d.x.no) && (y6.fst.d.y.lo == ra14.d.y.lo && (y6.fst.d.y.hi == ra14.d.y.hi && y6.fst.d.y.no == ra14.d.y.no) && (y6.fst.d.z.lo == ra14.d.z.lo && (y6.fst.d.z.hi == ra14.d.z.hi && y6.fst.d.z.no == ra14.d.z.no)))))
             (
              .br (y13.snd == 1)
               (
                .bind (Go.Proofs.Ythplkbeiapgclaa.Iv.whole 2) fun iv15 =>
                .bind (Go.Proofs.Ythplkbeiapgclaa.Iv.point 0) fun iv16 =>
                .bind (Go.Proofs.Ythplkbeiapgclaa.Iv.whole 5) fun iv17 =>
                .bind (Go.Proofs.Ythplkbeiapgclaa.V.mk iv15 iv16 iv17) fun v18 =>
                .ret (y13.fst.o.x.lo == v18.x.lo && (y13.fst.o.x.hi == v18.x.hi && y13.fst.o.x.no == v18.x.no) && (y13.fst.o.y.lo == v18.y.lo && (y13.fst.o.y.hi == v18.y.hi && y13.fst.o.y.no == v18.y.no) && (y13.fst.o.z.lo == v18.z.lo && (y13.fst.o.z.hi == v18.z.hi && y13.fst.o.z.no == v18.z.no)))))
               (
                .ret (Bool.false)))
             (
              .ret (Bool.false)))
           (
            .ret (Bool.false)))
         (
          .fail))
       (
        .fail) := by kernel_rfl
theorem c_meniscuslaw18_known  : Plain Try.prog 43 [] (cBool.enc (true)) :=
  plain_of_tree (n := 200) (EnvOK.add s_iv_Whole (EnvOK.add s_iv_Point (EnvOK.add s_vec_Of (EnvOK.add s_meniscuslaw18_plane (EnvOK.add s_step_Go (EnvOK.add s_meniscuslaw18_axis (EnvOK.add s_meniscushand_NoRay EnvOK.nil))))))) Try.func43 (args := []) rfl (Nat.le_of_ble_eq_true (by kernel_rfl)) LFn.nil cBool (by
    rw [t_meniscuslaw18_known]
    decide +kernel)
theorem s_meniscuslaw18_known : Ev.Spec Try.prog 43 (F0 cBool true) := spec0 (fun vs w => Try.call43 vs w) c_meniscuslaw18_known

/-! meniscuslaw18.StepKnown -/
theorem t_meniscuslaw18_StepKnown  :
    evFn Try.prog (Env.add 16 (F1 cInt cIv Iv.whole) (Env.add 17 (F2 cIv cIv cIv Iv.div) (Env.add 20 (F2 cInt cInt cIv Iv.of) (Env.add 22 (F1 cInt cIv Iv.point) (Env.add 24 (F2 cIv cInt cBool Iv.has) (Env.add 25 (F3 cIv cIv cIv cV V.mk) (Env.add 40 (F3 cIv cIv cIv cSurf planeOf) (Env.add 41 (F2p cSurf cRay (cTwo cRay cInt) (fun s _ => !s.bent) stepFlat) (Env.add 42 (F1 cIv cRay axisAt) (Env.add 43 (F0 cBool true) (Env.add 44 (F0 cRay Ray.none) Env.nil))))))))))) Laws.nil 200 Try.f8 [] [] cBool.dec =
      .bind (Go.Proofs.Ythplkbeiapgclaa.Iv.whole 5) fun iv0 =>
      .bind (Go.Proofs.Ythplkbeiapgclaa.Iv.whole 1) fun iv1 =>
      .bind (Go.Proofs.Ythplkbeiapgclaa.Iv.whole 9) fun iv2 =>
      .bind (Go.Proofs.Ythplkbeiapgclaa.planeOf iv0 iv1 iv2) fun su3 =>
      .bind (Go.Proofs.Ythplkbeiapgclaa.Iv.point 0) fun iv4 =>
      .bind (Go.Proofs.Ythplkbeiapgclaa.Iv.point 0) fun iv5 =>
      .bind (Go.Proofs.Ythplkbeiapgclaa.Iv.point 0) fun iv6 =>
      .bind (Go.Proofs.Ythplkbeiapgclaa.V.mk iv4 iv5 iv6) fun v7 =>
      .bind (Go.Proofs.Ythplkbeiapgclaa.Iv.of 39321 39322) fun iv8 =>
      .bind (Go.Proofs.Ythplkbeiapgclaa.Iv.point 0) fun iv9 =>
      .bind (Go.Proofs.Ythplkbeiapgclaa.Iv.of 52428 52429) fun iv10 =>
      .bind (Go.Proofs.Ythplkbeiapgclaa.V.mk iv8 iv9 iv10) fun v11 =>
      .bind (Go.Proofs.Ythplkbeiapgclaa.Iv.whole 3) fun iv12 =>
      .bind (Go.Proofs.Ythplkbeiapgclaa.axisAt iv12) fun ra13 =>
      .br (!su3.bent)
       (
        .bind (Go.Proofs.Ythplkbeiapgclaa.stepFlat (Go.Proofs.Ythplkbeiapgclaa.Surf.mk Bool.true su3.bent su3.curve su3.conic su3.a4 su3.a6 su3.at_ su3.open2 su3.ratio) ra13) fun y14 =>
        .bind (Go.Proofs.Ythplkbeiapgclaa.Iv.of 196608 196609) fun iv15 =>
        .bind (Go.Proofs.Ythplkbeiapgclaa.axisAt iv15) fun ra16 =>
        .br (!su3.bent)
         (
          .bind (Go.Proofs.Ythplkbeiapgclaa.stepFlat (Go.Proofs.Ythplkbeiapgclaa.Surf.mk Bool.true su3.bent su3.curve su3.conic su3.a4 su3.a6 su3.at_ su3.open2 su3.ratio) ra16) fun y17 =>
          .bind (Go.Proofs.Ythplkbeiapgclaa.Iv.whole 1) fun iv18 =>
          .bind (Go.Proofs.Ythplkbeiapgclaa.Iv.whole 2) fun iv19 =>
          .bind (Go.Proofs.Ythplkbeiapgclaa.Iv.whole 9) fun iv20 =>
          .bind (Go.Proofs.Ythplkbeiapgclaa.planeOf iv18 iv19 iv20) fun su21 =>
          .br (!su21.bent)
           (
            .bind (Go.Proofs.Ythplkbeiapgclaa.stepFlat su21 (Go.Proofs.Ythplkbeiapgclaa.Ray.mk v7 v11)) fun y22 =>
            .bind (Go.Proofs.Ythplkbeiapgclaa.Iv.whole 1) fun iv23 =>
            .bind (Go.Proofs.Ythplkbeiapgclaa.Iv.of 65536 131072) fun iv24 =>
            .bind (Go.Proofs.Ythplkbeiapgclaa.Iv.whole 9) fun iv25 =>
            .bind (Go.Proofs.Ythplkbeiapgclaa.planeOf iv23 iv24 iv25) fun su26 =>
            .br (!su26.bent)
             (
              .bind (Go.Proofs.Ythplkbeiapgclaa.stepFlat su26 (Go.Proofs.Ythplkbeiapgclaa.Ray.mk v7 v11)) fun y27 =>
              .bind (Go.Proofs.Ythplkbeiapgclaa.Iv.whole 1) fun iv28 =>
              .bind (Go.Proofs.Ythplkbeiapgclaa.Iv.whole 4) fun iv29 =>
              .bind (Go.Proofs.Ythplkbeiapgclaa.Iv.whole 5) fun iv30 =>
              .bind (iv29.div iv30) fun iv31 =>
              .bind (Go.Proofs.Ythplkbeiapgclaa.Iv.whole 9) fun iv32 =>
              .bind (Go.Proofs.Ythplkbeiapgclaa.planeOf iv28 iv31 iv32) fun su33 =>
              .br (!su33.bent)
               (
                .bind (Go.Proofs.Ythplkbeiapgclaa.stepFlat su33 (Go.Proofs.Ythplkbeiapgclaa.Ray.mk v7 v11)) fun y34 =>
                .bind (Bool.true) fun b35 =>
                .br (b35)
                 (
                  .br (y14.snd == 1)
                   (
                    .bind (Go.Proofs.Ythplkbeiapgclaa.Iv.whole 3) fun iv36 =>
                    .bind (Go.Proofs.Ythplkbeiapgclaa.Iv.point 0) fun iv37 =>
                    .bind (Go.Proofs.Ythplkbeiapgclaa.Iv.whole 5) fun iv38 =>
                    .bind (Go.Proofs.Ythplkbeiapgclaa.V.mk iv36 iv37 iv38) fun v39 =>
                    .br (y14.fst.o.x.lo == v39.x.lo && (y14.fst.o.x.hi == v39.x.hi && y14.fst.o.x.no == v39.x.no) && (y14.fst.o.y.lo == v39.y.lo && (y14.fst.o.y.hi == v39.y.hi && y14.fst.o.y.no == v39.y.no) && (y14.fst.o.z.lo == v39.z.lo && (y14.fst.o.z.hi == v39.z.hi && y14.fst.o.z.no == v39.z.no))))
                     (
                      .bind (Go.Proofs.Ythplkbeiapgclaa.Iv.point 0) fun iv40 =>
                      .bind (Go.Proofs.Ythplkbeiapgclaa.axisAt iv40) fun ra41 =>
                      .br (y14.fst.d.x.lo == ra41.d.x.lo && (y14.fst.d.x.hi == ra41.d.x.hi && y14.fst.d.x.no == ra41.d.x.no) && (y14.fst.d.y.lo == ra41.d.y.lo && (y14.fst.d.y.hi == ra41.d.y.hi && y14.fst.d.y.no == ra41.d.y.no) && (y14.fst.d.z.lo == ra41.d.z.lo && (y14.fst.d.z.hi == ra41.d.z.hi && y14.fst.d.z.no == ra41.d.z.no))))
                       (
                        .br (y17.snd == 3)
                         (
                          .bind (Go.Proofs.Ythplkbeiapgclaa.Ray.none) fun ra42 =>
                          .br (y17.fst.o.x.lo == ra42.o.x.lo && (y17.fst.o.x.hi == ra42.o.x.hi && y17.fst.o.x.no == ra42.o.x.no) && (y17.fst.o.y.lo == ra42.o.y.lo && (y17.fst.o.y.hi == ra42.o.y.hi && y17.fst.o.y.no == ra42.o.y.no) && (y17.fst.o.z.lo == ra42.o.z.lo && (y17.fst.o.z.hi == ra42.o.z.hi && y17.fst.o.z.no == ra42.o.z.no))) && (y17.fst.d.x.lo == ra42.d.x.lo && (y17.fst.d.x.hi == ra42.d.x.hi && y17.fst.d.x.no == ra42.d.x.no) && (y17.fst.d.y.lo == ra42.d.y.lo && (y17.fst.d.y.hi == ra42.d.y.hi && y17.fst.d.y.no == ra42.d.y.no) && (y17.fst.d.z.lo == ra42.d.z.lo && (y17.fst.d.z.hi == ra42.d.z.hi && y17.fst.d.z.no == ra42.d.z.no)))))
                           (
                            .br (y22.snd == 2)
                             (
                              .bind (Go.Proofs.Ythplkbeiapgclaa.Ray.none) fun ra43 =>
                              .br (y22.fst.o.x.lo == ra43.o.x.lo && (y22.fst.o.x.hi == ra43.o.x.hi && y22.fst.o.x.no == ra43.o.x.no) && (y22.fst.o.y.lo == ra43.o.y.lo && (y22.fst.o.y.hi == ra43.o.y.hi && y22.fst.o.y.no == ra43.o.y.no) && (y22.fst.o.z.lo == ra43.o.z.lo && (y22.fst.o.z.hi == ra43.o.z.hi && y22.fst.o.z.no == ra43.o.z.no))) && (y22.fst.d.x.lo == ra43.d.x.lo && (y22.fst.d.x.hi == ra43.d.x.hi && y22.fst.d.x.no == ra43.d.x.no) && (y22.fst.d.y.lo == ra43.d.y.lo && (y22.fst.d.y.hi == ra43.d.y.hi && y22.fst.d.y.no == ra43.d.y.no) && (y22.fst.d.z.lo == ra43.d.z.lo && (y22.fst.d.z.hi == ra43.d.z.hi && y22.fst.d.z.no == ra43.d.z.no)))))
                               (
                                .br (y27.snd == 3)
                                 (
                                  .bind (Go.Proofs.Ythplkbeiapgclaa.Ray.none) fun ra44 =>
                                  .br (y27.fst.o.x.lo == ra44.o.x.lo && (y27.fst.o.x.hi == ra44.o.x.hi && y27.fst.o.x.no == ra44.o.x.no) && (y27.fst.o.y.lo == ra44.o.y.lo && (y27.fst.o.y.hi == ra44.o.y.hi && y27.fst.o.y.no == ra44.o.y.no) && (y27.fst.o.z.lo == ra44.o.z.lo && (y27.fst.o.z.hi == ra44.o.z.hi && y27.fst.o.z.no == ra44.o.z.no))) && (y27.fst.d.x.lo == ra44.d.x.lo && (y27.fst.d.x.hi == ra44.d.x.hi && y27.fst.d.x.no == ra44.d.x.no) && (y27.fst.d.y.lo == ra44.d.y.lo && (y27.fst.d.y.hi == ra44.d.y.hi && y27.fst.d.y.no == ra44.d.y.no) && (y27.fst.d.z.lo == ra44.d.z.lo && (y27.fst.d.z.hi == ra44.d.z.hi && y27.fst.d.z.no == ra44.d.z.no)))))
                                   (
                                    .br (y34.snd == 1)
                                     (
                                      .bind (y34.fst.d.x.has 31457) fun b45 =>
                                      .br (b45)
                                       (
                                        .bind (y34.fst.o.x.has 49152) fun b46 =>
                                        .ret (b46))
                                       (
                                        .ret (Bool.false)))
                                     (
                                      .ret (Bool.false)))
                                   (
                                    .ret (Bool.false)))
                                 (
                                  .ret (Bool.false)))
                               (
                                .ret (Bool.false)))
                             (
                              .ret (Bool.false)))
                           (
                            .ret (Bool.false)))
                         (
                          .ret (Bool.false)))
                       (
                        .ret (Bool.false)))
                     (
                      .ret (Bool.false)))
                   (
                    .ret (Bool.false)))
                 (
                  .ret (Bool.false)))
               (
                .fail))
             (
              .fail))
           (
            .fail))
         (
          .fail))
       (
        .fail) := by kernel_rfl
theorem e_meniscuslaw18_StepKnown : EnvOK Try.prog (Env.add 16 (F1 cInt cIv Iv.whole) (Env.add 17 (F2 cIv cIv cIv Iv.div) (Env.add 20 (F2 cInt cInt cIv Iv.of) (Env.add 22 (F1 cInt cIv Iv.point) (Env.add 24 (F2 cIv cInt cBool Iv.has) (Env.add 25 (F3 cIv cIv cIv cV V.mk) (Env.add 40 (F3 cIv cIv cIv cSurf planeOf) (Env.add 41 (F2p cSurf cRay (cTwo cRay cInt) (fun s _ => !s.bent) stepFlat) (Env.add 42 (F1 cIv cRay axisAt) (Env.add 43 (F0 cBool true) (Env.add 44 (F0 cRay Ray.none) Env.nil))))))))))) := (EnvOK.add s_iv_Whole (EnvOK.add s_iv_Div (EnvOK.add s_iv_Of (EnvOK.add s_iv_Point (EnvOK.add s_iv_Has (EnvOK.add s_vec_Of (EnvOK.add s_meniscuslaw18_plane (EnvOK.add s_step_Go (EnvOK.add s_meniscuslaw18_axis (EnvOK.add s_meniscuslaw18_known (EnvOK.add s_meniscushand_NoRay EnvOK.nil)))))))))))

/-! meniscuslaw15.HitPlanes -/
theorem t_meniscuslaw15_HitPlanes (x0 : Int) (x1 : Int) (x2 : Int) (x3 : Int) (x4 : Int) (x5 : Int) :
    evFn Try.prog (Env.add 15 (F1 cIv cSurf planeAt) (Env.add 16 (F1 cInt cIv Iv.whole) (Env.add 18 (F2p cSurf cRay (cThree cIv cV cInt) (fun s _ => !s.bent) hitFlat) (Env.add 22 (F1 cInt cIv Iv.point) (Env.add 23 (F0 cBool true) (Env.add 24 (F2 cIv cInt cBool Iv.has) (Env.add 25 (F3 cIv cIv cIv cV V.mk) (Env.add 36 (F2p cInt cInt cInt pickOk pick) (Env.add 37 (F1 cIv cBool Iv.right) Env.nil))))))))) Laws.nil 200 Try.f5 [cInt.av x0, cInt.av x1, cInt.av x2, cInt.av x3, cInt.av x4, cInt.av x5] [] cBool.dec =
      .br (Go.Proofs.Ythplkbeiapgclaa.pickOk x0 41)
       (
        .bind (Go.Proofs.Ythplkbeiapgclaa.pick x0 41) fun n0 =>
        .br (Go.Proofs.Ythplkbeiapgclaa.pickOk x1 41)
         (
          .bind (Go.Proofs.Ythplkbeiapgclaa.pick x1 41) fun n1 =>
          .br (Go.Proofs.Ythplkbeiapgclaa.pickOk x2 50)
           (
            .bind (Go.Proofs.Ythplkbeiapgclaa.pick x2 50) fun n2 =>
            .br (Go.Proofs.Ythplkbeiapgclaa.pickOk x3 9)
             (
              .bind (Go.Proofs.Ythplkbeiapgclaa.pick x3 9) fun n3 =>
              .br (Go.Proofs.Ythplkbeiapgclaa.pickOk x4 9)
               (
                .bind (Go.Proofs.Ythplkbeiapgclaa.pick x4 9) fun n4 =>
                .br (Go.Proofs.Ythplkbeiapgclaa.pickOk x5 9)
                 (
                  .bind (Go.Proofs.Ythplkbeiapgclaa.pick x5 9) fun n5 =>
                  .bind (Go.Proofs.Ythplkbeiapgclaa.Iv.whole (Go.IntKind.i64.wrap (n0 - 20))) fun iv6 =>
                  .bind (Go.Proofs.Ythplkbeiapgclaa.Iv.whole (Go.IntKind.i64.wrap (n1 - 20))) fun iv7 =>
                  .bind (Go.Proofs.Ythplkbeiapgclaa.Iv.point 0) fun iv8 =>
                  .bind (Go.Proofs.Ythplkbeiapgclaa.V.mk iv6 iv7 iv8) fun v9 =>
                  .bind (Go.Proofs.Ythplkbeiapgclaa.Iv.whole (Go.IntKind.i64.wrap (n3 - 4))) fun iv10 =>
                  .bind (Go.Proofs.Ythplkbeiapgclaa.Iv.whole (Go.IntKind.i64.wrap (n4 - 4))) fun iv11 =>
                  .bind (Go.Proofs.Ythplkbeiapgclaa.Iv.whole (Go.IntKind.i64.wrap (1 + n5))) fun iv12 =>
                  .bind (Go.Proofs.Ythplkbeiapgclaa.V.mk iv10 iv11 iv12) fun v13 =>
                  .bind (Go.Proofs.Ythplkbeiapgclaa.Iv.whole (Go.IntKind.i64.wrap (1 + n2))) fun iv14 =>
                  .bind (Go.Proofs.Ythplkbeiapgclaa.planeAt iv14) fun su15 =>
                  .br (!su15.bent)
                   (
                    .bind (Go.Proofs.Ythplkbeiapgclaa.hitFlat su15 (Go.Proofs.Ythplkbeiapgclaa.Ray.mk v9 v13)) fun y16 =>
                    .bind (Bool.true) fun b17 =>
                    .br (b17)
                     (
                      .br (y16.snd.snd == 1)
                       (
                        .br (Decidable.decide (Go.IntKind.i64.wrap (y16.fst.lo * Go.IntKind.i64.wrap (1 + n5)) ≤ Go.IntKind.i64.wrap (Go.IntKind.i64.wrap (1 + n2) * 65536)))
                         (
                          .br (Decidable.decide (Go.IntKind.i64.wrap (y16.fst.hi * Go.IntKind.i64.wrap (1 + n5)) ≥ Go.IntKind.i64.wrap (Go.IntKind.i64.wrap (1 + n2) * 65536)))
                           (
                            .br (Decidable.decide (Go.IntKind.i64.wrap (y16.snd.fst.x.lo * Go.IntKind.i64.wrap (1 + n5)) ≤ Go.IntKind.i64.wrap (Go.IntKind.i64.wrap (Go.IntKind.i64.wrap (Go.IntKind.i64.wrap (n0 - 20) * Go.IntKind.i64.wrap (1 + n5)) + Go.IntKind.i64.wrap (Go.IntKind.i64.wrap (n3 - 4) * Go.IntKind.i64.wrap (1 + n2))) * 65536)))
                             (
                              .br (Decidable.decide (Go.IntKind.i64.wrap (y16.snd.fst.x.hi * Go.IntKind.i64.wrap (1 + n5)) ≥ Go.IntKind.i64.wrap (Go.IntKind.i64.wrap (Go.IntKind.i64.wrap (Go.IntKind.i64.wrap (n0 - 20) * Go.IntKind.i64.wrap (1 + n5)) + Go.IntKind.i64.wrap (Go.IntKind.i64.wrap (n3 - 4) * Go.IntKind.i64.wrap (1 + n2))) * 65536)))
                               (
                                .br (Decidable.decide (Go.IntKind.i64.wrap (y16.snd.fst.y.lo * Go.IntKind.i64.wrap (1 + n5)) ≤ Go.IntKind.i64.wrap (Go.IntKind.i64.wrap (Go.IntKind.i64.wrap (Go.IntKind.i64.wrap (n1 - 20) * Go.IntKind.i64.wrap (1 + n5)) + Go.IntKind.i64.wrap (Go.IntKind.i64.wrap (n4 - 4) * Go.IntKind.i64.wrap (1 + n2))) * 65536)))
                                 (
                                  .br (Decidable.decide (Go.IntKind.i64.wrap (y16.snd.fst.y.hi * Go.IntKind.i64.wrap (1 + n5)) ≥ Go.IntKind.i64.wrap (Go.IntKind.i64.wrap (Go.IntKind.i64.wrap (Go.IntKind.i64.wrap (n1 - 20) * Go.IntKind.i64.wrap (1 + n5)) + Go.IntKind.i64.wrap (Go.IntKind.i64.wrap (n4 - 4) * Go.IntKind.i64.wrap (1 + n2))) * 65536)))
                                   (
                                    .bind (y16.snd.fst.z.has 0) fun b18 =>
                                    .br (b18)
                                     (
                                      .bind (y16.fst.right) fun b19 =>
                                      .ret (b19))
                                     (
                                      .ret (Bool.false)))
                                   (
                                    .ret (Bool.false)))
                                 (
                                  .ret (Bool.false)))
                               (
                                .ret (Bool.false)))
                             (
                              .ret (Bool.false)))
                           (
                            .ret (Bool.false)))
                         (
                          .ret (Bool.false)))
                       (
                        .ret (Bool.false)))
                     (
                      .ret (Bool.false)))
                   (
                    .fail))
                 (
                  .fail))
               (
                .fail))
             (
              .fail))
           (
            .fail))
         (
          .fail))
       (
        .fail) := by kernel_rfl
theorem e_meniscuslaw15_HitPlanes : EnvOK Try.prog (Env.add 15 (F1 cIv cSurf planeAt) (Env.add 16 (F1 cInt cIv Iv.whole) (Env.add 18 (F2p cSurf cRay (cThree cIv cV cInt) (fun s _ => !s.bent) hitFlat) (Env.add 22 (F1 cInt cIv Iv.point) (Env.add 23 (F0 cBool true) (Env.add 24 (F2 cIv cInt cBool Iv.has) (Env.add 25 (F3 cIv cIv cIv cV V.mk) (Env.add 36 (F2p cInt cInt cInt pickOk pick) (Env.add 37 (F1 cIv cBool Iv.right) Env.nil))))))))) := (EnvOK.add s_meniscuslaw15_plane (EnvOK.add s_iv_Whole (EnvOK.add s_hit_Of (EnvOK.add s_iv_Point (EnvOK.add s_meniscuslaw15_known (EnvOK.add s_iv_Has (EnvOK.add s_vec_Of (EnvOK.add s_meniscushand_Pick (EnvOK.add s_meniscusref1_Right EnvOK.nil)))))))))
end Go.Proofs.Ythplkbeiapgclaa
