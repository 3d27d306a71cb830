/-
  Contracts of calls, written by a small program of this session out of the evaluator's trees.
-/
import Derived.Test.YthdpjmkknodmpaaCore
import Derived.Test.YthdpjmkknodmpaaCoreLoops
import Derived.Test.YthdpjmkknodmpaaCore2
import Derived.Test.YthdpjmkknodmpaaCore3
import Derived.Test.YthdpjmkknodmpaaCore4
import Derived.Test.YthdpjmkknodmpaaEvCod
import Derived.Test.YthdpjmkknodmpaaEvRet
import Derived.Test.YthdpjmkknodmpaaProg
import Derived.Test.YthdpjmkknodmpaaK0
namespace Go.Proofs.Ythdpjmkknodmpaa
open Go Go.RowKit Ev
set_option maxRecDepth 100000
set_option linter.unusedVariables false
set_option linter.unusedSimpArgs false

/-! snell.Bend -/
theorem t_snell_Bend (x0 : V) (x1 : V) (x2 : Iv) :
    evFn Try.prog (Env.add 8 (F1 cInt cIv Iv.point) (Env.add 25 (F2 cIv cIv cIv Iv.sub) (Env.add 26 (F2 cIv cIv cIv Iv.mul) (Env.add 38 (F2 cV cV cV V.add) (Env.add 39 (F2 cV cIv cV V.scale) (Env.add 43 (F1 cIv cIv Iv.sqr) (Env.add 50 (F1 cV cBool V.right) (Env.add 52 (F2 cV cV cIv V.dot) (Env.add 53 (F0 cV V.none) (Env.add 54 (F1 cIv cIv Iv.root) Env.nil)))))))))) Laws.nil 200 Try.f44 [cV.av x0, cV.av x1, cIv.av x2] [] (cTwo cV cInt).dec =
      .bind (Go.Proofs.Ythdpjmkknodmpaa.Iv.point 65536) fun viv0 =>
      .bind (x0.dot x1) fun viv1 =>
      .br (viv1.no)
       (
        .bind (Go.Proofs.Ythdpjmkknodmpaa.V.none) fun vv2 =>
        .ret ((vv2, 0)))
       (
        .br (Decidable.decide (viv1.lo ≤ 0))
         (
          .bind (Go.Proofs.Ythdpjmkknodmpaa.V.none) fun vv3 =>
          .ret ((vv3, 0)))
         (
          .bind (x2.sqr) fun viv4 =>
          .bind (viv1.sqr) fun viv5 =>
          .bind (viv0.sub viv5) fun viv6 =>
          .bind (viv4.mul viv6) fun viv7 =>
          .bind (viv0.sub viv7) fun viv8 =>
          .br (viv8.no)
           (
            .bind (Go.Proofs.Ythdpjmkknodmpaa.V.none) fun vv9 =>
            .ret ((vv9, 0)))
           (
            .br (Decidable.decide (viv8.hi < 0))
             (
              .bind (Go.Proofs.Ythdpjmkknodmpaa.V.none) fun vv10 =>
              .ret ((vv10, 2)))
             (
              .br (Decidable.decide (viv8.lo < 0))
               (
                .bind (Go.Proofs.Ythdpjmkknodmpaa.V.none) fun vv11 =>
                .ret ((vv11, 0)))
               (
                .bind (x0.scale x2) fun vv12 =>
                .bind (viv8.root) fun viv13 =>
                .bind (x2.mul viv1) fun viv14 =>
                .bind (viv13.sub viv14) fun viv15 =>
                .bind (x1.scale viv15) fun vv16 =>
                .bind (vv12.add vv16) fun vv17 =>
                .bind (vv17.right) fun vb18 =>
                .br (!vb18)
                 (
                  .bind (Go.Proofs.Ythdpjmkknodmpaa.V.none) fun vv19 =>
                  .ret ((vv19, 0)))
                 (
                  .ret ((vv17, 1)))))))) := by kernel_rfl
theorem c_snell_Bend (x0 : V) (x1 : V) (x2 : Iv) : Plain Try.prog 44 [cV.enc x0, cV.enc x1, cIv.enc x2] ((cTwo cV cInt).enc (bend x0 x1 x2)) :=
  plain_of_tree (n := 200) (EnvOK.add s_iv_Point (EnvOK.add s_iv_Sub (EnvOK.add s_iv_Mul (EnvOK.add s_vec_Add (EnvOK.add s_vec_Scale (EnvOK.add s_iv_Sqr (EnvOK.add s_vec_Right (EnvOK.add s_vec_Dot (EnvOK.add s_snell_nones (EnvOK.add s_iv_Root EnvOK.nil)))))))))) Try.func44 (args := [cV.av x0, cV.av x1, cIv.av x2]) (by simp only [AV.vals, Cod.av_val]) (Nat.le_of_ble_eq_true (by kernel_rfl)) LFn.nil (cTwo cV cInt) (by
    rw [t_snell_Bend]
    simp only [den_br, den_bind, den_ret, den_fail, den_inl, den_inr, decide_eq_true_eq]
    grind [bend])
theorem s_snell_Bend : Ev.Spec Try.prog 44 (F3 cV cV cIv (cTwo cV cInt) bend) := spec3 (fun vs w => Try.call44 vs w) c_snell_Bend

/-! sag.round -/
theorem t_sag_round (x0 : Surf) (x1 : Iv) :
    evFn Try.prog (Env.add 8 (F1 cInt cIv Iv.point) (Env.add 18 (F2 cIv cIv cIv Iv.div) (Env.add 22 (F2 cIv cIv cIv Iv.add) (Env.add 25 (F2 cIv cIv cIv Iv.sub) (Env.add 26 (F2 cIv cIv cIv Iv.mul) (Env.add 28 (F2 cIv cInt cIv Iv.times) (Env.add 43 (F1 cIv cIv Iv.sqr) (Env.add 54 (F1 cIv cIv Iv.root) Env.nil)))))))) Laws.nil 200 Try.f62 [cSurf.av x0, cIv.av x1] [] (cTwo cIv cIv).dec =
      .bind (Go.Proofs.Ythdpjmkknodmpaa.Iv.point 65536) fun viv0 =>
      .bind (x0.curve.sqr) fun viv1 =>
      .bind (x0.conic.mul viv1) fun viv2 =>
      .bind (viv2.mul x1) fun viv3 =>
      .bind (viv0.sub viv3) fun viv4 =>
      .bind (viv4.root) fun viv5 =>
      .bind (x0.curve.mul x1) fun viv6 =>
      .bind (viv0.add viv5) fun viv7 =>
      .bind (viv6.div viv7) fun viv8 =>
      .bind (viv5.times 2) fun viv9 =>
      .bind (x0.curve.div viv9) fun viv10 =>
      .ret ((viv8, viv10)) := by kernel_rfl
theorem c_sag_round (x0 : Surf) (x1 : Iv) : Plain Try.prog 62 [cSurf.enc x0, cIv.enc x1] ((cTwo cIv cIv).enc (sagRound x0 x1)) :=
  plain_of_tree (n := 200) (EnvOK.add s_iv_Point (EnvOK.add s_iv_Div (EnvOK.add s_iv_Add (EnvOK.add s_iv_Sub (EnvOK.add s_iv_Mul (EnvOK.add s_iv_Times (EnvOK.add s_iv_Sqr (EnvOK.add s_iv_Root EnvOK.nil)))))))) Try.func62 (args := [cSurf.av x0, cIv.av x1]) (by simp only [AV.vals, Cod.av_val]) (Nat.le_of_ble_eq_true (by kernel_rfl)) LFn.nil (cTwo cIv cIv) (by
    rw [t_sag_round]
    rfl)
theorem s_sag_round : Ev.Spec Try.prog 62 (F2 cSurf cIv (cTwo cIv cIv) sagRound) := spec2 (fun vs w => Try.call62 vs w) c_sag_round

/-! meniscushand.Pick -/
theorem t_meniscushand_Pick (x0 : Int) (x1 : Int) :
    evFn Try.prog Env.nil Laws.nil 200 Try.f11 [cInt.av x0, cInt.av x1] [] cInt.dec =
      .br (x1 != 0)
       (
        .br (Decidable.decide (x0.tmod x1 < 0))
         (
          .ret (Go.IntKind.i64.wrap (x0.tmod x1 + x1)))
         (
          .ret (x0.tmod x1)))
       (
        .fail) := by kernel_rfl
theorem c_meniscushand_Pick (x0 : Int) (x1 : Int) (h : pickOk x0 x1 = true) : Plain Try.prog 11 [cInt.enc x0, cInt.enc x1] (cInt.enc (pick x0 x1)) :=
  plain_of_tree (n := 200) EnvOK.nil Try.func11 (args := [cInt.av x0, cInt.av x1]) (by simp only [AV.vals, Cod.av_val]) (Nat.le_of_ble_eq_true (by kernel_rfl)) LFn.nil cInt (by
    rw [t_meniscushand_Pick]
    simp [pickOk] at h
    have p := tmod_pick x0 h.1
    have hne : (x1 != 0) = true := by simp; omega
    simp only [Tr.den, hne]
    by_cases hlt : x0.tmod x1 < 0
    · simp only [hlt, decide_true]
      rw [IntWalk.i64_in _ (by omega), p.1 hlt]
    · simp only [hlt, decide_false]
      rw [p.2.1 (by omega)])
theorem s_meniscushand_Pick : Ev.Spec Try.prog 11 (F2p cInt cInt cInt pickOk pick) := spec2p (fun vs w => Try.call11 vs w) c_meniscushand_Pick

/-! poly.Slope -/
theorem tl_poly_Slope_3 (t8 : Int) (t7 : Int) (r0 : List Iv) (r1 : List Iv) :
    ev Try.prog (Env.add 28 (F2 cIv cInt cIv Iv.times) Env.nil) Laws.nil 200 none (loopAt Try.f64 3) ((sc 23 [8, 7, 6, 3] (tCod 8 cInt (tCod 7 cInt (tSl 6 0 (tSl 3 1 tNil)))) (rL_iv (rG_iv 23 rNil))).enc ((t8, t7, ()), (r0, r1, ()))) (backK (sc 23 [8, 7, 6, 3] (tCod 8 cInt (tCod 7 cInt (tSl 6 0 (tSl 3 1 tNil)))) (rL_iv (rG_iv 23 rNil))) (ocExit 0 (sc 23 [3] (tSl 3 0 tNil) (rG_iv 23 rNil)))) =
      .br (Decidable.decide (t8 < t7))
       (
        .br (Decidable.decide (0 ≤ t8 ∧ t8 < (@Nat.cast Int _ r0.length)))
         (
          .get (r0[t8.toNat]?) fun vt0 =>
          .br (Decidable.decide (t8 > 0))
           (
            .bind (Go.Proofs.Ythdpjmkknodmpaa.Iv.times vt0 t8) fun viv1 =>
            .br (Go.Proofs.Ythdpjmkknodmpaa.Ev.lenOk (r1 ++ [viv1]))
             (
              .ret (Sum.inl ((Go.IntKind.i64.wrap (t8 + 1), t7, ()), r0, r1 ++ [viv1], ())))
             (
              .fail))
           (
            .ret (Sum.inl ((Go.IntKind.i64.wrap (t8 + 1), t7, ()), r0, r1, ()))))
         (
          .fail))
       (
        .ret (Sum.inr ((), r1, ()))) := by kernel_rfl
theorem ok_poly_Slope_3 : LOK Try.prog (LoopR.of (sc 23 [8, 7, 6, 3] (tCod 8 cInt (tCod 7 cInt (tSl 6 0 (tSl 3 1 tNil)))) (rL_iv (rG_iv 23 rNil))) (ocExit 0 (sc 23 [3] (tSl 3 0 tNil) (rG_iv 23 rNil))) slope2Run) (loopAt Try.f64 3) := by
  refine loop_ok (EnvOK.add s_iv_Times EnvOK.nil) (LFn.at (fn := Try.f64) LFn.nil 3) slope2Step (n := 200) (fun x z h => ?_) slope2Run_ok
  obtain ⟨⟨t8, t7, ⟨⟩⟩, ⟨r0, r1, ⟨⟩⟩⟩ := x
  rw [tl_poly_Slope_3]
  rw [← h]
  simp only [den_br, den_bind, den_ret, den_fail, den_inl, den_inr, decide_eq_true_eq]
  simp only [slope2Step]
  by_cases h0 : t8 < t7 <;> simp only [h0, if_true, if_false]
  by_cases h1 : 0 ≤ t8 ∧ t8 < (r0.length : Int) <;> simp only [h1, if_true, if_false, and_self]
  cases hg : r0[t8.toNat]? with
  | none => rfl
  | some a =>
    by_cases h2 : 0 < t8 <;> simp only [den_get, den_br, den_bind, den_ret, den_fail, gt_iff_lt, h2, decide_true, decide_false, if_true, if_false, Bool.false_eq_true]
theorem t_poly_Slope (r0 : List Iv) :
    evFnR Try.prog (Env.add 28 (F2 cIv cInt cIv Iv.times) Env.nil) (Laws.add 3 (LoopR.of (sc 23 [8, 7, 6, 3] (tCod 8 cInt (tCod 7 cInt (tSl 6 0 (tSl 3 1 tNil)))) (rL_iv (rG_iv 23 rNil))) (ocExit 0 (sc 23 [3] (tSl 3 0 tNil) (rG_iv 23 rNil))) slope2Run) Laws.nil) 200 Try.f64 (((sc 1 [0] (tSl 0 0 tNil) (rL_iv rNil)).enc ((()), (r0, ()))).tmps.map Prod.snd) ((sc 1 [0] (tSl 0 0 tNil) (rL_iv rNil)).enc ((()), (r0, ()))).mem (sc 1 [0] (tSl 0 0 tNil) (rG_iv 23 rNil)).ts (sc 1 [0] (tSl 0 0 tNil) (rG_iv 23 rNil)).dec =
      .get (Go.Proofs.Ythdpjmkknodmpaa.slope2Run ((0, (@Nat.cast Int _ r0.length), ()), r0, [], ())) fun vy0 =>
      .ret (((), vy0.snd.fst, ())) := by kernel_rfl
theorem c_poly_Slope : PlainR Try.prog 64 (sc 1 [0] (tSl 0 0 tNil) (rL_iv rNil)) (sc 1 [0] (tSl 0 0 tNil) (rG_iv 23 rNil)) (fun x => lenOk x.2.1) ((fun x => (((), (slope x.2.1, ()))))) := by
  intro x h N w vs hM hv
  obtain ⟨⟨⟩, ⟨r0, ⟨⟩⟩⟩ := x
  refine calls_of_treeR (n := 200) (EnvOK.add s_iv_Times EnvOK.nil) Try.func64 hv (Nat.le_of_ble_eq_true (by kernel_rfl)) (LFn.add (fn := Try.f64) (i := 3) (by kernel_rfl) ok_poly_Slope_3 LFn.nil) hM (sc 1 [0] (tSl 0 0 tNil) (rG_iv 23 rNil)) rfl ?_
  rw [t_poly_Slope]
  simp only [den_br, den_bind, den_ret, den_fail, den_inl, den_inr, decide_eq_true_eq]
  simp at h
  have hl := lenOk_iff.1 h
  have hr : slope2Run ((0, (r0.length : Int), ()), (r0, [], ())) = some ((), (slope r0, ())) := by
    refine (if_pos ⟨by omega, hl, by simp⟩).trans ?_
    rw [← slope_go]; rfl
  rw [hr]
  rfl
theorem s_poly_Slope : Ev.Spec Try.prog 64 (FR (sc 1 [0] (tSl 0 0 tNil) (rL_iv rNil)) (sc 1 [0] (tSl 0 0 tNil) (rG_iv 23 rNil)) (fun x => lenOk x.2.1) ((fun x => (((), (slope x.2.1, ())))))) := specR rfl (fun _ => rfl) (fun vs w => Try.call64 vs w) c_poly_Slope
end Go.Proofs.Ythdpjmkknodmpaa
