/-
  Contracts of calls, written by a small program of this session out of the evaluator's trees.
-/
import Derived.Test.YtmpjfdaldejjlaaCore
import Derived.Test.YtmpjfdaldejjlaaCoreLoops
import Derived.Test.YtmpjfdaldejjlaaCore2
import Derived.Test.YtmpjfdaldejjlaaCore3
import Derived.Test.YtmpjfdaldejjlaaCore4
import Derived.Test.YtmpjfdaldejjlaaEvCod
import Derived.Test.YtmpjfdaldejjlaaEvRet
import Derived.Test.YtmpjfdaldejjlaaProg
import Derived.Test.YtmpjfdaldejjlaaK1
namespace Go.Proofs.Ytmpjfdaldejjlaa
open Go Go.RowKit Ev
set_option maxRecDepth 100000
set_option linter.unusedVariables false
set_option linter.unusedSimpArgs false

/-! meniscusref1.Len2 -/
theorem t_meniscusref1_Len2 (x0 : V) :
    evFn Try.prog (Env.add 89 (F2 cIv cIv cIv Iv.add) (Env.add 90 (F1 cIv cIv Iv.sqr) Env.nil)) Laws.nil 200 Try.f97 [cV.av x0] [] cIv.dec =
      .bind (x0.x.sqr) fun viv0 =>
      .bind (x0.y.sqr) fun viv1 =>
      .bind (viv0.add viv1) fun viv2 =>
      .bind (x0.z.sqr) fun viv3 =>
      .bind (viv2.add viv3) fun viv4 =>
      .ret (viv4) := by kernel_rfl
theorem c_meniscusref1_Len2 (x0 : V) : Plain Try.prog 97 [cV.enc x0] (cIv.enc (V.len2 x0)) :=
  plain_of_tree (n := 200) (EnvOK.add s_meniscusref1_Add (EnvOK.add s_meniscusref1_Sqr EnvOK.nil)) Try.func97 (args := [cV.av x0]) (by simp only [AV.vals, Cod.av_val]) (Nat.le_of_ble_eq_true (by kernel_rfl)) LFn.nil cIv (by
    rw [t_meniscusref1_Len2]
    rfl)
theorem s_meniscusref1_Len2 : Ev.Spec Try.prog 97 (F1 cV cIv V.len2) := spec1 (fun vs w => Try.call97 vs w) c_meniscusref1_Len2

/-! meniscusref1.Unit -/
theorem t_meniscusref1_Unit (x0 : V) :
    evFn Try.prog (Env.add 91 (F2 cIv cIv cIv Iv.div) (Env.add 96 (F1 cIv cIv Iv.root) (Env.add 97 (F1 cV cIv V.len2) Env.nil))) Laws.nil 200 Try.f57 [cV.av x0] [] cV.dec =
      .bind (x0.len2) fun viv0 =>
      .bind (viv0.root) fun viv1 =>
      .bind (x0.x.div viv1) fun viv2 =>
      .bind (x0.y.div viv1) fun viv3 =>
      .bind (x0.z.div viv1) fun viv4 =>
      .ret (Go.Proofs.Ytmpjfdaldejjlaa.V.mk viv2 viv3 viv4) := by kernel_rfl
theorem c_meniscusref1_Unit (x0 : V) : Plain Try.prog 57 [cV.enc x0] (cV.enc (V.unit x0)) :=
  plain_of_tree (n := 200) (EnvOK.add s_meniscusref1_DivIv (EnvOK.add s_meniscusref1_RootIv (EnvOK.add s_meniscusref1_Len2 EnvOK.nil))) Try.func57 (args := [cV.av x0]) (by simp only [AV.vals, Cod.av_val]) (Nat.le_of_ble_eq_true (by kernel_rfl)) LFn.nil cV (by
    rw [t_meniscusref1_Unit]
    rfl)
theorem s_meniscusref1_Unit : Ev.Spec Try.prog 57 (F1 cV cV V.unit) := spec1 (fun vs w => Try.call57 vs w) c_meniscusref1_Unit

/-! poly.Slope -/
theorem tl_poly_Slope_3 (t8 : Int) (t7 : Int) (r0 : List Iv) (r1 : List Iv) :
    ev Try.prog (Env.add 77 (F2 cIv cInt cIv Iv.times) Env.nil) Laws.nil 200 none (loopAt Try.f63 3) ((sc 23 [8, 7, 6, 3] (tCod 8 cInt (tCod 7 cInt (tSl 6 0 (tSl 3 1 tNil)))) (rL_iv (rG_iv 23 rNil))).enc ((t8, t7, ()), (r0, r1, ()))) (backK (sc 23 [8, 7, 6, 3] (tCod 8 cInt (tCod 7 cInt (tSl 6 0 (tSl 3 1 tNil)))) (rL_iv (rG_iv 23 rNil))) (ocExit 0 (sc 23 [3] (tSl 3 0 tNil) (rG_iv 23 rNil)))) =
      .br (Decidable.decide (t8 < t7))
       (
        .br (Decidable.decide (0 ≤ t8 ∧ t8 < (@Nat.cast Int _ r0.length)))
         (
          .get (r0[t8.toNat]?) fun vt0 =>
          .br (Decidable.decide (t8 > 0))
           (
            .bind (Go.Proofs.Ytmpjfdaldejjlaa.Iv.times vt0 t8) fun viv1 =>
            .br (Go.Proofs.Ytmpjfdaldejjlaa.Ev.lenOk (r1 ++ [viv1]))
             (
              .ret (Sum.inl ((Go.IntKind.i64.wrap (t8 + 1), t7, ()), r0, r1 ++ [viv1], ())))
             (
              .fail))
           (
            .ret (Sum.inl ((Go.IntKind.i64.wrap (t8 + 1), t7, ()), r0, r1, ()))))
         (
          .fail))
       (
        .ret (Sum.inr ((), r1, ()))) := by kernel_rfl
theorem ok_poly_Slope_3 : LOK Try.prog (LoopR.of (sc 23 [8, 7, 6, 3] (tCod 8 cInt (tCod 7 cInt (tSl 6 0 (tSl 3 1 tNil)))) (rL_iv (rG_iv 23 rNil))) (ocExit 0 (sc 23 [3] (tSl 3 0 tNil) (rG_iv 23 rNil))) slope2Run) (loopAt Try.f63 3) := by
  refine loop_ok (EnvOK.add s_iv_Times EnvOK.nil) (LFn.at (fn := Try.f63) LFn.nil 3) slope2Step (n := 200) (fun x z h => ?_) slope2Run_ok
  obtain ⟨⟨t8, t7, ⟨⟩⟩, ⟨r0, r1, ⟨⟩⟩⟩ := x
  rw [tl_poly_Slope_3]
  rw [← h]
  simp only [den_br, den_bind, den_ret, den_fail, den_inl, den_inr, decide_eq_true_eq]
  simp only [slope2Step]
  by_cases h0 : t8 < t7 <;> simp only [h0, if_true, if_false]
  by_cases h1 : 0 ≤ t8 ∧ t8 < (r0.length : Int) <;> simp only [h1, if_true, if_false, and_self]
  cases hg : r0[t8.toNat]? with
  | none => rfl
  | some a =>
    by_cases h2 : 0 < t8 <;> simp only [den_get, den_br, den_bind, den_ret, den_fail, gt_iff_lt, h2, decide_true, decide_false, if_true, if_false, Bool.false_eq_true]
theorem t_poly_Slope (r0 : List Iv) :
    evFnR Try.prog (Env.add 77 (F2 cIv cInt cIv Iv.times) Env.nil) (Laws.add 3 (LoopR.of (sc 23 [8, 7, 6, 3] (tCod 8 cInt (tCod 7 cInt (tSl 6 0 (tSl 3 1 tNil)))) (rL_iv (rG_iv 23 rNil))) (ocExit 0 (sc 23 [3] (tSl 3 0 tNil) (rG_iv 23 rNil))) slope2Run) Laws.nil) 200 Try.f63 (((sc 1 [0] (tSl 0 0 tNil) (rL_iv rNil)).enc ((()), (r0, ()))).tmps.map Prod.snd) ((sc 1 [0] (tSl 0 0 tNil) (rL_iv rNil)).enc ((()), (r0, ()))).mem (sc 1 [0] (tSl 0 0 tNil) (rG_iv 23 rNil)).ts (sc 1 [0] (tSl 0 0 tNil) (rG_iv 23 rNil)).dec =
      .get (Go.Proofs.Ytmpjfdaldejjlaa.slope2Run ((0, (@Nat.cast Int _ r0.length), ()), r0, [], ())) fun vy0 =>
      .ret (((), vy0.snd.fst, ())) := by kernel_rfl
theorem c_poly_Slope : PlainR Try.prog 63 (sc 1 [0] (tSl 0 0 tNil) (rL_iv rNil)) (sc 1 [0] (tSl 0 0 tNil) (rG_iv 23 rNil)) (fun x => lenOk x.2.1) ((fun x => (((), (slope x.2.1, ()))))) := by
  intro x h N w vs hM hv
  obtain ⟨⟨⟩, ⟨r0, ⟨⟩⟩⟩ := x
  refine calls_of_treeR (n := 200) (EnvOK.add s_iv_Times EnvOK.nil) Try.func63 hv (Nat.le_of_ble_eq_true (by kernel_rfl)) (LFn.add (fn := Try.f63) (i := 3) (by kernel_rfl) ok_poly_Slope_3 LFn.nil) hM (sc 1 [0] (tSl 0 0 tNil) (rG_iv 23 rNil)) rfl ?_
  rw [t_poly_Slope]
  simp only [den_br, den_bind, den_ret, den_fail, den_inl, den_inr, decide_eq_true_eq]
  simp at h
  have hl := lenOk_iff.1 h
  have hr : slope2Run ((0, (r0.length : Int), ()), (r0, [], ())) = some ((), (slope r0, ())) := by
    refine (if_pos ⟨by omega, hl, by simp⟩).trans ?_
    rw [← slope_go]; rfl
  rw [hr]
  rfl
theorem s_poly_Slope : Ev.Spec Try.prog 63 (FR (sc 1 [0] (tSl 0 0 tNil) (rL_iv rNil)) (sc 1 [0] (tSl 0 0 tNil) (rG_iv 23 rNil)) (fun x => lenOk x.2.1) ((fun x => (((), (slope x.2.1, ())))))) := specR rfl (fun _ => rfl) (fun vs w => Try.call63 vs w) c_poly_Slope

/-! meniscusref14.none -/
theorem t_meniscusref14_none  :
    evFn Try.prog (Env.add 95 (F0 cIv Iv.none) Env.nil) Laws.nil 200 Try.f124 [] [] cIv.dec =
      .bind (Go.Proofs.Ytmpjfdaldejjlaa.Iv.none) fun viv0 =>
      .ret (viv0) := by kernel_rfl
theorem c_meniscusref14_none  : Plain Try.prog 124 [] (cIv.enc (Iv.none)) :=
  plain_of_tree (n := 200) (EnvOK.add s_meniscusref1_None EnvOK.nil) Try.func124 (args := []) rfl (Nat.le_of_ble_eq_true (by kernel_rfl)) LFn.nil cIv (by
    rw [t_meniscusref14_none]
    rfl)
theorem s_meniscusref14_none : Ev.Spec Try.prog 124 (F0 cIv Iv.none) := spec0 (fun vs w => Try.call124 vs w) c_meniscusref14_none

/-! meniscusref14.NoV -/
theorem t_meniscusref14_NoV  :
    evFn Try.prog (Env.add 124 (F0 cIv Iv.none) Env.nil) Laws.nil 200 Try.f103 [] [] cV.dec =
      .bind (Go.Proofs.Ytmpjfdaldejjlaa.Iv.none) fun viv0 =>
      .bind (Go.Proofs.Ytmpjfdaldejjlaa.Iv.none) fun viv1 =>
      .bind (Go.Proofs.Ytmpjfdaldejjlaa.Iv.none) fun viv2 =>
      .ret (Go.Proofs.Ytmpjfdaldejjlaa.V.mk viv0 viv1 viv2) := by kernel_rfl
theorem c_meniscusref14_NoV  : Plain Try.prog 103 [] (cV.enc (V.none)) :=
  plain_of_tree (n := 200) (EnvOK.add s_meniscusref14_none EnvOK.nil) Try.func103 (args := []) rfl (Nat.le_of_ble_eq_true (by kernel_rfl)) LFn.nil cV (by
    rw [t_meniscusref14_NoV]
    rfl)
theorem s_meniscusref14_NoV : Ev.Spec Try.prog 103 (F0 cV V.none) := spec0 (fun vs w => Try.call103 vs w) c_meniscusref14_NoV

/-! meniscusref14.NoRay -/
theorem t_meniscusref14_NoRay  :
    evFn Try.prog (Env.add 103 (F0 cV V.none) Env.nil) Laws.nil 200 Try.f69 [] [] cRay.dec =
      .bind (Go.Proofs.Ytmpjfdaldejjlaa.V.none) fun vv0 =>
      .bind (Go.Proofs.Ytmpjfdaldejjlaa.V.none) fun vv1 =>
      .ret (Go.Proofs.Ytmpjfdaldejjlaa.Ray.mk vv0 vv1) := by kernel_rfl
theorem c_meniscusref14_NoRay  : Plain Try.prog 69 [] (cRay.enc (Ray.none)) :=
  plain_of_tree (n := 200) (EnvOK.add s_meniscusref14_NoV EnvOK.nil) Try.func69 (args := []) rfl (Nat.le_of_ble_eq_true (by kernel_rfl)) LFn.nil cRay (by
    rw [t_meniscusref14_NoRay]
    rfl)
theorem s_meniscusref14_NoRay : Ev.Spec Try.prog 69 (F0 cRay Ray.none) := spec0 (fun vs w => Try.call69 vs w) c_meniscusref14_NoRay

/-! meniscushand.NoRay -/
theorem t_meniscushand_NoRay  :
    evFn Try.prog (Env.add 69 (F0 cRay Ray.none) Env.nil) Laws.nil 200 Try.f39 [] [] cRay.dec =
      .bind (Go.Proofs.Ytmpjfdaldejjlaa.Ray.none) fun vra0 =>
      .ret (vra0) := by kernel_rfl
theorem c_meniscushand_NoRay  : Plain Try.prog 39 [] (cRay.enc (Ray.none)) :=
  plain_of_tree (n := 200) (EnvOK.add s_meniscusref14_NoRay EnvOK.nil) Try.func39 (args := []) rfl (Nat.le_of_ble_eq_true (by kernel_rfl)) LFn.nil cRay (by
    rw [t_meniscushand_NoRay]
    rfl)
theorem s_meniscushand_NoRay : Ev.Spec Try.prog 39 (F0 cRay Ray.none) := spec0 (fun vs w => Try.call39 vs w) c_meniscushand_NoRay
end Go.Proofs.Ytmpjfdaldejjlaa
