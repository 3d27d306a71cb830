/-
  Contracts of calls, written by a small program of this session out of the evaluator's trees.
-/
import Derived.Test.YthgpgnijbajlgaaCore
import Derived.Test.YthgpgnijbajlgaaCoreLoops
import Derived.Test.YthgpgnijbajlgaaCore2
import Derived.Test.YthgpgnijbajlgaaCore3
import Derived.Test.YthgpgnijbajlgaaCore4
import Derived.Test.YthgpgnijbajlgaaCore5
import Derived.Test.YthgpgnijbajlgaaCore6
import Derived.Test.YthgpgnijbajlgaaCore7
import Derived.Test.YthgpgnijbajlgaaCore8
import Derived.Test.YthgpgnijbajlgaaCore9
import Derived.Test.YthgpgnijbajlgaaEvMore
import Derived.Test.YthgpgnijbajlgaaSym
import Derived.Test.YthgpgnijbajlgaaSysF
import Derived.Test.YthgpgnijbajlgaaLess2
import Derived.Test.YthgpgnijbajlgaaPar
import Derived.Test.YthgpgnijbajlgaaQ2
import Derived.Test.YthgpgnijbajlgaaEvCod
import Derived.Test.YthgpgnijbajlgaaEvRet
import Derived.Test.YthgpgnijbajlgaaProg
namespace Go.Proofs.Ythgpgnijbajlgaa
open Go Go.RowKit Ev
set_option maxRecDepth 100000
set_option linter.unusedVariables false
set_option linter.unusedSimpArgs false

/-! parax.Of -/
theorem tl_parax_Of_4 (t16 : Int) (t15 : Int) (r0 : Iv) (r1 : Card) (r2 : Iv) (r3 : Iv) (r4 : Iv) (r5 : List Surf) :
    ev Try.prog (Env.add 38 (F2 cIv cIv cIv Iv.add) (Env.add 39 (F1 cInt cIv Iv.point) (Env.add 40 (F2 cIv cIv cIv Iv.sub) (Env.add 45 (F2 cIv cIv cIv Iv.div) (Env.add 62 (F2 cIv cInt cIv Iv.times) (Env.add 65 (F2 cIv cIv cIv Iv.mul) (Env.add 90 (F1 cIv cIv Iv.neg) Env.nil))))))) Laws.nil 200 none (loopAt Try.f41 4) ((sc 78 [16, 15, 1, 2, 3, 4, 5, 14] (tCod 16 cInt (tCod 15 cInt (tOwn 1 0 (tOwn 2 1 (tOwn 3 2 (tOwn 4 3 (tOwn 5 4 (tSl 14 5 tNil)))))))) (rBoxSl 5 ccIv ccIv_ok (rBox ccCard ccCard_ok (rBox ccIv ccIv_ok (rBox ccIv ccIv_ok (rBox ccIv ccIv_ok (rL_surf rNil))))))).enc ((t16, t15, ()), (r0, r1, r2, r3, r4, r5, ()))) (backK (sc 78 [16, 15, 1, 2, 3, 4, 5, 14] (tCod 16 cInt (tCod 15 cInt (tOwn 1 0 (tOwn 2 1 (tOwn 3 2 (tOwn 4 3 (tOwn 5 4 (tSl 14 5 tNil)))))))) (rBoxSl 5 ccIv ccIv_ok (rBox ccCard ccCard_ok (rBox ccIv ccIv_ok (rBox ccIv ccIv_ok (rBox ccIv ccIv_ok (rL_surf rNil))))))) (ocExit 0 (sc 78 [1, 2, 3, 4, 5] (tOwn 1 0 (tOwn 2 1 (tOwn 3 2 (tOwn 4 3 (tOwn 5 4 tNil))))) (rBoxSl 5 ccIv ccIv_ok (rBox ccCard ccCard_ok (rBox ccIv ccIv_ok (rBox ccIv ccIv_ok (rBox ccIv ccIv_ok (rL_surf rNil))))))))) =
      .br (Decidable.decide (t16 < t15))
       (
        .br (Decidable.decide (0 ≤ t16 ∧ t16 < (@Nat.cast Int _ r5.length)))
         (
          .get (r5[t16.toNat]?) fun vt0 =>
          .br (!vt0.stop)
           (
            .bind (vt0.ratio.mul r4) fun viv1 =>
            .bind (r3.mul vt0.curve) fun viv2 =>
            .bind (r2.sub vt0.ratio) fun viv3 =>
            .bind (viv2.mul viv3) fun viv4 =>
            .bind (viv1.sub viv4) fun viv5 =>
            .br (Decidable.decide (Go.IntKind.i64.wrap (t16 + 1) < (@Nat.cast Int _ r5.length)))
             (
              .br (Decidable.decide (0 ≤ Go.IntKind.i64.wrap (t16 + 1) ∧ Go.IntKind.i64.wrap (t16 + 1) < (@Nat.cast Int _ r5.length)))
               (
                .get (r5[(Go.IntKind.i64.wrap (t16 + 1)).toNat]?) fun vt6 =>
                .bind (vt6.at_.sub vt0.at_) fun viv7 =>
                .bind (viv5.mul viv7) fun viv8 =>
                .bind (r3.add viv8) fun viv9 =>
                .ret (Sum.inl ((Go.IntKind.i64.wrap (t16 + 1), t15, ()), r0, r1, r2, viv9, viv5, r5, ())))
               (
                .fail))
             (
              .ret (Sum.inl ((Go.IntKind.i64.wrap (t16 + 1), t15, ()), r0, r1, r2, r3, viv5, r5, ()))))
           (
            .br (Decidable.decide (Go.IntKind.i64.wrap (t16 + 1) < (@Nat.cast Int _ r5.length)))
             (
              .br (Decidable.decide (0 ≤ Go.IntKind.i64.wrap (t16 + 1) ∧ Go.IntKind.i64.wrap (t16 + 1) < (@Nat.cast Int _ r5.length)))
               (
                .get (r5[(Go.IntKind.i64.wrap (t16 + 1)).toNat]?) fun vt10 =>
                .bind (vt10.at_.sub vt0.at_) fun viv11 =>
                .bind (r4.mul viv11) fun viv12 =>
                .bind (r3.add viv12) fun viv13 =>
                .ret (Sum.inl ((Go.IntKind.i64.wrap (t16 + 1), t15, ()), r0, r1, r2, viv13, r4, r5, ())))
               (
                .fail))
             (
              .ret (Sum.inl ((Go.IntKind.i64.wrap (t16 + 1), t15, ()), r0, r1, r2, r3, r4, r5, ())))))
         (
          .fail))
       (
        .ret (Sum.inr ((), r0, r1, r2, r3, r4, r5, ()))) := by kernel_rfl
theorem ok_parax_Of_4 : LOK Try.prog (LoopR.of (sc 78 [16, 15, 1, 2, 3, 4, 5, 14] (tCod 16 cInt (tCod 15 cInt (tOwn 1 0 (tOwn 2 1 (tOwn 3 2 (tOwn 4 3 (tOwn 5 4 (tSl 14 5 tNil)))))))) (rBoxSl 5 ccIv ccIv_ok (rBox ccCard ccCard_ok (rBox ccIv ccIv_ok (rBox ccIv ccIv_ok (rBox ccIv ccIv_ok (rL_surf rNil))))))) (ocExit 0 (sc 78 [1, 2, 3, 4, 5] (tOwn 1 0 (tOwn 2 1 (tOwn 3 2 (tOwn 4 3 (tOwn 5 4 tNil))))) (rBoxSl 5 ccIv ccIv_ok (rBox ccCard ccCard_ok (rBox ccIv ccIv_ok (rBox ccIv ccIv_ok (rBox ccIv ccIv_ok (rL_surf rNil)))))))) (runBy parStep parM)) (loopAt Try.f41 4) := by
  refine loop_ok (EnvOK.add s_iv_Add (EnvOK.add s_iv_Point (EnvOK.add s_iv_Sub (EnvOK.add s_iv_Div (EnvOK.add s_iv_Times (EnvOK.add s_iv_Mul (EnvOK.add s_iv_Neg EnvOK.nil))))))) (LFn.at (fn := Try.f41) LFn.nil 4) parStep (n := 200) (fun x z h => ?_) (runBy_ok _ _)
  obtain ⟨⟨t16, t15, ⟨⟩⟩, ⟨r0, r1, r2, r3, r4, r5, ⟨⟩⟩⟩ := x
  rw [tl_parax_Of_4]
  rw [← h]
  simp only [parStep, parNext, paraU]
  simp only [den_br, den_bind, den_ret, den_fail, den_inl, den_inr, decide_eq_true_eq, gt_iff_lt, ge_iff_le, beq_iff_eq]
  by_cases h0 : t16 < t15 <;> simp only [h0, if_true, if_false]
  by_cases h1 : 0 ≤ t16 ∧ t16 < (r5.length : Int) <;> simp only [h1, and_self, if_true, if_false]
  cases hg : r5[t16.toNat]? with
  | none => rfl
  | some f =>
    try simp only [den_get, den_br, den_bind, den_ret, den_fail]
    cases hs : f.stop <;> simp only [Bool.not_true, Bool.not_false, Bool.false_eq_true, if_true, if_false] <;> by_cases h2 : IntKind.i64.wrap (t16 + 1) < (r5.length : Int) <;> simp only [h2, if_true, if_false] <;> by_cases h3 : 0 ≤ IntKind.i64.wrap (t16 + 1) <;> simp only [h2, h3, and_self, and_true, true_and, false_and, if_true, if_false, and_false, true_and, decide_true, decide_false, Bool.false_eq_true] <;> cases r5[(IntKind.i64.wrap (t16 + 1)).toNat]? <;> rfl
theorem t_parax_Of (t0a : Unit) (t0b : Iv) (r0 : List Surf) :
    evFn Try.prog (Env.add 38 (F2 cIv cIv cIv Iv.add) (Env.add 39 (F1 cInt cIv Iv.point) (Env.add 40 (F2 cIv cIv cIv Iv.sub) (Env.add 45 (F2 cIv cIv cIv Iv.div) (Env.add 62 (F2 cIv cInt cIv Iv.times) (Env.add 65 (F2 cIv cIv cIv Iv.mul) (Env.add 90 (F1 cIv cIv Iv.neg) Env.nil))))))) (Laws.add 4 (LoopR.of (sc 78 [16, 15, 1, 2, 3, 4, 5, 14] (tCod 16 cInt (tCod 15 cInt (tOwn 1 0 (tOwn 2 1 (tOwn 3 2 (tOwn 4 3 (tOwn 5 4 (tSl 14 5 tNil)))))))) (rBoxSl 5 ccIv ccIv_ok (rBox ccCard ccCard_ok (rBox ccIv ccIv_ok (rBox ccIv ccIv_ok (rBox ccIv ccIv_ok (rL_surf rNil))))))) (ocExit 0 (sc 78 [1, 2, 3, 4, 5] (tOwn 1 0 (tOwn 2 1 (tOwn 3 2 (tOwn 4 3 (tOwn 5 4 tNil))))) (rBoxSl 5 ccIv ccIv_ok (rBox ccCard ccCard_ok (rBox ccIv ccIv_ok (rBox ccIv ccIv_ok (rBox ccIv ccIv_ok (rL_surf rNil)))))))) (runBy parStep parM)) Laws.nil) 200 Try.f41 (((sc 1 [0] (tAgg 0 0 ccNil ccNil_ok ccIv ccIv_ok tNil) (rL_surf rNil)).enc ((t0a, t0b, ()), (r0, ()))).tmps.map Prod.snd) ((sc 1 [0] (tAgg 0 0 ccNil ccNil_ok ccIv ccIv_ok tNil) (rL_surf rNil)).enc ((t0a, t0b, ()), (r0, ()))).mem cCard.dec =
      .bind (Go.Proofs.Ythgpgnijbajlgaa.Iv.point 65536) fun viv0 =>
      .bind (Go.Proofs.Ythgpgnijbajlgaa.Iv.point 0) fun viv1 =>
      .get (Go.Proofs.Ythgpgnijbajlgaa.runBy Go.Proofs.Ythgpgnijbajlgaa.parStep Go.Proofs.Ythgpgnijbajlgaa.parM ((0, (@Nat.cast Int _ r0.length), ()), t0b, (Go.Proofs.Ythgpgnijbajlgaa.Iv.mk 0 0 Bool.false, Go.Proofs.Ythgpgnijbajlgaa.Iv.mk 0 0 Bool.false, Go.Proofs.Ythgpgnijbajlgaa.Iv.mk 0 0 Bool.false, Go.Proofs.Ythgpgnijbajlgaa.Iv.mk 0 0 Bool.false), viv0, viv0, viv1, r0, ())) fun vy2 =>
      .bind (vy2.snd.snd.snd.fst.div vy2.snd.snd.snd.snd.snd.fst) fun viv3 =>
      .bind (viv3.neg) fun viv4 =>
      .bind (vy2.snd.snd.snd.snd.fst.div vy2.snd.snd.snd.snd.snd.fst) fun viv5 =>
      .bind (viv5.neg) fun viv6 =>
      .bind (viv6.sub viv4) fun viv7 =>
      .bind (vy2.snd.fst.times 2) fun viv8 =>
      .bind (viv4.div viv8) fun viv9 =>
      .ret ((viv4, viv6, viv7, viv9)) := by kernel_rfl
theorem c_parax_Of : PlainS Try.prog 41 (sc 1 [0] (tAgg 0 0 ccNil ccNil_ok ccIv ccIv_ok tNil) (rL_surf rNil)) cCard ((fun x => lenOk x.2.1)) ((fun x => paraxOf x.1.2.1 x.2.1)) := by
  intro x h N w vs hM hv
  obtain ⟨⟨t0a, t0b, ⟨⟩⟩, ⟨r0, ⟨⟩⟩⟩ := x
  refine calls_of_tree (n := 200) (EnvOK.add s_iv_Add (EnvOK.add s_iv_Point (EnvOK.add s_iv_Sub (EnvOK.add s_iv_Div (EnvOK.add s_iv_Times (EnvOK.add s_iv_Mul (EnvOK.add s_iv_Neg EnvOK.nil))))))) Try.func41 hv (Nat.le_of_ble_eq_true (by kernel_rfl)) (LFn.add (fn := Try.f41) (i := 4) (by kernel_rfl) ok_parax_Of_4 LFn.nil) hM cCard ?_
  rw [t_parax_Of]
  simp only at h
  have hl := lenOk_iff.1 h
  have hr := par_run hl t0b (⟨0, 0, false⟩, ⟨0, 0, false⟩, ⟨0, 0, false⟩, ⟨0, 0, false⟩) (Iv.point 65536) (Iv.point 65536) (Iv.point 0)
  simp only [den_br, den_bind, den_ret, den_fail, den_inl, den_inr, hr, den_get]
  rfl
theorem s_parax_Of : Ev.Spec Try.prog 41 (FS (sc 1 [0] (tAgg 0 0 ccNil ccNil_ok ccIv ccIv_ok tNil) (rL_surf rNil)) cCard ((fun x => lenOk x.2.1)) ((fun x => paraxOf x.1.2.1 x.2.1))) := specS rfl (fun vs w => Try.call41 vs w) c_parax_Of

/-! meniscusref20.Parax -/
theorem tl_meniscusref20_Parax_5 (t6 : Int) (r0 : Iv) (r1 : Card) (r2 : Iv) (r3 : Iv) (r4 : Iv) (r5 : List Surf) :
    ev Try.prog (Env.add 97 (F1 cInt cIv Iv.point) (Env.add 98 (F2 cIv cIv cIv Iv.sub) (Env.add 99 (F2 cIv cIv cIv Iv.mul) (Env.add 100 (F2 cIv cIv cIv Iv.add) (Env.add 101 (F1 cIv cIv Iv.neg) (Env.add 102 (F2 cIv cIv cIv Iv.div) (Env.add 103 (F2 cIv cInt cIv Iv.times) Env.nil))))))) Laws.nil 200 none (loopAt Try.f48 5) ((sc 84 [6, 1, 2, 3, 4, 5] (tCod 6 cInt (tOwn 1 0 (tOwn 2 1 (tOwn 3 2 (tOwn 4 3 (tOwn 5 4 tNil)))))) (rBoxSl 5 ccIv ccIv_ok (rBox ccCard ccCard_ok (rBox ccIv ccIv_ok (rBox ccIv ccIv_ok (rBox ccIv ccIv_ok (rL_surf rNil))))))).enc ((t6, ()), (r0, r1, r2, r3, r4, r5, ()))) (backK (sc 84 [6, 1, 2, 3, 4, 5] (tCod 6 cInt (tOwn 1 0 (tOwn 2 1 (tOwn 3 2 (tOwn 4 3 (tOwn 5 4 tNil)))))) (rBoxSl 5 ccIv ccIv_ok (rBox ccCard ccCard_ok (rBox ccIv ccIv_ok (rBox ccIv ccIv_ok (rBox ccIv ccIv_ok (rL_surf rNil))))))) (ocExit 0 (sc 84 [1, 2, 3, 4, 5] (tOwn 1 0 (tOwn 2 1 (tOwn 3 2 (tOwn 4 3 (tOwn 5 4 tNil))))) (rBoxSl 5 ccIv ccIv_ok (rBox ccCard ccCard_ok (rBox ccIv ccIv_ok (rBox ccIv ccIv_ok (rBox ccIv ccIv_ok (rL_surf rNil))))))))) =
      .br (Decidable.decide (t6 < (@Nat.cast Int _ r5.length)))
       (
        .br (Decidable.decide (0 ≤ t6 ∧ t6 < (@Nat.cast Int _ r5.length)))
         (
          .get (r5[t6.toNat]?) fun vt0 =>
          .br (!vt0.stop)
           (
            .bind (vt0.ratio.mul r4) fun viv1 =>
            .bind (r3.mul vt0.curve) fun viv2 =>
            .bind (r2.sub vt0.ratio) fun viv3 =>
            .bind (viv2.mul viv3) fun viv4 =>
            .bind (viv1.sub viv4) fun viv5 =>
            .br (Decidable.decide (Go.IntKind.i64.wrap (t6 + 1) < (@Nat.cast Int _ r5.length)))
             (
              .br (Decidable.decide (0 ≤ Go.IntKind.i64.wrap (t6 + 1) ∧ Go.IntKind.i64.wrap (t6 + 1) < (@Nat.cast Int _ r5.length)))
               (
                .get (r5[(Go.IntKind.i64.wrap (t6 + 1)).toNat]?) fun vt6 =>
                .bind (vt6.at_.sub vt0.at_) fun viv7 =>
                .bind (viv5.mul viv7) fun viv8 =>
                .bind (r3.add viv8) fun viv9 =>
                .ret (Sum.inl ((Go.IntKind.i64.wrap (t6 + 1), ()), r0, r1, r2, viv9, viv5, r5, ())))
               (
                .fail))
             (
              .ret (Sum.inl ((Go.IntKind.i64.wrap (t6 + 1), ()), r0, r1, r2, r3, viv5, r5, ()))))
           (
            .br (Decidable.decide (Go.IntKind.i64.wrap (t6 + 1) < (@Nat.cast Int _ r5.length)))
             (
              .br (Decidable.decide (0 ≤ Go.IntKind.i64.wrap (t6 + 1) ∧ Go.IntKind.i64.wrap (t6 + 1) < (@Nat.cast Int _ r5.length)))
               (
                .get (r5[(Go.IntKind.i64.wrap (t6 + 1)).toNat]?) fun vt10 =>
                .bind (vt10.at_.sub vt0.at_) fun viv11 =>
                .bind (r4.mul viv11) fun viv12 =>
                .bind (r3.add viv12) fun viv13 =>
                .ret (Sum.inl ((Go.IntKind.i64.wrap (t6 + 1), ()), r0, r1, r2, viv13, r4, r5, ())))
               (
                .fail))
             (
              .ret (Sum.inl ((Go.IntKind.i64.wrap (t6 + 1), ()), r0, r1, r2, r3, r4, r5, ())))))
         (
          .fail))
       (
        .ret (Sum.inr ((), r0, r1, r2, r3, r4, r5, ()))) := by kernel_rfl
theorem ok_meniscusref20_Parax_5 : LOK Try.prog (LoopR.of (sc 84 [6, 1, 2, 3, 4, 5] (tCod 6 cInt (tOwn 1 0 (tOwn 2 1 (tOwn 3 2 (tOwn 4 3 (tOwn 5 4 tNil)))))) (rBoxSl 5 ccIv ccIv_ok (rBox ccCard ccCard_ok (rBox ccIv ccIv_ok (rBox ccIv ccIv_ok (rBox ccIv ccIv_ok (rL_surf rNil))))))) (ocExit 0 (sc 84 [1, 2, 3, 4, 5] (tOwn 1 0 (tOwn 2 1 (tOwn 3 2 (tOwn 4 3 (tOwn 5 4 tNil))))) (rBoxSl 5 ccIv ccIv_ok (rBox ccCard ccCard_ok (rBox ccIv ccIv_ok (rBox ccIv ccIv_ok (rBox ccIv ccIv_ok (rL_surf rNil)))))))) (runBy parStep2 parM2)) (loopAt Try.f48 5) := by
  refine loop_ok (EnvOK.add s_meniscusref1_Point (EnvOK.add s_meniscusref1_Sub (EnvOK.add s_meniscusref1_MulIv (EnvOK.add s_meniscusref1_Add (EnvOK.add s_meniscusref1_Neg (EnvOK.add s_meniscusref1_DivIv (EnvOK.add s_meniscusref1_Times EnvOK.nil))))))) (LFn.at (fn := Try.f48) LFn.nil 5) parStep2 (n := 200) (fun x z h => ?_) (runBy_ok _ _)
  obtain ⟨⟨t6, ⟨⟩⟩, ⟨r0, r1, r2, r3, r4, r5, ⟨⟩⟩⟩ := x
  rw [tl_meniscusref20_Parax_5]
  rw [← h]
  simp only [parStep2, parNext, paraU]
  simp only [den_br, den_bind, den_ret, den_fail, den_inl, den_inr, decide_eq_true_eq, gt_iff_lt, ge_iff_le, beq_iff_eq]
  by_cases h0 : t6 < (r5.length : Int) <;> simp only [h0, if_true, if_false]
  by_cases h1 : 0 ≤ t6 <;> simp only [h0, h1, and_self, true_and, and_true, false_and, if_true, if_false]
  cases hg : r5[t6.toNat]? with
  | none => rfl
  | some f =>
    try simp only [den_get, den_br, den_bind, den_ret, den_fail]
    cases hs : f.stop <;> simp only [Bool.not_true, Bool.not_false, Bool.false_eq_true, if_true, if_false] <;> by_cases h2 : IntKind.i64.wrap (t6 + 1) < (r5.length : Int) <;> simp only [h2, if_true, if_false] <;> by_cases h3 : 0 ≤ IntKind.i64.wrap (t6 + 1) <;> simp only [h2, h3, and_self, and_true, true_and, false_and, if_true, if_false, and_false, true_and, decide_true, decide_false, Bool.false_eq_true] <;> cases r5[(IntKind.i64.wrap (t6 + 1)).toNat]? <;> rfl
theorem t_meniscusref20_Parax (t0a : Unit) (t0b : Iv) (r0 : List Surf) :
    evFn Try.prog (Env.add 97 (F1 cInt cIv Iv.point) (Env.add 98 (F2 cIv cIv cIv Iv.sub) (Env.add 99 (F2 cIv cIv cIv Iv.mul) (Env.add 100 (F2 cIv cIv cIv Iv.add) (Env.add 101 (F1 cIv cIv Iv.neg) (Env.add 102 (F2 cIv cIv cIv Iv.div) (Env.add 103 (F2 cIv cInt cIv Iv.times) Env.nil))))))) (Laws.add 5 (LoopR.of (sc 84 [6, 1, 2, 3, 4, 5] (tCod 6 cInt (tOwn 1 0 (tOwn 2 1 (tOwn 3 2 (tOwn 4 3 (tOwn 5 4 tNil)))))) (rBoxSl 5 ccIv ccIv_ok (rBox ccCard ccCard_ok (rBox ccIv ccIv_ok (rBox ccIv ccIv_ok (rBox ccIv ccIv_ok (rL_surf rNil))))))) (ocExit 0 (sc 84 [1, 2, 3, 4, 5] (tOwn 1 0 (tOwn 2 1 (tOwn 3 2 (tOwn 4 3 (tOwn 5 4 tNil))))) (rBoxSl 5 ccIv ccIv_ok (rBox ccCard ccCard_ok (rBox ccIv ccIv_ok (rBox ccIv ccIv_ok (rBox ccIv ccIv_ok (rL_surf rNil)))))))) (runBy parStep2 parM2)) Laws.nil) 200 Try.f48 (((sc 1 [0] (tAgg 0 0 ccNil ccNil_ok ccIv ccIv_ok tNil) (rL_surf rNil)).enc ((t0a, t0b, ()), (r0, ()))).tmps.map Prod.snd) ((sc 1 [0] (tAgg 0 0 ccNil ccNil_ok ccIv ccIv_ok tNil) (rL_surf rNil)).enc ((t0a, t0b, ()), (r0, ()))).mem cCard.dec =
      .bind (Go.Proofs.Ythgpgnijbajlgaa.Iv.point 65536) fun viv0 =>
      .bind (Go.Proofs.Ythgpgnijbajlgaa.Iv.point 0) fun viv1 =>
      .get (Go.Proofs.Ythgpgnijbajlgaa.runBy Go.Proofs.Ythgpgnijbajlgaa.parStep2 Go.Proofs.Ythgpgnijbajlgaa.parM2 ((0, ()), t0b, (Go.Proofs.Ythgpgnijbajlgaa.Iv.mk 0 0 Bool.false, Go.Proofs.Ythgpgnijbajlgaa.Iv.mk 0 0 Bool.false, Go.Proofs.Ythgpgnijbajlgaa.Iv.mk 0 0 Bool.false, Go.Proofs.Ythgpgnijbajlgaa.Iv.mk 0 0 Bool.false), viv0, viv0, viv1, r0, ())) fun vy2 =>
      .bind (vy2.snd.snd.snd.fst.div vy2.snd.snd.snd.snd.snd.fst) fun viv3 =>
      .bind (viv3.neg) fun viv4 =>
      .bind (vy2.snd.snd.snd.snd.fst.div vy2.snd.snd.snd.snd.snd.fst) fun viv5 =>
      .bind (viv5.neg) fun viv6 =>
      .bind (viv6.sub viv4) fun viv7 =>
      .bind (vy2.snd.fst.times 2) fun viv8 =>
      .bind (viv4.div viv8) fun viv9 =>
      .ret ((viv4, viv6, viv7, viv9)) := by kernel_rfl
theorem c_meniscusref20_Parax : PlainS Try.prog 48 (sc 1 [0] (tAgg 0 0 ccNil ccNil_ok ccIv ccIv_ok tNil) (rL_surf rNil)) cCard ((fun x => lenOk x.2.1)) ((fun x => paraxOf x.1.2.1 x.2.1)) := by
  intro x h N w vs hM hv
  obtain ⟨⟨t0a, t0b, ⟨⟩⟩, ⟨r0, ⟨⟩⟩⟩ := x
  refine calls_of_tree (n := 200) (EnvOK.add s_meniscusref1_Point (EnvOK.add s_meniscusref1_Sub (EnvOK.add s_meniscusref1_MulIv (EnvOK.add s_meniscusref1_Add (EnvOK.add s_meniscusref1_Neg (EnvOK.add s_meniscusref1_DivIv (EnvOK.add s_meniscusref1_Times EnvOK.nil))))))) Try.func48 hv (Nat.le_of_ble_eq_true (by kernel_rfl)) (LFn.add (fn := Try.f48) (i := 5) (by kernel_rfl) ok_meniscusref20_Parax_5 LFn.nil) hM cCard ?_
  rw [t_meniscusref20_Parax]
  simp only at h
  have hl := lenOk_iff.1 h
  have hr := par_run2 hl t0b (⟨0, 0, false⟩, ⟨0, 0, false⟩, ⟨0, 0, false⟩, ⟨0, 0, false⟩) (Iv.point 65536) (Iv.point 65536) (Iv.point 0)
  simp only [den_br, den_bind, den_ret, den_fail, den_inl, den_inr, hr, den_get]
  rfl
theorem s_meniscusref20_Parax : Ev.Spec Try.prog 48 (FS (sc 1 [0] (tAgg 0 0 ccNil ccNil_ok ccIv ccIv_ok tNil) (rL_surf rNil)) cCard ((fun x => lenOk x.2.1)) ((fun x => paraxOf x.1.2.1 x.2.1))) := specS rfl (fun vs w => Try.call48 vs w) c_meniscusref20_Parax

/-! meniscuslaw20.flat -/
theorem t_meniscuslaw20_flat (x0 : Int) :
    evFn Try.prog (Env.add 39 (F1 cInt cIv Iv.point) (Env.add 46 (F1 cInt cIv Iv.whole) Env.nil)) Laws.nil 200 Try.f44 [cInt.av x0] [] cSurf.dec =
      .bind (Go.Proofs.Ythgpgnijbajlgaa.Iv.point 0) fun viv0 =>
      .bind (Go.Proofs.Ythgpgnijbajlgaa.Iv.whole 1) fun viv1 =>
      .bind (Go.Proofs.Ythgpgnijbajlgaa.Iv.point 0) fun viv2 =>
      .bind (Go.Proofs.Ythgpgnijbajlgaa.Iv.point 0) fun viv3 =>
      .bind (Go.Proofs.Ythgpgnijbajlgaa.Iv.whole x0) fun viv4 =>
      .bind (Go.Proofs.Ythgpgnijbajlgaa.Iv.whole 100) fun viv5 =>
      .bind (Go.Proofs.Ythgpgnijbajlgaa.Iv.whole 1) fun viv6 =>
      .ret (Go.Proofs.Ythgpgnijbajlgaa.Surf.mk Bool.false Bool.false viv0 viv1 viv2 viv3 viv4 viv5 viv6) := by kernel_rfl
theorem c_meniscuslaw20_flat (x0 : Int) : Plain Try.prog 44 [cInt.enc x0] (cSurf.enc (flatAt x0)) :=
  plain_of_tree (n := 200) (EnvOK.add s_iv_Point (EnvOK.add s_iv_Whole EnvOK.nil)) Try.func44 (args := [cInt.av x0]) (by simp only [AV.vals, Cod.av_val]) (Nat.le_of_ble_eq_true (by kernel_rfl)) LFn.nil cSurf (by
    rw [t_meniscuslaw20_flat]
    rfl)
theorem s_meniscuslaw20_flat : Ev.Spec Try.prog 44 (F1 cInt cSurf flatAt) := spec1 (fun vs w => Try.call44 vs w) c_meniscuslaw20_flat

/-! meniscuslaw20.in -/
theorem t_meniscuslaw20_in (x0 : Iv) (x1 : Iv) :
    evFn Try.prog (Env.add 60 (F2 cIv cIv cBool Iv.inside) (Env.add 91 (F1 cIv cBool Iv.right) Env.nil)) Laws.nil 200 Try.f43 [cIv.av x0, cIv.av x1] [] cBool.dec =
      .bind (x1.right) fun vb0 =>
      .br (!vb0)
       (
        .ret (Bool.true))
       (
        .bind (x0.inside x1) fun vb1 =>
        .ret (vb1)) := by kernel_rfl
theorem c_meniscuslaw20_in (x0 : Iv) (x1 : Iv) : Plain Try.prog 43 [cIv.enc x0, cIv.enc x1] (cBool.enc (inCard x0 x1)) :=
  plain_of_tree (n := 200) (EnvOK.add s_iv_Inside (EnvOK.add s_iv_Right EnvOK.nil)) Try.func43 (args := [cIv.av x0, cIv.av x1]) (by simp only [AV.vals, Cod.av_val]) (Nat.le_of_ble_eq_true (by kernel_rfl)) LFn.nil cBool (by
    rw [t_meniscuslaw20_in]
    simp only [den_br, den_bind, den_ret, den_fail, den_inl, den_inr, decide_eq_true_eq, gt_iff_lt, ge_iff_le, beq_iff_eq]
    simp only [inCard]
    cases x1.right <;> simp)
theorem s_meniscuslaw20_in : Ev.Spec Try.prog 43 (F2 cIv cIv cBool inCard) := spec2 (fun vs w => Try.call43 vs w) c_meniscuslaw20_in

/-! meniscuslaw20.known -/
theorem t_meniscuslaw20_known  :
    evFn Try.prog (Env.add 39 (F1 cInt cIv Iv.point) (Env.add 41 (FS (sc 1 [0] (tAgg 0 0 ccNil ccNil_ok ccIv ccIv_ok tNil) (rL_surf rNil)) cCard ((fun x => lenOk x.2.1)) ((fun x => paraxOf x.1.2.1 x.2.1))) (Env.add 44 (F1 cInt cSurf flatAt) (Env.add 45 (F2 cIv cIv cIv Iv.div) (Env.add 46 (F1 cInt cIv Iv.whole) (Env.add 66 (F0 cIv Iv.none) (Env.add 91 (F1 cIv cBool Iv.right) Env.nil))))))) Laws.nil 200 Try.f42 [] [] cBool.dec =
      .bind (Go.Proofs.Ythgpgnijbajlgaa.flatAt 9) fun vsu0 =>
      .bind (Go.Proofs.Ythgpgnijbajlgaa.Iv.whole 5) fun viv1 =>
      .br (Go.Proofs.Ythgpgnijbajlgaa.Ev.lenOk [vsu0])
       (
        .bind (Go.Proofs.Ythgpgnijbajlgaa.paraxOf viv1 [vsu0]) fun vca2 =>
        .bind (Go.Proofs.Ythgpgnijbajlgaa.flatAt 9) fun vsu3 =>
        .bind (Go.Proofs.Ythgpgnijbajlgaa.Iv.whole 1) fun viv4 =>
        .bind (Go.Proofs.Ythgpgnijbajlgaa.Iv.whole 8) fun viv5 =>
        .bind (viv4.div viv5) fun viv6 =>
        .bind (Go.Proofs.Ythgpgnijbajlgaa.Iv.whole 1) fun viv7 =>
        .bind (Go.Proofs.Ythgpgnijbajlgaa.Iv.whole 2) fun viv8 =>
        .bind (viv7.div viv8) fun viv9 =>
        .bind (Go.Proofs.Ythgpgnijbajlgaa.Iv.whole 4) fun viv10 =>
        .br (Go.Proofs.Ythgpgnijbajlgaa.Ev.lenOk [Go.Proofs.Ythgpgnijbajlgaa.Surf.mk vsu3.stop vsu3.bent viv6 vsu3.conic vsu3.a4 vsu3.a6 vsu3.at_ vsu3.open2 viv9])
         (
          .bind (Go.Proofs.Ythgpgnijbajlgaa.paraxOf viv10 [Go.Proofs.Ythgpgnijbajlgaa.Surf.mk vsu3.stop vsu3.bent viv6 vsu3.conic vsu3.a4 vsu3.a6 vsu3.at_ vsu3.open2 viv9]) fun vca11 =>
          .bind (vca11.fst.right) fun vb12 =>
          .br (vb12)
           (
            .bind (Go.Proofs.Ythgpgnijbajlgaa.Iv.none) fun viv13 =>
            .br (vca2.fst.lo == viv13.lo && (vca2.fst.hi == viv13.hi && vca2.fst.no == viv13.no))
             (
              .bind (Go.Proofs.Ythgpgnijbajlgaa.Iv.none) fun viv14 =>
              .br (vca2.snd.fst.lo == viv14.lo && (vca2.snd.fst.hi == viv14.hi && vca2.snd.fst.no == viv14.no))
               (
                .bind (Go.Proofs.Ythgpgnijbajlgaa.Iv.none) fun viv15 =>
                .br (vca2.snd.snd.snd.lo == viv15.lo && (vca2.snd.snd.snd.hi == viv15.hi && vca2.snd.snd.snd.no == viv15.no))
                 (
                  .bind (Go.Proofs.Ythgpgnijbajlgaa.Iv.whole 16) fun viv16 =>
                  .br (vca11.fst.lo == viv16.lo && (vca11.fst.hi == viv16.hi && vca11.fst.no == viv16.no))
                   (
                    .bind (Go.Proofs.Ythgpgnijbajlgaa.Iv.whole 16) fun viv17 =>
                    .br (vca11.snd.fst.lo == viv17.lo && (vca11.snd.fst.hi == viv17.hi && vca11.snd.fst.no == viv17.no))
                     (
                      .bind (Go.Proofs.Ythgpgnijbajlgaa.Iv.point 0) fun viv18 =>
                      .br (vca11.snd.snd.fst.lo == viv18.lo && (vca11.snd.snd.fst.hi == viv18.hi && vca11.snd.snd.fst.no == viv18.no))
                       (
                        .bind (Go.Proofs.Ythgpgnijbajlgaa.Iv.whole 2) fun viv19 =>
                        .ret (vca11.snd.snd.snd.lo == viv19.lo && (vca11.snd.snd.snd.hi == viv19.hi && vca11.snd.snd.snd.no == viv19.no)))
                       (
                        .ret (Bool.false)))
                     (
                      .ret (Bool.false)))
                   (
                    .ret (Bool.false)))
                 (
                  .ret (Bool.false)))
               (
                .ret (Bool.false)))
             (
              .ret (Bool.false)))
           (
            .ret (Bool.false)))
         (
          .fail))
       (
        .fail) := by kernel_rfl
theorem c_meniscuslaw20_known  : Plain Try.prog 42 [] (cBool.enc (true)) :=
  plain_of_tree (n := 200) (EnvOK.add s_iv_Point (EnvOK.add s_parax_Of (EnvOK.add s_meniscuslaw20_flat (EnvOK.add s_iv_Div (EnvOK.add s_iv_Whole (EnvOK.add s_iv_None (EnvOK.add s_iv_Right EnvOK.nil))))))) Try.func42 (args := []) rfl (Nat.le_of_ble_eq_true (by kernel_rfl)) LFn.nil cBool (by
    rw [t_meniscuslaw20_known]
    decide +kernel)
theorem s_meniscuslaw20_known : Ev.Spec Try.prog 42 (F0 cBool true) := spec0 (fun vs w => Try.call42 vs w) c_meniscuslaw20_known

/-! meniscuslaw20.ParaxLess -/
theorem tl_meniscuslaw20_ParaxLess_4 (t25 : Int) (t24 : Int) (t2 : Int) (t3 : Int) (r0 : List Surf) (r1 : Iv) (r2 : Iv) (r3 : List Surf) :
    ev Try.prog (Env.add 22 (F2p cInt cInt cInt pickOk pick) (Env.add 36 (FR (sc 5 [0, 1, 2, 3, 4] (tCod 0 cInt (tSl 1 0 (tSl 2 1 (tCod 3 cInt (tCod 4 cBool tNil))))) (rL_rface (rL_int rNil))) (sc 1 [0] (tAgg 0 0 ccNil ccNil_ok ccIv ccIv_ok tNil) (rG_surf 68 rNil)) ((fun x => mostOk x.1.2.1)) ((fun x => (fun r : SysV => (((), r.1, ()), (r.2, ()))) (systemOf x.1.1 x.2.1 x.2.2.1 x.1.2.1 x.1.2.2.1)))) (Env.add 37 (F2 cIv cIv cIv Iv.hull) (Env.add 38 (F2 cIv cIv cIv Iv.add) (Env.add 39 (F1 cInt cIv Iv.point) (Env.add 40 (F2 cIv cIv cIv Iv.sub) (Env.add 41 (FS (sc 1 [0] (tAgg 0 0 ccNil ccNil_ok ccIv ccIv_ok tNil) (rL_surf rNil)) cCard ((fun x => lenOk x.2.1)) ((fun x => paraxOf x.1.2.1 x.2.1))) (Env.add 42 (F0 cBool true) (Env.add 43 (F2 cIv cIv cBool inCard) Env.nil))))))))) Laws.nil 200 none (loopAt Try.f8 4) ((sc 97 [25, 24, 2, 3, 23, 9, 10] (tCod 25 cInt (tCod 24 cInt (tCod 2 cInt (tCod 3 cInt (tSl 23 0 (tOwn 9 1 (tOwn 10 2 tNil))))))) (rG_surf 68 (rBoxSl 0 ccIv ccIv_ok (rBoxSl 3 ccIv ccIv_ok (rG_surf 68 rNil))))).enc ((t25, t24, t2, t3, ()), (r0, r1, r2, r3, ()))) (backK (sc 97 [25, 24, 2, 3, 23, 9, 10] (tCod 25 cInt (tCod 24 cInt (tCod 2 cInt (tCod 3 cInt (tSl 23 0 (tOwn 9 1 (tOwn 10 2 tNil))))))) (rG_surf 68 (rBoxSl 0 ccIv ccIv_ok (rBoxSl 3 ccIv ccIv_ok (rG_surf 68 rNil))))) (ocExit 0 (sc 97 [9, 10] (tOwn 9 0 (tOwn 10 1 tNil)) (rBoxSl 2 ccIv ccIv_ok (rBoxSl 3 ccIv ccIv_ok (rG_surf 68 (rG_surf 68 rNil))))))) =
      .br (Decidable.decide (t25 < t24))
       (
        .br (Decidable.decide (0 ≤ t25 ∧ t25 < (@Nat.cast Int _ r0.length)))
         (
          .get (r0[t25.toNat]?) fun vt0 =>
          .br (Go.IntKind.i64.wrap (t25 + 1) != 0)
           (
            .br (Go.Proofs.Ythgpgnijbajlgaa.pickOk (Go.IntKind.i64.wrap (t2.tdiv (Go.IntKind.i64.wrap (t25 + 1)))) 9)
             (
              .bind (Go.Proofs.Ythgpgnijbajlgaa.pick (Go.IntKind.i64.wrap (t2.tdiv (Go.IntKind.i64.wrap (t25 + 1)))) 9) fun vn1 =>
              .bind (Go.Proofs.Ythgpgnijbajlgaa.Iv.point vn1) fun viv2 =>
              .bind (vt0.curve.add viv2) fun viv3 =>
              .bind (vt0.curve.hull viv3) fun viv4 =>
              .br (Go.IntKind.i64.wrap (t25 + 1) != 0)
               (
                .br (Go.Proofs.Ythgpgnijbajlgaa.pickOk (Go.IntKind.i64.wrap (t3.tdiv (Go.IntKind.i64.wrap (t25 + 1)))) 9)
                 (
                  .bind (Go.Proofs.Ythgpgnijbajlgaa.pick (Go.IntKind.i64.wrap (t3.tdiv (Go.IntKind.i64.wrap (t25 + 1)))) 9) fun vn5 =>
                  .bind (Go.Proofs.Ythgpgnijbajlgaa.Iv.point vn5) fun viv6 =>
                  .bind (vt0.ratio.sub viv6) fun viv7 =>
                  .bind (vt0.ratio.hull viv7) fun viv8 =>
                  .br (Go.Proofs.Ythgpgnijbajlgaa.Ev.lenOk (r3 ++ [Go.Proofs.Ythgpgnijbajlgaa.Surf.mk vt0.stop vt0.bent viv4 vt0.conic vt0.a4 vt0.a6 vt0.at_ vt0.open2 viv8]))
                   (
                    .ret (Sum.inl ((Go.IntKind.i64.wrap (t25 + 1), t24, t2, t3, ()), r0, r1, r2, r3 ++ [Go.Proofs.Ythgpgnijbajlgaa.Surf.mk vt0.stop vt0.bent viv4 vt0.conic vt0.a4 vt0.a6 vt0.at_ vt0.open2 viv8], ())))
                   (
                    .fail))
                 (
                  .fail))
               (
                .fail))
             (
              .fail))
           (
            .fail))
         (
          .fail))
       (
        .ret (Sum.inr ((), r1, r2, r0, r3, ()))) := by kernel_rfl
theorem ok_meniscuslaw20_ParaxLess_4 : LOK Try.prog (LoopR.of (sc 97 [25, 24, 2, 3, 23, 9, 10] (tCod 25 cInt (tCod 24 cInt (tCod 2 cInt (tCod 3 cInt (tSl 23 0 (tOwn 9 1 (tOwn 10 2 tNil))))))) (rG_surf 68 (rBoxSl 0 ccIv ccIv_ok (rBoxSl 3 ccIv ccIv_ok (rG_surf 68 rNil))))) (ocExit 0 (sc 97 [9, 10] (tOwn 9 0 (tOwn 10 1 tNil)) (rBoxSl 2 ccIv ccIv_ok (rBoxSl 3 ccIv ccIv_ok (rG_surf 68 (rG_surf 68 rNil)))))) (runBy wideStep wideM)) (loopAt Try.f8 4) := by
  refine loop_ok (EnvOK.add s_meniscushand_Pick (EnvOK.add s_meniscushand_System (EnvOK.add s_iv_Hull (EnvOK.add s_iv_Add (EnvOK.add s_iv_Point (EnvOK.add s_iv_Sub (EnvOK.add s_parax_Of (EnvOK.add s_meniscuslaw20_known (EnvOK.add s_meniscuslaw20_in EnvOK.nil))))))))) (LFn.at (fn := Try.f8) LFn.nil 4) wideStep (n := 200) (fun x z h => ?_) (runBy_ok _ _)
  obtain ⟨⟨t25, t24, t2, t3, ⟨⟩⟩, ⟨r0, r1, r2, r3, ⟨⟩⟩⟩ := x
  rw [tl_meniscuslaw20_ParaxLess_4]
  rw [← h]
  simp only [wideStep, widen]
  simp only [den_br, den_bind, den_ret, den_fail, den_inl, den_inr, decide_eq_true_eq, gt_iff_lt, ge_iff_le, beq_iff_eq]
  by_cases h0 : t25 < t24 <;> simp only [h0, if_true, if_false]
  by_cases h1 : 0 ≤ t25 ∧ t25 < (r0.length : Int) <;> simp only [h1, and_self, if_true, if_false]
  cases hg : r0[t25.toNat]? with
  | none => rfl
  | some f =>
    have hp : ∀ n : Int, pickOk n 9 = true := fun _ => by simp [pickOk]
    simp only [den_get, den_br, den_bind, den_ret, den_fail, bne_iff_ne, ne_eq, hp, if_true]
    by_cases h2 : IntKind.i64.wrap (t25 + 1) = 0
    · simp [h2]
    · simp [h2]
      rfl
theorem t_meniscuslaw20_ParaxLess (t0 : Int) (t2 : Int) (t3 : Int) (r0 : List RawFace) :
    evFn Try.prog (Env.add 22 (F2p cInt cInt cInt pickOk pick) (Env.add 36 (FR (sc 5 [0, 1, 2, 3, 4] (tCod 0 cInt (tSl 1 0 (tSl 2 1 (tCod 3 cInt (tCod 4 cBool tNil))))) (rL_rface (rL_int rNil))) (sc 1 [0] (tAgg 0 0 ccNil ccNil_ok ccIv ccIv_ok tNil) (rG_surf 68 rNil)) ((fun x => mostOk x.1.2.1)) ((fun x => (fun r : SysV => (((), r.1, ()), (r.2, ()))) (systemOf x.1.1 x.2.1 x.2.2.1 x.1.2.1 x.1.2.2.1)))) (Env.add 37 (F2 cIv cIv cIv Iv.hull) (Env.add 38 (F2 cIv cIv cIv Iv.add) (Env.add 39 (F1 cInt cIv Iv.point) (Env.add 40 (F2 cIv cIv cIv Iv.sub) (Env.add 41 (FS (sc 1 [0] (tAgg 0 0 ccNil ccNil_ok ccIv ccIv_ok tNil) (rL_surf rNil)) cCard ((fun x => lenOk x.2.1)) ((fun x => paraxOf x.1.2.1 x.2.1))) (Env.add 42 (F0 cBool true) (Env.add 43 (F2 cIv cIv cBool inCard) Env.nil))))))))) (Laws.add 4 (LoopR.of (sc 97 [25, 24, 2, 3, 23, 9, 10] (tCod 25 cInt (tCod 24 cInt (tCod 2 cInt (tCod 3 cInt (tSl 23 0 (tOwn 9 1 (tOwn 10 2 tNil))))))) (rG_surf 68 (rBoxSl 0 ccIv ccIv_ok (rBoxSl 3 ccIv ccIv_ok (rG_surf 68 rNil))))) (ocExit 0 (sc 97 [9, 10] (tOwn 9 0 (tOwn 10 1 tNil)) (rBoxSl 2 ccIv ccIv_ok (rBoxSl 3 ccIv ccIv_ok (rG_surf 68 (rG_surf 68 rNil)))))) (runBy wideStep wideM)) Laws.nil) 200 Try.f8 (((sc 4 [0, 1, 2, 3] (tCod 0 cInt (tSl 1 0 (tCod 2 cInt (tCod 3 cInt tNil)))) (rL_rface rNil)).enc ((t0, t2, t3, ()), (r0, ()))).tmps.map Prod.snd) ((sc 4 [0, 1, 2, 3] (tCod 0 cInt (tSl 1 0 (tCod 2 cInt (tCod 3 cInt tNil)))) (rL_rface rNil)).enc ((t0, t2, t3, ()), (r0, ()))).mem cBool.dec =
      .br (Go.Proofs.Ythgpgnijbajlgaa.mostOk 5)
       (
        .bind ((((), (Go.Proofs.Ythgpgnijbajlgaa.systemOf t0 r0 [] 5 Bool.false).fst, ()), (Go.Proofs.Ythgpgnijbajlgaa.systemOf t0 r0 [] 5 Bool.false).snd, ())) fun vy0 =>
        .get (Go.Proofs.Ythgpgnijbajlgaa.runBy Go.Proofs.Ythgpgnijbajlgaa.wideStep Go.Proofs.Ythgpgnijbajlgaa.wideM ((0, (@Nat.cast Int _ vy0.snd.fst.length), t2, t3, ()), vy0.snd.fst, vy0.fst.snd.fst, vy0.fst.snd.fst, [], ())) fun vy1 =>
        .br (Go.Proofs.Ythgpgnijbajlgaa.Ev.lenOk vy1.snd.snd.snd.snd.fst)
         (
          .bind (Go.Proofs.Ythgpgnijbajlgaa.paraxOf vy1.snd.snd.fst vy1.snd.snd.snd.snd.fst) fun vca2 =>
          .br (Go.Proofs.Ythgpgnijbajlgaa.Ev.lenOk vy1.snd.snd.snd.fst)
           (
            .bind (Go.Proofs.Ythgpgnijbajlgaa.paraxOf vy1.snd.fst vy1.snd.snd.snd.fst) fun vca3 =>
            .bind (Bool.true) fun vb4 =>
            .br (vb4)
             (
              .bind (Go.Proofs.Ythgpgnijbajlgaa.inCard vca3.fst vca2.fst) fun vb5 =>
              .br (vb5)
               (
                .bind (Go.Proofs.Ythgpgnijbajlgaa.inCard vca3.snd.fst vca2.snd.fst) fun vb6 =>
                .br (vb6)
                 (
                  .bind (Go.Proofs.Ythgpgnijbajlgaa.inCard vca3.snd.snd.fst vca2.snd.snd.fst) fun vb7 =>
                  .br (vb7)
                   (
                    .bind (Go.Proofs.Ythgpgnijbajlgaa.inCard vca3.snd.snd.snd vca2.snd.snd.snd) fun vb8 =>
                    .ret (vb8))
                   (
                    .ret (Bool.false)))
                 (
                  .ret (Bool.false)))
               (
                .ret (Bool.false)))
             (
              .ret (Bool.false)))
           (
            .fail))
         (
          .fail))
       (
        .fail) := by kernel_rfl
theorem c_meniscuslaw20_ParaxLess : PlainS Try.prog 8 (sc 4 [0, 1, 2, 3] (tCod 0 cInt (tSl 1 0 (tCod 2 cInt (tCod 3 cInt tNil)))) (rL_rface rNil)) cBool (fun _ => true) ((fun _ => true)) := by
  intro x h N w vs hM hv
  obtain ⟨⟨t0, t2, t3, ⟨⟩⟩, ⟨r0, ⟨⟩⟩⟩ := x
  refine calls_of_tree (n := 200) (EnvOK.add s_meniscushand_Pick (EnvOK.add s_meniscushand_System (EnvOK.add s_iv_Hull (EnvOK.add s_iv_Add (EnvOK.add s_iv_Point (EnvOK.add s_iv_Sub (EnvOK.add s_parax_Of (EnvOK.add s_meniscuslaw20_known (EnvOK.add s_meniscuslaw20_in EnvOK.nil))))))))) Try.func8 hv (Nat.le_of_ble_eq_true (by kernel_rfl)) (LFn.add (fn := Try.f8) (i := 4) (by kernel_rfl) ok_meniscuslaw20_ParaxLess_4 LFn.nil) hM cBool ?_
  rw [t_meniscuslaw20_ParaxLess]
  have hR := systemOf_R t0 r0 [] false (most := 5) rfl
  have hlen : (systemOf t0 r0 [] 5 false).2.length ≤ 1048576 := by have := hR.len; omega
  have hlo : Ev.lenOk (systemOf t0 r0 [] 5 false).2 = true := lenOk_iff.2 hlen
  have hlw : Ev.lenOk (wideGo t2 t3 0 (systemOf t0 r0 [] 5 false).2) = true := lenOk_iff.2 (by rw [wideGo_len]; exact hlen)
  have hr := wide_run hlen t2 t3 (systemOf t0 r0 [] 5 false).1 (systemOf t0 r0 [] 5 false).1
  obtain ⟨s1, s2, s3, s4⟩ := paraxOf_sub (systemOf t0 r0 [] 5 false).1 (wideGo_sub t2 t3 (systemOf t0 r0 [] 5 false).2 0)
  simp only [show mostOk 5 = true from rfl, hlo, hr, hlw, if_true, den_br, den_bind, den_get, den_ret, den_fail, inCard_sub s1, inCard_sub s2, inCard_sub s3, inCard_sub s4]
theorem s_meniscuslaw20_ParaxLess : Ev.Spec Try.prog 8 (FS (sc 4 [0, 1, 2, 3] (tCod 0 cInt (tSl 1 0 (tCod 2 cInt (tCod 3 cInt tNil)))) (rL_rface rNil)) cBool (fun _ => true) ((fun _ => true))) := specS rfl (fun vs w => Try.call8 vs w) c_meniscuslaw20_ParaxLess
end Go.Proofs.Ythgpgnijbajlgaa
