/-
  Contracts of calls, written by a small program of this session out of the evaluator's trees.
-/
import Derived.Test.YthdpjmkknodmpaaGreatCore
import Derived.Test.YthdpjmkknodmpaaGreatCoreLoops
import Derived.Test.YthdpjmkknodmpaaGreatCore2
import Derived.Test.YthdpjmkknodmpaaGreatCore3
import Derived.Test.YthdpjmkknodmpaaGreatCore4
import Derived.Test.YthdpjmkknodmpaaGreatCore5
import Derived.Test.YthdpjmkknodmpaaGreatCore6
import Derived.Test.YthdpjmkknodmpaaGreatCore7
import Derived.Test.YthdpjmkknodmpaaGreatCore8
import Derived.Test.YthdpjmkknodmpaaGreatCore9
import Derived.Test.YthdpjmkknodmpaaGreatEvMore
import Derived.Test.YthdpjmkknodmpaaGreatSym
import Derived.Test.YthdpjmkknodmpaaGreatSysF
import Derived.Test.YthdpjmkknodmpaaGreatLess2
import Derived.Test.YthdpjmkknodmpaaGreatFoc
import Derived.Test.YthdpjmkknodmpaaGreatR1
import Derived.Test.YthdpjmkknodmpaaGreatEvCod
import Derived.Test.YthdpjmkknodmpaaGreatEvRet
import Derived.Test.YthdpjmkknodmpaaGreatProg
import Derived.Test.YthdpjmkknodmpaaGreatF0
namespace Go.Proofs.YthdpjmkknodmpaaGreat
open Go Go.RowKit Ev
set_option maxRecDepth 100000
set_option linter.unusedVariables false
set_option linter.unusedSimpArgs false

/-! meniscuslaw21.FocusSigns -/
theorem t_meniscuslaw21_FocusSigns (t0 : Int) (t2 : Int) (t3 : Int) (t4 : Int) (t5 : Int) (r0 : List RawFace) :
    evFn Tryz.prog (Env.add 6 (FR (sc 5 [0, 1, 2, 3, 4] (tCod 0 cInt (tSl 1 0 (tSl 2 1 (tCod 3 cInt (tCod 4 cBool tNil))))) (rL_rface (rL_int rNil))) (sc 1 [0] (tAgg 0 0 ccNil ccNil_ok ccIv ccIv_ok tNil) (rG_surf 86 rNil)) ((fun x => mostOk x.1.2.1)) ((fun x => (fun r : SysV => (((), r.1, ()), (r.2, ()))) (systemOf x.1.1 x.2.1 x.2.2.1 x.1.2.1 x.1.2.2.1)))) (Env.add 8 (F2p cInt cInt cInt pickOk pick) (Env.add 9 (FS (sc 3 [0, 1, 2] (tAgg 0 0 ccNil ccNil_ok ccIv ccIv_ok (tCod 1 cIv (tCod 2 cIv tNil))) (rL_surf rNil)) (cTwo cIv cInt) ((fun x => lenOk x.2.1)) ((fun x => crossOf x.2.1 x.1.2.2.1 x.1.2.2.2.1))) (Env.add 12 (FS (sc 5 [0, 1, 2, 3, 4] (tAgg 0 0 ccNil ccNil_ok ccIv ccIv_ok (tCod 1 cIv (tCod 2 cInt (tCod 3 cInt (tCod 4 cInt tNil))))) (rL_surf rNil)) (cTwo cIv cInt) ((fun x => lenOk x.2.1)) ((fun x => focusOf x.2.1 x.1.2.2.1 x.1.2.2.2.1 x.1.2.2.2.2.1 x.1.2.2.2.2.2.1))) (Env.add 14 (F0 cBool true) (Env.add 15 (F1 cInt cIv Iv.point) (Env.add 16 (F2 cIv cInt cBool Iv.has) Env.nil))))))) Laws.nil 200 Tryz.f4 (((sc 6 [0, 1, 2, 3, 4, 5] (tCod 0 cInt (tSl 1 0 (tCod 2 cInt (tCod 3 cInt (tCod 4 cInt (tCod 5 cInt tNil)))))) (rL_rface rNil)).enc ((t0, t2, t3, t4, t5, ()), (r0, ()))).tmps.map Prod.snd) ((sc 6 [0, 1, 2, 3, 4, 5] (tCod 0 cInt (tSl 1 0 (tCod 2 cInt (tCod 3 cInt (tCod 4 cInt (tCod 5 cInt tNil)))))) (rL_rface rNil)).enc ((t0, t2, t3, t4, t5, ()), (r0, ()))).mem cBool.dec =
      .br (Go.Proofs.YthdpjmkknodmpaaGreat.mostOk 4)
       (
        .bind ((((), (Go.Proofs.YthdpjmkknodmpaaGreat.systemOf t0 r0 [] 4 Bool.true).fst, ()), (Go.Proofs.YthdpjmkknodmpaaGreat.systemOf t0 r0 [] 4 Bool.true).snd, ())) fun vy0 =>
        .br (Go.Proofs.YthdpjmkknodmpaaGreat.pickOk t2 196608)
         (
          .bind (Go.Proofs.YthdpjmkknodmpaaGreat.pick t2 196608) fun vn1 =>
          .bind (Go.Proofs.YthdpjmkknodmpaaGreat.Iv.point (Go.IntKind.i64.wrap (1 + vn1))) fun viv2 =>
          .br (Go.Proofs.YthdpjmkknodmpaaGreat.pickOk t3 6553600)
           (
            .bind (Go.Proofs.YthdpjmkknodmpaaGreat.pick t3 6553600) fun vn3 =>
            .br (Go.Proofs.YthdpjmkknodmpaaGreat.pickOk t4 26214400)
             (
              .bind (Go.Proofs.YthdpjmkknodmpaaGreat.pick t4 26214400) fun vn4 =>
              .br (Go.Proofs.YthdpjmkknodmpaaGreat.pickOk t5 9000)
               (
                .bind (Go.Proofs.YthdpjmkknodmpaaGreat.pick t5 9000) fun vn5 =>
                .br (Go.Proofs.YthdpjmkknodmpaaGreat.Ev.lenOk vy0.snd.fst)
                 (
                  .bind (Go.Proofs.YthdpjmkknodmpaaGreat.focusOf vy0.snd.fst viv2 (Go.IntKind.i64.wrap (vn3 - 3276800)) (Go.IntKind.i64.wrap (Go.IntKind.i64.wrap (Go.IntKind.i64.wrap (vn3 - 3276800) + 1) + vn4)) (Go.IntKind.i64.wrap (1 + vn5))) fun vy6 =>
                  .br (vy6.snd != 0)
                   (
                    .bind (Bool.true) fun vb7 =>
                    .br (vb7)
                     (
                      .br (vy6.fst.lo == 0 && (vy6.fst.hi == 0 && vy6.fst.no == Bool.false))
                       (
                        .br (vy6.snd == 7)
                         (
                          .ret (Bool.true))
                         (
                          .ret (vy6.snd == 8)))
                       (
                        .ret (Bool.false)))
                     (
                      .ret (Bool.false)))
                   (
                    .bind (Go.Proofs.YthdpjmkknodmpaaGreat.Iv.point vy6.fst.lo) fun viv8 =>
                    .br (Go.Proofs.YthdpjmkknodmpaaGreat.Ev.lenOk vy0.snd.fst)
                     (
                      .bind (Go.Proofs.YthdpjmkknodmpaaGreat.crossOf vy0.snd.fst viv2 viv8) fun vy9 =>
                      .bind (Go.Proofs.YthdpjmkknodmpaaGreat.Iv.point vy6.fst.hi) fun viv10 =>
                      .br (Go.Proofs.YthdpjmkknodmpaaGreat.Ev.lenOk vy0.snd.fst)
                       (
                        .bind (Go.Proofs.YthdpjmkknodmpaaGreat.crossOf vy0.snd.fst viv2 viv10) fun vy11 =>
                        .br (Go.Proofs.YthdpjmkknodmpaaGreat.Ev.lenOk vy0.snd.fst)
                         (
                          .bind (Go.Proofs.YthdpjmkknodmpaaGreat.crossOf vy0.snd.fst viv2 vy6.fst) fun vy12 =>
                          .bind (Bool.true) fun vb13 =>
                          .br (vb13)
                           (
                            .br (vy9.snd == 1)
                             (
                              .br (vy11.snd == 1)
                               (
                                .br (Decidable.decide (vy9.fst.lo > 0))
                                 (
                                  .br (Decidable.decide (vy11.fst.hi < 0))
                                   (
                                    .br (Decidable.decide (Go.IntKind.i64.wrap (vy6.fst.hi - vy6.fst.lo) ≤ Max.max (Go.IntKind.i64.wrap (1 + vn5)) 1))
                                     (
                                      .br (Decidable.decide (vy6.fst.lo ≥ Go.IntKind.i64.wrap (vn3 - 3276800)))
                                       (
                                        .br (Decidable.decide (vy6.fst.hi ≤ Go.IntKind.i64.wrap (Go.IntKind.i64.wrap (Go.IntKind.i64.wrap (vn3 - 3276800) + 1) + vn4)))
                                         (
                                          .br (Decidable.decide (vy6.fst.lo < vy6.fst.hi))
                                           (
                                            .br (vy12.snd != 1)
                                             (
                                              .ret (Bool.true))
                                             (
                                              .bind (vy12.fst.has 0) fun vb14 =>
                                              .ret (vb14)))
                                           (
                                            .ret (Bool.false)))
                                         (
                                          .ret (Bool.false)))
                                       (
                                        .ret (Bool.false)))
                                     (
                                      .ret (Bool.false)))
                                   (
                                    .br (Decidable.decide (vy9.fst.hi < 0))
                                     (
                                      .br (Decidable.decide (vy11.fst.lo > 0))
                                       (
                                        .br (Decidable.decide (Go.IntKind.i64.wrap (vy6.fst.hi - vy6.fst.lo) ≤ Max.max (Go.IntKind.i64.wrap (1 + vn5)) 1))
                                         (
                                          .br (Decidable.decide (vy6.fst.lo ≥ Go.IntKind.i64.wrap (vn3 - 3276800)))
                                           (
                                            .br (Decidable.decide (vy6.fst.hi ≤ Go.IntKind.i64.wrap (Go.IntKind.i64.wrap (Go.IntKind.i64.wrap (vn3 - 3276800) + 1) + vn4)))
                                             (
                                              .br (Decidable.decide (vy6.fst.lo < vy6.fst.hi))
                                               (
                                                .br (vy12.snd != 1)
                                                 (
                                                  .ret (Bool.true))
                                                 (
                                                  .bind (vy12.fst.has 0) fun vb15 =>
                                                  .ret (vb15)))
                                               (
                                                .ret (Bool.false)))
                                             (
                                              .ret (Bool.false)))
                                           (
                                            .ret (Bool.false)))
                                         (
                                          .ret (Bool.false)))
                                       (
                                        .ret (Bool.false)))
                                     (
                                      .ret (Bool.false))))
                                 (
                                  .br (Decidable.decide (vy9.fst.hi < 0))
                                   (
                                    .br (Decidable.decide (vy11.fst.lo > 0))
                                     (
                                      .br (Decidable.decide (Go.IntKind.i64.wrap (vy6.fst.hi - vy6.fst.lo) ≤ Max.max (Go.IntKind.i64.wrap (1 + vn5)) 1))
                                       (
                                        .br (Decidable.decide (vy6.fst.lo ≥ Go.IntKind.i64.wrap (vn3 - 3276800)))
                                         (
                                          .br (Decidable.decide (vy6.fst.hi ≤ Go.IntKind.i64.wrap (Go.IntKind.i64.wrap (Go.IntKind.i64.wrap (vn3 - 3276800) + 1) + vn4)))
                                           (
                                            .br (Decidable.decide (vy6.fst.lo < vy6.fst.hi))
                                             (
                                              .br (vy12.snd != 1)
                                               (
                                                .ret (Bool.true))
                                               (
                                                .bind (vy12.fst.has 0) fun vb16 =>
                                                .ret (vb16)))
                                             (
                                              .ret (Bool.false)))
                                           (
                                            .ret (Bool.false)))
                                         (
                                          .ret (Bool.false)))
                                       (
                                        .ret (Bool.false)))
                                     (
                                      .ret (Bool.false)))
                                   (
                                    .ret (Bool.false))))
                               (
                                .ret (Bool.false)))
                             (
                              .ret (Bool.false)))
                           (
                            .ret (Bool.false)))
                         (
                          .fail))
                       (
                        .fail))
                     (
                      .fail)))
                 (
                  .fail))
               (
                .fail))
             (
              .fail))
           (
            .fail))
         (
          .fail))
       (
        .fail) := by kernel_rfl
theorem c_meniscuslaw21_FocusSigns : PlainS Tryz.prog 4 (sc 6 [0, 1, 2, 3, 4, 5] (tCod 0 cInt (tSl 1 0 (tCod 2 cInt (tCod 3 cInt (tCod 4 cInt (tCod 5 cInt tNil)))))) (rL_rface rNil)) cBool (fun _ => true) ((fun _ => true)) := by
  intro x h N w vs hM hv
  obtain ⟨⟨t0, t2, t3, t4, t5, ⟨⟩⟩, ⟨r0, ⟨⟩⟩⟩ := x
  refine calls_of_tree (n := 200) (EnvOK.add s_meniscushand_System (EnvOK.add s_meniscushand_Pick (EnvOK.add s_focus_Cross (EnvOK.add s_focus_Focus (EnvOK.add s_meniscuslaw21_known (EnvOK.add s_iv_Point (EnvOK.add s_iv_Has EnvOK.nil))))))) Tryz.func4 hv (Nat.le_of_ble_eq_true (by kernel_rfl)) LFn.nil hM cBool ?_
  rw [t_meniscuslaw21_FocusSigns]
  have hR := systemOf_R t0 r0 [] true (most := 4) rfl
  have hlo : Ev.lenOk (systemOf t0 r0 [] 4 true).2 = true := lenOk_iff.2 (by have := hR.len; omega)
  have pk196608 : ∀ n : Int, pickOk n 196608 = true := fun _ => by simp [pickOk]
  have pk6553600 : ∀ n : Int, pickOk n 6553600 = true := fun _ => by simp [pickOk]
  have pk26214400 : ∀ n : Int, pickOk n 26214400 = true := fun _ => by simp [pickOk]
  have pk9000 : ∀ n : Int, pickOk n 9000 = true := fun _ => by simp [pickOk]
  simp only [show mostOk 4 = true from rfl, hlo, pk196608, pk6553600, pk26214400, pk9000, if_true, den_br, den_bind, den_get, den_ret, den_fail]
  have b3 := pick_bd t3 (m := 6553600) (by decide)
  have b4 := pick_bd t4 (m := 26214400) (by decide)
  have b5 := pick_bd t5 (m := 9000) (by decide)
  have w3 : IntKind.i64.wrap (pick t3 6553600 - 3276800) = pick t3 6553600 - 3276800 := wr (by omega)
  have w4 : IntKind.i64.wrap (pick t3 6553600 - 3276800 + 1) = pick t3 6553600 - 3276800 + 1 := wr (by omega)
  have w5 : IntKind.i64.wrap (pick t3 6553600 - 3276800 + 1 + pick t4 26214400) = pick t3 6553600 - 3276800 + 1 + pick t4 26214400 := wr (by omega)
  have w6 : IntKind.i64.wrap (1 + pick t5 9000) = 1 + pick t5 9000 := wr (by omega)
  simp only [w3, w4, w5, w6]
  have hc : ¬ (pick t3 6553600 - 3276800 + 1 + pick t4 26214400 ≤ pick t3 6553600 - 3276800 ∨ numIn (pick t3 6553600 - 3276800) = false ∨ numIn (pick t3 6553600 - 3276800 + 1 + pick t4 26214400) = false ∨ 1 + pick t5 9000 < 1) := by
    have n1 : numIn (pick t3 6553600 - 3276800) = true := numIn_iff.2 (by omega)
    have n2 : numIn (pick t3 6553600 - 3276800 + 1 + pick t4 26214400) = true := numIn_iff.2 (by omega)
    rw [n1, n2]; simp; omega
  have ho : ∀ f e, focusOf (systemOf t0 r0 [] 4 true).2 (Iv.point (IntKind.i64.wrap (1 + pick t2 196608))) (pick t3 6553600 - 3276800) (pick t3 6553600 - 3276800 + 1 + pick t4 26214400) (1 + pick t5 9000) = (f, e) → e ≠ 0 → f = zeroIv ∧ (e = 7 ∨ e = 8) := fun f e h1 h2 => focus_not hc h1 h2
  have ht : ∀ f, focusOf (systemOf t0 r0 [] 4 true).2 (Iv.point (IntKind.i64.wrap (1 + pick t2 196608))) (pick t3 6553600 - 3276800) (pick t3 6553600 - 3276800 + 1 + pick t4 26214400) (1 + pick t5 9000) = (f, 0) → _ := fun f h1 => focus_told h1
  obtain ⟨⟨f, e⟩, hf⟩ : ∃ y, focusOf (systemOf t0 r0 [] 4 true).2 (Iv.point (IntKind.i64.wrap (1 + pick t2 196608))) (pick t3 6553600 - 3276800) (pick t3 6553600 - 3276800 + 1 + pick t4 26214400) (1 + pick t5 9000) = y := ⟨_, rfl⟩
  simp only [hf]
  by_cases he : e = 0
  · subst he
    obtain ⟨⟨g1, g2, g3, g4⟩, ⟨c1, c2⟩, c3, c4⟩ := ht f hf
    have w7 : IntKind.i64.wrap (f.hi - f.lo) = f.hi - f.lo := wr (by omega)
    have e1 : f.hi - f.lo ≤ max (1 + pick t5 9000) 1 := by omega
    have e2 : pick t3 6553600 - 3276800 ≤ f.lo := g1
    simp only [bne_self_eq_false, Bool.false_eq_true, if_false, if_true, c1, c2, w7, e1, e2, g2, g3, decide_true, ge_iff_le, BEq.rfl]
    by_cases ck : (crossOf (systemOf t0 r0 [] 4 true).2 (Iv.point (IntKind.i64.wrap (1 + pick t2 196608))) f).2 = 1
    · have k4 := c4 ck
      rcases c3 with ⟨d1, d2⟩ | ⟨d1, d2⟩
      · simp [d1, d2, ck, k4]
      · by_cases x1 : 0 < (crossOf (systemOf t0 r0 [] 4 true).2 (Iv.point (IntKind.i64.wrap (1 + pick t2 196608))) (Iv.point f.lo)).1.lo <;> by_cases x2 : (crossOf (systemOf t0 r0 [] 4 true).2 (Iv.point (IntKind.i64.wrap (1 + pick t2 196608))) (Iv.point f.hi)).1.hi < 0 <;> simp [d1, d2, ck, k4, x1, x2]
    · rcases c3 with ⟨d1, d2⟩ | ⟨d1, d2⟩
      · simp [d1, d2, ck]
      · by_cases x1 : 0 < (crossOf (systemOf t0 r0 [] 4 true).2 (Iv.point (IntKind.i64.wrap (1 + pick t2 196608))) (Iv.point f.lo)).1.lo <;> by_cases x2 : (crossOf (systemOf t0 r0 [] 4 true).2 (Iv.point (IntKind.i64.wrap (1 + pick t2 196608))) (Iv.point f.hi)).1.hi < 0 <;> simp [d1, d2, ck, x1, x2]
  · obtain ⟨q1, q2⟩ := ho f e hf he
    subst q1
    rcases q2 with q2 | q2 <;> subst q2 <;> simp [zeroIv]
theorem s_meniscuslaw21_FocusSigns : Ev.Spec Tryz.prog 4 (FS (sc 6 [0, 1, 2, 3, 4, 5] (tCod 0 cInt (tSl 1 0 (tCod 2 cInt (tCod 3 cInt (tCod 4 cInt (tCod 5 cInt tNil)))))) (rL_rface rNil)) cBool (fun _ => true) ((fun _ => true))) := specS rfl (fun vs w => Tryz.call4 vs w) c_meniscuslaw21_FocusSigns

/-! meniscuslaw21.FocusFlips -/
theorem t_meniscuslaw21_FocusFlips (t0 : Int) (t2 : Int) (t3 : Int) (t4 : Int) (t5 : Int) (t6 : Int) (t7 : Int) (t8 : Int) (r0 : List RawFace) :
    evFn Tryz.prog (Env.add 6 (FR (sc 5 [0, 1, 2, 3, 4] (tCod 0 cInt (tSl 1 0 (tSl 2 1 (tCod 3 cInt (tCod 4 cBool tNil))))) (rL_rface (rL_int rNil))) (sc 1 [0] (tAgg 0 0 ccNil ccNil_ok ccIv ccIv_ok tNil) (rG_surf 86 rNil)) ((fun x => mostOk x.1.2.1)) ((fun x => (fun r : SysV => (((), r.1, ()), (r.2, ()))) (systemOf x.1.1 x.2.1 x.2.2.1 x.1.2.1 x.1.2.2.1)))) (Env.add 7 (F2 cInt cInt cIv wide) (Env.add 8 (F2p cInt cInt cInt pickOk pick) (Env.add 9 (FS (sc 3 [0, 1, 2] (tAgg 0 0 ccNil ccNil_ok ccIv ccIv_ok (tCod 1 cIv (tCod 2 cIv tNil))) (rL_surf rNil)) (cTwo cIv cInt) ((fun x => lenOk x.2.1)) ((fun x => crossOf x.2.1 x.1.2.2.1 x.1.2.2.2.1))) (Env.add 12 (FS (sc 5 [0, 1, 2, 3, 4] (tAgg 0 0 ccNil ccNil_ok ccIv ccIv_ok (tCod 1 cIv (tCod 2 cInt (tCod 3 cInt (tCod 4 cInt tNil))))) (rL_surf rNil)) (cTwo cIv cInt) ((fun x => lenOk x.2.1)) ((fun x => focusOf x.2.1 x.1.2.2.1 x.1.2.2.2.1 x.1.2.2.2.2.1 x.1.2.2.2.2.2.1))) (Env.add 14 (F0 cBool true) (Env.add 17 (F2 cInt cInt cIv tame) (Env.add 18 (F1 cIv cIv Iv.neg) Env.nil)))))))) Laws.nil 200 Tryz.f5 (((sc 9 [0, 1, 2, 3, 4, 5, 6, 7, 8] (tCod 0 cInt (tSl 1 0 (tCod 2 cInt (tCod 3 cInt (tCod 4 cInt (tCod 5 cInt (tCod 6 cInt (tCod 7 cInt (tCod 8 cInt tNil))))))))) (rL_rface rNil)).enc ((t0, t2, t3, t4, t5, t6, t7, t8, ()), (r0, ()))).tmps.map Prod.snd) ((sc 9 [0, 1, 2, 3, 4, 5, 6, 7, 8] (tCod 0 cInt (tSl 1 0 (tCod 2 cInt (tCod 3 cInt (tCod 4 cInt (tCod 5 cInt (tCod 6 cInt (tCod 7 cInt (tCod 8 cInt tNil))))))))) (rL_rface rNil)).enc ((t0, t2, t3, t4, t5, t6, t7, t8, ()), (r0, ()))).mem cBool.dec =
      .br (Go.Proofs.YthdpjmkknodmpaaGreat.mostOk 4)
       (
        .bind ((((), (Go.Proofs.YthdpjmkknodmpaaGreat.systemOf t0 r0 [] 4 Bool.false).fst, ()), (Go.Proofs.YthdpjmkknodmpaaGreat.systemOf t0 r0 [] 4 Bool.false).snd, ())) fun vy0 =>
        .br (Go.Proofs.YthdpjmkknodmpaaGreat.pickOk t2 393216)
         (
          .bind (Go.Proofs.YthdpjmkknodmpaaGreat.pick t2 393216) fun vn1 =>
          .br (Go.Proofs.YthdpjmkknodmpaaGreat.pickOk t3 30)
           (
            .bind (Go.Proofs.YthdpjmkknodmpaaGreat.pick t3 30) fun vn2 =>
            .bind (Go.Proofs.YthdpjmkknodmpaaGreat.wide (Go.IntKind.i64.wrap (vn1 - 196608)) vn2) fun viv3 =>
            .bind (Go.Proofs.YthdpjmkknodmpaaGreat.tame t4 t5) fun viv4 =>
            .br (Go.Proofs.YthdpjmkknodmpaaGreat.pickOk t6 6553600)
             (
              .bind (Go.Proofs.YthdpjmkknodmpaaGreat.pick t6 6553600) fun vn5 =>
              .br (Go.Proofs.YthdpjmkknodmpaaGreat.pickOk t7 26214400)
               (
                .bind (Go.Proofs.YthdpjmkknodmpaaGreat.pick t7 26214400) fun vn6 =>
                .br (Go.Proofs.YthdpjmkknodmpaaGreat.pickOk t8 9000)
                 (
                  .bind (Go.Proofs.YthdpjmkknodmpaaGreat.pick t8 9000) fun vn7 =>
                  .br (Go.Proofs.YthdpjmkknodmpaaGreat.Ev.lenOk vy0.snd.fst)
                   (
                    .bind (Go.Proofs.YthdpjmkknodmpaaGreat.crossOf vy0.snd.fst viv3 viv4) fun vy8 =>
                    .bind (viv3.neg) fun viv9 =>
                    .br (Go.Proofs.YthdpjmkknodmpaaGreat.Ev.lenOk vy0.snd.fst)
                     (
                      .bind (Go.Proofs.YthdpjmkknodmpaaGreat.crossOf vy0.snd.fst viv9 viv4) fun vy10 =>
                      .br (Go.Proofs.YthdpjmkknodmpaaGreat.Ev.lenOk vy0.snd.fst)
                       (
                        .bind (Go.Proofs.YthdpjmkknodmpaaGreat.focusOf vy0.snd.fst viv3 (Go.IntKind.i64.wrap (vn5 - 3276800)) (Go.IntKind.i64.wrap (Go.IntKind.i64.wrap (Go.IntKind.i64.wrap (vn5 - 3276800) + 1) + vn6)) (Go.IntKind.i64.wrap (1 + vn7))) fun vy11 =>
                        .bind (viv3.neg) fun viv12 =>
                        .br (Go.Proofs.YthdpjmkknodmpaaGreat.Ev.lenOk vy0.snd.fst)
                         (
                          .bind (Go.Proofs.YthdpjmkknodmpaaGreat.focusOf vy0.snd.fst viv12 (Go.IntKind.i64.wrap (vn5 - 3276800)) (Go.IntKind.i64.wrap (Go.IntKind.i64.wrap (Go.IntKind.i64.wrap (vn5 - 3276800) + 1) + vn6)) (Go.IntKind.i64.wrap (1 + vn7))) fun vy13 =>
                          .bind (Bool.true) fun vb14 =>
                          .br (vb14)
                           (
                            .br (vy8.snd == vy10.snd)
                             (
                              .bind (vy8.fst.neg) fun viv15 =>
                              .br (vy10.fst.lo == viv15.lo && (vy10.fst.hi == viv15.hi && vy10.fst.no == viv15.no))
                               (
                                .br (vy11.fst.lo == vy13.fst.lo && (vy11.fst.hi == vy13.fst.hi && vy11.fst.no == vy13.fst.no))
                                 (
                                  .ret (vy11.snd == vy13.snd))
                                 (
                                  .ret (Bool.false)))
                               (
                                .ret (Bool.false)))
                             (
                              .ret (Bool.false)))
                           (
                            .ret (Bool.false)))
                         (
                          .fail))
                       (
                        .fail))
                     (
                      .fail))
                   (
                    .fail))
                 (
                  .fail))
               (
                .fail))
             (
              .fail))
           (
            .fail))
         (
          .fail))
       (
        .fail) := by kernel_rfl
theorem c_meniscuslaw21_FocusFlips : PlainS Tryz.prog 5 (sc 9 [0, 1, 2, 3, 4, 5, 6, 7, 8] (tCod 0 cInt (tSl 1 0 (tCod 2 cInt (tCod 3 cInt (tCod 4 cInt (tCod 5 cInt (tCod 6 cInt (tCod 7 cInt (tCod 8 cInt tNil))))))))) (rL_rface rNil)) cBool (fun _ => true) ((fun _ => true)) := by
  intro x h N w vs hM hv
  obtain ⟨⟨t0, t2, t3, t4, t5, t6, t7, t8, ⟨⟩⟩, ⟨r0, ⟨⟩⟩⟩ := x
  refine calls_of_tree (n := 200) (EnvOK.add s_meniscushand_System (EnvOK.add s_meniscushand_Wide (EnvOK.add s_meniscushand_Pick (EnvOK.add s_focus_Cross (EnvOK.add s_focus_Focus (EnvOK.add s_meniscuslaw21_known (EnvOK.add s_meniscushand_Tame (EnvOK.add s_iv_Neg EnvOK.nil)))))))) Tryz.func5 hv (Nat.le_of_ble_eq_true (by kernel_rfl)) LFn.nil hM cBool ?_
  rw [t_meniscuslaw21_FocusFlips]
  have hR := systemOf_R t0 r0 [] false (most := 4) rfl
  have hlo : Ev.lenOk (systemOf t0 r0 [] 4 false).2 = true := lenOk_iff.2 (by have := hR.len; omega)
  have pk393216 : ∀ n : Int, pickOk n 393216 = true := fun _ => by simp [pickOk]
  have pk30 : ∀ n : Int, pickOk n 30 = true := fun _ => by simp [pickOk]
  have pk6553600 : ∀ n : Int, pickOk n 6553600 = true := fun _ => by simp [pickOk]
  have pk26214400 : ∀ n : Int, pickOk n 26214400 = true := fun _ => by simp [pickOk]
  have pk9000 : ∀ n : Int, pickOk n 9000 = true := fun _ => by simp [pickOk]
  simp only [show mostOk 4 = true from rfl, hlo, pk393216, pk30, pk6553600, pk26214400, pk9000, if_true, den_br, den_bind, den_get, den_ret, den_fail]
  simp only [crossOf_flip, focusOf_flip]
  simp
theorem s_meniscuslaw21_FocusFlips : Ev.Spec Tryz.prog 5 (FS (sc 9 [0, 1, 2, 3, 4, 5, 6, 7, 8] (tCod 0 cInt (tSl 1 0 (tCod 2 cInt (tCod 3 cInt (tCod 4 cInt (tCod 5 cInt (tCod 6 cInt (tCod 7 cInt (tCod 8 cInt tNil))))))))) (rL_rface rNil)) cBool (fun _ => true) ((fun _ => true))) := specS rfl (fun vs w => Tryz.call5 vs w) c_meniscuslaw21_FocusFlips
end Go.Proofs.YthdpjmkknodmpaaGreat
