/-
  Contracts of calls, written by a small program of this session out of the evaluator's trees.
-/
import Derived.Test.YthgpgnijbajlgaaCore
import Derived.Test.YthgpgnijbajlgaaCoreLoops
import Derived.Test.YthgpgnijbajlgaaCore2
import Derived.Test.YthgpgnijbajlgaaCore3
import Derived.Test.YthgpgnijbajlgaaCore4
import Derived.Test.YthgpgnijbajlgaaCore5
import Derived.Test.YthgpgnijbajlgaaFloCod
import Derived.Test.YthgpgnijbajlgaaGs
import Derived.Test.YthgpgnijbajlgaaGB
import Derived.Test.YthgpgnijbajlgaaK1
import Derived.Test.YthgpgnijbajlgaaG0
import Derived.Test.YthgpgnijbajlgaaEvCod
import Derived.Test.YthgpgnijbajlgaaEvRet
import Derived.Test.YthgpgnijbajlgaaProg
namespace Go.Proofs.Ythgpgnijbajlgaa
open Go Go.RowKit Ev
set_option maxRecDepth 100000
set_option linter.unusedVariables false
set_option linter.unusedSimpArgs false

/-! meniscusref8.small -/
theorem t_meniscusref8_small (x0 : Int) :
    evFn Try.prog Env.nil Laws.nil 200 Try.f76 [cInt.av x0] [] cBool.dec =
      .br (Decidable.decide (x0 ≥ -1048576))
       (
        .ret (Decidable.decide (x0 ≤ 1048576)))
       (
        .ret (Bool.false)) := by kernel_rfl
theorem c_meniscusref8_small (x0 : Int) : Plain Try.prog 76 [cInt.enc x0] (cBool.enc (small1 x0)) :=
  plain_of_tree (n := 200) EnvOK.nil Try.func76 (args := [cInt.av x0]) (by simp only [AV.vals, Cod.av_val]) (Nat.le_of_ble_eq_true (by kernel_rfl)) LFn.nil cBool (by
    rw [t_meniscusref8_small]
    simp only [den_br, den_bind, den_ret, den_fail, den_inl, den_inr, decide_eq_true_eq, gt_iff_lt, ge_iff_le, beq_iff_eq]
    simp only [small1]
    by_cases h : -1048576 ≤ x0 <;> simp [h])
theorem s_meniscusref8_small : Ev.Spec Try.prog 76 (F1 cInt cBool small1) := spec1 (fun vs w => Try.call76 vs w) c_meniscusref8_small

/-! (meniscus/meniscusref8.Beam).Right -/
theorem t_meniscusref8_Beam_Right (x0 : DBeam) :
    evFn Try.prog (Env.add 76 (F1 cInt cBool small1) Env.nil) Laws.nil 200 Try.f24 [cDBeam.av x0] [] cBool.dec =
      .bind (Go.Proofs.Ythgpgnijbajlgaa.small1 x0.fst.x) fun vb0 =>
      .br (vb0)
       (
        .bind (Go.Proofs.Ythgpgnijbajlgaa.small1 x0.fst.y) fun vb1 =>
        .br (vb1)
         (
          .bind (Go.Proofs.Ythgpgnijbajlgaa.small1 x0.snd.x) fun vb2 =>
          .br (vb2)
           (
            .bind (Go.Proofs.Ythgpgnijbajlgaa.small1 x0.snd.y) fun vb3 =>
            .br (vb3)
             (
              .br (!(x0.fst.x == 0 && x0.fst.y == 0))
               (
                .ret (Bool.true))
               (
                .ret (!(x0.snd.x == 0 && x0.snd.y == 0))))
             (
              .ret (Bool.false)))
           (
            .ret (Bool.false)))
         (
          .ret (Bool.false)))
       (
        .ret (Bool.false)) := by kernel_rfl
theorem c_meniscusref8_Beam_Right (x0 : DBeam) : Plain Try.prog 24 [cDBeam.enc x0] (cBool.enc (rightD x0)) :=
  plain_of_tree (n := 200) (EnvOK.add s_meniscusref8_small EnvOK.nil) Try.func24 (args := [cDBeam.av x0]) (by simp only [AV.vals, Cod.av_val]) (Nat.le_of_ble_eq_true (by kernel_rfl)) LFn.nil cBool (by
    rw [t_meniscusref8_Beam_Right]
    simp only [den_br, den_bind, den_ret, den_fail, den_inl, den_inr, decide_eq_true_eq, gt_iff_lt, ge_iff_le, beq_iff_eq]
    simp only [rightD, nzD]
    cases small1 x0.1.x <;> cases small1 x0.1.y <;> cases small1 x0.2.x <;> cases small1 x0.2.y <;> cases (x0.1.x == 0 && x0.1.y == 0) <;> simp)
theorem s_meniscusref8_Beam_Right : Ev.Spec Try.prog 24 (F1 cDBeam cBool rightD) := spec1 (fun vs w => Try.call24 vs w) c_meniscusref8_Beam_Right

/-! (meniscus/meniscusref8.Beam).Carry -/
theorem t_meniscusref8_Beam_Carry (x0 : DBeam) (x1 : Quad) :
    evFn Try.prog (Env.add 24 (F1 cDBeam cBool rightD) (Env.add 76 (F1 cInt cBool small1) Env.nil)) Laws.nil 200 Try.f26 [cDBeam.av x0, cQuad.av x1] [] (cTwo cDBeam cBool).dec =
      .bind (Go.Proofs.Ythgpgnijbajlgaa.small1 x1.fst) fun vb0 =>
      .br (!vb0)
       (
        .ret (((Go.Proofs.Ythgpgnijbajlgaa.Pair.mk 0 0, Go.Proofs.Ythgpgnijbajlgaa.Pair.mk 0 0), Bool.false)))
       (
        .bind (Go.Proofs.Ythgpgnijbajlgaa.small1 x1.snd.fst) fun vb1 =>
        .br (!vb1)
         (
          .ret (((Go.Proofs.Ythgpgnijbajlgaa.Pair.mk 0 0, Go.Proofs.Ythgpgnijbajlgaa.Pair.mk 0 0), Bool.false)))
         (
          .bind (Go.Proofs.Ythgpgnijbajlgaa.small1 x1.snd.snd.fst) fun vb2 =>
          .br (!vb2)
           (
            .ret (((Go.Proofs.Ythgpgnijbajlgaa.Pair.mk 0 0, Go.Proofs.Ythgpgnijbajlgaa.Pair.mk 0 0), Bool.false)))
           (
            .bind (Go.Proofs.Ythgpgnijbajlgaa.small1 x1.snd.snd.snd) fun vb3 =>
            .br (!vb3)
             (
              .ret (((Go.Proofs.Ythgpgnijbajlgaa.Pair.mk 0 0, Go.Proofs.Ythgpgnijbajlgaa.Pair.mk 0 0), Bool.false)))
             (
              .bind (Go.Proofs.Ythgpgnijbajlgaa.rightD x0) fun vb4 =>
              .br (!vb4)
               (
                .ret (((Go.Proofs.Ythgpgnijbajlgaa.Pair.mk 0 0, Go.Proofs.Ythgpgnijbajlgaa.Pair.mk 0 0), Bool.false)))
               (
                .bind (Go.Proofs.Ythgpgnijbajlgaa.rightD (Go.Proofs.Ythgpgnijbajlgaa.Pair.mk (Go.IntKind.i64.wrap (Go.IntKind.i64.wrap (x1.fst * x0.fst.x) + Go.IntKind.i64.wrap (x1.snd.fst * x0.snd.x))) (Go.IntKind.i64.wrap (Go.IntKind.i64.wrap (x1.fst * x0.fst.y) + Go.IntKind.i64.wrap (x1.snd.fst * x0.snd.y))), Go.Proofs.Ythgpgnijbajlgaa.Pair.mk (Go.IntKind.i64.wrap (Go.IntKind.i64.wrap (x1.snd.snd.fst * x0.fst.x) + Go.IntKind.i64.wrap (x1.snd.snd.snd * x0.snd.x))) (Go.IntKind.i64.wrap (Go.IntKind.i64.wrap (x1.snd.snd.fst * x0.fst.y) + Go.IntKind.i64.wrap (x1.snd.snd.snd * x0.snd.y))))) fun vb5 =>
                .br (!vb5)
                 (
                  .ret (((Go.Proofs.Ythgpgnijbajlgaa.Pair.mk 0 0, Go.Proofs.Ythgpgnijbajlgaa.Pair.mk 0 0), Bool.false)))
                 (
                  .ret (((Go.Proofs.Ythgpgnijbajlgaa.Pair.mk (Go.IntKind.i64.wrap (Go.IntKind.i64.wrap (x1.fst * x0.fst.x) + Go.IntKind.i64.wrap (x1.snd.fst * x0.snd.x))) (Go.IntKind.i64.wrap (Go.IntKind.i64.wrap (x1.fst * x0.fst.y) + Go.IntKind.i64.wrap (x1.snd.fst * x0.snd.y))), Go.Proofs.Ythgpgnijbajlgaa.Pair.mk (Go.IntKind.i64.wrap (Go.IntKind.i64.wrap (x1.snd.snd.fst * x0.fst.x) + Go.IntKind.i64.wrap (x1.snd.snd.snd * x0.snd.x))) (Go.IntKind.i64.wrap (Go.IntKind.i64.wrap (x1.snd.snd.fst * x0.fst.y) + Go.IntKind.i64.wrap (x1.snd.snd.snd * x0.snd.y)))), Bool.true)))))))) := by kernel_rfl
theorem c_meniscusref8_Beam_Carry (x0 : DBeam) (x1 : Quad) : Plain Try.prog 26 [cDBeam.enc x0, cQuad.enc x1] ((cTwo cDBeam cBool).enc (carryD x0 x1)) :=
  plain_of_tree (n := 200) (EnvOK.add s_meniscusref8_Beam_Right (EnvOK.add s_meniscusref8_small EnvOK.nil)) Try.func26 (args := [cDBeam.av x0, cQuad.av x1]) (by simp only [AV.vals, Cod.av_val]) (Nat.le_of_ble_eq_true (by kernel_rfl)) LFn.nil (cTwo cDBeam cBool) (by
    rw [t_meniscusref8_Beam_Carry]
    simp only [den_br, den_bind, den_ret, den_fail, den_inl, den_inr, decide_eq_true_eq, gt_iff_lt, ge_iff_le, beq_iff_eq]
    simp only [carryD, quadIn, carryW, rowW, zeroD]
    rcases Bool.eq_false_or_eq_true (small1 x1.1) with h1 | h1 <;> rcases Bool.eq_false_or_eq_true (small1 x1.2.1) with h2 | h2 <;> rcases Bool.eq_false_or_eq_true (small1 x1.2.2.1) with h3 | h3 <;> rcases Bool.eq_false_or_eq_true (small1 x1.2.2.2) with h4 | h4 <;> rcases Bool.eq_false_or_eq_true (rightD x0) with h5 | h5 <;> simp [h1, h2, h3, h4, h5]
    split <;> simp_all)
theorem s_meniscusref8_Beam_Carry : Ev.Spec Try.prog 26 (F2 cDBeam cQuad (cTwo cDBeam cBool) carryD) := spec2 (fun vs w => Try.call26 vs w) c_meniscusref8_Beam_Carry

/-! (meniscus/meniscusref8.Pair).Complex -/
theorem t_meniscusref8_Pair_Complex (x0 : Pair) :
    evFn Try.prog Env.nil Laws.nil 200 Try.f78 [cPair.av x0] [] cCx.dec =
      .ret ((Go.Proofs.Ythgpgnijbajlgaa.Ev.fInt x0.x, Go.Proofs.Ythgpgnijbajlgaa.Ev.fInt x0.y)) := by kernel_rfl
theorem c_meniscusref8_Pair_Complex (x0 : Pair) : Plain Try.prog 78 [cPair.enc x0] (cCx.enc (cxOf x0)) :=
  plain_of_tree (n := 200) EnvOK.nil Try.func78 (args := [cPair.av x0]) (by simp only [AV.vals, Cod.av_val]) (Nat.le_of_ble_eq_true (by kernel_rfl)) LFn.nil cCx (by
    rw [t_meniscusref8_Pair_Complex]
    rfl)
theorem s_meniscusref8_Pair_Complex : Ev.Spec Try.prog 78 (F1 cPair cCx cxOf) := spec1 (fun vs w => Try.call78 vs w) c_meniscusref8_Pair_Complex

/-! meniscuslaw8.plain -/
theorem t_meniscuslaw8_plain (x0 : Cx) :
    evFn Try.prog Env.nil Laws.nil 200 Try.f79 [cCx.av x0] [] cBool.dec =
      .br (Go.Proofs.Ythgpgnijbajlgaa.Ev.fOrd x0.fst 0 == Option.some Ordering.eq)
       (
        .get (Go.floatBits Go.BinOp.quo Go.FloatKind.f64 4607182418800017408 x0.fst) fun vna0 =>
        .br (!Go.Proofs.Ythgpgnijbajlgaa.Ev.fOrd vna0 0 == Option.some Ordering.lt)
         (
          .br (Go.Proofs.Ythgpgnijbajlgaa.Ev.fOrd x0.snd 0 == Option.some Ordering.eq)
           (
            .get (Go.floatBits Go.BinOp.quo Go.FloatKind.f64 4607182418800017408 x0.snd) fun vna1 =>
            .ret (!Go.Proofs.Ythgpgnijbajlgaa.Ev.fOrd vna1 0 == Option.some Ordering.lt))
           (
            .ret (!Bool.false)))
         (
          .ret (Bool.false)))
       (
        .br (Go.Proofs.Ythgpgnijbajlgaa.Ev.fOrd x0.snd 0 == Option.some Ordering.eq)
         (
          .get (Go.floatBits Go.BinOp.quo Go.FloatKind.f64 4607182418800017408 x0.snd) fun vna2 =>
          .ret (!Go.Proofs.Ythgpgnijbajlgaa.Ev.fOrd vna2 0 == Option.some Ordering.lt))
         (
          .ret (!Bool.false))) := by kernel_rfl
theorem c_meniscuslaw8_plain (x0 : Cx) (h : canon x0 = true) : Plain Try.prog 79 [cCx.enc x0] (cBool.enc (((fun _ => true)) x0)) :=
  plain_of_tree (n := 200) EnvOK.nil Try.func79 (args := [cCx.av x0]) (by simp only [AV.vals, Cod.av_val]) (Nat.le_of_ble_eq_true (by kernel_rfl)) LFn.nil cBool (by
    rw [t_meniscuslaw8_plain]
    obtain ⟨p, hp, rfl⟩ := canon_spec h
    exact plain_law hp)
theorem s_meniscuslaw8_plain : Ev.Spec Try.prog 79 (F1p cCx cBool canon ((fun _ => true))) := spec1p (fun vs w => Try.call79 vs w) c_meniscuslaw8_plain

/-! meniscuslaw8.same -/
theorem t_meniscuslaw8_same (x0 : Cx) (x1 : Pair) (x2 : Bool) :
    evFn Try.prog (Env.add 78 (F1 cPair cCx cxOf) (Env.add 79 (F1p cCx cBool canon ((fun _ => true))) Env.nil)) Laws.nil 200 Try.f27 [cCx.av x0, cPair.av x1, cBool.av x2] [] cBool.dec =
      .br (!x2)
       (
        .bind (Go.Proofs.Ythgpgnijbajlgaa.cxOf (Go.Proofs.Ythgpgnijbajlgaa.Pair.mk 0 0)) fun vcx0 =>
        .br (Go.Proofs.Ythgpgnijbajlgaa.Ev.cEq x0.fst x0.snd vcx0.fst vcx0.snd)
         (
          .br (Go.Proofs.Ythgpgnijbajlgaa.canon x0)
           (
            .bind (Bool.true) fun vb1 =>
            .ret (vb1))
           (
            .fail))
         (
          .ret (Bool.false)))
       (
        .bind (Go.Proofs.Ythgpgnijbajlgaa.cxOf x1) fun vcx2 =>
        .br (Go.Proofs.Ythgpgnijbajlgaa.Ev.cEq x0.fst x0.snd vcx2.fst vcx2.snd)
         (
          .br (Go.Proofs.Ythgpgnijbajlgaa.canon x0)
           (
            .bind (Bool.true) fun vb3 =>
            .ret (vb3))
           (
            .fail))
         (
          .ret (Bool.false))) := by kernel_rfl
theorem c_meniscuslaw8_same (x0 : Cx) (x1 : Pair) (x2 : Bool) (h : ((fun z _ _ => canon z)) x0 x1 x2 = true) : Plain Try.prog 27 [cCx.enc x0, cPair.enc x1, cBool.enc x2] (cBool.enc (samePz x0 x1 x2)) :=
  plain_of_tree (n := 200) (EnvOK.add s_meniscusref8_Pair_Complex (EnvOK.add s_meniscuslaw8_plain EnvOK.nil)) Try.func27 (args := [cCx.av x0, cPair.av x1, cBool.av x2]) (by simp only [AV.vals, Cod.av_val]) (Nat.le_of_ble_eq_true (by kernel_rfl)) LFn.nil cBool (by
    rw [t_meniscuslaw8_same]
    cases x2 <;> simp only [den_br, den_bind, den_ret, den_fail, h, if_true, samePz, Bool.not_true, Bool.not_false, Bool.false_eq_true, if_false]
    · rw [show cxOf ⟨0, 0⟩ = ((0 : Nat), (0 : Nat)) from rfl]
      cases Ev.cEq x0.1 x0.2 0 0 <;> rfl
    · cases Ev.cEq x0.1 x0.2 (cxOf x1).1 (cxOf x1).2 <;> rfl)
theorem s_meniscuslaw8_same : Ev.Spec Try.prog 27 (F3p cCx cPair cBool cBool ((fun z _ _ => canon z)) samePz) := spec3p (fun vs w => Try.call27 vs w) c_meniscuslaw8_same
end Go.Proofs.Ythgpgnijbajlgaa
