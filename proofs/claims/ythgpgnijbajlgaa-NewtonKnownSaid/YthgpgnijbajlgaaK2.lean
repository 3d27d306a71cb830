/-
  Contracts of calls, written by a small program of this session out of the evaluator's trees.
-/
import Derived.Test.YthgpgnijbajlgaaCore
import Derived.Test.YthgpgnijbajlgaaCoreLoops
import Derived.Test.YthgpgnijbajlgaaCore2
import Derived.Test.YthgpgnijbajlgaaCore3
import Derived.Test.YthgpgnijbajlgaaEvCod
import Derived.Test.YthgpgnijbajlgaaEvRet
import Derived.Test.YthgpgnijbajlgaaProg
import Derived.Test.YthgpgnijbajlgaaK1
namespace Go.Proofs.Ythgpgnijbajlgaa
open Go Go.RowKit Ev
set_option maxRecDepth 100000
set_option linter.unusedVariables false
set_option linter.unusedSimpArgs false

/-! meniscushand.Iv -/
theorem t_meniscushand_Iv (x0 : Int) (x1 : Int) :
    evFn Try.prog (Env.add 22 (F2p cInt cInt cInt pickOk pick) (Env.add 51 (F2 cInt cInt cIv wide) (Env.add 105 (F1 cInt cInt num) Env.nil))) Laws.nil 200 Try.f52 [cInt.av x0, cInt.av x1] [] cIv.dec =
      .bind (Go.Proofs.Ythgpgnijbajlgaa.num x0) fun vn0 =>
      .br (Go.Proofs.Ythgpgnijbajlgaa.pickOk x1 12)
       (
        .bind (Go.Proofs.Ythgpgnijbajlgaa.pick x1 12) fun vn1 =>
        .br (vn1 == 0)
         (
          .bind (Go.Proofs.Ythgpgnijbajlgaa.num (Go.IntKind.i64.wrap (x1.tdiv 12))) fun vn2 =>
          .ret (Go.Proofs.Ythgpgnijbajlgaa.Iv.mk vn0 vn2 Bool.false))
         (
          .br (vn1 == 1)
           (
            .br (Go.Proofs.Ythgpgnijbajlgaa.pickOk (Go.IntKind.i64.wrap (x1.tdiv 12)) 5)
             (
              .bind (Go.Proofs.Ythgpgnijbajlgaa.pick (Go.IntKind.i64.wrap (x1.tdiv 12)) 5) fun vn3 =>
              .ret (Go.Proofs.Ythgpgnijbajlgaa.Iv.mk vn0 vn0 (vn3 == 4)))
             (
              .fail))
           (
            .br (vn1 == 2)
             (
              .ret (Go.Proofs.Ythgpgnijbajlgaa.Iv.mk vn0 vn0 Bool.false))
             (
              .br (vn1 == 3)
               (
                .ret (Go.Proofs.Ythgpgnijbajlgaa.Iv.mk vn0 vn0 Bool.false))
               (
                .br (Go.Proofs.Ythgpgnijbajlgaa.pickOk (Go.IntKind.i64.wrap (x1.tdiv 12)) 9000)
                 (
                  .bind (Go.Proofs.Ythgpgnijbajlgaa.pick (Go.IntKind.i64.wrap (x1.tdiv 12)) 9000) fun vn4 =>
                  .bind (Go.Proofs.Ythgpgnijbajlgaa.wide vn0 vn4) fun viv5 =>
                  .ret (viv5))
                 (
                  .fail))))))
       (
        .fail) := by kernel_rfl
theorem c_meniscushand_Iv (x0 : Int) (x1 : Int) : Plain Try.prog 52 [cInt.enc x0, cInt.enc x1] (cIv.enc (rawIv x0 x1)) :=
  plain_of_tree (n := 200) (EnvOK.add s_meniscushand_Pick (EnvOK.add s_meniscushand_Wide (EnvOK.add s_meniscushand_Num EnvOK.nil))) Try.func52 (args := [cInt.av x0, cInt.av x1]) (by simp only [AV.vals, Cod.av_val]) (Nat.le_of_ble_eq_true (by kernel_rfl)) LFn.nil cIv (by
    rw [t_meniscushand_Iv]
    simp only [Tr.den, dv_eq, rawIv]
    grind [pickOk])
theorem s_meniscushand_Iv : Ev.Spec Try.prog 52 (F2 cInt cInt cIv rawIv) := spec2 (fun vs w => Try.call52 vs w) c_meniscushand_Iv

/-! meniscusref14.none -/
theorem t_meniscusref14_none  :
    evFn Try.prog (Env.add 111 (F0 cIv Iv.none) Env.nil) Laws.nil 200 Try.f112 [] [] cIv.dec =
      .bind (Go.Proofs.Ythgpgnijbajlgaa.Iv.none) fun viv0 =>
      .ret (viv0) := by kernel_rfl
theorem c_meniscusref14_none  : Plain Try.prog 112 [] (cIv.enc (Iv.none)) :=
  plain_of_tree (n := 200) (EnvOK.add s_meniscusref1_None EnvOK.nil) Try.func112 (args := []) rfl (Nat.le_of_ble_eq_true (by kernel_rfl)) LFn.nil cIv (by
    rw [t_meniscusref14_none]
    rfl)
theorem s_meniscusref14_none : Ev.Spec Try.prog 112 (F0 cIv Iv.none) := spec0 (fun vs w => Try.call112 vs w) c_meniscusref14_none

/-! meniscusref14.sure -/
theorem t_meniscusref14_sure (x0 : Iv) :
    evFn Try.prog (Env.add 110 (F1 cIv cBool Iv.right) (Env.add 138 (F2 cIv cInt cBool Iv.has) Env.nil)) Laws.nil 200 Try.f116 [cIv.av x0] [] cBool.dec =
      .bind (x0.right) fun vb0 =>
      .br (vb0)
       (
        .bind (x0.has 0) fun vb1 =>
        .ret (!vb1))
       (
        .ret (Bool.false)) := by kernel_rfl
theorem c_meniscusref14_sure (x0 : Iv) : Plain Try.prog 116 [cIv.enc x0] (cBool.enc (((fun v => v.right && !v.has 0)) x0)) :=
  plain_of_tree (n := 200) (EnvOK.add s_meniscusref1_Right (EnvOK.add s_meniscusref1_Has EnvOK.nil)) Try.func116 (args := [cIv.av x0]) (by simp only [AV.vals, Cod.av_val]) (Nat.le_of_ble_eq_true (by kernel_rfl)) LFn.nil cBool (by
    rw [t_meniscusref14_sure]
    simp only [den_br, den_bind, den_ret, den_fail, den_inl, den_inr, decide_eq_true_eq]
    grind [])
theorem s_meniscusref14_sure : Ev.Spec Try.prog 116 (F1 cIv cBool ((fun v => v.right && !v.has 0))) := spec1 (fun vs w => Try.call116 vs w) c_meniscusref14_sure

/-! meniscuslaw7.line -/
theorem t_meniscuslaw7_line (x0 : Iv) :
    evFn Try.prog (Env.add 40 (F2 cIv cIv cIv Iv.sub) (Env.add 46 (F1 cInt cIv Iv.whole) Env.nil)) Laws.nil 200 Try.f71 [cIv.av x0] [] (cTwo cIv cIv).dec =
      .bind (Go.Proofs.Ythgpgnijbajlgaa.Iv.whole 1) fun viv0 =>
      .bind (x0.sub viv0) fun viv1 =>
      .bind (Go.Proofs.Ythgpgnijbajlgaa.Iv.whole 1) fun viv2 =>
      .ret ((viv1, viv2)) := by kernel_rfl
theorem c_meniscuslaw7_line (x0 : Iv) : Plain Try.prog 71 [cIv.enc x0] ((cTwo cIv cIv).enc (lineF x0)) :=
  plain_of_tree (n := 200) (EnvOK.add s_iv_Sub (EnvOK.add s_iv_Whole EnvOK.nil)) Try.func71 (args := [cIv.av x0]) (by simp only [AV.vals, Cod.av_val]) (Nat.le_of_ble_eq_true (by kernel_rfl)) LFn.nil (cTwo cIv cIv) (by
    rw [t_meniscuslaw7_line]
    rfl)
theorem s_meniscuslaw7_line : Ev.Spec Try.prog 71 (F1 cIv (cTwo cIv cIv) lineF) := spec1 (fun vs w => Try.call71 vs w) c_meniscuslaw7_line

/-! meniscuslaw7.NewtonKnown$1 -/
theorem t_meniscuslaw7_NewtonKnown_1 (x0 : Iv) :
    evFn Try.prog (Env.add 40 (F2 cIv cIv cIv Iv.sub) (Env.add 46 (F1 cInt cIv Iv.whole) (Env.add 62 (F2 cIv cInt cIv Iv.times) (Env.add 68 (F1 cIv cIv Iv.sqr) Env.nil)))) Laws.nil 200 Try.f67 [cIv.av x0] [] (cTwo cIv cIv).dec =
      .bind (x0.sqr) fun viv0 =>
      .bind (Go.Proofs.Ythgpgnijbajlgaa.Iv.whole 2) fun viv1 =>
      .bind (viv0.sub viv1) fun viv2 =>
      .bind (x0.times 2) fun viv3 =>
      .ret ((viv2, viv3)) := by kernel_rfl
theorem c_meniscuslaw7_NewtonKnown_1 (x0 : Iv) : Plain Try.prog 67 [cIv.enc x0] ((cTwo cIv cIv).enc (squareF x0)) :=
  plain_of_tree (n := 200) (EnvOK.add s_iv_Sub (EnvOK.add s_iv_Whole (EnvOK.add s_iv_Times (EnvOK.add s_iv_Sqr EnvOK.nil)))) Try.func67 (args := [cIv.av x0]) (by simp only [AV.vals, Cod.av_val]) (Nat.le_of_ble_eq_true (by kernel_rfl)) LFn.nil (cTwo cIv cIv) (by
    rw [t_meniscuslaw7_NewtonKnown_1]
    rfl)
theorem s_meniscuslaw7_NewtonKnown_1 : Ev.Spec Try.prog 67 (F1 cIv (cTwo cIv cIv) squareF) := spec1 (fun vs w => Try.call67 vs w) c_meniscuslaw7_NewtonKnown_1

/-! meniscuslaw7.NewtonKnown$2 -/
theorem t_meniscuslaw7_NewtonKnown_2 (x0 : Iv) :
    evFn Try.prog (Env.add 38 (F2 cIv cIv cIv Iv.add) (Env.add 46 (F1 cInt cIv Iv.whole) (Env.add 62 (F2 cIv cInt cIv Iv.times) (Env.add 68 (F1 cIv cIv Iv.sqr) Env.nil)))) Laws.nil 200 Try.f69 [cIv.av x0] [] (cTwo cIv cIv).dec =
      .bind (x0.sqr) fun viv0 =>
      .bind (Go.Proofs.Ythgpgnijbajlgaa.Iv.whole 2) fun viv1 =>
      .bind (viv0.add viv1) fun viv2 =>
      .bind (x0.times 2) fun viv3 =>
      .ret ((viv2, viv3)) := by kernel_rfl
theorem c_meniscuslaw7_NewtonKnown_2 (x0 : Iv) : Plain Try.prog 69 [cIv.enc x0] ((cTwo cIv cIv).enc (aboveF x0)) :=
  plain_of_tree (n := 200) (EnvOK.add s_iv_Add (EnvOK.add s_iv_Whole (EnvOK.add s_iv_Times (EnvOK.add s_iv_Sqr EnvOK.nil)))) Try.func69 (args := [cIv.av x0]) (by simp only [AV.vals, Cod.av_val]) (Nat.le_of_ble_eq_true (by kernel_rfl)) LFn.nil (cTwo cIv cIv) (by
    rw [t_meniscuslaw7_NewtonKnown_2]
    rfl)
theorem s_meniscuslaw7_NewtonKnown_2 : Ev.Spec Try.prog 69 (F1 cIv (cTwo cIv cIv) aboveF) := spec1 (fun vs w => Try.call69 vs w) c_meniscuslaw7_NewtonKnown_2

/-! newton.without -/
theorem t_newton_without_line (t1 : Iv) :
    evFn Try.prog (Env.add 63 (F2 cIv cInt cBool Iv.has) (Env.add 91 (F1 cIv cBool Iv.right) (Env.add 71 (F1 cIv (cTwo cIv cIv) lineF) Env.nil))) Laws.nil 200 Try.f109 (((sc 2 [0, 1] (tClo 0 71 [] (tCod 1 cIv tNil)) rNil).enc ((t1, ()), (()))).tmps.map Prod.snd) ((sc 2 [0, 1] (tClo 0 71 [] (tCod 1 cIv tNil)) rNil).enc ((t1, ()), (()))).mem cBool.dec =
      .bind (Go.Proofs.Ythgpgnijbajlgaa.lineF t1) fun vy0 =>
      .bind (vy0.fst.right) fun vb1 =>
      .br (vb1)
       (
        .bind (vy0.fst.has 0) fun vb2 =>
        .ret (!vb2))
       (
        .ret (Bool.false)) := by kernel_rfl
theorem c_newton_without_line : PlainS Try.prog 109 (sc 2 [0, 1] (tClo 0 71 [] (tCod 1 cIv tNil)) rNil) cBool (fun _ => true) ((fun x => without ((fun (_ : Unit) => lineF) x.2) x.1.1)) := by
  intro x h N w vs hM hv
  obtain ⟨⟨t1, ⟨⟩⟩, ⟨⟩⟩ := x
  refine calls_of_tree (n := 200) (EnvOK.add s_iv_Has (EnvOK.add s_iv_Right (EnvOK.add s_meniscuslaw7_line EnvOK.nil))) Try.func109 hv (Nat.le_of_ble_eq_true (by kernel_rfl)) LFn.nil hM cBool ?_
  rw [t_newton_without_line]
  simp only [den_br, den_bind, den_ret, den_fail, den_inl, den_inr, decide_eq_true_eq]
  simp only [without]
  grind
theorem s_newton_without_line : Ev.Spec Try.prog 109 (FS (sc 2 [0, 1] (tClo 0 71 [] (tCod 1 cIv tNil)) rNil) cBool (fun _ => true) ((fun x => without ((fun (_ : Unit) => lineF) x.2) x.1.1))) := specS rfl (fun vs w => Try.call109 vs w) c_newton_without_line

/-! newton.Solve -/
theorem tl_newton_Solve_line_5 (t15 : Bool) (t16 : Int) (r0 : Iv) (r1 : Iv) (r2 : Iv) (r3 : Iv) (r4 : Iv) (r5 : Iv) (r6 : Iv) (r7 : Iv) (r8 : Iv) :
    ev Try.prog (Env.add 39 (F1 cInt cIv Iv.point) (Env.add 40 (F2 cIv cIv cIv Iv.sub) (Env.add 45 (F2 cIv cIv cIv Iv.div) (Env.add 66 (F0 cIv Iv.none) (Env.add 91 (F1 cIv cBool Iv.right) (Env.add 106 (F1 cIv cInt Iv.mid) (Env.add 107 (F2 cIv cIv cIv Iv.meet) (Env.add 108 (F1 cIv (cTwo cIv cIv) Iv.split) (Env.add 109 (FS (sc 2 [0, 1] (tClo 0 71 [] (tCod 1 cIv tNil)) rNil) cBool (fun _ => true) ((fun x => without ((fun (_ : Unit) => lineF) x.2) x.1.1))) (Env.add 71 (F1 cIv (cTwo cIv cIv) lineF) Env.nil)))))))))) Laws.nil 200 none (loopAt Try.f54 5) ((sc 95 [15, 16, 4, 6, 8, 9, 10, 11, 12, 13, 14, 0] (tCod 15 cBool (tCod 16 cInt (tOwn 4 0 (tOwn 6 1 (tOwn 8 2 (tOwn 9 3 (tOwn 10 4 (tOwn 11 5 (tOwn 12 6 (tOwn 13 7 (tOwn 14 8 (tClo 0 71 [] tNil)))))))))))) (rBox ccIv ccIv_ok (rBox ccIv ccIv_ok (rBox ccIv ccIv_ok (rBox ccIv ccIv_ok (rBox ccIv ccIv_ok (rBox ccIv ccIv_ok (rBox ccIv ccIv_ok (rBox ccIv ccIv_ok (rBox ccIv ccIv_ok rNil)))))))))).enc ((t15, t16, ()), (r0, r1, r2, r3, r4, r5, r6, r7, r8, ()))) (backK (sc 95 [15, 16, 4, 6, 8, 9, 10, 11, 12, 13, 14, 0] (tCod 15 cBool (tCod 16 cInt (tOwn 4 0 (tOwn 6 1 (tOwn 8 2 (tOwn 9 3 (tOwn 10 4 (tOwn 11 5 (tOwn 12 6 (tOwn 13 7 (tOwn 14 8 (tClo 0 71 [] tNil)))))))))))) (rBox ccIv ccIv_ok (rBox ccIv ccIv_ok (rBox ccIv ccIv_ok (rBox ccIv ccIv_ok (rBox ccIv ccIv_ok (rBox ccIv ccIv_ok (rBox ccIv ccIv_ok (rBox ccIv ccIv_ok (rBox ccIv ccIv_ok rNil)))))))))) (ocOr (ocExit 0 (sc 95 [15, 4, 6] (tCod 15 cBool (tOwn 4 0 (tOwn 6 1 tNil))) (rBox ccIv ccIv_ok (rBox ccIv ccIv_ok rNil)))) (ocOr (ocRet (sc 95 [7, 6] (tCod 7 cInt (tOwn 6 0 tNil)) (rBox ccIv ccIv_ok rNil))) (ocGoto 0 (sc 95 [6] (tOwn 6 0 tNil) (rBox ccIv ccIv_ok rNil)))))) =
      .br (Decidable.decide (t16 > 0))
       (
        .bind (r0.mid) fun vn0 =>
        .bind (Go.Proofs.Ythgpgnijbajlgaa.Iv.point vn0) fun viv1 =>
        .bind (Go.Proofs.Ythgpgnijbajlgaa.lineF viv1) fun vy2 =>
        .bind (Go.Proofs.Ythgpgnijbajlgaa.lineF r0) fun vy3 =>
        .bind (vy2.fst.div vy3.snd) fun viv4 =>
        .bind (viv1.sub viv4) fun viv5 =>
        .br (viv5.no)
         (
          .bind (r0.split) fun vy6 =>
          .br (Bool.true)
           (
            .bind (Go.Proofs.Ythgpgnijbajlgaa.without Go.Proofs.Ythgpgnijbajlgaa.lineF vy6.fst) fun vb7 =>
            .br (vb7)
             (
              .ret (Sum.inl ((t15, Go.IntKind.i64.wrap (t16 - 1), ()), vy6.snd, r1, viv5, viv1, r4, vy6.fst, vy6.snd, vy2.fst, vy3.snd, ())))
             (
              .br (Bool.true)
               (
                .bind (Go.Proofs.Ythgpgnijbajlgaa.without Go.Proofs.Ythgpgnijbajlgaa.lineF vy6.snd) fun vb8 =>
                .br (!vb8)
                 (
                  .ret (Sum.inr (Sum.inr (Sum.inr ((), r1, ())))))
                 (
                  .ret (Sum.inl ((t15, Go.IntKind.i64.wrap (t16 - 1), ()), vy6.fst, r1, viv5, viv1, r4, vy6.fst, vy6.snd, vy2.fst, vy3.snd, ()))))
               (
                .fail)))
           (
            .fail))
         (
          .br (t15)
           (
            .bind (r0.meet viv5) fun viv9 =>
            .br (viv9.no)
             (
              .bind (Go.Proofs.Ythgpgnijbajlgaa.Iv.none) fun viv10 =>
              .ret (Sum.inr (Sum.inr (Sum.inl ((2, ()), viv10, ())))))
             (
              .br (viv9.lo == r0.lo && (viv9.hi == r0.hi && viv9.no == r0.no))
               (
                .ret (Sum.inr (Sum.inl ((Bool.true, ()), r0, r1, ()))))
               (
                .ret (Sum.inl ((Bool.true, Go.IntKind.i64.wrap (t16 - 1), ()), viv9, r1, viv5, viv1, viv9, r5, r6, vy2.fst, vy3.snd, ())))))
           (
            .br (Decidable.decide (r0.lo < viv5.lo))
             (
              .bind (r0.meet viv5) fun viv11 =>
              .br (viv11.no)
               (
                .bind (Go.Proofs.Ythgpgnijbajlgaa.Iv.none) fun viv12 =>
                .ret (Sum.inr (Sum.inr (Sum.inl ((2, ()), viv12, ())))))
               (
                .br (viv11.lo == r0.lo && (viv11.hi == r0.hi && viv11.no == r0.no))
                 (
                  .ret (Sum.inr (Sum.inl ((Decidable.decide (viv5.hi < r0.hi), ()), r0, r1, ()))))
                 (
                  .ret (Sum.inl ((Decidable.decide (viv5.hi < r0.hi), Go.IntKind.i64.wrap (t16 - 1), ()), viv11, r1, viv5, viv1, viv11, r5, r6, vy2.fst, vy3.snd, ())))))
             (
              .bind (r0.meet viv5) fun viv13 =>
              .br (viv13.no)
               (
                .bind (Go.Proofs.Ythgpgnijbajlgaa.Iv.none) fun viv14 =>
                .ret (Sum.inr (Sum.inr (Sum.inl ((2, ()), viv14, ())))))
               (
                .br (viv13.lo == r0.lo && (viv13.hi == r0.hi && viv13.no == r0.no))
                 (
                  .ret (Sum.inr (Sum.inl ((Bool.false, ()), r0, r1, ()))))
                 (
                  .ret (Sum.inl ((Bool.false, Go.IntKind.i64.wrap (t16 - 1), ()), viv13, r1, viv5, viv1, viv13, r5, r6, vy2.fst, vy3.snd, ()))))))))
       (
        .ret (Sum.inr (Sum.inl ((t15, ()), r0, r1, ())))) := by kernel_rfl
theorem ok_newton_Solve_line_5 : LOK Try.prog (LoopR.of (sc 95 [15, 16, 4, 6, 8, 9, 10, 11, 12, 13, 14, 0] (tCod 15 cBool (tCod 16 cInt (tOwn 4 0 (tOwn 6 1 (tOwn 8 2 (tOwn 9 3 (tOwn 10 4 (tOwn 11 5 (tOwn 12 6 (tOwn 13 7 (tOwn 14 8 (tClo 0 71 [] tNil)))))))))))) (rBox ccIv ccIv_ok (rBox ccIv ccIv_ok (rBox ccIv ccIv_ok (rBox ccIv ccIv_ok (rBox ccIv ccIv_ok (rBox ccIv ccIv_ok (rBox ccIv ccIv_ok (rBox ccIv ccIv_ok (rBox ccIv ccIv_ok rNil)))))))))) (ocOr (ocExit 0 (sc 95 [15, 4, 6] (tCod 15 cBool (tOwn 4 0 (tOwn 6 1 tNil))) (rBox ccIv ccIv_ok (rBox ccIv ccIv_ok rNil)))) (ocOr (ocRet (sc 95 [7, 6] (tCod 7 cInt (tOwn 6 0 tNil)) (rBox ccIv ccIv_ok rNil))) (ocGoto 0 (sc 95 [6] (tOwn 6 0 tNil) (rBox ccIv ccIv_ok rNil))))) (solveRun (fun _ => true) ((fun (_ : Unit) => lineF)))) (loopAt Try.f54 5) := by
  refine loop_ok (EnvOK.add s_iv_Point (EnvOK.add s_iv_Sub (EnvOK.add s_iv_Div (EnvOK.add s_iv_None (EnvOK.add s_iv_Right (EnvOK.add s_iv_Mid (EnvOK.add s_iv_Meet (EnvOK.add s_iv_Split (EnvOK.add s_newton_without_line (EnvOK.add s_meniscuslaw7_line EnvOK.nil)))))))))) (LFn.at (fn := Try.f54) LFn.nil 5) (solveStep (fun _ => true) ((fun (_ : Unit) => lineF))) (n := 200) (fun x z h => ?_) (solveRun_ok _ _)
  obtain ⟨⟨t15, t16, ⟨⟩⟩, ⟨r0, r1, r2, r3, r4, r5, r6, r7, r8, ⟨⟩⟩⟩ := x
  rw [tl_newton_Solve_line_5]
  by_cases hk : 0 < t16
  case neg =>
    rw [← h]
    simp only [den_br, den_bind, den_ret, den_fail, den_inl, den_inr, decide_eq_true_eq, solveStep, gt_iff_lt, hk, if_false]
  have hq : True := trivial
  rw [← h]
  simp only [den_br, den_bind, den_ret, den_fail, den_inl, den_inr, decide_eq_true_eq]
  rw [show (Iv.point r0.mid).sub ((lineF (Iv.point r0.mid)).1.div (lineF r0).2) = nextN (lineF) r0 from rfl]
  simp only [solveStep, solveSure, ivEq, gt_iff_lt, hk, hq, Bool.and_self, if_true]
  generalize nextN (lineF) r0 = n
  simp only [ltB]
  cases h1 : n.no
  case true =>
    simp only [if_true]
    split
    · rfl
    · split <;> simp_all
  simp only [Bool.false_eq_true, if_false]
  cases t15 <;> simp only [Bool.false_eq_true, if_true, if_false, Bool.true_or, Bool.false_or]
  by_cases h2 : r0.lo < n.lo <;> simp only [h2, if_true, if_false, decide_true, decide_false, Bool.true_and, Bool.false_and]
theorem t_newton_Solve_line (t1 : Iv) (t2 : Int) :
    evFn Try.prog (Env.add 39 (F1 cInt cIv Iv.point) (Env.add 40 (F2 cIv cIv cIv Iv.sub) (Env.add 45 (F2 cIv cIv cIv Iv.div) (Env.add 66 (F0 cIv Iv.none) (Env.add 91 (F1 cIv cBool Iv.right) (Env.add 106 (F1 cIv cInt Iv.mid) (Env.add 107 (F2 cIv cIv cIv Iv.meet) (Env.add 108 (F1 cIv (cTwo cIv cIv) Iv.split) (Env.add 109 (FS (sc 2 [0, 1] (tClo 0 71 [] (tCod 1 cIv tNil)) rNil) cBool (fun _ => true) ((fun x => without ((fun (_ : Unit) => lineF) x.2) x.1.1))) (Env.add 71 (F1 cIv (cTwo cIv cIv) lineF) Env.nil)))))))))) (Laws.add 5 (LoopR.of (sc 95 [15, 16, 4, 6, 8, 9, 10, 11, 12, 13, 14, 0] (tCod 15 cBool (tCod 16 cInt (tOwn 4 0 (tOwn 6 1 (tOwn 8 2 (tOwn 9 3 (tOwn 10 4 (tOwn 11 5 (tOwn 12 6 (tOwn 13 7 (tOwn 14 8 (tClo 0 71 [] tNil)))))))))))) (rBox ccIv ccIv_ok (rBox ccIv ccIv_ok (rBox ccIv ccIv_ok (rBox ccIv ccIv_ok (rBox ccIv ccIv_ok (rBox ccIv ccIv_ok (rBox ccIv ccIv_ok (rBox ccIv ccIv_ok (rBox ccIv ccIv_ok rNil)))))))))) (ocOr (ocExit 0 (sc 95 [15, 4, 6] (tCod 15 cBool (tOwn 4 0 (tOwn 6 1 tNil))) (rBox ccIv ccIv_ok (rBox ccIv ccIv_ok rNil)))) (ocOr (ocRet (sc 95 [7, 6] (tCod 7 cInt (tOwn 6 0 tNil)) (rBox ccIv ccIv_ok rNil))) (ocGoto 0 (sc 95 [6] (tOwn 6 0 tNil) (rBox ccIv ccIv_ok rNil))))) (solveRun (fun _ => true) ((fun (_ : Unit) => lineF)))) Laws.nil) 200 Try.f54 (((sc 3 [0, 1, 2] (tClo 0 71 [] (tCod 1 cIv (tCod 2 cInt tNil))) rNil).enc ((t1, t2, ()), (()))).tmps.map Prod.snd) ((sc 3 [0, 1, 2] (tClo 0 71 [] (tCod 1 cIv (tCod 2 cInt tNil))) rNil).enc ((t1, t2, ()), (()))).mem (cTwo cIv cInt).dec =
      .bind (t1.right) fun vb0 =>
      .br (!vb0)
       (
        .bind (Go.Proofs.Ythgpgnijbajlgaa.Iv.none) fun viv1 =>
        .ret ((viv1, 0)))
       (
        .get (Go.Proofs.Ythgpgnijbajlgaa.solveRun (fun x => Bool.true) (fun x => Go.Proofs.Ythgpgnijbajlgaa.lineF) ((Bool.false, Max.max 0 (Min.min t2 40), ()), t1, Go.Proofs.Ythgpgnijbajlgaa.Iv.mk 0 0 Bool.false, Go.Proofs.Ythgpgnijbajlgaa.Iv.mk 0 0 Bool.false, Go.Proofs.Ythgpgnijbajlgaa.Iv.mk 0 0 Bool.false, Go.Proofs.Ythgpgnijbajlgaa.Iv.mk 0 0 Bool.false, Go.Proofs.Ythgpgnijbajlgaa.Iv.mk 0 0 Bool.false, Go.Proofs.Ythgpgnijbajlgaa.Iv.mk 0 0 Bool.false, Go.Proofs.Ythgpgnijbajlgaa.Iv.mk 0 0 Bool.false, Go.Proofs.Ythgpgnijbajlgaa.Iv.mk 0 0 Bool.false, ())) fun vy2 =>
        .sum (vy2)
         (fun vs3 =>
          .br (vs3.fst.fst)
           (
            .ret ((vs3.snd.fst, 1)))
           (
            .bind (Go.Proofs.Ythgpgnijbajlgaa.Iv.none) fun viv4 =>
            .ret ((viv4, 0))))
         (fun vs5 =>
          .sum (vs5)
           (fun vs6 =>
            .ret ((vs6.snd.fst, vs6.fst.fst)))
           (fun vs7 =>
            .bind (Go.Proofs.Ythgpgnijbajlgaa.Iv.none) fun viv8 =>
            .ret ((viv8, 0))))) := by kernel_rfl
theorem c_newton_Solve_line : PlainS Try.prog 54 (sc 3 [0, 1, 2] (tClo 0 71 [] (tCod 1 cIv (tCod 2 cInt tNil))) rNil) (cTwo cIv cInt) (fun _ => true) ((fun x => _root_.Go.Proofs.Ythgpgnijbajlgaa.solve ((fun (_ : Unit) => lineF) x.2) x.1.1 x.1.2.1)) := by
  intro x h N w vs hM hv
  obtain ⟨⟨t1, t2, ⟨⟩⟩, ⟨⟩⟩ := x
  refine calls_of_tree (n := 200) (EnvOK.add s_iv_Point (EnvOK.add s_iv_Sub (EnvOK.add s_iv_Div (EnvOK.add s_iv_None (EnvOK.add s_iv_Right (EnvOK.add s_iv_Mid (EnvOK.add s_iv_Meet (EnvOK.add s_iv_Split (EnvOK.add s_newton_without_line (EnvOK.add s_meniscuslaw7_line EnvOK.nil)))))))))) Try.func54 hv (Nat.le_of_ble_eq_true (by kernel_rfl)) (LFn.add (fn := Try.f54) (i := 5) (by kernel_rfl) ok_newton_Solve_line_5 LFn.nil) hM (cTwo cIv cInt) ?_
  rw [t_newton_Solve_line]
  simp only [den_br, den_bind, den_ret, den_fail, den_inl, den_inr, den_gets, decide_eq_true_eq]
  cases h0 : t1.right
  · simp [_root_.Go.Proofs.Ythgpgnijbajlgaa.solve, h0]
  have hr : ∀ {C : Type} (q : C → Bool) (F : C → Iv → Iv × Iv) (res n m u a b v s : Iv) (c : C), q c = true → solveRun q F ((false, max 0 (min t2 40), ()), (t1, res, n, m, u, a, b, v, s, c)) = some (solveOut (F c) res (rounds t2) t1 false) := by
    intro C q F res n m u a b v s c hq
    simp only [solveRun]
    rw [if_pos ⟨hq, by omega, by omega⟩]
    rfl
  rw [hr _ _ _ _ _ _ _ _ _ _ _ (by first | rfl | exact h)]
  simp only [Bool.not_true, Bool.false_eq_true, if_false, Option.bind_some, _root_.Go.Proofs.Ythgpgnijbajlgaa.solve, h0, if_true]
  rw [← solveEnd_out _ ⟨0, 0, false⟩]
  generalize solveOut _ _ _ _ _ = y
  rcases y with ⟨⟨sure, _⟩, ⟨t, res, _⟩⟩ | ⟨⟨is, _⟩, ⟨r, _⟩⟩ | ⟨_, ⟨r, _⟩⟩
  · cases sure <;> rfl
  · rfl
  · rfl
theorem s_newton_Solve_line : Ev.Spec Try.prog 54 (FS (sc 3 [0, 1, 2] (tClo 0 71 [] (tCod 1 cIv (tCod 2 cInt tNil))) rNil) (cTwo cIv cInt) (fun _ => true) ((fun x => _root_.Go.Proofs.Ythgpgnijbajlgaa.solve ((fun (_ : Unit) => lineF) x.2) x.1.1 x.1.2.1))) := specS rfl (fun vs w => Try.call54 vs w) c_newton_Solve_line

/-! meniscusref14.Sag -/
theorem t_meniscusref14_Sag (x0 : Surf) (x1 : Iv) :
    evFn Try.prog (Env.add 53 (FR (sc 1 [0] (tSl 0 0 tNil) (rL_iv rNil)) (sc 1 [0] (tSl 0 0 tNil) (rG_iv 63 rNil)) (fun x => lenOk x.2.1) ((fun x => (((), (slope x.2.1, ())))))) (Env.add 56 (FS (sc 2 [0, 1] (tSl 0 0 (tCod 1 cIv tNil)) (rL_iv rNil)) cIv (fun x => lenOk x.2.1) ((fun x => horner x.2.1 x.1.1))) (Env.add 97 (F1 cInt cIv Iv.point) (Env.add 98 (F2 cIv cIv cIv Iv.sub) (Env.add 99 (F2 cIv cIv cIv Iv.mul) (Env.add 100 (F2 cIv cIv cIv Iv.add) (Env.add 102 (F2 cIv cIv cIv Iv.div) (Env.add 103 (F2 cIv cInt cIv Iv.times) (Env.add 110 (F1 cIv cBool Iv.right) (Env.add 112 (F0 cIv Iv.none) (Env.add 126 (F1 cIv cIv Iv.sqr) (Env.add 149 (F1 cIv cIv Iv.root) (Env.add 154 (F1 cInt cIv Iv.whole) Env.nil))))))))))))) Laws.nil 200 Try.f137 [cSurf.av x0, cIv.av x1] [] (cTwo cIv cIv).dec =
      .bind (Go.Proofs.Ythgpgnijbajlgaa.Iv.point 65536) fun viv0 =>
      .bind (x0.curve.sqr) fun viv1 =>
      .bind (x0.conic.mul viv1) fun viv2 =>
      .bind (viv2.mul x1) fun viv3 =>
      .bind (viv0.sub viv3) fun viv4 =>
      .bind (viv4.root) fun viv5 =>
      .bind (x0.curve.mul x1) fun viv6 =>
      .bind (viv0.add viv5) fun viv7 =>
      .bind (viv6.div viv7) fun viv8 =>
      .bind (viv5.times 2) fun viv9 =>
      .bind (x0.curve.div viv9) fun viv10 =>
      .br (x0.bent)
       (
        .bind (Go.Proofs.Ythgpgnijbajlgaa.Iv.whole 1000) fun viv11 =>
        .bind (x1.div viv11) fun viv12 =>
        .bind (Go.Proofs.Ythgpgnijbajlgaa.Iv.point 0) fun viv13 =>
        .bind (Go.Proofs.Ythgpgnijbajlgaa.Iv.point 0) fun viv14 =>
        .br (Go.Proofs.Ythgpgnijbajlgaa.Ev.lenOk [viv13, viv14, x0.a4, x0.a6])
         (
          .bind (Go.Proofs.Ythgpgnijbajlgaa.horner [viv13, viv14, x0.a4, x0.a6] viv12) fun viv15 =>
          .bind (viv8.add viv15) fun viv16 =>
          .br (Go.Proofs.Ythgpgnijbajlgaa.Ev.lenOk [viv13, viv14, x0.a4, x0.a6])
           (
            .bind (((), Go.Proofs.Ythgpgnijbajlgaa.slope [viv13, viv14, x0.a4, x0.a6], ())) fun vy17 =>
            .br (Go.Proofs.Ythgpgnijbajlgaa.Ev.lenOk vy17.snd.fst)
             (
              .bind (Go.Proofs.Ythgpgnijbajlgaa.horner vy17.snd.fst viv12) fun viv18 =>
              .bind (Go.Proofs.Ythgpgnijbajlgaa.Iv.whole 1000) fun viv19 =>
              .bind (viv18.div viv19) fun viv20 =>
              .bind (viv10.add viv20) fun viv21 =>
              .bind (viv16.right) fun vb22 =>
              .br (!vb22)
               (
                .bind (Go.Proofs.Ythgpgnijbajlgaa.Iv.none) fun viv23 =>
                .bind (Go.Proofs.Ythgpgnijbajlgaa.Iv.none) fun viv24 =>
                .ret ((viv23, viv24)))
               (
                .bind (viv21.right) fun vb25 =>
                .br (!vb25)
                 (
                  .bind (Go.Proofs.Ythgpgnijbajlgaa.Iv.none) fun viv26 =>
                  .bind (Go.Proofs.Ythgpgnijbajlgaa.Iv.none) fun viv27 =>
                  .ret ((viv26, viv27)))
                 (
                  .ret ((viv16, viv21)))))
             (
              .fail))
           (
            .fail))
         (
          .fail))
       (
        .bind (viv8.right) fun vb28 =>
        .br (!vb28)
         (
          .bind (Go.Proofs.Ythgpgnijbajlgaa.Iv.none) fun viv29 =>
          .bind (Go.Proofs.Ythgpgnijbajlgaa.Iv.none) fun viv30 =>
          .ret ((viv29, viv30)))
         (
          .bind (viv10.right) fun vb31 =>
          .br (!vb31)
           (
            .bind (Go.Proofs.Ythgpgnijbajlgaa.Iv.none) fun viv32 =>
            .bind (Go.Proofs.Ythgpgnijbajlgaa.Iv.none) fun viv33 =>
            .ret ((viv32, viv33)))
           (
            .ret ((viv8, viv10))))) := by kernel_rfl
theorem c_meniscusref14_Sag (x0 : Surf) (x1 : Iv) : Plain Try.prog 137 [cSurf.enc x0, cIv.enc x1] ((cTwo cIv cIv).enc (sagOf x0 x1)) :=
  plain_of_tree (n := 200) (EnvOK.add s_meniscusref1_Slope (EnvOK.add s_meniscusref1_Horner (EnvOK.add s_meniscusref1_Point (EnvOK.add s_meniscusref1_Sub (EnvOK.add s_meniscusref1_MulIv (EnvOK.add s_meniscusref1_Add (EnvOK.add s_meniscusref1_DivIv (EnvOK.add s_meniscusref1_Times (EnvOK.add s_meniscusref1_Right (EnvOK.add s_meniscusref14_none (EnvOK.add s_meniscusref1_Sqr (EnvOK.add s_meniscusref1_RootIv (EnvOK.add s_meniscusref1_Whole EnvOK.nil))))))))))))) Try.func137 (args := [cSurf.av x0, cIv.av x1]) (by simp only [AV.vals, Cod.av_val]) (Nat.le_of_ble_eq_true (by kernel_rfl)) LFn.nil (cTwo cIv cIv) (by
    rw [t_meniscusref14_Sag]
    simp only [den_br, den_bind, den_ret, den_fail, den_inl, den_inr, decide_eq_true_eq]
    have l1 : ∀ a b c d : Iv, lenOk [a, b, c, d] = true := fun _ _ _ _ => rfl
    have l2 : ∀ a b c d : Iv, lenOk (slope [a, b, c, d]) = true := fun _ _ _ _ => rfl
    simp only [l1, l2, if_true, no_add, no_div, sagOf, sagPre, sagBent]
    by_cases hb : x0.bent = true
    · simp only [hb, if_true]
      simp only [sagRound]
      grind
    · simp only [hb, if_false]
      simp only [sagRound]
      grind)
theorem s_meniscusref14_Sag : Ev.Spec Try.prog 137 (F2 cSurf cIv (cTwo cIv cIv) sagOf) := spec2 (fun vs w => Try.call137 vs w) c_meniscusref14_Sag

/-! (meniscus/meniscusref14.Fn).At -/
theorem t_meniscusref14_Fn_At (t0a : Unit) (t0b : Bool × Surf × Ray) (t1 : Iv) (r0 : List Iv) :
    evFn Try.prog (Env.add 53 (FR (sc 1 [0] (tSl 0 0 tNil) (rL_iv rNil)) (sc 1 [0] (tSl 0 0 tNil) (rG_iv 63 rNil)) (fun x => lenOk x.2.1) ((fun x => (((), (slope x.2.1, ())))))) (Env.add 56 (FS (sc 2 [0, 1] (tSl 0 0 (tCod 1 cIv tNil)) (rL_iv rNil)) cIv (fun x => lenOk x.2.1) ((fun x => horner x.2.1 x.1.1))) (Env.add 98 (F2 cIv cIv cIv Iv.sub) (Env.add 99 (F2 cIv cIv cIv Iv.mul) (Env.add 100 (F2 cIv cIv cIv Iv.add) (Env.add 103 (F2 cIv cInt cIv Iv.times) (Env.add 126 (F1 cIv cIv Iv.sqr) (Env.add 136 (F2 cRay cIv cV along) (Env.add 137 (F2 cSurf cIv (cTwo cIv cIv) sagOf) Env.nil))))))))) Laws.nil 200 Try.f114 (((sc 2 [0, 1] (tAgg 0 0 ccNil ccNil_ok (ccTwo ccBool (ccTwo ccSurf ccRay)) (ccTwo_ok ccBool_ok (ccTwo_ok ccSurf_ok ccRay_ok)) (tCod 1 cIv tNil)) (rL_iv rNil)).enc ((t0a, t0b, t1, ()), (r0, ()))).tmps.map Prod.snd) ((sc 2 [0, 1] (tAgg 0 0 ccNil ccNil_ok (ccTwo ccBool (ccTwo ccSurf ccRay)) (ccTwo_ok ccBool_ok (ccTwo_ok ccSurf_ok ccRay_ok)) (tCod 1 cIv tNil)) (rL_iv rNil)).enc ((t0a, t0b, t1, ()), (r0, ()))).mem (cTwo cIv cIv).dec =
      .br (!t0b.fst)
       (
        .br (Go.Proofs.Ythgpgnijbajlgaa.Ev.lenOk r0)
         (
          .bind (Go.Proofs.Ythgpgnijbajlgaa.horner r0 t1) fun viv0 =>
          .br (Go.Proofs.Ythgpgnijbajlgaa.Ev.lenOk r0)
           (
            .bind (((), Go.Proofs.Ythgpgnijbajlgaa.slope r0, ())) fun vy1 =>
            .br (Go.Proofs.Ythgpgnijbajlgaa.Ev.lenOk vy1.snd.fst)
             (
              .bind (Go.Proofs.Ythgpgnijbajlgaa.horner vy1.snd.fst t1) fun viv2 =>
              .ret ((viv0, viv2)))
             (
              .fail))
           (
            .fail))
         (
          .fail))
       (
        .bind (Go.Proofs.Ythgpgnijbajlgaa.along t0b.snd.snd t1) fun vv3 =>
        .bind (vv3.x.sqr) fun viv4 =>
        .bind (vv3.y.sqr) fun viv5 =>
        .bind (viv4.add viv5) fun viv6 =>
        .bind (Go.Proofs.Ythgpgnijbajlgaa.sagOf t0b.snd.fst viv6) fun vy7 =>
        .bind (vv3.x.mul t0b.snd.snd.d.x) fun viv8 =>
        .bind (vv3.y.mul t0b.snd.snd.d.y) fun viv9 =>
        .bind (viv8.add viv9) fun viv10 =>
        .bind (vv3.z.sub vy7.fst) fun viv11 =>
        .bind (viv10.times 2) fun viv12 =>
        .bind (vy7.snd.mul viv12) fun viv13 =>
        .bind (t0b.snd.snd.d.z.sub viv13) fun viv14 =>
        .ret ((viv11, viv14))) := by kernel_rfl
theorem c_meniscusref14_Fn_At : PlainS Try.prog 114 (sc 2 [0, 1] (tAgg 0 0 ccNil ccNil_ok (ccTwo ccBool (ccTwo ccSurf ccRay)) (ccTwo_ok ccBool_ok (ccTwo_ok ccSurf_ok ccRay_ok)) (tCod 1 cIv tNil)) (rL_iv rNil)) (cTwo cIv cIv) (fun x => lenOk x.2.1) ((fun x => fnAt x.2.1 x.1.2.1.1 x.1.2.1.2.1 x.1.2.1.2.2 x.1.2.2.1)) := by
  intro x h N w vs hM hv
  obtain ⟨⟨t0a, t0b, t1, ⟨⟩⟩, ⟨r0, ⟨⟩⟩⟩ := x
  refine calls_of_tree (n := 200) (EnvOK.add s_meniscusref1_Slope (EnvOK.add s_meniscusref1_Horner (EnvOK.add s_meniscusref1_Sub (EnvOK.add s_meniscusref1_MulIv (EnvOK.add s_meniscusref1_Add (EnvOK.add s_meniscusref1_Times (EnvOK.add s_meniscusref1_Sqr (EnvOK.add s_meniscusref1_Along (EnvOK.add s_meniscusref14_Sag EnvOK.nil))))))))) Try.func114 hv (Nat.le_of_ble_eq_true (by kernel_rfl)) LFn.nil hM (cTwo cIv cIv) ?_
  rw [t_meniscusref14_Fn_At]
  simp only [den_br, den_bind, den_ret, den_fail, den_inl, den_inr, decide_eq_true_eq]
  simp only at h
  obtain ⟨f, s, r⟩ := t0b
  have h2 : lenOk (slope r0) = true := lenOk_iff.2 (by have := lenOk_iff.1 h; simp [slope]; omega)
  cases f
  · simp only [h, h2, if_true, Bool.not_false]
    rfl
  · rfl
theorem s_meniscusref14_Fn_At : Ev.Spec Try.prog 114 (FS (sc 2 [0, 1] (tAgg 0 0 ccNil ccNil_ok (ccTwo ccBool (ccTwo ccSurf ccRay)) (ccTwo_ok ccBool_ok (ccTwo_ok ccSurf_ok ccRay_ok)) (tCod 1 cIv tNil)) (rL_iv rNil)) (cTwo cIv cIv) (fun x => lenOk x.2.1) ((fun x => fnAt x.2.1 x.1.2.1.1 x.1.2.1.2.1 x.1.2.1.2.2 x.1.2.2.1))) := specS rfl (fun vs w => Try.call114 vs w) c_meniscusref14_Fn_At

/-! (meniscus/meniscusref14.Fn).Solve -/
theorem tl_meniscusref14_Fn_Solve_6 (t8 : Bool) (t9 : Int) (t2 : Int) (r0 : Iv) (r1 : Iv) (r2 : Bool × Surf × Ray) (r3 : List Iv) :
    ev Try.prog (Env.add 97 (F1 cInt cIv Iv.point) (Env.add 98 (F2 cIv cIv cIv Iv.sub) (Env.add 102 (F2 cIv cIv cIv Iv.div) (Env.add 110 (F1 cIv cBool Iv.right) (Env.add 112 (F0 cIv Iv.none) (Env.add 113 (F1 cIv cInt Iv.mid) (Env.add 114 (FS (sc 2 [0, 1] (tAgg 0 0 ccNil ccNil_ok (ccTwo ccBool (ccTwo ccSurf ccRay)) (ccTwo_ok ccBool_ok (ccTwo_ok ccSurf_ok ccRay_ok)) (tCod 1 cIv tNil)) (rL_iv rNil)) (cTwo cIv cIv) (fun x => lenOk x.2.1) ((fun x => fnAt x.2.1 x.1.2.1.1 x.1.2.1.2.1 x.1.2.1.2.2 x.1.2.2.1))) (Env.add 115 (F1 cIv (cTwo cIv cIv) Iv.split) (Env.add 116 (F1 cIv cBool ((fun v => v.right && !v.has 0))) (Env.add 117 (F2 cIv cIv cIv Iv.meet) Env.nil)))))))))) Laws.nil 200 none (loopAt Try.f57 6) ((sc 113 [8, 9, 2, 4, 6, 3] (tCod 8 cBool (tCod 9 cInt (tCod 2 cInt (tOwn 4 0 (tOwn 6 1 (tOwn 3 2 tNil)))))) (rBox ccIv ccIv_ok (rBox ccIv ccIv_ok (rBoxSl 3 (ccTwo ccBool (ccTwo ccSurf ccRay)) (ccTwo_ok ccBool_ok (ccTwo_ok ccSurf_ok ccRay_ok)) (rL_iv rNil))))).enc ((t8, t9, t2, ()), (r0, r1, r2, r3, ()))) (backK (sc 113 [8, 9, 2, 4, 6, 3] (tCod 8 cBool (tCod 9 cInt (tCod 2 cInt (tOwn 4 0 (tOwn 6 1 (tOwn 3 2 tNil)))))) (rBox ccIv ccIv_ok (rBox ccIv ccIv_ok (rBoxSl 3 (ccTwo ccBool (ccTwo ccSurf ccRay)) (ccTwo_ok ccBool_ok (ccTwo_ok ccSurf_ok ccRay_ok)) (rL_iv rNil))))) (ocOr (ocExit 0 (sc 113 [8, 4, 6] (tCod 8 cBool (tOwn 4 0 (tOwn 6 1 tNil))) (rBox ccIv ccIv_ok (rBox ccIv ccIv_ok rNil)))) (ocRet (sc 113 [7, 6] (tCod 7 cInt (tOwn 6 0 tNil)) (rBox ccIv ccIv_ok rNil))))) =
      .br (Decidable.decide (t9 < t2))
       (
        .bind (r0.mid) fun vn0 =>
        .bind (Go.Proofs.Ythgpgnijbajlgaa.Iv.point vn0) fun viv1 =>
        .br (Go.Proofs.Ythgpgnijbajlgaa.Ev.lenOk r3)
         (
          .bind (Go.Proofs.Ythgpgnijbajlgaa.fnAt r3 r2.fst r2.snd.fst r2.snd.snd viv1) fun vy2 =>
          .br (Go.Proofs.Ythgpgnijbajlgaa.Ev.lenOk r3)
           (
            .bind (Go.Proofs.Ythgpgnijbajlgaa.fnAt r3 r2.fst r2.snd.fst r2.snd.snd r0) fun vy3 =>
            .bind (vy2.fst.div vy3.snd) fun viv4 =>
            .bind (viv1.sub viv4) fun viv5 =>
            .bind (viv5.right) fun vb6 =>
            .br (!vb6)
             (
              .bind (r0.split) fun vy7 =>
              .br (Go.Proofs.Ythgpgnijbajlgaa.Ev.lenOk r3)
               (
                .bind (Go.Proofs.Ythgpgnijbajlgaa.fnAt r3 r2.fst r2.snd.fst r2.snd.snd vy7.fst) fun vy8 =>
                .br (Go.Proofs.Ythgpgnijbajlgaa.Ev.lenOk r3)
                 (
                  .bind (Go.Proofs.Ythgpgnijbajlgaa.fnAt r3 r2.fst r2.snd.fst r2.snd.snd vy7.snd) fun vy9 =>
                  .bind (vy8.fst.right && !vy8.fst.has 0) fun vb10 =>
                  .br (vb10)
                   (
                    .ret (Sum.inl ((t8, Go.IntKind.i64.wrap (t9 + 1), t2, ()), vy7.snd, r1, r2, r3, ())))
                   (
                    .bind (vy9.fst.right && !vy9.fst.has 0) fun vb11 =>
                    .br (vb11)
                     (
                      .ret (Sum.inl ((t8, Go.IntKind.i64.wrap (t9 + 1), t2, ()), vy7.fst, r1, r2, r3, ())))
                     (
                      .bind (Go.Proofs.Ythgpgnijbajlgaa.Iv.none) fun viv12 =>
                      .ret (Sum.inr (Sum.inr ((0, ()), viv12, ()))))))
                 (
                  .fail))
               (
                .fail))
             (
              .br (t8)
               (
                .bind (r0.meet viv5) fun viv13 =>
                .bind (viv13.right) fun vb14 =>
                .br (!vb14)
                 (
                  .bind (Go.Proofs.Ythgpgnijbajlgaa.Iv.none) fun viv15 =>
                  .ret (Sum.inr (Sum.inr ((2, ()), viv15, ()))))
                 (
                  .br (viv13.lo == r0.lo && (viv13.hi == r0.hi && viv13.no == r0.no))
                   (
                    .ret (Sum.inr (Sum.inl ((Bool.true, ()), r0, r1, ()))))
                   (
                    .ret (Sum.inl ((Bool.true, Go.IntKind.i64.wrap (t9 + 1), t2, ()), viv13, r1, r2, r3, ())))))
               (
                .br (Decidable.decide (r0.lo < viv5.lo))
                 (
                  .bind (r0.meet viv5) fun viv16 =>
                  .bind (viv16.right) fun vb17 =>
                  .br (!vb17)
                   (
                    .bind (Go.Proofs.Ythgpgnijbajlgaa.Iv.none) fun viv18 =>
                    .ret (Sum.inr (Sum.inr ((2, ()), viv18, ()))))
                   (
                    .br (viv16.lo == r0.lo && (viv16.hi == r0.hi && viv16.no == r0.no))
                     (
                      .ret (Sum.inr (Sum.inl ((Decidable.decide (viv5.hi < r0.hi), ()), r0, r1, ()))))
                     (
                      .ret (Sum.inl ((Decidable.decide (viv5.hi < r0.hi), Go.IntKind.i64.wrap (t9 + 1), t2, ()), viv16, r1, r2, r3, ())))))
                 (
                  .bind (r0.meet viv5) fun viv19 =>
                  .bind (viv19.right) fun vb20 =>
                  .br (!vb20)
                   (
                    .bind (Go.Proofs.Ythgpgnijbajlgaa.Iv.none) fun viv21 =>
                    .ret (Sum.inr (Sum.inr ((2, ()), viv21, ()))))
                   (
                    .br (viv19.lo == r0.lo && (viv19.hi == r0.hi && viv19.no == r0.no))
                     (
                      .ret (Sum.inr (Sum.inl ((Bool.false, ()), r0, r1, ()))))
                     (
                      .ret (Sum.inl ((Bool.false, Go.IntKind.i64.wrap (t9 + 1), t2, ()), viv19, r1, r2, r3, ()))))))))
           (
            .fail))
         (
          .fail))
       (
        .ret (Sum.inr (Sum.inl ((t8, ()), r0, r1, ())))) := by kernel_rfl
theorem ok_meniscusref14_Fn_Solve_6 : LOK Try.prog (LoopR.of (sc 113 [8, 9, 2, 4, 6, 3] (tCod 8 cBool (tCod 9 cInt (tCod 2 cInt (tOwn 4 0 (tOwn 6 1 (tOwn 3 2 tNil)))))) (rBox ccIv ccIv_ok (rBox ccIv ccIv_ok (rBoxSl 3 (ccTwo ccBool (ccTwo ccSurf ccRay)) (ccTwo_ok ccBool_ok (ccTwo_ok ccSurf_ok ccRay_ok)) (rL_iv rNil))))) (ocOr (ocExit 0 (sc 113 [8, 4, 6] (tCod 8 cBool (tOwn 4 0 (tOwn 6 1 tNil))) (rBox ccIv ccIv_ok (rBox ccIv ccIv_ok rNil)))) (ocRet (sc 113 [7, 6] (tCod 7 cInt (tOwn 6 0 tNil)) (rBox ccIv ccIv_ok rNil)))) fnRun) (loopAt Try.f57 6) := by
  refine loop_ok (EnvOK.add s_meniscusref1_Point (EnvOK.add s_meniscusref1_Sub (EnvOK.add s_meniscusref1_DivIv (EnvOK.add s_meniscusref1_Right (EnvOK.add s_meniscusref14_none (EnvOK.add s_meniscusref1_Mid (EnvOK.add s_meniscusref14_Fn_At (EnvOK.add s_meniscusref1_Split (EnvOK.add s_meniscusref14_sure (EnvOK.add s_meniscusref1_Meet EnvOK.nil)))))))))) (LFn.at (fn := Try.f57) LFn.nil 6) fnStep (n := 200) (fun x z h => ?_) fnRun_ok
  obtain ⟨⟨t8, t9, t2, ⟨⟩⟩, ⟨r0, r1, r2, r3, ⟨⟩⟩⟩ := x
  rw [tl_meniscusref14_Fn_Solve_6]
  rw [← h]
  simp only [den_br, den_bind, den_ret, den_fail, den_inl, den_inr, decide_eq_true_eq]
  by_cases hk : t9 < t2
  case neg => simp only [fnStep, hk, if_false]
  simp only [fnStep, solveSure, hk, if_true]
  cases hl : lenOk r3
  case false => simp
  simp only [if_true]
  generalize fnAt r3 r2.1 r2.2.1 r2.2.2 = F
  rw [show (Iv.point r0.mid).sub ((F (Iv.point r0.mid)).1.div (F r0).2) = nextN F r0 from rfl]
  have hn : (!(nextN F r0).right) = (nextN F r0).no := no_sub _ _
  rw [hn, no_meet r0 (nextN F r0)]
  generalize nextN F r0 = n
  cases h1 : n.no
  case true =>
    simp only [if_true, without]
    rfl
  simp only [Bool.false_eq_true, if_false, solveSure, ivEq, ltB]
  cases t8 <;> simp only [Bool.false_eq_true, if_true, if_false, Bool.true_or, Bool.false_or]
  by_cases h2 : r0.lo < n.lo <;> simp only [h2, if_true, if_false, decide_true, decide_false, Bool.true_and, Bool.false_and]
theorem t_meniscusref14_Fn_Solve (t0a : Unit) (t0b : Bool × Surf × Ray) (t1 : Iv) (t2 : Int) (r0 : List Iv) :
    evFn Try.prog (Env.add 97 (F1 cInt cIv Iv.point) (Env.add 98 (F2 cIv cIv cIv Iv.sub) (Env.add 102 (F2 cIv cIv cIv Iv.div) (Env.add 110 (F1 cIv cBool Iv.right) (Env.add 112 (F0 cIv Iv.none) (Env.add 113 (F1 cIv cInt Iv.mid) (Env.add 114 (FS (sc 2 [0, 1] (tAgg 0 0 ccNil ccNil_ok (ccTwo ccBool (ccTwo ccSurf ccRay)) (ccTwo_ok ccBool_ok (ccTwo_ok ccSurf_ok ccRay_ok)) (tCod 1 cIv tNil)) (rL_iv rNil)) (cTwo cIv cIv) (fun x => lenOk x.2.1) ((fun x => fnAt x.2.1 x.1.2.1.1 x.1.2.1.2.1 x.1.2.1.2.2 x.1.2.2.1))) (Env.add 115 (F1 cIv (cTwo cIv cIv) Iv.split) (Env.add 116 (F1 cIv cBool ((fun v => v.right && !v.has 0))) (Env.add 117 (F2 cIv cIv cIv Iv.meet) Env.nil)))))))))) (Laws.add 6 (LoopR.of (sc 113 [8, 9, 2, 4, 6, 3] (tCod 8 cBool (tCod 9 cInt (tCod 2 cInt (tOwn 4 0 (tOwn 6 1 (tOwn 3 2 tNil)))))) (rBox ccIv ccIv_ok (rBox ccIv ccIv_ok (rBoxSl 3 (ccTwo ccBool (ccTwo ccSurf ccRay)) (ccTwo_ok ccBool_ok (ccTwo_ok ccSurf_ok ccRay_ok)) (rL_iv rNil))))) (ocOr (ocExit 0 (sc 113 [8, 4, 6] (tCod 8 cBool (tOwn 4 0 (tOwn 6 1 tNil))) (rBox ccIv ccIv_ok (rBox ccIv ccIv_ok rNil)))) (ocRet (sc 113 [7, 6] (tCod 7 cInt (tOwn 6 0 tNil)) (rBox ccIv ccIv_ok rNil)))) fnRun) Laws.nil) 200 Try.f57 (((sc 3 [0, 1, 2] (tAgg 0 0 ccNil ccNil_ok (ccTwo ccBool (ccTwo ccSurf ccRay)) (ccTwo_ok ccBool_ok (ccTwo_ok ccSurf_ok ccRay_ok)) (tCod 1 cIv (tCod 2 cInt tNil))) (rL_iv rNil)).enc ((t0a, t0b, t1, t2, ()), (r0, ()))).tmps.map Prod.snd) ((sc 3 [0, 1, 2] (tAgg 0 0 ccNil ccNil_ok (ccTwo ccBool (ccTwo ccSurf ccRay)) (ccTwo_ok ccBool_ok (ccTwo_ok ccSurf_ok ccRay_ok)) (tCod 1 cIv (tCod 2 cInt tNil))) (rL_iv rNil)).enc ((t0a, t0b, t1, t2, ()), (r0, ()))).mem (cTwo cIv cInt).dec =
      .bind (t1.right) fun vb0 =>
      .br (!vb0)
       (
        .bind (Go.Proofs.Ythgpgnijbajlgaa.Iv.none) fun viv1 =>
        .ret ((viv1, 0)))
       (
        .get (Go.Proofs.Ythgpgnijbajlgaa.fnRun ((Bool.false, 0, Max.max 0 (Min.min 40 t2), ()), t1, Go.Proofs.Ythgpgnijbajlgaa.Iv.mk 0 0 Bool.false, t0b, r0, ())) fun vy2 =>
        .sum (vy2)
         (fun vs3 =>
          .br (vs3.fst.fst)
           (
            .ret ((vs3.snd.fst, 1)))
           (
            .bind (Go.Proofs.Ythgpgnijbajlgaa.Iv.none) fun viv4 =>
            .ret ((viv4, 0))))
         (fun vs5 =>
          .ret ((vs5.snd.fst, vs5.fst.fst)))) := by kernel_rfl
theorem c_meniscusref14_Fn_Solve : PlainS Try.prog 57 (sc 3 [0, 1, 2] (tAgg 0 0 ccNil ccNil_ok (ccTwo ccBool (ccTwo ccSurf ccRay)) (ccTwo_ok ccBool_ok (ccTwo_ok ccSurf_ok ccRay_ok)) (tCod 1 cIv (tCod 2 cInt tNil))) (rL_iv rNil)) (cTwo cIv cInt) (fun x => lenOk x.2.1) ((fun x => _root_.Go.Proofs.Ythgpgnijbajlgaa.solve (fnAt x.2.1 x.1.2.1.1 x.1.2.1.2.1 x.1.2.1.2.2) x.1.2.2.1 x.1.2.2.2.1)) := by
  intro x h N w vs hM hv
  obtain ⟨⟨t0a, t0b, t1, t2, ⟨⟩⟩, ⟨r0, ⟨⟩⟩⟩ := x
  refine calls_of_tree (n := 200) (EnvOK.add s_meniscusref1_Point (EnvOK.add s_meniscusref1_Sub (EnvOK.add s_meniscusref1_DivIv (EnvOK.add s_meniscusref1_Right (EnvOK.add s_meniscusref14_none (EnvOK.add s_meniscusref1_Mid (EnvOK.add s_meniscusref14_Fn_At (EnvOK.add s_meniscusref1_Split (EnvOK.add s_meniscusref14_sure (EnvOK.add s_meniscusref1_Meet EnvOK.nil)))))))))) Try.func57 hv (Nat.le_of_ble_eq_true (by kernel_rfl)) (LFn.add (fn := Try.f57) (i := 6) (by kernel_rfl) ok_meniscusref14_Fn_Solve_6 LFn.nil) hM (cTwo cIv cInt) ?_
  rw [t_meniscusref14_Fn_Solve]
  simp only [den_br, den_bind, den_ret, den_fail, den_inl, den_inr, den_gets, decide_eq_true_eq]
  simp only at h
  obtain ⟨f, s, r⟩ := t0b
  cases h0 : t1.right
  · simp [_root_.Go.Proofs.Ythgpgnijbajlgaa.solve, h0]
  have hr : ∀ (res : Iv), fnRun ((false, 0, max 0 (min 40 t2), ()), (t1, res, (f, s, r), r0, ())) = some (fnY (solveOut (fnAt r0 f s r) res (rounds t2) t1 false)) := by
    intro res
    simp only [fnRun]
    rw [if_pos ⟨h, by omega, by omega, by omega⟩]
    have : (max 0 (min 40 t2) - 0).toNat = rounds t2 := by simp only [rounds]; omega
    rw [this]
  rw [hr]
  simp only [Bool.not_true, Bool.false_eq_true, if_false, Option.bind_some, _root_.Go.Proofs.Ythgpgnijbajlgaa.solve, h0, if_true]
  rw [← solveEnd_out _ ⟨0, 0, false⟩]
  generalize solveOut _ _ _ _ _ = y
  rcases y with ⟨⟨sure, _⟩, ⟨t, res, _⟩⟩ | ⟨⟨is, _⟩, ⟨r, _⟩⟩ | ⟨_, ⟨r, _⟩⟩
  · cases sure <;> rfl
  · rfl
  · rfl
theorem s_meniscusref14_Fn_Solve : Ev.Spec Try.prog 57 (FS (sc 3 [0, 1, 2] (tAgg 0 0 ccNil ccNil_ok (ccTwo ccBool (ccTwo ccSurf ccRay)) (ccTwo_ok ccBool_ok (ccTwo_ok ccSurf_ok ccRay_ok)) (tCod 1 cIv (tCod 2 cInt tNil))) (rL_iv rNil)) (cTwo cIv cInt) (fun x => lenOk x.2.1) ((fun x => _root_.Go.Proofs.Ythgpgnijbajlgaa.solve (fnAt x.2.1 x.1.2.1.1 x.1.2.1.2.1 x.1.2.1.2.2) x.1.2.2.1 x.1.2.2.2.1))) := specS rfl (fun vs w => Try.call57 vs w) c_meniscusref14_Fn_Solve

/-! newton.without -/
theorem t_newton_without_square (t1 : Iv) :
    evFn Try.prog (Env.add 63 (F2 cIv cInt cBool Iv.has) (Env.add 91 (F1 cIv cBool Iv.right) (Env.add 67 (F1 cIv (cTwo cIv cIv) squareF) Env.nil))) Laws.nil 200 Try.f109 (((sc 2 [0, 1] (tClo 0 67 [] (tCod 1 cIv tNil)) rNil).enc ((t1, ()), (()))).tmps.map Prod.snd) ((sc 2 [0, 1] (tClo 0 67 [] (tCod 1 cIv tNil)) rNil).enc ((t1, ()), (()))).mem cBool.dec =
      .bind (Go.Proofs.Ythgpgnijbajlgaa.squareF t1) fun vy0 =>
      .bind (vy0.fst.right) fun vb1 =>
      .br (vb1)
       (
        .bind (vy0.fst.has 0) fun vb2 =>
        .ret (!vb2))
       (
        .ret (Bool.false)) := by kernel_rfl
theorem c_newton_without_square : PlainS Try.prog 109 (sc 2 [0, 1] (tClo 0 67 [] (tCod 1 cIv tNil)) rNil) cBool (fun _ => true) ((fun x => without ((fun (_ : Unit) => squareF) x.2) x.1.1)) := by
  intro x h N w vs hM hv
  obtain ⟨⟨t1, ⟨⟩⟩, ⟨⟩⟩ := x
  refine calls_of_tree (n := 200) (EnvOK.add s_iv_Has (EnvOK.add s_iv_Right (EnvOK.add s_meniscuslaw7_NewtonKnown_1 EnvOK.nil))) Try.func109 hv (Nat.le_of_ble_eq_true (by kernel_rfl)) LFn.nil hM cBool ?_
  rw [t_newton_without_square]
  simp only [den_br, den_bind, den_ret, den_fail, den_inl, den_inr, decide_eq_true_eq]
  simp only [without]
  grind
theorem s_newton_without_square : Ev.Spec Try.prog 109 (FS (sc 2 [0, 1] (tClo 0 67 [] (tCod 1 cIv tNil)) rNil) cBool (fun _ => true) ((fun x => without ((fun (_ : Unit) => squareF) x.2) x.1.1))) := specS rfl (fun vs w => Try.call109 vs w) c_newton_without_square

/-! newton.Solve -/
theorem tl_newton_Solve_square_5 (t15 : Bool) (t16 : Int) (r0 : Iv) (r1 : Iv) (r2 : Iv) (r3 : Iv) (r4 : Iv) (r5 : Iv) (r6 : Iv) (r7 : Iv) (r8 : Iv) :
    ev Try.prog (Env.add 39 (F1 cInt cIv Iv.point) (Env.add 40 (F2 cIv cIv cIv Iv.sub) (Env.add 45 (F2 cIv cIv cIv Iv.div) (Env.add 66 (F0 cIv Iv.none) (Env.add 91 (F1 cIv cBool Iv.right) (Env.add 106 (F1 cIv cInt Iv.mid) (Env.add 107 (F2 cIv cIv cIv Iv.meet) (Env.add 108 (F1 cIv (cTwo cIv cIv) Iv.split) (Env.add 109 (FS (sc 2 [0, 1] (tClo 0 67 [] (tCod 1 cIv tNil)) rNil) cBool (fun _ => true) ((fun x => without ((fun (_ : Unit) => squareF) x.2) x.1.1))) (Env.add 67 (F1 cIv (cTwo cIv cIv) squareF) Env.nil)))))))))) Laws.nil 200 none (loopAt Try.f54 5) ((sc 95 [15, 16, 4, 6, 8, 9, 10, 11, 12, 13, 14, 0] (tCod 15 cBool (tCod 16 cInt (tOwn 4 0 (tOwn 6 1 (tOwn 8 2 (tOwn 9 3 (tOwn 10 4 (tOwn 11 5 (tOwn 12 6 (tOwn 13 7 (tOwn 14 8 (tClo 0 67 [] tNil)))))))))))) (rBox ccIv ccIv_ok (rBox ccIv ccIv_ok (rBox ccIv ccIv_ok (rBox ccIv ccIv_ok (rBox ccIv ccIv_ok (rBox ccIv ccIv_ok (rBox ccIv ccIv_ok (rBox ccIv ccIv_ok (rBox ccIv ccIv_ok rNil)))))))))).enc ((t15, t16, ()), (r0, r1, r2, r3, r4, r5, r6, r7, r8, ()))) (backK (sc 95 [15, 16, 4, 6, 8, 9, 10, 11, 12, 13, 14, 0] (tCod 15 cBool (tCod 16 cInt (tOwn 4 0 (tOwn 6 1 (tOwn 8 2 (tOwn 9 3 (tOwn 10 4 (tOwn 11 5 (tOwn 12 6 (tOwn 13 7 (tOwn 14 8 (tClo 0 67 [] tNil)))))))))))) (rBox ccIv ccIv_ok (rBox ccIv ccIv_ok (rBox ccIv ccIv_ok (rBox ccIv ccIv_ok (rBox ccIv ccIv_ok (rBox ccIv ccIv_ok (rBox ccIv ccIv_ok (rBox ccIv ccIv_ok (rBox ccIv ccIv_ok rNil)))))))))) (ocOr (ocExit 0 (sc 95 [15, 4, 6] (tCod 15 cBool (tOwn 4 0 (tOwn 6 1 tNil))) (rBox ccIv ccIv_ok (rBox ccIv ccIv_ok rNil)))) (ocOr (ocRet (sc 95 [7, 6] (tCod 7 cInt (tOwn 6 0 tNil)) (rBox ccIv ccIv_ok rNil))) (ocGoto 0 (sc 95 [6] (tOwn 6 0 tNil) (rBox ccIv ccIv_ok rNil)))))) =
      .br (Decidable.decide (t16 > 0))
       (
        .bind (r0.mid) fun vn0 =>
        .bind (Go.Proofs.Ythgpgnijbajlgaa.Iv.point vn0) fun viv1 =>
        .bind (Go.Proofs.Ythgpgnijbajlgaa.squareF viv1) fun vy2 =>
        .bind (Go.Proofs.Ythgpgnijbajlgaa.squareF r0) fun vy3 =>
        .bind (vy2.fst.div vy3.snd) fun viv4 =>
        .bind (viv1.sub viv4) fun viv5 =>
        .br (viv5.no)
         (
          .bind (r0.split) fun vy6 =>
          .br (Bool.true)
           (
            .bind (Go.Proofs.Ythgpgnijbajlgaa.without Go.Proofs.Ythgpgnijbajlgaa.squareF vy6.fst) fun vb7 =>
            .br (vb7)
             (
              .ret (Sum.inl ((t15, Go.IntKind.i64.wrap (t16 - 1), ()), vy6.snd, r1, viv5, viv1, r4, vy6.fst, vy6.snd, vy2.fst, vy3.snd, ())))
             (
              .br (Bool.true)
               (
                .bind (Go.Proofs.Ythgpgnijbajlgaa.without Go.Proofs.Ythgpgnijbajlgaa.squareF vy6.snd) fun vb8 =>
                .br (!vb8)
                 (
                  .ret (Sum.inr (Sum.inr (Sum.inr ((), r1, ())))))
                 (
                  .ret (Sum.inl ((t15, Go.IntKind.i64.wrap (t16 - 1), ()), vy6.fst, r1, viv5, viv1, r4, vy6.fst, vy6.snd, vy2.fst, vy3.snd, ()))))
               (
                .fail)))
           (
            .fail))
         (
          .br (t15)
           (
            .bind (r0.meet viv5) fun viv9 =>
            .br (viv9.no)
             (
              .bind (Go.Proofs.Ythgpgnijbajlgaa.Iv.none) fun viv10 =>
              .ret (Sum.inr (Sum.inr (Sum.inl ((2, ()), viv10, ())))))
             (
              .br (viv9.lo == r0.lo && (viv9.hi == r0.hi && viv9.no == r0.no))
               (
                .ret (Sum.inr (Sum.inl ((Bool.true, ()), r0, r1, ()))))
               (
                .ret (Sum.inl ((Bool.true, Go.IntKind.i64.wrap (t16 - 1), ()), viv9, r1, viv5, viv1, viv9, r5, r6, vy2.fst, vy3.snd, ())))))
           (
            .br (Decidable.decide (r0.lo < viv5.lo))
             (
              .bind (r0.meet viv5) fun viv11 =>
              .br (viv11.no)
               (
                .bind (Go.Proofs.Ythgpgnijbajlgaa.Iv.none) fun viv12 =>
                .ret (Sum.inr (Sum.inr (Sum.inl ((2, ()), viv12, ())))))
               (
                .br (viv11.lo == r0.lo && (viv11.hi == r0.hi && viv11.no == r0.no))
                 (
                  .ret (Sum.inr (Sum.inl ((Decidable.decide (viv5.hi < r0.hi), ()), r0, r1, ()))))
                 (
                  .ret (Sum.inl ((Decidable.decide (viv5.hi < r0.hi), Go.IntKind.i64.wrap (t16 - 1), ()), viv11, r1, viv5, viv1, viv11, r5, r6, vy2.fst, vy3.snd, ())))))
             (
              .bind (r0.meet viv5) fun viv13 =>
              .br (viv13.no)
               (
                .bind (Go.Proofs.Ythgpgnijbajlgaa.Iv.none) fun viv14 =>
                .ret (Sum.inr (Sum.inr (Sum.inl ((2, ()), viv14, ())))))
               (
                .br (viv13.lo == r0.lo && (viv13.hi == r0.hi && viv13.no == r0.no))
                 (
                  .ret (Sum.inr (Sum.inl ((Bool.false, ()), r0, r1, ()))))
                 (
                  .ret (Sum.inl ((Bool.false, Go.IntKind.i64.wrap (t16 - 1), ()), viv13, r1, viv5, viv1, viv13, r5, r6, vy2.fst, vy3.snd, ()))))))))
       (
        .ret (Sum.inr (Sum.inl ((t15, ()), r0, r1, ())))) := by kernel_rfl
theorem ok_newton_Solve_square_5 : LOK Try.prog (LoopR.of (sc 95 [15, 16, 4, 6, 8, 9, 10, 11, 12, 13, 14, 0] (tCod 15 cBool (tCod 16 cInt (tOwn 4 0 (tOwn 6 1 (tOwn 8 2 (tOwn 9 3 (tOwn 10 4 (tOwn 11 5 (tOwn 12 6 (tOwn 13 7 (tOwn 14 8 (tClo 0 67 [] tNil)))))))))))) (rBox ccIv ccIv_ok (rBox ccIv ccIv_ok (rBox ccIv ccIv_ok (rBox ccIv ccIv_ok (rBox ccIv ccIv_ok (rBox ccIv ccIv_ok (rBox ccIv ccIv_ok (rBox ccIv ccIv_ok (rBox ccIv ccIv_ok rNil)))))))))) (ocOr (ocExit 0 (sc 95 [15, 4, 6] (tCod 15 cBool (tOwn 4 0 (tOwn 6 1 tNil))) (rBox ccIv ccIv_ok (rBox ccIv ccIv_ok rNil)))) (ocOr (ocRet (sc 95 [7, 6] (tCod 7 cInt (tOwn 6 0 tNil)) (rBox ccIv ccIv_ok rNil))) (ocGoto 0 (sc 95 [6] (tOwn 6 0 tNil) (rBox ccIv ccIv_ok rNil))))) (solveRun (fun _ => true) ((fun (_ : Unit) => squareF)))) (loopAt Try.f54 5) := by
  refine loop_ok (EnvOK.add s_iv_Point (EnvOK.add s_iv_Sub (EnvOK.add s_iv_Div (EnvOK.add s_iv_None (EnvOK.add s_iv_Right (EnvOK.add s_iv_Mid (EnvOK.add s_iv_Meet (EnvOK.add s_iv_Split (EnvOK.add s_newton_without_square (EnvOK.add s_meniscuslaw7_NewtonKnown_1 EnvOK.nil)))))))))) (LFn.at (fn := Try.f54) LFn.nil 5) (solveStep (fun _ => true) ((fun (_ : Unit) => squareF))) (n := 200) (fun x z h => ?_) (solveRun_ok _ _)
  obtain ⟨⟨t15, t16, ⟨⟩⟩, ⟨r0, r1, r2, r3, r4, r5, r6, r7, r8, ⟨⟩⟩⟩ := x
  rw [tl_newton_Solve_square_5]
  by_cases hk : 0 < t16
  case neg =>
    rw [← h]
    simp only [den_br, den_bind, den_ret, den_fail, den_inl, den_inr, decide_eq_true_eq, solveStep, gt_iff_lt, hk, if_false]
  have hq : True := trivial
  rw [← h]
  simp only [den_br, den_bind, den_ret, den_fail, den_inl, den_inr, decide_eq_true_eq]
  rw [show (Iv.point r0.mid).sub ((squareF (Iv.point r0.mid)).1.div (squareF r0).2) = nextN (squareF) r0 from rfl]
  simp only [solveStep, solveSure, ivEq, gt_iff_lt, hk, hq, Bool.and_self, if_true]
  generalize nextN (squareF) r0 = n
  simp only [ltB]
  cases h1 : n.no
  case true =>
    simp only [if_true]
    split
    · rfl
    · split <;> simp_all
  simp only [Bool.false_eq_true, if_false]
  cases t15 <;> simp only [Bool.false_eq_true, if_true, if_false, Bool.true_or, Bool.false_or]
  by_cases h2 : r0.lo < n.lo <;> simp only [h2, if_true, if_false, decide_true, decide_false, Bool.true_and, Bool.false_and]
theorem t_newton_Solve_square (t1 : Iv) (t2 : Int) :
    evFn Try.prog (Env.add 39 (F1 cInt cIv Iv.point) (Env.add 40 (F2 cIv cIv cIv Iv.sub) (Env.add 45 (F2 cIv cIv cIv Iv.div) (Env.add 66 (F0 cIv Iv.none) (Env.add 91 (F1 cIv cBool Iv.right) (Env.add 106 (F1 cIv cInt Iv.mid) (Env.add 107 (F2 cIv cIv cIv Iv.meet) (Env.add 108 (F1 cIv (cTwo cIv cIv) Iv.split) (Env.add 109 (FS (sc 2 [0, 1] (tClo 0 67 [] (tCod 1 cIv tNil)) rNil) cBool (fun _ => true) ((fun x => without ((fun (_ : Unit) => squareF) x.2) x.1.1))) (Env.add 67 (F1 cIv (cTwo cIv cIv) squareF) Env.nil)))))))))) (Laws.add 5 (LoopR.of (sc 95 [15, 16, 4, 6, 8, 9, 10, 11, 12, 13, 14, 0] (tCod 15 cBool (tCod 16 cInt (tOwn 4 0 (tOwn 6 1 (tOwn 8 2 (tOwn 9 3 (tOwn 10 4 (tOwn 11 5 (tOwn 12 6 (tOwn 13 7 (tOwn 14 8 (tClo 0 67 [] tNil)))))))))))) (rBox ccIv ccIv_ok (rBox ccIv ccIv_ok (rBox ccIv ccIv_ok (rBox ccIv ccIv_ok (rBox ccIv ccIv_ok (rBox ccIv ccIv_ok (rBox ccIv ccIv_ok (rBox ccIv ccIv_ok (rBox ccIv ccIv_ok rNil)))))))))) (ocOr (ocExit 0 (sc 95 [15, 4, 6] (tCod 15 cBool (tOwn 4 0 (tOwn 6 1 tNil))) (rBox ccIv ccIv_ok (rBox ccIv ccIv_ok rNil)))) (ocOr (ocRet (sc 95 [7, 6] (tCod 7 cInt (tOwn 6 0 tNil)) (rBox ccIv ccIv_ok rNil))) (ocGoto 0 (sc 95 [6] (tOwn 6 0 tNil) (rBox ccIv ccIv_ok rNil))))) (solveRun (fun _ => true) ((fun (_ : Unit) => squareF)))) Laws.nil) 200 Try.f54 (((sc 3 [0, 1, 2] (tClo 0 67 [] (tCod 1 cIv (tCod 2 cInt tNil))) rNil).enc ((t1, t2, ()), (()))).tmps.map Prod.snd) ((sc 3 [0, 1, 2] (tClo 0 67 [] (tCod 1 cIv (tCod 2 cInt tNil))) rNil).enc ((t1, t2, ()), (()))).mem (cTwo cIv cInt).dec =
      .bind (t1.right) fun vb0 =>
      .br (!vb0)
       (
        .bind (Go.Proofs.Ythgpgnijbajlgaa.Iv.none) fun viv1 =>
        .ret ((viv1, 0)))
       (
        .get (Go.Proofs.Ythgpgnijbajlgaa.solveRun (fun x => Bool.true) (fun x => Go.Proofs.Ythgpgnijbajlgaa.squareF) ((Bool.false, Max.max 0 (Min.min t2 40), ()), t1, Go.Proofs.Ythgpgnijbajlgaa.Iv.mk 0 0 Bool.false, Go.Proofs.Ythgpgnijbajlgaa.Iv.mk 0 0 Bool.false, Go.Proofs.Ythgpgnijbajlgaa.Iv.mk 0 0 Bool.false, Go.Proofs.Ythgpgnijbajlgaa.Iv.mk 0 0 Bool.false, Go.Proofs.Ythgpgnijbajlgaa.Iv.mk 0 0 Bool.false, Go.Proofs.Ythgpgnijbajlgaa.Iv.mk 0 0 Bool.false, Go.Proofs.Ythgpgnijbajlgaa.Iv.mk 0 0 Bool.false, Go.Proofs.Ythgpgnijbajlgaa.Iv.mk 0 0 Bool.false, ())) fun vy2 =>
        .sum (vy2)
         (fun vs3 =>
          .br (vs3.fst.fst)
           (
            .ret ((vs3.snd.fst, 1)))
           (
            .bind (Go.Proofs.Ythgpgnijbajlgaa.Iv.none) fun viv4 =>
            .ret ((viv4, 0))))
         (fun vs5 =>
          .sum (vs5)
           (fun vs6 =>
            .ret ((vs6.snd.fst, vs6.fst.fst)))
           (fun vs7 =>
            .bind (Go.Proofs.Ythgpgnijbajlgaa.Iv.none) fun viv8 =>
            .ret ((viv8, 0))))) := by kernel_rfl
theorem c_newton_Solve_square : PlainS Try.prog 54 (sc 3 [0, 1, 2] (tClo 0 67 [] (tCod 1 cIv (tCod 2 cInt tNil))) rNil) (cTwo cIv cInt) (fun _ => true) ((fun x => _root_.Go.Proofs.Ythgpgnijbajlgaa.solve ((fun (_ : Unit) => squareF) x.2) x.1.1 x.1.2.1)) := by
  intro x h N w vs hM hv
  obtain ⟨⟨t1, t2, ⟨⟩⟩, ⟨⟩⟩ := x
  refine calls_of_tree (n := 200) (EnvOK.add s_iv_Point (EnvOK.add s_iv_Sub (EnvOK.add s_iv_Div (EnvOK.add s_iv_None (EnvOK.add s_iv_Right (EnvOK.add s_iv_Mid (EnvOK.add s_iv_Meet (EnvOK.add s_iv_Split (EnvOK.add s_newton_without_square (EnvOK.add s_meniscuslaw7_NewtonKnown_1 EnvOK.nil)))))))))) Try.func54 hv (Nat.le_of_ble_eq_true (by kernel_rfl)) (LFn.add (fn := Try.f54) (i := 5) (by kernel_rfl) ok_newton_Solve_square_5 LFn.nil) hM (cTwo cIv cInt) ?_
  rw [t_newton_Solve_square]
  simp only [den_br, den_bind, den_ret, den_fail, den_inl, den_inr, den_gets, decide_eq_true_eq]
  cases h0 : t1.right
  · simp [_root_.Go.Proofs.Ythgpgnijbajlgaa.solve, h0]
  have hr : ∀ {C : Type} (q : C → Bool) (F : C → Iv → Iv × Iv) (res n m u a b v s : Iv) (c : C), q c = true → solveRun q F ((false, max 0 (min t2 40), ()), (t1, res, n, m, u, a, b, v, s, c)) = some (solveOut (F c) res (rounds t2) t1 false) := by
    intro C q F res n m u a b v s c hq
    simp only [solveRun]
    rw [if_pos ⟨hq, by omega, by omega⟩]
    rfl
  rw [hr _ _ _ _ _ _ _ _ _ _ _ (by first | rfl | exact h)]
  simp only [Bool.not_true, Bool.false_eq_true, if_false, Option.bind_some, _root_.Go.Proofs.Ythgpgnijbajlgaa.solve, h0, if_true]
  rw [← solveEnd_out _ ⟨0, 0, false⟩]
  generalize solveOut _ _ _ _ _ = y
  rcases y with ⟨⟨sure, _⟩, ⟨t, res, _⟩⟩ | ⟨⟨is, _⟩, ⟨r, _⟩⟩ | ⟨_, ⟨r, _⟩⟩
  · cases sure <;> rfl
  · rfl
  · rfl
theorem s_newton_Solve_square : Ev.Spec Try.prog 54 (FS (sc 3 [0, 1, 2] (tClo 0 67 [] (tCod 1 cIv (tCod 2 cInt tNil))) rNil) (cTwo cIv cInt) (fun _ => true) ((fun x => _root_.Go.Proofs.Ythgpgnijbajlgaa.solve ((fun (_ : Unit) => squareF) x.2) x.1.1 x.1.2.1))) := specS rfl (fun vs w => Try.call54 vs w) c_newton_Solve_square

/-! newton.without -/
theorem t_newton_without_above (t1 : Iv) :
    evFn Try.prog (Env.add 63 (F2 cIv cInt cBool Iv.has) (Env.add 91 (F1 cIv cBool Iv.right) (Env.add 69 (F1 cIv (cTwo cIv cIv) aboveF) Env.nil))) Laws.nil 200 Try.f109 (((sc 2 [0, 1] (tClo 0 69 [] (tCod 1 cIv tNil)) rNil).enc ((t1, ()), (()))).tmps.map Prod.snd) ((sc 2 [0, 1] (tClo 0 69 [] (tCod 1 cIv tNil)) rNil).enc ((t1, ()), (()))).mem cBool.dec =
      .bind (Go.Proofs.Ythgpgnijbajlgaa.aboveF t1) fun vy0 =>
      .bind (vy0.fst.right) fun vb1 =>
      .br (vb1)
       (
        .bind (vy0.fst.has 0) fun vb2 =>
        .ret (!vb2))
       (
        .ret (Bool.false)) := by kernel_rfl
theorem c_newton_without_above : PlainS Try.prog 109 (sc 2 [0, 1] (tClo 0 69 [] (tCod 1 cIv tNil)) rNil) cBool (fun _ => true) ((fun x => without ((fun (_ : Unit) => aboveF) x.2) x.1.1)) := by
  intro x h N w vs hM hv
  obtain ⟨⟨t1, ⟨⟩⟩, ⟨⟩⟩ := x
  refine calls_of_tree (n := 200) (EnvOK.add s_iv_Has (EnvOK.add s_iv_Right (EnvOK.add s_meniscuslaw7_NewtonKnown_2 EnvOK.nil))) Try.func109 hv (Nat.le_of_ble_eq_true (by kernel_rfl)) LFn.nil hM cBool ?_
  rw [t_newton_without_above]
  simp only [den_br, den_bind, den_ret, den_fail, den_inl, den_inr, decide_eq_true_eq]
  simp only [without]
  grind
theorem s_newton_without_above : Ev.Spec Try.prog 109 (FS (sc 2 [0, 1] (tClo 0 69 [] (tCod 1 cIv tNil)) rNil) cBool (fun _ => true) ((fun x => without ((fun (_ : Unit) => aboveF) x.2) x.1.1))) := specS rfl (fun vs w => Try.call109 vs w) c_newton_without_above
end Go.Proofs.Ythgpgnijbajlgaa
