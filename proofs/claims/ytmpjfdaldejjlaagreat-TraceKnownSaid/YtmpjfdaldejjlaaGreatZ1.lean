/-
  Contracts of calls, written by a small program of this session out of the evaluator's trees.
-/
import Derived.Test.YtmpjfdaldejjlaaGreatCore
import Derived.Test.YtmpjfdaldejjlaaGreatCoreLoops
import Derived.Test.YtmpjfdaldejjlaaGreatCore2
import Derived.Test.YtmpjfdaldejjlaaGreatCore3
import Derived.Test.YtmpjfdaldejjlaaGreatCore4
import Derived.Test.YtmpjfdaldejjlaaGreatCore5
import Derived.Test.YtmpjfdaldejjlaaGreatCore6
import Derived.Test.YtmpjfdaldejjlaaGreatCore7
import Derived.Test.YtmpjfdaldejjlaaGreatCore8
import Derived.Test.YtmpjfdaldejjlaaGreatCore9
import Derived.Test.YtmpjfdaldejjlaaGreatEvMore
import Derived.Test.YtmpjfdaldejjlaaGreatSym
import Derived.Test.YtmpjfdaldejjlaaGreatSysF
import Derived.Test.YtmpjfdaldejjlaaGreatLess2
import Derived.Test.YtmpjfdaldejjlaaGreatEach
import Derived.Test.YtmpjfdaldejjlaaGreatLaws1
import Derived.Test.YtmpjfdaldejjlaaGreatLaws2
import Derived.Test.YtmpjfdaldejjlaaGreatR1
import Derived.Test.YtmpjfdaldejjlaaGreatEvCod
import Derived.Test.YtmpjfdaldejjlaaGreatEvRet
import Derived.Test.YtmpjfdaldejjlaaGreatProg
import Derived.Test.YtmpjfdaldejjlaaGreatZ0
namespace Go.Proofs.YtmpjfdaldejjlaaGreat
open Go Go.RowKit Ev
set_option maxRecDepth 100000
set_option linter.unusedVariables false
set_option linter.unusedSimpArgs false

/-! meniscuslaw18.StepOnFace -/
theorem tl_meniscuslaw18_StepOnFace_4 (t22 : Int) (t21 : Int) (r0 : List Surf) (r1 : Ray) :
    ev Tryz.prog (Env.add 16 (FR (sc 5 [0, 1, 2, 3, 4] (tCod 0 cInt (tSl 1 0 (tSl 2 1 (tCod 3 cInt (tCod 4 cBool tNil))))) (rL_rface (rL_int rNil))) (sc 1 [0] (tAgg 0 0 ccNil ccNil_ok ccIv ccIv_ok tNil) (rG_surf 43 rNil)) ((fun x => mostOk x.1.2.1)) ((fun x => (fun r : SysV => (((), r.1, ()), (r.2, ()))) (systemOf x.1.1 x.2.1 x.2.2.1 x.1.2.1 x.1.2.2.1)))) (Env.add 17 (F1 cRawRay cRay rayOf) (Env.add 23 (F1 cIv cBool Iv.right) (Env.add 27 (F2 cSurf cRay (cTwo cRay cInt) stepOf) (Env.add 29 (F0 cBool true) (Env.add 30 (F2 cIv cIv cIv Iv.add) (Env.add 34 (F1 cIv cIv Iv.sqr) (Env.add 35 (F1 cV cBool V.right) Env.nil)))))))) Laws.nil 200 none (loopAt Tryz.f8 4) ((sc 78 [22, 21, 20, 8] (tCod 22 cInt (tCod 21 cInt (tSl 20 0 (tOwn 8 1 tNil)))) (rG_surf 43 (rBox ccRay ccRay_ok rNil))).enc ((t22, t21, ()), (r0, r1, ()))) (backK (sc 78 [22, 21, 20, 8] (tCod 22 cInt (tCod 21 cInt (tSl 20 0 (tOwn 8 1 tNil)))) (rG_surf 43 (rBox ccRay ccRay_ok rNil))) (ocOr (ocExit 0 (sc 78 [] tNil rNil)) (ocRet (sc 78 [6] (tCod 6 cBool tNil) rNil)))) =
      .br (Decidable.decide (t22 < t21))
       (
        .br (Decidable.decide (0 ≤ t22 ∧ t22 < (@Nat.cast Int _ r0.length)))
         (
          .get (r0[t22.toNat]?) fun vt0 =>
          .bind (Go.Proofs.YtmpjfdaldejjlaaGreat.stepOf vt0 r1) fun vy1 =>
          .br (vy1.snd != 1)
           (
            .ret (Sum.inl ((Go.IntKind.i64.wrap (t22 + 1), t21, ()), r0, r1, ())))
           (
            .bind (vy1.fst.o.x.sqr) fun viv2 =>
            .bind (vy1.fst.o.y.sqr) fun viv3 =>
            .bind (viv2.add viv3) fun viv4 =>
            .bind (vy1.fst.o.right) fun vb5 =>
            .br (!vb5)
             (
              .ret (Sum.inr (Sum.inr ((Bool.false, ()), ()))))
             (
              .bind (vy1.fst.d.right) fun vb6 =>
              .br (!vb6)
               (
                .ret (Sum.inr (Sum.inr ((Bool.false, ()), ()))))
               (
                .bind (viv4.right) fun vb7 =>
                .br (vb7)
                 (
                  .br (Decidable.decide (viv4.hi > vt0.open2.lo))
                   (
                    .ret (Sum.inr (Sum.inr ((Bool.false, ()), ()))))
                   (
                    .br (vt0.stop)
                     (
                      .br (!(vy1.fst.d.x.lo == r1.d.x.lo && (vy1.fst.d.x.hi == r1.d.x.hi && vy1.fst.d.x.no == r1.d.x.no) && (vy1.fst.d.y.lo == r1.d.y.lo && (vy1.fst.d.y.hi == r1.d.y.hi && vy1.fst.d.y.no == r1.d.y.no) && (vy1.fst.d.z.lo == r1.d.z.lo && (vy1.fst.d.z.hi == r1.d.z.hi && vy1.fst.d.z.no == r1.d.z.no)))))
                       (
                        .ret (Sum.inr (Sum.inr ((Bool.false, ()), ()))))
                       (
                        .ret (Sum.inl ((Go.IntKind.i64.wrap (t22 + 1), t21, ()), r0, r1, ()))))
                     (
                      .ret (Sum.inl ((Go.IntKind.i64.wrap (t22 + 1), t21, ()), r0, r1, ())))))
                 (
                  .br (vt0.stop)
                   (
                    .br (!(vy1.fst.d.x.lo == r1.d.x.lo && (vy1.fst.d.x.hi == r1.d.x.hi && vy1.fst.d.x.no == r1.d.x.no) && (vy1.fst.d.y.lo == r1.d.y.lo && (vy1.fst.d.y.hi == r1.d.y.hi && vy1.fst.d.y.no == r1.d.y.no) && (vy1.fst.d.z.lo == r1.d.z.lo && (vy1.fst.d.z.hi == r1.d.z.hi && vy1.fst.d.z.no == r1.d.z.no)))))
                     (
                      .ret (Sum.inr (Sum.inr ((Bool.false, ()), ()))))
                     (
                      .ret (Sum.inl ((Go.IntKind.i64.wrap (t22 + 1), t21, ()), r0, r1, ()))))
                   (
                    .ret (Sum.inl ((Go.IntKind.i64.wrap (t22 + 1), t21, ()), r0, r1, ()))))))))
         (
          .fail))
       (
        .ret (Sum.inr (Sum.inl ((), ())))) := by kernel_rfl
theorem ok_meniscuslaw18_StepOnFace_4 : LOK Tryz.prog (LoopR.of (sc 78 [22, 21, 20, 8] (tCod 22 cInt (tCod 21 cInt (tSl 20 0 (tOwn 8 1 tNil)))) (rG_surf 43 (rBox ccRay ccRay_ok rNil))) (ocOr (ocExit 0 (sc 78 [] tNil rNil)) (ocRet (sc 78 [6] (tCod 6 cBool tNil) rNil))) (runBy (eachStep Prod.fst sfBad (fun _ _ => ((), ())) ((false, ()), ())) (eachM Prod.fst))) (loopAt Tryz.f8 4) := by
  refine loop_ok (EnvOK.add s_meniscushand_System (EnvOK.add s_meniscushand_Ray (EnvOK.add s_iv_Right (EnvOK.add s_step_Go (EnvOK.add s_meniscuslaw18_known (EnvOK.add s_iv_Add (EnvOK.add s_iv_Sqr (EnvOK.add s_vec_Right EnvOK.nil)))))))) (LFn.at (fn := Tryz.f8) LFn.nil 4) ((eachStep Prod.fst sfBad (fun _ _ => ((), ())) ((false, ()), ()))) (n := 200) (fun x z h => ?_) (runBy_ok _ _)
  obtain ⟨⟨t22, t21, ⟨⟩⟩, ⟨r0, r1, ⟨⟩⟩⟩ := x
  rw [tl_meniscuslaw18_StepOnFace_4]
  rw [← h]
  simp only [eachStep, Prod.fst, den_br, den_bind, den_get, den_ret, den_fail, decide_eq_true_eq]
  by_cases h0 : t22 < t21 <;> simp only [h0, if_true, if_false]
  by_cases h1 : 0 ≤ t22 ∧ t22 < (r0.length : Int) <;> simp only [h1, and_self, if_true, if_false]
  cases hg : r0[t22.toNat]? with
  | none => rfl
  | some f =>
    simp only [den_br, den_bind, den_get, den_ret, den_fail, h1, and_self, if_true, decide_true, sfBad, vE, ivE]
    grind
theorem t_meniscuslaw18_StepOnFace (t0 : Int) (t2 : RawRay) (r0 : List RawFace) :
    evFn Tryz.prog (Env.add 16 (FR (sc 5 [0, 1, 2, 3, 4] (tCod 0 cInt (tSl 1 0 (tSl 2 1 (tCod 3 cInt (tCod 4 cBool tNil))))) (rL_rface (rL_int rNil))) (sc 1 [0] (tAgg 0 0 ccNil ccNil_ok ccIv ccIv_ok tNil) (rG_surf 43 rNil)) ((fun x => mostOk x.1.2.1)) ((fun x => (fun r : SysV => (((), r.1, ()), (r.2, ()))) (systemOf x.1.1 x.2.1 x.2.2.1 x.1.2.1 x.1.2.2.1)))) (Env.add 17 (F1 cRawRay cRay rayOf) (Env.add 23 (F1 cIv cBool Iv.right) (Env.add 27 (F2 cSurf cRay (cTwo cRay cInt) stepOf) (Env.add 29 (F0 cBool true) (Env.add 30 (F2 cIv cIv cIv Iv.add) (Env.add 34 (F1 cIv cIv Iv.sqr) (Env.add 35 (F1 cV cBool V.right) Env.nil)))))))) (Laws.add 4 (LoopR.of (sc 78 [22, 21, 20, 8] (tCod 22 cInt (tCod 21 cInt (tSl 20 0 (tOwn 8 1 tNil)))) (rG_surf 43 (rBox ccRay ccRay_ok rNil))) (ocOr (ocExit 0 (sc 78 [] tNil rNil)) (ocRet (sc 78 [6] (tCod 6 cBool tNil) rNil))) (runBy (eachStep Prod.fst sfBad (fun _ _ => ((), ())) ((false, ()), ())) (eachM Prod.fst))) Laws.nil) 200 Tryz.f8 (((sc 3 [0, 1, 2] (tCod 0 cInt (tSl 1 0 (tCod 2 cRawRay tNil))) (rL_rface rNil)).enc ((t0, t2, ()), (r0, ()))).tmps.map Prod.snd) ((sc 3 [0, 1, 2] (tCod 0 cInt (tSl 1 0 (tCod 2 cRawRay tNil))) (rL_rface rNil)).enc ((t0, t2, ()), (r0, ()))).mem cBool.dec =
      .br (Go.Proofs.YtmpjfdaldejjlaaGreat.mostOk 5)
       (
        .bind ((((), (Go.Proofs.YtmpjfdaldejjlaaGreat.systemOf t0 r0 [] 5 Bool.false).fst, ()), (Go.Proofs.YtmpjfdaldejjlaaGreat.systemOf t0 r0 [] 5 Bool.false).snd, ())) fun vy0 =>
        .bind (Go.Proofs.YtmpjfdaldejjlaaGreat.rayOf t2) fun vra1 =>
        .get (Go.Proofs.YtmpjfdaldejjlaaGreat.runBy (Go.Proofs.YtmpjfdaldejjlaaGreat.eachStep Prod.fst Go.Proofs.YtmpjfdaldejjlaaGreat.sfBad (fun x x_1 => ((), ())) ((Bool.false, ()), ())) (Go.Proofs.YtmpjfdaldejjlaaGreat.eachM Prod.fst) ((0, (@Nat.cast Int _ vy0.snd.fst.length), ()), vy0.snd.fst, vra1, ())) fun vy2 =>
        .sum (vy2)
         (fun vs3 =>
          .bind (Bool.true) fun vb4 =>
          .ret (vb4))
         (fun vs5 =>
          .ret (vs5.fst.fst)))
       (
        .fail) := by kernel_rfl
theorem c_meniscuslaw18_StepOnFace : PlainS Tryz.prog 8 (sc 3 [0, 1, 2] (tCod 0 cInt (tSl 1 0 (tCod 2 cRawRay tNil))) (rL_rface rNil)) cBool (fun _ => true) ((fun _ => true)) := by
  intro x h N w vs hM hv
  obtain ⟨⟨t0, t2, ⟨⟩⟩, ⟨r0, ⟨⟩⟩⟩ := x
  refine calls_of_tree (n := 200) (EnvOK.add s_meniscushand_System (EnvOK.add s_meniscushand_Ray (EnvOK.add s_iv_Right (EnvOK.add s_step_Go (EnvOK.add s_meniscuslaw18_known (EnvOK.add s_iv_Add (EnvOK.add s_iv_Sqr (EnvOK.add s_vec_Right EnvOK.nil)))))))) Tryz.func8 hv (Nat.le_of_ble_eq_true (by kernel_rfl)) (LFn.add (fn := Tryz.f8) (i := 4) (by kernel_rfl) ok_meniscuslaw18_StepOnFace_4 LFn.nil) hM cBool ?_
  rw [t_meniscuslaw18_StepOnFace]
  have hR := systemOf_R t0 r0 [] false (most := 5) rfl
  have hlen : (systemOf t0 r0 [] 5 false).2.length ≤ 1048576 := by have := hR.len; omega
  have hlo : Ev.lenOk (systemOf t0 r0 [] 5 false).2 = true := lenOk_iff.2 hlen
  simp only [show mostOk 5 = true from rfl, if_true, den_br, den_bind, den_get, den_ret, den_fail]
  have hr := each_run (L := Prod.fst) (bad := sfBad) (out := fun _ _ => ((), ())) (no := ((false, ()), ())) (a := ()) (s := ((systemOf t0 r0 [] 5 false).2, rayOf t2, ())) hlen (fun f hf => sf_good (rayOf_right t2))
  simp only [hr, den_get, den_inl, den_bind, den_ret]
theorem s_meniscuslaw18_StepOnFace : Ev.Spec Tryz.prog 8 (FS (sc 3 [0, 1, 2] (tCod 0 cInt (tSl 1 0 (tCod 2 cRawRay tNil))) (rL_rface rNil)) cBool (fun _ => true) ((fun _ => true))) := specS rfl (fun vs w => Tryz.call8 vs w) c_meniscuslaw18_StepOnFace

/-! meniscuslaw19.axis -/
theorem t_meniscuslaw19_axis (x0 : Iv) :
    evFn Tryz.prog (Env.add 31 (F1 cInt cIv Iv.point) (Env.add 33 (F3 cIv cIv cIv cV V.mk) (Env.add 42 (F1 cInt cIv Iv.whole) Env.nil))) Laws.nil 200 Tryz.f41 [cIv.av x0] [] cRay.dec =
      .bind (Go.Proofs.YtmpjfdaldejjlaaGreat.Iv.point 0) fun viv0 =>
      .bind (Go.Proofs.YtmpjfdaldejjlaaGreat.Iv.point 0) fun viv1 =>
      .bind (Go.Proofs.YtmpjfdaldejjlaaGreat.V.mk x0 viv0 viv1) fun vv2 =>
      .bind (Go.Proofs.YtmpjfdaldejjlaaGreat.Iv.point 0) fun viv3 =>
      .bind (Go.Proofs.YtmpjfdaldejjlaaGreat.Iv.point 0) fun viv4 =>
      .bind (Go.Proofs.YtmpjfdaldejjlaaGreat.Iv.whole 1) fun viv5 =>
      .bind (Go.Proofs.YtmpjfdaldejjlaaGreat.V.mk viv3 viv4 viv5) fun vv6 =>
      .ret (Go.Proofs.YtmpjfdaldejjlaaGreat.Ray.mk vv2 vv6) := by kernel_rfl
theorem c_meniscuslaw19_axis (x0 : Iv) : Plain Tryz.prog 41 [cIv.enc x0] (cRay.enc (axisAt x0)) :=
  plain_of_tree (n := 200) (EnvOK.add s_iv_Point (EnvOK.add s_vec_Of (EnvOK.add s_iv_Whole EnvOK.nil))) Tryz.func41 (args := [cIv.av x0]) (by simp only [AV.vals, Cod.av_val]) (Nat.le_of_ble_eq_true (by kernel_rfl)) LFn.nil cRay (by
    rw [t_meniscuslaw19_axis]
    rfl)
theorem s_meniscuslaw19_axis : Ev.Spec Tryz.prog 41 (F1 cIv cRay axisAt) := spec1 (fun vs w => Tryz.call41 vs w) c_meniscuslaw19_axis

/-! meniscushand.Straight -/
theorem tl_meniscushand_Straight_4 (t5 : Int) (t4 : Int) (r0 : List Int) (r1 : Iv) (r2 : Iv) (r3 : List Surf) (r4 : List Surf) :
    ev Tryz.prog (Env.add 32 (F2p cInt cInt cInt pickOk pick) (Env.add 101 (F1 cInt cIv Iv.point) (Env.add 139 (F1 cInt cIv Iv.whole) Env.nil))) Laws.nil 200 none (loopAt Tryz.f92 4) ((sc 48 [5, 4, 0, 3, 2] (tCod 5 cInt (tCod 4 cInt (tSl 0 0 (tOwn 3 1 (tOwn 2 2 tNil))))) (rL_int (rBoxSl 3 ccIv ccIv_ok (rBoxSl 4 ccIv ccIv_ok (rG_surf 43 (rL_surf rNil)))))).enc ((t5, t4, ()), (r0, r1, r2, r3, r4, ()))) (backK (sc 48 [5, 4, 0, 3, 2] (tCod 5 cInt (tCod 4 cInt (tSl 0 0 (tOwn 3 1 (tOwn 2 2 tNil))))) (rL_int (rBoxSl 3 ccIv ccIv_ok (rBoxSl 4 ccIv ccIv_ok (rG_surf 43 (rL_surf rNil)))))) (ocExit 0 (sc 48 [3, 2] (tOwn 3 0 (tOwn 2 1 tNil)) (rBoxSl 2 ccIv ccIv_ok (rBoxSl 3 ccIv ccIv_ok (rG_surf 43 (rL_surf rNil))))))) =
      .br (Decidable.decide (t5 < (@Nat.cast Int _ r0.length)))
       (
        .br (Decidable.decide (t5 < 4))
         (
          .br (Decidable.decide (0 ≤ t5 ∧ t5 < (@Nat.cast Int _ r0.length)))
           (
            .get (r0[t5.toNat]?) fun vt0 =>
            .br (Go.Proofs.YtmpjfdaldejjlaaGreat.pickOk vt0 2)
             (
              .bind (Go.Proofs.YtmpjfdaldejjlaaGreat.pick vt0 2) fun vn1 =>
              .bind (Go.Proofs.YtmpjfdaldejjlaaGreat.Iv.point 0) fun viv2 =>
              .bind (Go.Proofs.YtmpjfdaldejjlaaGreat.Iv.point 65536) fun viv3 =>
              .bind (Go.Proofs.YtmpjfdaldejjlaaGreat.Iv.point 0) fun viv4 =>
              .bind (Go.Proofs.YtmpjfdaldejjlaaGreat.Iv.point 0) fun viv5 =>
              .bind (Go.Proofs.YtmpjfdaldejjlaaGreat.Iv.point t4) fun viv6 =>
              .bind (Go.Proofs.YtmpjfdaldejjlaaGreat.Iv.whole 100) fun viv7 =>
              .bind (Go.Proofs.YtmpjfdaldejjlaaGreat.Iv.point 65536) fun viv8 =>
              .br (Go.Proofs.YtmpjfdaldejjlaaGreat.Ev.lenOk (r3 ++ [Go.Proofs.YtmpjfdaldejjlaaGreat.Surf.mk (vn1 == 0) Bool.false viv2 viv3 viv4 viv5 viv6 viv7 viv8]))
               (
                .br (Decidable.decide (0 ≤ t5 ∧ t5 < (@Nat.cast Int _ r0.length)))
                 (
                  .get (r0[t5.toNat]?) fun vt9 =>
                  .br (Go.Proofs.YtmpjfdaldejjlaaGreat.pickOk (Go.IntKind.i64.wrap (Int.tdiv vt9 2)) 327680)
                   (
                    .bind (Go.Proofs.YtmpjfdaldejjlaaGreat.pick (Go.IntKind.i64.wrap (Int.tdiv vt9 2)) 327680) fun vn10 =>
                    .ret (Sum.inl ((Go.IntKind.i64.wrap (t5 + 1), Go.IntKind.i64.wrap (Go.IntKind.i64.wrap (t4 + 1) + vn10), ()), r0, r1, r2, r3 ++ [Go.Proofs.YtmpjfdaldejjlaaGreat.Surf.mk (vn1 == 0) Bool.false viv2 viv3 viv4 viv5 viv6 viv7 viv8], r4, ())))
                   (
                    .fail))
                 (
                  .fail))
               (
                .fail))
             (
              .fail))
           (
            .fail))
         (
          .ret (Sum.inr ((), r1, r2, r3, r4, ()))))
       (
        .ret (Sum.inr ((), r1, r2, r3, r4, ()))) := by kernel_rfl
theorem ok_meniscushand_Straight_4 : LOK Tryz.prog (LoopR.of (sc 48 [5, 4, 0, 3, 2] (tCod 5 cInt (tCod 4 cInt (tSl 0 0 (tOwn 3 1 (tOwn 2 2 tNil))))) (rL_int (rBoxSl 3 ccIv ccIv_ok (rBoxSl 4 ccIv ccIv_ok (rG_surf 43 (rL_surf rNil)))))) (ocExit 0 (sc 48 [3, 2] (tOwn 3 0 (tOwn 2 1 tNil)) (rBoxSl 2 ccIv ccIv_ok (rBoxSl 3 ccIv ccIv_ok (rG_surf 43 (rL_surf rNil)))))) (runBy straightStep straightM)) (loopAt Tryz.f92 4) := by
  refine loop_ok (EnvOK.add s_meniscushand_Pick (EnvOK.add s_meniscusref1_Point (EnvOK.add s_meniscusref1_Whole EnvOK.nil))) (LFn.at (fn := Tryz.f92) LFn.nil 4) straightStep (n := 200) (fun x z h => ?_) (runBy_ok _ _)
  obtain ⟨⟨t5, t4, ⟨⟩⟩, ⟨r0, r1, r2, r3, r4, ⟨⟩⟩⟩ := x
  rw [tl_meniscushand_Straight_4]
  by_cases h0 : t5 < (r0.length : Int) ∧ t5 < 4
  case neg =>
    rw [← h]
    simp only [straightStep, h0, if_false]
    simp only [den_br, den_bind, den_ret, den_fail, den_inl, den_inr, decide_eq_true_eq, gt_iff_lt, ge_iff_le, beq_iff_eq]
    by_cases c : t5 < (r0.length : Int) <;> by_cases d : t5 < 4 <;> simp only [c, d, if_true, if_false]
    exact absurd ⟨c, d⟩ h0
  by_cases h1 : 0 ≤ t5
  case neg => simp [straightStep, h0, h1] at h
  obtain ⟨v, hg⟩ : ∃ v, r0[t5.toNat]? = some v := ⟨_, List.getElem?_eq_getElem (by omega)⟩
  rw [← h]
  have pk2 : ∀ n : Int, pickOk n 2 = true := fun _ => by simp [pickOk]
  have pk327680 : ∀ n : Int, pickOk n 327680 = true := fun _ => by simp [pickOk]
  simp only [straightStep, airPlane, airNext, h0, h1, hg, and_self, if_true]
  simp only [den_br, den_bind, den_ret, den_fail, den_inl, den_inr, decide_eq_true_eq, gt_iff_lt, ge_iff_le, beq_iff_eq]
  simp only [h0.1, h0.2, h1, hg, and_self, true_and, decide_true, if_true, den_get, den_br, den_bind, den_ret, den_fail, dv_eq, pk2, pk327680]
  rfl
theorem t_meniscushand_Straight (r0 : List Int) :
    evFnR Tryz.prog (Env.add 32 (F2p cInt cInt cInt pickOk pick) (Env.add 101 (F1 cInt cIv Iv.point) (Env.add 139 (F1 cInt cIv Iv.whole) Env.nil))) (Laws.add 4 (LoopR.of (sc 48 [5, 4, 0, 3, 2] (tCod 5 cInt (tCod 4 cInt (tSl 0 0 (tOwn 3 1 (tOwn 2 2 tNil))))) (rL_int (rBoxSl 3 ccIv ccIv_ok (rBoxSl 4 ccIv ccIv_ok (rG_surf 43 (rL_surf rNil)))))) (ocExit 0 (sc 48 [3, 2] (tOwn 3 0 (tOwn 2 1 tNil)) (rBoxSl 2 ccIv ccIv_ok (rBoxSl 3 ccIv ccIv_ok (rG_surf 43 (rL_surf rNil)))))) (runBy straightStep straightM)) Laws.nil) 200 Tryz.f92 (((sc 1 [0] (tSl 0 0 tNil) (rL_int rNil)).enc ((()), (r0, ()))).tmps.map Prod.snd) ((sc 1 [0] (tSl 0 0 tNil) (rL_int rNil)).enc ((()), (r0, ()))).mem (sc 1 [0] (tAgg 0 0 ccNil ccNil_ok ccIv ccIv_ok tNil) (rG_surf 43 rNil)).ts (sc 1 [0] (tAgg 0 0 ccNil ccNil_ok ccIv ccIv_ok tNil) (rG_surf 43 rNil)).dec =
      .bind (Go.Proofs.YtmpjfdaldejjlaaGreat.Iv.whole 8) fun viv0 =>
      .get (Go.Proofs.YtmpjfdaldejjlaaGreat.runBy Go.Proofs.YtmpjfdaldejjlaaGreat.straightStep Go.Proofs.YtmpjfdaldejjlaaGreat.straightM ((0, 655360, ()), r0, viv0, Go.Proofs.YtmpjfdaldejjlaaGreat.Iv.mk 0 0 Bool.false, [], [], ())) fun vy1 =>
      .ret ((((), vy1.snd.fst, ()), vy1.snd.snd.snd.fst, ())) := by kernel_rfl
theorem c_meniscushand_Straight : PlainR Tryz.prog 92 (sc 1 [0] (tSl 0 0 tNil) (rL_int rNil)) (sc 1 [0] (tAgg 0 0 ccNil ccNil_ok ccIv ccIv_ok tNil) (rG_surf 43 rNil)) (fun _ => true) ((fun x => (fun r : SysV => (((), r.1, ()), (r.2, ()))) (straightOf x.2.1))) := by
  intro x h N w vs hM hv
  obtain ⟨⟨⟩, ⟨r0, ⟨⟩⟩⟩ := x
  refine calls_of_treeR (n := 200) (EnvOK.add s_meniscushand_Pick (EnvOK.add s_meniscusref1_Point (EnvOK.add s_meniscusref1_Whole EnvOK.nil))) Tryz.func92 hv (Nat.le_of_ble_eq_true (by kernel_rfl)) (LFn.add (fn := Tryz.f92) (i := 4) (by kernel_rfl) ok_meniscushand_Straight_4 LFn.nil) hM (sc 1 [0] (tAgg 0 0 ccNil ccNil_ok ccIv ccIv_ok tNil) (rG_surf 43 rNil)) rfl ?_
  rw [t_meniscushand_Straight]
  obtain ⟨y, hy, y1, y2⟩ := straight_total r0 (Iv.whole 8) ⟨0, 0, false⟩
  simp only [straightOf, hy]
  rw [show (⟨0, 0, false⟩ : Iv) = ⟨0, 0, false⟩ from rfl]
  simp only [den_bind, den_br, den_get, den_ret, hy]
theorem s_meniscushand_Straight : Ev.Spec Tryz.prog 92 (FR (sc 1 [0] (tSl 0 0 tNil) (rL_int rNil)) (sc 1 [0] (tAgg 0 0 ccNil ccNil_ok ccIv ccIv_ok tNil) (rG_surf 43 rNil)) (fun _ => true) ((fun x => (fun r : SysV => (((), r.1, ()), (r.2, ()))) (straightOf x.2.1)))) := specR rfl (fun _ => rfl) (fun vs w => Tryz.call92 vs w) c_meniscushand_Straight

/-! meniscuslaw19.known -/
theorem t_meniscuslaw19_known  :
    evFn Tryz.prog (Env.add 37 (FS (sc 2 [0, 1] (tAgg 0 0 ccNil ccNil_ok ccIv ccIv_ok (tCod 1 cRay tNil)) (rL_surf rNil)) cRes ((fun x => lenOk x.2.1)) ((fun x => traceOf x.2.1 x.1.2.2.1))) (Env.add 41 (F1 cIv cRay axisAt) (Env.add 42 (F1 cInt cIv Iv.whole) (Env.add 92 (FR (sc 1 [0] (tSl 0 0 tNil) (rL_int rNil)) (sc 1 [0] (tAgg 0 0 ccNil ccNil_ok ccIv ccIv_ok tNil) (rG_surf 43 rNil)) (fun _ => true) ((fun x => (fun r : SysV => (((), r.1, ()), (r.2, ()))) (straightOf x.2.1)))) Env.nil)))) Laws.nil 200 Tryz.f38 [] [] cBool.dec =
      .bind (Go.Proofs.YtmpjfdaldejjlaaGreat.Iv.whole 1) fun viv0 =>
      .bind (Go.Proofs.YtmpjfdaldejjlaaGreat.axisAt viv0) fun vra1 =>
      .br (Go.Proofs.YtmpjfdaldejjlaaGreat.Ev.lenOk ([] : List Iv))
       (
        .bind (Go.Proofs.YtmpjfdaldejjlaaGreat.traceOf [] vra1) fun vre2 =>
        .br (Bool.true)
         (
          .bind ((((), (Go.Proofs.YtmpjfdaldejjlaaGreat.straightOf [0]).fst, ()), (Go.Proofs.YtmpjfdaldejjlaaGreat.straightOf [0]).snd, ())) fun vy3 =>
          .bind (Go.Proofs.YtmpjfdaldejjlaaGreat.Iv.whole 1) fun viv4 =>
          .bind (Go.Proofs.YtmpjfdaldejjlaaGreat.axisAt viv4) fun vra5 =>
          .br (Go.Proofs.YtmpjfdaldejjlaaGreat.Ev.lenOk vy3.snd.fst)
           (
            .bind (Go.Proofs.YtmpjfdaldejjlaaGreat.traceOf vy3.snd.fst vra5) fun vre6 =>
            .br (vre2.fst == 1)
             (
              .br (vre2.snd.fst == 0)
               (
                .bind (Go.Proofs.YtmpjfdaldejjlaaGreat.Iv.whole 1) fun viv7 =>
                .bind (Go.Proofs.YtmpjfdaldejjlaaGreat.axisAt viv7) fun vra8 =>
                .br (vre2.snd.snd.o.x.lo == vra8.o.x.lo && (vre2.snd.snd.o.x.hi == vra8.o.x.hi && vre2.snd.snd.o.x.no == vra8.o.x.no) && (vre2.snd.snd.o.y.lo == vra8.o.y.lo && (vre2.snd.snd.o.y.hi == vra8.o.y.hi && vre2.snd.snd.o.y.no == vra8.o.y.no) && (vre2.snd.snd.o.z.lo == vra8.o.z.lo && (vre2.snd.snd.o.z.hi == vra8.o.z.hi && vre2.snd.snd.o.z.no == vra8.o.z.no))) && (vre2.snd.snd.d.x.lo == vra8.d.x.lo && (vre2.snd.snd.d.x.hi == vra8.d.x.hi && vre2.snd.snd.d.x.no == vra8.d.x.no) && (vre2.snd.snd.d.y.lo == vra8.d.y.lo && (vre2.snd.snd.d.y.hi == vra8.d.y.hi && vre2.snd.snd.d.y.no == vra8.d.y.no) && (vre2.snd.snd.d.z.lo == vra8.d.z.lo && (vre2.snd.snd.d.z.hi == vra8.d.z.hi && vre2.snd.snd.d.z.no == vra8.d.z.no)))))
                 (
                  .br (vre6.fst == 1)
                   (
                    .br (vre6.snd.fst == 1)
                     (
                      .bind (Go.Proofs.YtmpjfdaldejjlaaGreat.Iv.whole 10) fun viv9 =>
                      .ret (vre6.snd.snd.o.z.lo == viv9.lo && (vre6.snd.snd.o.z.hi == viv9.hi && vre6.snd.snd.o.z.no == viv9.no)))
                     (
                      .ret (Bool.false)))
                   (
                    .ret (Bool.false)))
                 (
                  .ret (Bool.false)))
               (
                .ret (Bool.false)))
             (
              .ret (Bool.false)))
           (
            .fail))
         (
          .fail))
       (
        .fail) := by kernel_rfl
theorem c_meniscuslaw19_known  : Plain Tryz.prog 38 [] (cBool.enc (true)) :=
  plain_of_tree (n := 200) (EnvOK.add s_trace_Trace (EnvOK.add s_meniscuslaw19_axis (EnvOK.add s_iv_Whole (EnvOK.add s_meniscushand_Straight EnvOK.nil)))) Tryz.func38 (args := []) rfl (Nat.le_of_ble_eq_true (by kernel_rfl)) LFn.nil cBool (by
    rw [t_meniscuslaw19_known]
    decide +kernel)
theorem s_meniscuslaw19_known : Ev.Spec Tryz.prog 38 (F0 cBool true) := spec0 (fun vs w => Tryz.call38 vs w) c_meniscuslaw19_known

/-! meniscuslaw19.TraceTurns -/
theorem t_meniscuslaw19_TraceTurns (t0 : Int) (t2 : RawRay) (t3 : Int) (r0 : List RawFace) :
    evFn Tryz.prog (Env.add 16 (FR (sc 5 [0, 1, 2, 3, 4] (tCod 0 cInt (tSl 1 0 (tSl 2 1 (tCod 3 cInt (tCod 4 cBool tNil))))) (rL_rface (rL_int rNil))) (sc 1 [0] (tAgg 0 0 ccNil ccNil_ok ccIv ccIv_ok tNil) (rG_surf 43 rNil)) ((fun x => mostOk x.1.2.1)) ((fun x => (fun r : SysV => (((), r.1, ()), (r.2, ()))) (systemOf x.1.1 x.2.1 x.2.2.1 x.1.2.1 x.1.2.2.1)))) (Env.add 17 (F1 cRawRay cRay rayOf) (Env.add 37 (FS (sc 2 [0, 1] (tAgg 0 0 ccNil ccNil_ok ccIv ccIv_ok (tCod 1 cRay tNil)) (rL_surf rNil)) cRes ((fun x => lenOk x.2.1)) ((fun x => traceOf x.2.1 x.1.2.2.1))) (Env.add 38 (F0 cBool true) (Env.add 39 (F2 cV cInt cV V.turn) (Env.add 40 (F1 cV cV V.mirror) (Env.add 40 (F1 cV cV V.mirror) Env.nil))))))) Laws.nil 200 Tryz.f13 (((sc 4 [0, 1, 2, 3] (tCod 0 cInt (tSl 1 0 (tCod 2 cRawRay (tCod 3 cInt tNil)))) (rL_rface rNil)).enc ((t0, t2, t3, ()), (r0, ()))).tmps.map Prod.snd) ((sc 4 [0, 1, 2, 3] (tCod 0 cInt (tSl 1 0 (tCod 2 cRawRay (tCod 3 cInt tNil)))) (rL_rface rNil)).enc ((t0, t2, t3, ()), (r0, ()))).mem cBool.dec =
      .br (Go.Proofs.YtmpjfdaldejjlaaGreat.mostOk 5)
       (
        .bind ((((), (Go.Proofs.YtmpjfdaldejjlaaGreat.systemOf t0 r0 [] 5 Bool.false).fst, ()), (Go.Proofs.YtmpjfdaldejjlaaGreat.systemOf t0 r0 [] 5 Bool.false).snd, ())) fun vy0 =>
        .bind (Go.Proofs.YtmpjfdaldejjlaaGreat.rayOf t2) fun vra1 =>
        .br (Go.Proofs.YtmpjfdaldejjlaaGreat.Ev.lenOk vy0.snd.fst)
         (
          .bind (Go.Proofs.YtmpjfdaldejjlaaGreat.traceOf vy0.snd.fst vra1) fun vre2 =>
          .bind (vra1.o.turn t3) fun vv3 =>
          .bind (vra1.d.turn t3) fun vv4 =>
          .br (Go.Proofs.YtmpjfdaldejjlaaGreat.Ev.lenOk vy0.snd.fst)
           (
            .bind (Go.Proofs.YtmpjfdaldejjlaaGreat.traceOf vy0.snd.fst (Go.Proofs.YtmpjfdaldejjlaaGreat.Ray.mk vv3 vv4)) fun vre5 =>
            .bind (vra1.o.mirror) fun vv6 =>
            .bind (vra1.d.mirror) fun vv7 =>
            .br (Go.Proofs.YtmpjfdaldejjlaaGreat.Ev.lenOk vy0.snd.fst)
             (
              .bind (Go.Proofs.YtmpjfdaldejjlaaGreat.traceOf vy0.snd.fst (Go.Proofs.YtmpjfdaldejjlaaGreat.Ray.mk vv6 vv7)) fun vre8 =>
              .bind (Bool.true) fun vb9 =>
              .br (vb9)
               (
                .br (vre5.fst == vre2.fst)
                 (
                  .br (vre5.snd.fst == vre2.snd.fst)
                   (
                    .br (vre8.fst == vre2.fst)
                     (
                      .br (vre8.snd.fst == vre2.snd.fst)
                       (
                        .br (vre2.fst != 1)
                         (
                          .ret (Bool.true))
                         (
                          .bind (vre2.snd.snd.o.turn t3) fun vv10 =>
                          .br (vre5.snd.snd.o.x.lo == vv10.x.lo && (vre5.snd.snd.o.x.hi == vv10.x.hi && vre5.snd.snd.o.x.no == vv10.x.no) && (vre5.snd.snd.o.y.lo == vv10.y.lo && (vre5.snd.snd.o.y.hi == vv10.y.hi && vre5.snd.snd.o.y.no == vv10.y.no) && (vre5.snd.snd.o.z.lo == vv10.z.lo && (vre5.snd.snd.o.z.hi == vv10.z.hi && vre5.snd.snd.o.z.no == vv10.z.no))))
                           (
                            .bind (vre2.snd.snd.d.turn t3) fun vv11 =>
                            .br (vre5.snd.snd.d.x.lo == vv11.x.lo && (vre5.snd.snd.d.x.hi == vv11.x.hi && vre5.snd.snd.d.x.no == vv11.x.no) && (vre5.snd.snd.d.y.lo == vv11.y.lo && (vre5.snd.snd.d.y.hi == vv11.y.hi && vre5.snd.snd.d.y.no == vv11.y.no) && (vre5.snd.snd.d.z.lo == vv11.z.lo && (vre5.snd.snd.d.z.hi == vv11.z.hi && vre5.snd.snd.d.z.no == vv11.z.no))))
                             (
                              .bind (vre2.snd.snd.o.mirror) fun vv12 =>
                              .br (vre8.snd.snd.o.x.lo == vv12.x.lo && (vre8.snd.snd.o.x.hi == vv12.x.hi && vre8.snd.snd.o.x.no == vv12.x.no) && (vre8.snd.snd.o.y.lo == vv12.y.lo && (vre8.snd.snd.o.y.hi == vv12.y.hi && vre8.snd.snd.o.y.no == vv12.y.no) && (vre8.snd.snd.o.z.lo == vv12.z.lo && (vre8.snd.snd.o.z.hi == vv12.z.hi && vre8.snd.snd.o.z.no == vv12.z.no))))
                               (
                                .bind (vre2.snd.snd.d.mirror) fun vv13 =>
                                .ret (vre8.snd.snd.d.x.lo == vv13.x.lo && (vre8.snd.snd.d.x.hi == vv13.x.hi && vre8.snd.snd.d.x.no == vv13.x.no) && (vre8.snd.snd.d.y.lo == vv13.y.lo && (vre8.snd.snd.d.y.hi == vv13.y.hi && vre8.snd.snd.d.y.no == vv13.y.no) && (vre8.snd.snd.d.z.lo == vv13.z.lo && (vre8.snd.snd.d.z.hi == vv13.z.hi && vre8.snd.snd.d.z.no == vv13.z.no)))))
                               (
                                .ret (Bool.false)))
                             (
                              .ret (Bool.false)))
                           (
                            .ret (Bool.false))))
                       (
                        .ret (Bool.false)))
                     (
                      .ret (Bool.false)))
                   (
                    .ret (Bool.false)))
                 (
                  .ret (Bool.false)))
               (
                .ret (Bool.false)))
             (
              .fail))
           (
            .fail))
         (
          .fail))
       (
        .fail) := by kernel_rfl
theorem c_meniscuslaw19_TraceTurns : PlainS Tryz.prog 13 (sc 4 [0, 1, 2, 3] (tCod 0 cInt (tSl 1 0 (tCod 2 cRawRay (tCod 3 cInt tNil)))) (rL_rface rNil)) cBool (fun _ => true) ((fun _ => true)) := by
  intro x h N w vs hM hv
  obtain ⟨⟨t0, t2, t3, ⟨⟩⟩, ⟨r0, ⟨⟩⟩⟩ := x
  refine calls_of_tree (n := 200) (EnvOK.add s_meniscushand_System (EnvOK.add s_meniscushand_Ray (EnvOK.add s_trace_Trace (EnvOK.add s_meniscuslaw19_known (EnvOK.add s_vec_Turn (EnvOK.add s_vec_Mirror (EnvOK.add s_vec_Mirror EnvOK.nil))))))) Tryz.func13 hv (Nat.le_of_ble_eq_true (by kernel_rfl)) LFn.nil hM cBool ?_
  rw [t_meniscuslaw19_TraceTurns]
  have hR := systemOf_R t0 r0 [] false (most := 5) rfl
  have hlen : (systemOf t0 r0 [] 5 false).2.length ≤ 1048576 := by have := hR.len; omega
  have hlo : Ev.lenOk (systemOf t0 r0 [] 5 false).2 = true := lenOk_iff.2 hlen
  simp only [show mostOk 5 = true from rfl, if_true, den_br, den_bind, den_get, den_ret, den_fail]
  simp only [hlo, if_true]
  have h1 := traceOf_sym (sym_turn t3) (systemOf t0 r0 [] 5 false).2 (rayOf t2)
  have h2 := traceOf_sym sym_mirror (systemOf t0 r0 [] 5 false).2 (rayOf t2)
  have e1 : (rayOf t2).map (fun a => V.turn a t3) = ⟨(rayOf t2).o.turn t3, (rayOf t2).d.turn t3⟩ := rfl
  have e2 : (rayOf t2).map V.mirror = ⟨(rayOf t2).o.mirror, (rayOf t2).d.mirror⟩ := rfl
  rw [e1] at h1
  rw [e2] at h2
  simp only [h1, h2, Ray.map]
  by_cases c : (traceOf (systemOf t0 r0 [] 5 false).2 (rayOf t2)).1 = 1 <;> simp [c]
theorem s_meniscuslaw19_TraceTurns : Ev.Spec Tryz.prog 13 (FS (sc 4 [0, 1, 2, 3] (tCod 0 cInt (tSl 1 0 (tCod 2 cRawRay (tCod 3 cInt tNil)))) (rL_rface rNil)) cBool (fun _ => true) ((fun _ => true))) := specS rfl (fun vs w => Tryz.call13 vs w) c_meniscuslaw19_TraceTurns

/-! meniscuslaw19.TraceTells -/
theorem tl_meniscuslaw19_TraceTells_4 (t15 : Int) (r0 : List RawRay) (r1 : Iv) (r2 : Iv) (r3 : List Surf) :
    ev Tryz.prog (Env.add 16 (FR (sc 5 [0, 1, 2, 3, 4] (tCod 0 cInt (tSl 1 0 (tSl 2 1 (tCod 3 cInt (tCod 4 cBool tNil))))) (rL_rface (rL_int rNil))) (sc 1 [0] (tAgg 0 0 ccNil ccNil_ok ccIv ccIv_ok tNil) (rG_surf 43 rNil)) ((fun x => mostOk x.1.2.1)) ((fun x => (fun r : SysV => (((), r.1, ()), (r.2, ()))) (systemOf x.1.1 x.2.1 x.2.2.1 x.1.2.1 x.1.2.2.1)))) (Env.add 17 (F1 cRawRay cRay rayOf) (Env.add 37 (FS (sc 2 [0, 1] (tAgg 0 0 ccNil ccNil_ok ccIv ccIv_ok (tCod 1 cRay tNil)) (rL_surf rNil)) cRes ((fun x => lenOk x.2.1)) ((fun x => traceOf x.2.1 x.1.2.2.1))) (Env.add 38 (F0 cBool true) (Env.add 43 (FS (sc 3 [0, 1, 2] (tAgg 0 0 ccNil ccNil_ok ccIv ccIv_ok (tCod 1 cRay (tCod 2 cIv tNil))) (rL_surf rNil)) (cThree cIv cIv cInt) ((fun x => lenOk x.2.1)) ((fun x => throughOf x.2.1 x.1.2.2.1 x.1.2.2.2.1))) (Env.add 46 (F2 cInt cInt cIv rawIv) (Env.add 47 (FS (sc 2 [0, 1] (tAgg 0 0 ccNil ccNil_ok ccIv ccIv_ok (tCod 1 cRay tNil)) (rL_surf rNil)) cRes ((fun x => lenOk x.2.1)) ((fun x => traceOf x.2.1 x.1.2.2.1))) (Env.add 48 (FS (sc 3 [0, 1, 2] (tAgg 0 0 ccNil ccNil_ok ccIv ccIv_ok (tCod 1 cRay (tCod 2 cIv tNil))) (rL_surf rNil)) (cThree cIv cIv cInt) ((fun x => lenOk x.2.1)) ((fun x => throughOf x.2.1 x.1.2.2.1 x.1.2.2.2.1))) Env.nil)))))))) Laws.nil 200 none (loopAt Tryz.f15 4) ((sc 104 [15, 3, 13, 14] (tCod 15 cInt (tSl 3 0 (tOwn 13 1 (tOwn 14 2 tNil)))) (rL_rray (rBoxSl 3 ccIv ccIv_ok (rBox ccIv ccIv_ok (rG_surf 43 rNil))))).enc ((t15, ()), (r0, r1, r2, r3, ()))) (backK (sc 104 [15, 3, 13, 14] (tCod 15 cInt (tSl 3 0 (tOwn 13 1 (tOwn 14 2 tNil)))) (rL_rray (rBoxSl 3 ccIv ccIv_ok (rBox ccIv ccIv_ok (rG_surf 43 rNil))))) (ocOr (ocExit 0 (sc 104 [] tNil rNil)) (ocRet (sc 104 [12] (tCod 12 cBool tNil) rNil)))) =
      .br (Decidable.decide (t15 < (@Nat.cast Int _ r0.length)))
       (
        .br (Decidable.decide (t15 < 4))
         (
          .br (Decidable.decide (0 ≤ t15 ∧ t15 < (@Nat.cast Int _ r0.length)))
           (
            .get (r0[t15.toNat]?) fun vt0 =>
            .bind (Go.Proofs.YtmpjfdaldejjlaaGreat.rayOf vt0) fun vra1 =>
            .br (Go.Proofs.YtmpjfdaldejjlaaGreat.Ev.lenOk r3)
             (
              .bind (Go.Proofs.YtmpjfdaldejjlaaGreat.traceOf r3 vra1) fun vre2 =>
              .br (Go.Proofs.YtmpjfdaldejjlaaGreat.Ev.lenOk r3)
               (
                .bind (Go.Proofs.YtmpjfdaldejjlaaGreat.traceOf r3 vra1) fun vre3 =>
                .br (Go.Proofs.YtmpjfdaldejjlaaGreat.Ev.lenOk r3)
                 (
                  .bind (Go.Proofs.YtmpjfdaldejjlaaGreat.throughOf r3 vra1 r2) fun vy4 =>
                  .br (Go.Proofs.YtmpjfdaldejjlaaGreat.Ev.lenOk r3)
                   (
                    .bind (Go.Proofs.YtmpjfdaldejjlaaGreat.throughOf r3 vra1 r2) fun vy5 =>
                    .br (vre2.fst != vre3.fst)
                     (
                      .ret (Sum.inr (Sum.inr ((Bool.false, ()), ()))))
                     (
                      .br (vre2.snd.fst != vre3.snd.fst)
                       (
                        .ret (Sum.inr (Sum.inr ((Bool.false, ()), ()))))
                       (
                        .br (!(vre2.snd.snd.o.x.lo == vre3.snd.snd.o.x.lo && (vre2.snd.snd.o.x.hi == vre3.snd.snd.o.x.hi && vre2.snd.snd.o.x.no == vre3.snd.snd.o.x.no) && (vre2.snd.snd.o.y.lo == vre3.snd.snd.o.y.lo && (vre2.snd.snd.o.y.hi == vre3.snd.snd.o.y.hi && vre2.snd.snd.o.y.no == vre3.snd.snd.o.y.no) && (vre2.snd.snd.o.z.lo == vre3.snd.snd.o.z.lo && (vre2.snd.snd.o.z.hi == vre3.snd.snd.o.z.hi && vre2.snd.snd.o.z.no == vre3.snd.snd.o.z.no))) && (vre2.snd.snd.d.x.lo == vre3.snd.snd.d.x.lo && (vre2.snd.snd.d.x.hi == vre3.snd.snd.d.x.hi && vre2.snd.snd.d.x.no == vre3.snd.snd.d.x.no) && (vre2.snd.snd.d.y.lo == vre3.snd.snd.d.y.lo && (vre2.snd.snd.d.y.hi == vre3.snd.snd.d.y.hi && vre2.snd.snd.d.y.no == vre3.snd.snd.d.y.no) && (vre2.snd.snd.d.z.lo == vre3.snd.snd.d.z.lo && (vre2.snd.snd.d.z.hi == vre3.snd.snd.d.z.hi && vre2.snd.snd.d.z.no == vre3.snd.snd.d.z.no))))))
                         (
                          .ret (Sum.inr (Sum.inr ((Bool.false, ()), ()))))
                         (
                          .br (!(vy4.fst.lo == vy5.fst.lo && (vy4.fst.hi == vy5.fst.hi && vy4.fst.no == vy5.fst.no)))
                           (
                            .ret (Sum.inr (Sum.inr ((Bool.false, ()), ()))))
                           (
                            .br (!(vy4.snd.fst.lo == vy5.snd.fst.lo && (vy4.snd.fst.hi == vy5.snd.fst.hi && vy4.snd.fst.no == vy5.snd.fst.no)))
                             (
                              .ret (Sum.inr (Sum.inr ((Bool.false, ()), ()))))
                             (
                              .br (vy4.snd.snd != vy5.snd.snd)
                               (
                                .ret (Sum.inr (Sum.inr ((Bool.false, ()), ()))))
                               (
                                .ret (Sum.inl ((Go.IntKind.i64.wrap (t15 + 1), ()), r0, r1, r2, r3, ())))))))))
                   (
                    .fail))
                 (
                  .fail))
               (
                .fail))
             (
              .fail))
           (
            .fail))
         (
          .ret (Sum.inr (Sum.inl ((), ())))))
       (
        .ret (Sum.inr (Sum.inl ((), ())))) := by kernel_rfl
theorem ok_meniscuslaw19_TraceTells_4 : LOK Tryz.prog (LoopR.of (sc 104 [15, 3, 13, 14] (tCod 15 cInt (tSl 3 0 (tOwn 13 1 (tOwn 14 2 tNil)))) (rL_rray (rBoxSl 3 ccIv ccIv_ok (rBox ccIv ccIv_ok (rG_surf 43 rNil))))) (ocOr (ocExit 0 (sc 104 [] tNil rNil)) (ocRet (sc 104 [12] (tCod 12 cBool tNil) rNil))) (runBy (raysStep tellsOk) raysM)) (loopAt Tryz.f15 4) := by
  refine loop_ok (EnvOK.add s_meniscushand_System (EnvOK.add s_meniscushand_Ray (EnvOK.add s_trace_Trace (EnvOK.add s_meniscuslaw19_known (EnvOK.add s_trace_Through (EnvOK.add s_meniscushand_Iv (EnvOK.add s_meniscusref14_Trace (EnvOK.add s_meniscusref14_Reach EnvOK.nil)))))))) (LFn.at (fn := Tryz.f15) LFn.nil 4) ((raysStep tellsOk)) (n := 200) (fun x z h => ?_) (runBy_ok _ _)
  obtain ⟨⟨t15, ⟨⟩⟩, ⟨r0, r1, r2, r3, ⟨⟩⟩⟩ := x
  rw [tl_meniscuslaw19_TraceTells_4]
  by_cases h0 : t15 < (r0.length : Int) ∧ t15 < 4
  case neg =>
    rw [← h]
    simp only [raysStep, h0, if_false]
    simp only [den_br, den_bind, den_ret, den_fail, den_inl, den_inr, decide_eq_true_eq, gt_iff_lt, ge_iff_le, beq_iff_eq]
    by_cases c : t15 < (r0.length : Int) <;> by_cases d : t15 < 4 <;> simp only [c, d, if_true, if_false]
    exact absurd ⟨c, d⟩ h0
  by_cases h1 : 0 ≤ t15
  case neg => simp [raysStep, h0, h1] at h
  obtain ⟨v, hg⟩ : ∃ v, r0[t15.toNat]? = some v := ⟨_, List.getElem?_eq_getElem (by omega)⟩
  by_cases hl : Ev.lenOk r3 = true
  case neg => simp [raysStep, h0, h1, hg, tellsOk, hl] at h
  rw [← h]
  simp only [raysStep, tellsOk, h0, h1, hg, hl, and_self, if_true]
  simp only [den_br, den_bind, den_ret, den_fail, den_inl, den_inr, decide_eq_true_eq, gt_iff_lt, ge_iff_le, beq_iff_eq]
  simp only [h0.1, h0.2, h1, hg, hl, and_self, true_and, decide_true, if_true, den_get, den_br, den_bind, den_ret, den_fail]
  simp
theorem t_meniscuslaw19_TraceTells (t0 : Int) (t4 : Int) (t5 : Int) (r0 : List RawFace) (r1 : List Int) (r2 : List RawRay) :
    evFn Tryz.prog (Env.add 16 (FR (sc 5 [0, 1, 2, 3, 4] (tCod 0 cInt (tSl 1 0 (tSl 2 1 (tCod 3 cInt (tCod 4 cBool tNil))))) (rL_rface (rL_int rNil))) (sc 1 [0] (tAgg 0 0 ccNil ccNil_ok ccIv ccIv_ok tNil) (rG_surf 43 rNil)) ((fun x => mostOk x.1.2.1)) ((fun x => (fun r : SysV => (((), r.1, ()), (r.2, ()))) (systemOf x.1.1 x.2.1 x.2.2.1 x.1.2.1 x.1.2.2.1)))) (Env.add 17 (F1 cRawRay cRay rayOf) (Env.add 37 (FS (sc 2 [0, 1] (tAgg 0 0 ccNil ccNil_ok ccIv ccIv_ok (tCod 1 cRay tNil)) (rL_surf rNil)) cRes ((fun x => lenOk x.2.1)) ((fun x => traceOf x.2.1 x.1.2.2.1))) (Env.add 38 (F0 cBool true) (Env.add 43 (FS (sc 3 [0, 1, 2] (tAgg 0 0 ccNil ccNil_ok ccIv ccIv_ok (tCod 1 cRay (tCod 2 cIv tNil))) (rL_surf rNil)) (cThree cIv cIv cInt) ((fun x => lenOk x.2.1)) ((fun x => throughOf x.2.1 x.1.2.2.1 x.1.2.2.2.1))) (Env.add 46 (F2 cInt cInt cIv rawIv) (Env.add 47 (FS (sc 2 [0, 1] (tAgg 0 0 ccNil ccNil_ok ccIv ccIv_ok (tCod 1 cRay tNil)) (rL_surf rNil)) cRes ((fun x => lenOk x.2.1)) ((fun x => traceOf x.2.1 x.1.2.2.1))) (Env.add 48 (FS (sc 3 [0, 1, 2] (tAgg 0 0 ccNil ccNil_ok ccIv ccIv_ok (tCod 1 cRay (tCod 2 cIv tNil))) (rL_surf rNil)) (cThree cIv cIv cInt) ((fun x => lenOk x.2.1)) ((fun x => throughOf x.2.1 x.1.2.2.1 x.1.2.2.2.1))) Env.nil)))))))) (Laws.add 4 (LoopR.of (sc 104 [15, 3, 13, 14] (tCod 15 cInt (tSl 3 0 (tOwn 13 1 (tOwn 14 2 tNil)))) (rL_rray (rBoxSl 3 ccIv ccIv_ok (rBox ccIv ccIv_ok (rG_surf 43 rNil))))) (ocOr (ocExit 0 (sc 104 [] tNil rNil)) (ocRet (sc 104 [12] (tCod 12 cBool tNil) rNil))) (runBy (raysStep tellsOk) raysM)) Laws.nil) 200 Tryz.f15 (((sc 6 [0, 1, 2, 3, 4, 5] (tCod 0 cInt (tSl 1 0 (tSl 2 1 (tSl 3 2 (tCod 4 cInt (tCod 5 cInt tNil)))))) (rL_rface (rL_int (rL_rray rNil)))).enc ((t0, t4, t5, ()), (r0, r1, r2, ()))).tmps.map Prod.snd) ((sc 6 [0, 1, 2, 3, 4, 5] (tCod 0 cInt (tSl 1 0 (tSl 2 1 (tSl 3 2 (tCod 4 cInt (tCod 5 cInt tNil)))))) (rL_rface (rL_int (rL_rray rNil)))).enc ((t0, t4, t5, ()), (r0, r1, r2, ()))).mem cBool.dec =
      .br (Go.Proofs.YtmpjfdaldejjlaaGreat.mostOk 5)
       (
        .bind ((((), (Go.Proofs.YtmpjfdaldejjlaaGreat.systemOf t0 r0 r1 5 Bool.false).fst, ()), (Go.Proofs.YtmpjfdaldejjlaaGreat.systemOf t0 r0 r1 5 Bool.false).snd, ())) fun vy0 =>
        .bind (Go.Proofs.YtmpjfdaldejjlaaGreat.rawIv t4 t5) fun viv1 =>
        .get (Go.Proofs.YtmpjfdaldejjlaaGreat.runBy (Go.Proofs.YtmpjfdaldejjlaaGreat.raysStep Go.Proofs.YtmpjfdaldejjlaaGreat.tellsOk) Go.Proofs.YtmpjfdaldejjlaaGreat.raysM ((0, ()), r2, vy0.fst.snd.fst, viv1, vy0.snd.fst, ())) fun vy2 =>
        .sum (vy2)
         (fun vs3 =>
          .bind (Bool.true) fun vb4 =>
          .ret (vb4))
         (fun vs5 =>
          .ret (vs5.fst.fst)))
       (
        .fail) := by kernel_rfl
theorem c_meniscuslaw19_TraceTells : PlainS Tryz.prog 15 (sc 6 [0, 1, 2, 3, 4, 5] (tCod 0 cInt (tSl 1 0 (tSl 2 1 (tSl 3 2 (tCod 4 cInt (tCod 5 cInt tNil)))))) (rL_rface (rL_int (rL_rray rNil)))) cBool (fun _ => true) ((fun _ => true)) := by
  intro x h N w vs hM hv
  obtain ⟨⟨t0, t4, t5, ⟨⟩⟩, ⟨r0, r1, r2, ⟨⟩⟩⟩ := x
  refine calls_of_tree (n := 200) (EnvOK.add s_meniscushand_System (EnvOK.add s_meniscushand_Ray (EnvOK.add s_trace_Trace (EnvOK.add s_meniscuslaw19_known (EnvOK.add s_trace_Through (EnvOK.add s_meniscushand_Iv (EnvOK.add s_meniscusref14_Trace (EnvOK.add s_meniscusref14_Reach EnvOK.nil)))))))) Tryz.func15 hv (Nat.le_of_ble_eq_true (by kernel_rfl)) (LFn.add (fn := Tryz.f15) (i := 4) (by kernel_rfl) ok_meniscuslaw19_TraceTells_4 LFn.nil) hM cBool ?_
  rw [t_meniscuslaw19_TraceTells]
  have hR := systemOf_R t0 r0 r1 false (most := 5) rfl
  have hlo : Ev.lenOk (systemOf t0 r0 r1 5 false).2 = true := lenOk_iff.2 (by have := hR.len; omega)
  simp only [show mostOk 5 = true from rfl, if_true, den_br, den_bind, den_get, den_ret, den_fail]
  have hr := rays_run (ok := tellsOk) (a := ()) (b := ((systemOf t0 r0 r1 5 false).1, rawIv t4 t5, (systemOf t0 r0 r1 5 false).2, ())) r2 hlo
  simp only [hr, den_get, den_inl, den_bind, den_ret]
theorem s_meniscuslaw19_TraceTells : Ev.Spec Tryz.prog 15 (FS (sc 6 [0, 1, 2, 3, 4, 5] (tCod 0 cInt (tSl 1 0 (tSl 2 1 (tSl 3 2 (tCod 4 cInt (tCod 5 cInt tNil)))))) (rL_rface (rL_int (rL_rray rNil)))) cBool (fun _ => true) ((fun _ => true))) := specS rfl (fun vs w => Tryz.call15 vs w) c_meniscuslaw19_TraceTells

/-! meniscuslaw19.TraceKnown -/
theorem t_meniscuslaw19_TraceKnown  :
    evFn Tryz.prog (Env.add 16 (FR (sc 5 [0, 1, 2, 3, 4] (tCod 0 cInt (tSl 1 0 (tSl 2 1 (tCod 3 cInt (tCod 4 cBool tNil))))) (rL_rface (rL_int rNil))) (sc 1 [0] (tAgg 0 0 ccNil ccNil_ok ccIv ccIv_ok tNil) (rG_surf 43 rNil)) ((fun x => mostOk x.1.2.1)) ((fun x => (fun r : SysV => (((), r.1, ()), (r.2, ()))) (systemOf x.1.1 x.2.1 x.2.2.1 x.1.2.1 x.1.2.2.1)))) (Env.add 31 (F1 cInt cIv Iv.point) (Env.add 36 (F0 cRay Ray.none) (Env.add 37 (FS (sc 2 [0, 1] (tAgg 0 0 ccNil ccNil_ok ccIv ccIv_ok (tCod 1 cRay tNil)) (rL_surf rNil)) cRes ((fun x => lenOk x.2.1)) ((fun x => traceOf x.2.1 x.1.2.2.1))) (Env.add 38 (F0 cBool true) (Env.add 41 (F1 cIv cRay axisAt) (Env.add 42 (F1 cInt cIv Iv.whole) (Env.add 43 (FS (sc 3 [0, 1, 2] (tAgg 0 0 ccNil ccNil_ok ccIv ccIv_ok (tCod 1 cRay (tCod 2 cIv tNil))) (rL_surf rNil)) (cThree cIv cIv cInt) ((fun x => lenOk x.2.1)) ((fun x => throughOf x.2.1 x.1.2.2.1 x.1.2.2.2.1))) (Env.add 44 (F0 cIv Iv.none) (Env.add 45 (F2 cIv cInt cBool Iv.has) Env.nil)))))))))) Laws.nil 200 Tryz.f14 (((sc 0 [] tNil rNil).enc ((()), (()))).tmps.map Prod.snd) ((sc 0 [] tNil rNil).enc ((()), (()))).mem cBool.dec =
      .br (Go.Proofs.YtmpjfdaldejjlaaGreat.mostOk 4)
       (
        .bind ((((), (Go.Proofs.YtmpjfdaldejjlaaGreat.systemOf 0 [Go.Proofs.YtmpjfdaldejjlaaGreat.RawFace.mk 0 351 40 30 0 0, Go.Proofs.YtmpjfdaldejjlaaGreat.RawFace.mk 0 364 40 10 2 0] [] 4 Bool.true).fst, ()), (Go.Proofs.YtmpjfdaldejjlaaGreat.systemOf 0 [Go.Proofs.YtmpjfdaldejjlaaGreat.RawFace.mk 0 351 40 30 0 0, Go.Proofs.YtmpjfdaldejjlaaGreat.RawFace.mk 0 364 40 10 2 0] [] 4 Bool.true).snd, ())) fun vy0 =>
        .bind (Go.Proofs.YtmpjfdaldejjlaaGreat.Iv.point 0) fun viv1 =>
        .bind (Go.Proofs.YtmpjfdaldejjlaaGreat.axisAt viv1) fun vra2 =>
        .br (Go.Proofs.YtmpjfdaldejjlaaGreat.Ev.lenOk vy0.snd.fst)
         (
          .bind (Go.Proofs.YtmpjfdaldejjlaaGreat.traceOf vy0.snd.fst vra2) fun vre3 =>
          .bind (Go.Proofs.YtmpjfdaldejjlaaGreat.Iv.whole 40) fun viv4 =>
          .bind (Go.Proofs.YtmpjfdaldejjlaaGreat.axisAt viv4) fun vra5 =>
          .br (Go.Proofs.YtmpjfdaldejjlaaGreat.Ev.lenOk vy0.snd.fst)
           (
            .bind (Go.Proofs.YtmpjfdaldejjlaaGreat.traceOf vy0.snd.fst vra5) fun vre6 =>
            .bind (Go.Proofs.YtmpjfdaldejjlaaGreat.Iv.point 0) fun viv7 =>
            .bind (Go.Proofs.YtmpjfdaldejjlaaGreat.axisAt viv7) fun vra8 =>
            .bind (Go.Proofs.YtmpjfdaldejjlaaGreat.Iv.whole 90) fun viv9 =>
            .br (Go.Proofs.YtmpjfdaldejjlaaGreat.Ev.lenOk vy0.snd.fst)
             (
              .bind (Go.Proofs.YtmpjfdaldejjlaaGreat.throughOf vy0.snd.fst vra8 viv9) fun vy10 =>
              .bind (Go.Proofs.YtmpjfdaldejjlaaGreat.Iv.whole 40) fun viv11 =>
              .bind (Go.Proofs.YtmpjfdaldejjlaaGreat.axisAt viv11) fun vra12 =>
              .bind (Go.Proofs.YtmpjfdaldejjlaaGreat.Iv.whole 90) fun viv13 =>
              .br (Go.Proofs.YtmpjfdaldejjlaaGreat.Ev.lenOk vy0.snd.fst)
               (
                .bind (Go.Proofs.YtmpjfdaldejjlaaGreat.throughOf vy0.snd.fst vra12 viv13) fun vy14 =>
                .bind (Go.Proofs.YtmpjfdaldejjlaaGreat.Iv.point 0) fun viv15 =>
                .bind (Go.Proofs.YtmpjfdaldejjlaaGreat.axisAt viv15) fun vra16 =>
                .bind (Go.Proofs.YtmpjfdaldejjlaaGreat.Iv.none) fun viv17 =>
                .br (Go.Proofs.YtmpjfdaldejjlaaGreat.Ev.lenOk ([] : List Iv))
                 (
                  .bind (Go.Proofs.YtmpjfdaldejjlaaGreat.throughOf [] vra16 viv17) fun vy18 =>
                  .bind (Bool.true) fun vb19 =>
                  .br (vb19)
                   (
                    .br ((@Nat.cast Int _ vy0.snd.fst.length) == 2)
                     (
                      .br (vre3.fst == 1)
                       (
                        .br (vre3.snd.fst == 2)
                         (
                          .bind (Go.Proofs.YtmpjfdaldejjlaaGreat.Iv.point 0) fun viv20 =>
                          .br (vre3.snd.snd.d.x.lo == viv20.lo && (vre3.snd.snd.d.x.hi == viv20.hi && vre3.snd.snd.d.x.no == viv20.no))
                           (
                            .bind (Go.Proofs.YtmpjfdaldejjlaaGreat.Iv.point 0) fun viv21 =>
                            .br (vre3.snd.snd.d.y.lo == viv21.lo && (vre3.snd.snd.d.y.hi == viv21.hi && vre3.snd.snd.d.y.no == viv21.no))
                             (
                              .bind (vre3.snd.snd.d.z.has 65536) fun vb22 =>
                              .br (vb22)
                               (
                                .br (vre6.fst == 2)
                                 (
                                  .br (vre6.snd.fst == 0)
                                   (
                                    .bind (Go.Proofs.YtmpjfdaldejjlaaGreat.Ray.none) fun vra23 =>
                                    .br (vre6.snd.snd.o.x.lo == vra23.o.x.lo && (vre6.snd.snd.o.x.hi == vra23.o.x.hi && vre6.snd.snd.o.x.no == vra23.o.x.no) && (vre6.snd.snd.o.y.lo == vra23.o.y.lo && (vre6.snd.snd.o.y.hi == vra23.o.y.hi && vre6.snd.snd.o.y.no == vra23.o.y.no) && (vre6.snd.snd.o.z.lo == vra23.o.z.lo && (vre6.snd.snd.o.z.hi == vra23.o.z.hi && vre6.snd.snd.o.z.no == vra23.o.z.no))) && (vre6.snd.snd.d.x.lo == vra23.d.x.lo && (vre6.snd.snd.d.x.hi == vra23.d.x.hi && vre6.snd.snd.d.x.no == vra23.d.x.no) && (vre6.snd.snd.d.y.lo == vra23.d.y.lo && (vre6.snd.snd.d.y.hi == vra23.d.y.hi && vre6.snd.snd.d.y.no == vra23.d.y.no) && (vre6.snd.snd.d.z.lo == vra23.d.z.lo && (vre6.snd.snd.d.z.hi == vra23.d.z.hi && vre6.snd.snd.d.z.no == vra23.d.z.no)))))
                                     (
                                      .br (vy10.snd.snd == 1)
                                       (
                                        .bind (Go.Proofs.YtmpjfdaldejjlaaGreat.Iv.point 0) fun viv24 =>
                                        .br (vy10.fst.lo == viv24.lo && (vy10.fst.hi == viv24.hi && vy10.fst.no == viv24.no))
                                         (
                                          .bind (Go.Proofs.YtmpjfdaldejjlaaGreat.Iv.point 0) fun viv25 =>
                                          .br (vy10.snd.fst.lo == viv25.lo && (vy10.snd.fst.hi == viv25.hi && vy10.snd.fst.no == viv25.no))
                                           (
                                            .br (vy14.snd.snd == 2)
                                             (
                                              .bind (Go.Proofs.YtmpjfdaldejjlaaGreat.Iv.none) fun viv26 =>
                                              .br (vy14.fst.lo == viv26.lo && (vy14.fst.hi == viv26.hi && vy14.fst.no == viv26.no))
                                               (
                                                .bind (Go.Proofs.YtmpjfdaldejjlaaGreat.Iv.none) fun viv27 =>
                                                .br (vy14.snd.fst.lo == viv27.lo && (vy14.snd.fst.hi == viv27.hi && vy14.snd.fst.no == viv27.no))
                                                 (
                                                  .ret (vy18.snd.snd == 3))
                                                 (
                                                  .ret (Bool.false)))
                                               (
                                                .ret (Bool.false)))
                                             (
                                              .ret (Bool.false)))
                                           (
                                            .ret (Bool.false)))
                                         (
                                          .ret (Bool.false)))
                                       (
                                        .ret (Bool.false)))
                                     (
                                      .ret (Bool.false)))
                                   (
                                    .ret (Bool.false)))
                                 (
                                  .ret (Bool.false)))
                               (
                                .ret (Bool.false)))
                             (
                              .ret (Bool.false)))
                           (
                            .ret (Bool.false)))
                         (
                          .ret (Bool.false)))
                       (
                        .ret (Bool.false)))
                     (
                      .ret (Bool.false)))
                   (
                    .ret (Bool.false)))
                 (
                  .fail))
               (
                .fail))
             (
              .fail))
           (
            .fail))
         (
          .fail))
       (
        .fail) := by kernel_rfl
theorem c_meniscuslaw19_TraceKnown : PlainS Tryz.prog 14 (sc 0 [] tNil rNil) cBool (fun _ => true) ((fun _ => true)) := by
  intro x h N w vs hM hv
  obtain ⟨⟨⟩, ⟨⟩⟩ := x
  refine calls_of_tree (n := 200) (EnvOK.add s_meniscushand_System (EnvOK.add s_iv_Point (EnvOK.add s_meniscushand_NoRay (EnvOK.add s_trace_Trace (EnvOK.add s_meniscuslaw19_known (EnvOK.add s_meniscuslaw19_axis (EnvOK.add s_iv_Whole (EnvOK.add s_trace_Through (EnvOK.add s_iv_None (EnvOK.add s_iv_Has EnvOK.nil)))))))))) Tryz.func14 hv (Nat.le_of_ble_eq_true (by kernel_rfl)) LFn.nil hM cBool ?_
  rw [t_meniscuslaw19_TraceKnown]
  decide +kernel
theorem s_meniscuslaw19_TraceKnown : Ev.Spec Tryz.prog 14 (FS (sc 0 [] tNil rNil) cBool (fun _ => true) ((fun _ => true))) := specS rfl (fun vs w => Tryz.call14 vs w) c_meniscuslaw19_TraceKnown
end Go.Proofs.YtmpjfdaldejjlaaGreat
