/-
  Contracts of calls, written by a small program of this session out of the evaluator's trees.
-/
import Derived.Test.YthgpgnijbajlgaaCore
import Derived.Test.YthgpgnijbajlgaaCoreLoops
import Derived.Test.YthgpgnijbajlgaaCore2
import Derived.Test.YthgpgnijbajlgaaCore3
import Derived.Test.YthgpgnijbajlgaaCore4
import Derived.Test.YthgpgnijbajlgaaCore5
import Derived.Test.YthgpgnijbajlgaaCore6
import Derived.Test.YthgpgnijbajlgaaCore7
import Derived.Test.YthgpgnijbajlgaaO0
import Derived.Test.YthgpgnijbajlgaaEvCod
import Derived.Test.YthgpgnijbajlgaaEvRet
import Derived.Test.YthgpgnijbajlgaaProg
import Derived.Test.YthgpgnijbajlgaaQ1
namespace Go.Proofs.Ythgpgnijbajlgaa
open Go Go.RowKit Ev
set_option maxRecDepth 100000
set_option linter.unusedVariables false
set_option linter.unusedSimpArgs false

/-! meniscushand.System -/
theorem t_meniscushand_System (t0 : Int) (t3 : Int) (t4 : Bool) (r0 : List RawFace) (r1 : List Int) :
    evFnR Try.prog (Env.add 22 (F2p cInt cInt cInt pickOk pick) (Env.add 84 (FR (sc 1 [0] (tSl 0 0 tNil) (rL_int rNil)) (sc 1 [0] (tSl 0 0 tNil) (rG_glass 141 rNil)) (fun _ => true) ((fun x => ((), (glassesOf x.2.1, ()))))) (Env.add 85 (FR (sc 4 [0, 1, 2, 3] (tCod 0 cInt (tSl 1 0 (tSl 2 1 (tCod 3 cInt tNil)))) (rL_rface (rL_glass rNil))) (sc 1 [0] (tAgg 0 0 (ccTwo ccStr ccDec) (ccTwo_ok ccStr_ok ccDec_ok) ccNil ccNil_ok tNil) (rG_face 146 rNil)) ((fun x => lensPre x.1.2.1 x.2.2.1)) ((fun x => (fun r : LensV => ((r.1, (), ()), (r.2, ()))) (lensOf x.1.1 x.2.1 x.2.2.1 x.1.2.1)))) (Env.add 86 (FR (sc 1 [0] (tAgg 0 0 (ccTwo ccStr ccDec) (ccTwo_ok ccStr_ok ccDec_ok) ccNil ccNil_ok tNil) (rL_face rNil)) (sc 1 [0] (tAgg 0 0 (ccTwo ccStr ccDec) (ccTwo_ok ccStr_ok ccDec_ok) ccNil ccNil_ok tNil) (rG_face 146 rNil)) ((fun x => decide (x.2.1.length ≤ 1000))) ((fun x => ((x.1.1, (), ()), (x.2.1.map plainFace, ()))))) (Env.add 87 (FR (sc 3 [0, 1, 2] (tAgg 0 0 (ccTwo ccStr ccDec) (ccTwo_ok ccStr_ok ccDec_ok) ccNil ccNil_ok (tSl 1 1 (tCod 2 cIv tNil))) (rL_face (rL_glass rNil))) (sc 2 [0, 1] (tAgg 0 0 ccNil ccNil_ok ccIv ccIv_ok (tCod 1 cInt tNil)) (rG_surf 68 rNil)) ((fun x => lensOk (x.1.1, x.2.1) x.2.2.1)) ((fun x => (fun r : SysV × Int => (((), r.1.1, r.2, ()), (r.1.2, ()))) (build (x.1.1, x.2.1) x.2.2.1 x.1.2.2.1)))) (Env.add 88 (F1 cInt cIv lineAt) Env.nil)))))) Laws.nil 200 Try.f36 (((sc 5 [0, 1, 2, 3, 4] (tCod 0 cInt (tSl 1 0 (tSl 2 1 (tCod 3 cInt (tCod 4 cBool tNil))))) (rL_rface (rL_int rNil))).enc ((t0, t3, t4, ()), (r0, r1, ()))).tmps.map Prod.snd) ((sc 5 [0, 1, 2, 3, 4] (tCod 0 cInt (tSl 1 0 (tSl 2 1 (tCod 3 cInt (tCod 4 cBool tNil))))) (rL_rface (rL_int rNil))).enc ((t0, t3, t4, ()), (r0, r1, ()))).mem (sc 1 [0] (tAgg 0 0 ccNil ccNil_ok ccIv ccIv_ok tNil) (rG_surf 68 rNil)).ts (sc 1 [0] (tAgg 0 0 ccNil ccNil_ok ccIv ccIv_ok tNil) (rG_surf 68 rNil)).dec =
      .br (Bool.true)
       (
        .bind (((), Go.Proofs.Ythgpgnijbajlgaa.glassesOf r1, ())) fun vy0 =>
        .br (Go.Proofs.Ythgpgnijbajlgaa.lensPre t3 vy0.snd.fst)
         (
          .bind ((((Go.Proofs.Ythgpgnijbajlgaa.lensOf t0 r0 vy0.snd.fst t3).fst, (), ()), (Go.Proofs.Ythgpgnijbajlgaa.lensOf t0 r0 vy0.snd.fst t3).snd, ())) fun vy1 =>
          .br (t4)
           (
            .br (Decidable.decide (vy1.snd.fst.length ≤ 1000))
             (
              .bind (((vy1.fst.fst, (), ()), List.map Go.Proofs.Ythgpgnijbajlgaa.plainFace vy1.snd.fst, ())) fun vy2 =>
              .br (Go.Proofs.Ythgpgnijbajlgaa.pickOk t0 3)
               (
                .bind (Go.Proofs.Ythgpgnijbajlgaa.pick t0 3) fun vn3 =>
                .bind (Go.Proofs.Ythgpgnijbajlgaa.lineAt vn3) fun viv4 =>
                .br (Go.Proofs.Ythgpgnijbajlgaa.lensOk (vy2.fst.fst, vy2.snd.fst) vy0.snd.fst)
                 (
                  .bind ((((), (Go.Proofs.Ythgpgnijbajlgaa.build (vy2.fst.fst, vy2.snd.fst) vy0.snd.fst viv4).fst.fst, (Go.Proofs.Ythgpgnijbajlgaa.build (vy2.fst.fst, vy2.snd.fst) vy0.snd.fst viv4).snd, ()), (Go.Proofs.Ythgpgnijbajlgaa.build (vy2.fst.fst, vy2.snd.fst) vy0.snd.fst viv4).fst.snd, ())) fun vy5 =>
                  .ret ((((), vy5.fst.snd.fst, ()), vy5.snd.fst, ())))
                 (
                  .fail))
               (
                .fail))
             (
              .fail))
           (
            .br (Go.Proofs.Ythgpgnijbajlgaa.pickOk t0 3)
             (
              .bind (Go.Proofs.Ythgpgnijbajlgaa.pick t0 3) fun vn6 =>
              .bind (Go.Proofs.Ythgpgnijbajlgaa.lineAt vn6) fun viv7 =>
              .br (Go.Proofs.Ythgpgnijbajlgaa.lensOk (vy1.fst.fst, vy1.snd.fst) vy0.snd.fst)
               (
                .bind ((((), (Go.Proofs.Ythgpgnijbajlgaa.build (vy1.fst.fst, vy1.snd.fst) vy0.snd.fst viv7).fst.fst, (Go.Proofs.Ythgpgnijbajlgaa.build (vy1.fst.fst, vy1.snd.fst) vy0.snd.fst viv7).snd, ()), (Go.Proofs.Ythgpgnijbajlgaa.build (vy1.fst.fst, vy1.snd.fst) vy0.snd.fst viv7).fst.snd, ())) fun vy8 =>
                .ret ((((), vy8.fst.snd.fst, ()), vy8.snd.fst, ())))
               (
                .fail))
             (
              .fail)))
         (
          .fail))
       (
        .fail) := by kernel_rfl
theorem c_meniscushand_System : PlainR Try.prog 36 (sc 5 [0, 1, 2, 3, 4] (tCod 0 cInt (tSl 1 0 (tSl 2 1 (tCod 3 cInt (tCod 4 cBool tNil))))) (rL_rface (rL_int rNil))) (sc 1 [0] (tAgg 0 0 ccNil ccNil_ok ccIv ccIv_ok tNil) (rG_surf 68 rNil)) ((fun x => mostOk x.1.2.1)) ((fun x => (fun r : SysV => (((), r.1, ()), (r.2, ()))) (systemOf x.1.1 x.2.1 x.2.2.1 x.1.2.1 x.1.2.2.1))) := by
  intro x h N w vs hM hv
  obtain ⟨⟨t0, t3, t4, ⟨⟩⟩, ⟨r0, r1, ⟨⟩⟩⟩ := x
  refine calls_of_treeR (n := 200) (EnvOK.add s_meniscushand_Pick (EnvOK.add s_meniscushand_Glasses (EnvOK.add s_meniscushand_Lens (EnvOK.add s_meniscushand_Plain (EnvOK.add s_meniscusref8_Build (EnvOK.add s_meniscusref8_Line EnvOK.nil)))))) Try.func36 hv (Nat.le_of_ble_eq_true (by kernel_rfl)) LFn.nil hM (sc 1 [0] (tAgg 0 0 ccNil ccNil_ok ccIv ccIv_ok tNil) (rG_surf 68 rNil)) rfl ?_
  rw [t_meniscushand_System]
  simp only at h
  have hg := glassesOf_ok r1
  have hp : lensPre t3 (glassesOf r1) = true := by simp only [lensPre, hg, Bool.and_true]; exact h
  have hl := lensOf_ok (back := t0) (l := r0) hp
  have o1 := lensOk_of hl hg
  have o2 := lensOk_of (plainLens_ok hl) hg
  have hlen : (lensOf t0 r0 (glassesOf r1) t3).2.length ≤ 1000 := by omega
  have pk3 : pickOk t0 3 = true := by simp [pickOk]
  simp only [den_br, den_bind, den_ret, den_fail, if_true, hp, pk3, hlen, decide_true, systemOf]
  generalize lensOf t0 r0 (glassesOf r1) t3 = x at *
  rw [show (x.1, List.map plainFace x.2) = plainLens x from rfl, show (x.1, x.2) = x from rfl, o1, o2]
  cases t4 <;> rfl
theorem s_meniscushand_System : Ev.Spec Try.prog 36 (FR (sc 5 [0, 1, 2, 3, 4] (tCod 0 cInt (tSl 1 0 (tSl 2 1 (tCod 3 cInt (tCod 4 cBool tNil))))) (rL_rface (rL_int rNil))) (sc 1 [0] (tAgg 0 0 ccNil ccNil_ok ccIv ccIv_ok tNil) (rG_surf 68 rNil)) ((fun x => mostOk x.1.2.1)) ((fun x => (fun r : SysV => (((), r.1, ()), (r.2, ()))) (systemOf x.1.1 x.2.1 x.2.2.1 x.1.2.1 x.1.2.2.1)))) := specR rfl (fun _ => rfl) (fun vs w => Try.call36 vs w) c_meniscushand_System
end Go.Proofs.Ythgpgnijbajlgaa
