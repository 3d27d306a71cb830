/-
  Contracts of calls, written by a small program of this session out of the evaluator's trees.
-/
import Derived.Test.YthgpgnijbajlgaaCore
import Derived.Test.YthgpgnijbajlgaaCoreLoops
import Derived.Test.YthgpgnijbajlgaaCore2
import Derived.Test.YthgpgnijbajlgaaCore3
import Derived.Test.YthgpgnijbajlgaaCore4
import Derived.Test.YthgpgnijbajlgaaCore5
import Derived.Test.YthgpgnijbajlgaaCore6
import Derived.Test.YthgpgnijbajlgaaCore7
import Derived.Test.YthgpgnijbajlgaaO0
import Derived.Test.YthgpgnijbajlgaaEvCod
import Derived.Test.YthgpgnijbajlgaaEvRet
import Derived.Test.YthgpgnijbajlgaaProg
namespace Go.Proofs.Ythgpgnijbajlgaa
open Go Go.RowKit Ev
set_option maxRecDepth 100000
set_option linter.unusedVariables false
set_option linter.unusedSimpArgs false

/-! meniscushand.Plain -/
theorem tl_meniscushand_Plain_3 (t4 : Int) (r0a : ByteArray × Dec) (r0b : Unit) (r1a : ByteArray × Dec) (r1b : Unit) (r2 : List Face) (r3 : List Face) (r4 : List Face) :
    ev Try.prog Env.nil Laws.nil 200 none (loopAt Try.f86 3) ((sc 29 [4, 1, 2, 3] (tCod 4 cInt (tOwn 1 0 (tOwn 2 1 (tSl 3 2 tNil)))) (rBoxA 3 (ccTwo ccStr ccDec) (ccTwo_ok ccStr_ok ccDec_ok) ccNil ccNil_ok (rBoxA 4 (ccTwo ccStr ccDec) (ccTwo_ok ccStr_ok ccDec_ok) ccNil ccNil_ok (rG_face 146 (rL_face (rL_face rNil)))))).enc ((t4, ()), (r0a, r0b, r1a, r1b, r2, r3, r4, ()))) (backK (sc 29 [4, 1, 2, 3] (tCod 4 cInt (tOwn 1 0 (tOwn 2 1 (tSl 3 2 tNil)))) (rBoxA 3 (ccTwo ccStr ccDec) (ccTwo_ok ccStr_ok ccDec_ok) ccNil ccNil_ok (rBoxA 4 (ccTwo ccStr ccDec) (ccTwo_ok ccStr_ok ccDec_ok) ccNil ccNil_ok (rG_face 146 (rL_face (rL_face rNil)))))) (ocExit 0 (sc 29 [1, 2, 3] (tOwn 1 0 (tOwn 2 1 (tSl 3 2 tNil))) (rBoxA 3 (ccTwo ccStr ccDec) (ccTwo_ok ccStr_ok ccDec_ok) ccNil ccNil_ok (rBoxA 4 (ccTwo ccStr ccDec) (ccTwo_ok ccStr_ok ccDec_ok) ccNil ccNil_ok (rG_face 146 (rL_face (rL_face rNil)))))))) =
      .br (Decidable.decide (t4 < (@Nat.cast Int _ r3.length)))
       (
        .br (Decidable.decide (0 ≤ t4 ∧ t4 < (@Nat.cast Int _ r3.length)))
         (
          .get (r3[t4.toNat]?) fun vt0 =>
          .br (Go.Proofs.Ythgpgnijbajlgaa.Ev.lenOk (r2 ++ [Go.Proofs.Ythgpgnijbajlgaa.Face.mk vt0.stop vt0.radius vt0.aperture vt0.thick vt0.conic (Go.Proofs.Ythgpgnijbajlgaa.Dec.mk 0 0) (Go.Proofs.Ythgpgnijbajlgaa.Dec.mk 0 0) vt0.glass]))
           (
            .ret (Sum.inl ((Go.IntKind.i64.wrap (t4 + 1), ()), r0a, (), r1a, (), r2 ++ [Go.Proofs.Ythgpgnijbajlgaa.Face.mk vt0.stop vt0.radius vt0.aperture vt0.thick vt0.conic (Go.Proofs.Ythgpgnijbajlgaa.Dec.mk 0 0) (Go.Proofs.Ythgpgnijbajlgaa.Dec.mk 0 0) vt0.glass], r3, r4, ())))
           (
            .fail))
         (
          .fail))
       (
        .ret (Sum.inr ((), r0a, (), r1a, (), r2, r3, r4, ()))) := by kernel_rfl
theorem ok_meniscushand_Plain_3 : LOK Try.prog (LoopR.of (sc 29 [4, 1, 2, 3] (tCod 4 cInt (tOwn 1 0 (tOwn 2 1 (tSl 3 2 tNil)))) (rBoxA 3 (ccTwo ccStr ccDec) (ccTwo_ok ccStr_ok ccDec_ok) ccNil ccNil_ok (rBoxA 4 (ccTwo ccStr ccDec) (ccTwo_ok ccStr_ok ccDec_ok) ccNil ccNil_ok (rG_face 146 (rL_face (rL_face rNil)))))) (ocExit 0 (sc 29 [1, 2, 3] (tOwn 1 0 (tOwn 2 1 (tSl 3 2 tNil))) (rBoxA 3 (ccTwo ccStr ccDec) (ccTwo_ok ccStr_ok ccDec_ok) ccNil ccNil_ok (rBoxA 4 (ccTwo ccStr ccDec) (ccTwo_ok ccStr_ok ccDec_ok) ccNil ccNil_ok (rG_face 146 (rL_face (rL_face rNil))))))) (runBy plainStep plainM)) (loopAt Try.f86 3) := by
  refine loop_ok EnvOK.nil (LFn.at (fn := Try.f86) LFn.nil 3) plainStep (n := 200) (fun x z h => ?_) (runBy_ok _ _)
  obtain ⟨⟨t4, ⟨⟩⟩, ⟨r0a, r0b, r1a, r1b, r2, r3, r4, ⟨⟩⟩⟩ := x
  rw [tl_meniscushand_Plain_3]
  rw [← h]
  simp only [den_br, den_bind, den_ret, den_fail, den_inl, den_inr, decide_eq_true_eq, gt_iff_lt, ge_iff_le, beq_iff_eq]
  simp only [plainStep]
  by_cases h0 : t4 < (r3.length : Int) <;> simp only [h0, if_true, if_false]
  by_cases h1 : 0 ≤ t4 <;> simp only [h1, if_true, if_false, and_self, false_and, true_and]
  cases hg : r3[t4.toNat]? with
  | none => rfl
  | some a =>
    simp only [den_get, den_br, den_bind, den_ret, den_fail, plainFace]
    rfl
theorem t_meniscushand_Plain (t0a : ByteArray × Dec) (t0b : Unit) (r0 : List Face) :
    evFnR Try.prog Env.nil (Laws.add 3 (LoopR.of (sc 29 [4, 1, 2, 3] (tCod 4 cInt (tOwn 1 0 (tOwn 2 1 (tSl 3 2 tNil)))) (rBoxA 3 (ccTwo ccStr ccDec) (ccTwo_ok ccStr_ok ccDec_ok) ccNil ccNil_ok (rBoxA 4 (ccTwo ccStr ccDec) (ccTwo_ok ccStr_ok ccDec_ok) ccNil ccNil_ok (rG_face 146 (rL_face (rL_face rNil)))))) (ocExit 0 (sc 29 [1, 2, 3] (tOwn 1 0 (tOwn 2 1 (tSl 3 2 tNil))) (rBoxA 3 (ccTwo ccStr ccDec) (ccTwo_ok ccStr_ok ccDec_ok) ccNil ccNil_ok (rBoxA 4 (ccTwo ccStr ccDec) (ccTwo_ok ccStr_ok ccDec_ok) ccNil ccNil_ok (rG_face 146 (rL_face (rL_face rNil))))))) (runBy plainStep plainM)) Laws.nil) 200 Try.f86 (((sc 1 [0] (tAgg 0 0 (ccTwo ccStr ccDec) (ccTwo_ok ccStr_ok ccDec_ok) ccNil ccNil_ok tNil) (rL_face rNil)).enc ((t0a, t0b, ()), (r0, ()))).tmps.map Prod.snd) ((sc 1 [0] (tAgg 0 0 (ccTwo ccStr ccDec) (ccTwo_ok ccStr_ok ccDec_ok) ccNil ccNil_ok tNil) (rL_face rNil)).enc ((t0a, t0b, ()), (r0, ()))).mem (sc 1 [0] (tAgg 0 0 (ccTwo ccStr ccDec) (ccTwo_ok ccStr_ok ccDec_ok) ccNil ccNil_ok tNil) (rG_face 146 rNil)).ts (sc 1 [0] (tAgg 0 0 (ccTwo ccStr ccDec) (ccTwo_ok ccStr_ok ccDec_ok) ccNil ccNil_ok tNil) (rG_face 146 rNil)).dec =
      .get (Go.Proofs.Ythgpgnijbajlgaa.runBy Go.Proofs.Ythgpgnijbajlgaa.plainStep Go.Proofs.Ythgpgnijbajlgaa.plainM ((0, ()), t0a, (), (ByteArray.mk #[], Go.Proofs.Ythgpgnijbajlgaa.Dec.mk 0 0), (), [], r0, [], ())) fun vy0 =>
      .ret (((vy0.snd.fst, (), ()), vy0.snd.snd.snd.snd.snd.fst, ())) := by kernel_rfl
theorem c_meniscushand_Plain : PlainR Try.prog 86 (sc 1 [0] (tAgg 0 0 (ccTwo ccStr ccDec) (ccTwo_ok ccStr_ok ccDec_ok) ccNil ccNil_ok tNil) (rL_face rNil)) (sc 1 [0] (tAgg 0 0 (ccTwo ccStr ccDec) (ccTwo_ok ccStr_ok ccDec_ok) ccNil ccNil_ok tNil) (rG_face 146 rNil)) ((fun x => decide (x.2.1.length ≤ 1000))) ((fun x => ((x.1.1, (), ()), (x.2.1.map plainFace, ())))) := by
  intro x h N w vs hM hv
  obtain ⟨⟨t0a, t0b, ⟨⟩⟩, ⟨r0, ⟨⟩⟩⟩ := x
  refine calls_of_treeR (n := 200) EnvOK.nil Try.func86 hv (Nat.le_of_ble_eq_true (by kernel_rfl)) (LFn.add (fn := Try.f86) (i := 3) (by kernel_rfl) ok_meniscushand_Plain_3 LFn.nil) hM (sc 1 [0] (tAgg 0 0 (ccTwo ccStr ccDec) (ccTwo_ok ccStr_ok ccDec_ok) ccNil ccNil_ok tNil) (rG_face 146 rNil)) rfl ?_
  rw [t_meniscushand_Plain]
  simp only [decide_eq_true_eq] at h
  have hr := plain_run t0a r0 h
  rw [show (⟨#[]⟩ : ByteArray) = sEmpty from rfl, hr]
  rfl
theorem s_meniscushand_Plain : Ev.Spec Try.prog 86 (FR (sc 1 [0] (tAgg 0 0 (ccTwo ccStr ccDec) (ccTwo_ok ccStr_ok ccDec_ok) ccNil ccNil_ok tNil) (rL_face rNil)) (sc 1 [0] (tAgg 0 0 (ccTwo ccStr ccDec) (ccTwo_ok ccStr_ok ccDec_ok) ccNil ccNil_ok tNil) (rG_face 146 rNil)) ((fun x => decide (x.2.1.length ≤ 1000))) ((fun x => ((x.1.1, (), ()), (x.2.1.map plainFace, ()))))) := specR rfl (fun _ => rfl) (fun vs w => Try.call86 vs w) c_meniscushand_Plain

/-! meniscushand.Glasses -/
theorem tl_meniscushand_Glasses_3 (t4 : Int) (r0 : List Int) (r1 : List Glass) :
    ev Try.prog (Env.add 22 (F2p cInt cInt cInt pickOk pick) (Env.add 120 (F2p cInt cInt cDec scaleOk decOf) (Env.add 121 (F1p cInt cStr ((digOk 6)) ((dig 6))) Env.nil))) Laws.nil 200 none (loopAt Try.f84 3) ((sc 80 [4, 0, 3] (tCod 4 cInt (tSl 0 0 (tSl 3 1 tNil))) (rL_int (rG_glass 141 rNil))).enc ((t4, ()), (r0, r1, ()))) (backK (sc 80 [4, 0, 3] (tCod 4 cInt (tSl 0 0 (tSl 3 1 tNil))) (rL_int (rG_glass 141 rNil))) (ocExit 0 (sc 80 [3] (tSl 3 0 tNil) (rG_glass 141 rNil)))) =
      .br (Decidable.decide (t4 < (@Nat.cast Int _ r0.length)))
       (
        .br (Decidable.decide (t4 < 3))
         (
          .br (Go.Proofs.Ythgpgnijbajlgaa.digOk 6 t4)
           (
            .bind (Go.Proofs.Ythgpgnijbajlgaa.dig 6 t4) fun vby0 =>
            .br (Go.Proofs.Ythgpgnijbajlgaa.Ev.strOk (ByteArray.mk #[103]) vby0)
             (
              .br (Decidable.decide (0 ≤ t4 ∧ t4 < (@Nat.cast Int _ r0.length)))
               (
                .get (r0[t4.toNat]?) fun vt1 =>
                .br (Go.Proofs.Ythgpgnijbajlgaa.pickOk vt1 200000)
                 (
                  .bind (Go.Proofs.Ythgpgnijbajlgaa.pick vt1 200000) fun vn2 =>
                  .br (Go.Proofs.Ythgpgnijbajlgaa.scaleOk vn2 5)
                   (
                    .bind (Go.Proofs.Ythgpgnijbajlgaa.decOf vn2 5) fun vde3 =>
                    .br (Decidable.decide (0 ≤ t4 ∧ t4 < (@Nat.cast Int _ r0.length)))
                     (
                      .get (r0[t4.toNat]?) fun vt4 =>
                      .br (Go.Proofs.Ythgpgnijbajlgaa.pickOk (Go.IntKind.i64.wrap (Int.tdiv vt4 7)) 50000)
                       (
                        .bind (Go.Proofs.Ythgpgnijbajlgaa.pick (Go.IntKind.i64.wrap (Int.tdiv vt4 7)) 50000) fun vn5 =>
                        .br (Go.Proofs.Ythgpgnijbajlgaa.scaleOk vn5 5)
                         (
                          .bind (Go.Proofs.Ythgpgnijbajlgaa.decOf vn5 5) fun vde6 =>
                          .br (Decidable.decide (0 ≤ t4 ∧ t4 < (@Nat.cast Int _ r0.length)))
                           (
                            .get (r0[t4.toNat]?) fun vt7 =>
                            .br (Go.Proofs.Ythgpgnijbajlgaa.pickOk (Go.IntKind.i64.wrap (Int.tdiv vt7 11)) 3000)
                             (
                              .bind (Go.Proofs.Ythgpgnijbajlgaa.pick (Go.IntKind.i64.wrap (Int.tdiv vt7 11)) 3000) fun vn8 =>
                              .br (Go.Proofs.Ythgpgnijbajlgaa.scaleOk vn8 5)
                               (
                                .bind (Go.Proofs.Ythgpgnijbajlgaa.decOf vn8 5) fun vde9 =>
                                .br (Decidable.decide (0 ≤ t4 ∧ t4 < (@Nat.cast Int _ r0.length)))
                                 (
                                  .get (r0[t4.toNat]?) fun vt10 =>
                                  .br (Go.Proofs.Ythgpgnijbajlgaa.pickOk (Go.IntKind.i64.wrap (Int.tdiv vt10 13)) 9000)
                                   (
                                    .bind (Go.Proofs.Ythgpgnijbajlgaa.pick (Go.IntKind.i64.wrap (Int.tdiv vt10 13)) 9000) fun vn11 =>
                                    .br (Go.Proofs.Ythgpgnijbajlgaa.scaleOk vn11 5)
                                     (
                                      .bind (Go.Proofs.Ythgpgnijbajlgaa.decOf vn11 5) fun vde12 =>
                                      .br (Decidable.decide (0 ≤ t4 ∧ t4 < (@Nat.cast Int _ r0.length)))
                                       (
                                        .get (r0[t4.toNat]?) fun vt13 =>
                                        .br (Go.Proofs.Ythgpgnijbajlgaa.pickOk (Go.IntKind.i64.wrap (Int.tdiv vt13 17)) 200000)
                                         (
                                          .bind (Go.Proofs.Ythgpgnijbajlgaa.pick (Go.IntKind.i64.wrap (Int.tdiv vt13 17)) 200000) fun vn14 =>
                                          .br (Go.Proofs.Ythgpgnijbajlgaa.scaleOk (Go.IntKind.i64.wrap (vn14 - 1000)) 3)
                                           (
                                            .bind (Go.Proofs.Ythgpgnijbajlgaa.decOf (Go.IntKind.i64.wrap (vn14 - 1000)) 3) fun vde15 =>
                                            .br (Go.Proofs.Ythgpgnijbajlgaa.Ev.lenOk (r1 ++ [Go.Proofs.Ythgpgnijbajlgaa.Glass.mk (ByteArray.mk #[103] ++ vby0) vde3 vde6 (Go.Proofs.Ythgpgnijbajlgaa.Dec.mk 0 0) vde9 vde12 vde15]))
                                             (
                                              .ret (Sum.inl ((Go.IntKind.i64.wrap (t4 + 1), ()), r0, r1 ++ [Go.Proofs.Ythgpgnijbajlgaa.Glass.mk (ByteArray.mk #[103] ++ vby0) vde3 vde6 (Go.Proofs.Ythgpgnijbajlgaa.Dec.mk 0 0) vde9 vde12 vde15], ())))
                                             (
                                              .fail))
                                           (
                                            .fail))
                                         (
                                          .fail))
                                       (
                                        .fail))
                                     (
                                      .fail))
                                   (
                                    .fail))
                                 (
                                  .fail))
                               (
                                .fail))
                             (
                              .fail))
                           (
                            .fail))
                         (
                          .fail))
                       (
                        .fail))
                     (
                      .fail))
                   (
                    .fail))
                 (
                  .fail))
               (
                .fail))
             (
              .fail))
           (
            .fail))
         (
          .ret (Sum.inr ((), r1, ()))))
       (
        .ret (Sum.inr ((), r1, ()))) := by kernel_rfl
theorem ok_meniscushand_Glasses_3 : LOK Try.prog (LoopR.of (sc 80 [4, 0, 3] (tCod 4 cInt (tSl 0 0 (tSl 3 1 tNil))) (rL_int (rG_glass 141 rNil))) (ocExit 0 (sc 80 [3] (tSl 3 0 tNil) (rG_glass 141 rNil))) (runBy glassesStep glassesM)) (loopAt Try.f84 3) := by
  refine loop_ok (EnvOK.add s_meniscushand_Pick (EnvOK.add s_meniscushand_Dec (EnvOK.add s_meniscusref8_Digits_6 EnvOK.nil))) (LFn.at (fn := Try.f84) LFn.nil 3) glassesStep (n := 200) (fun x z h => ?_) (runBy_ok _ _)
  obtain ⟨⟨t4, ⟨⟩⟩, ⟨r0, r1, ⟨⟩⟩⟩ := x
  rw [tl_meniscushand_Glasses_3]
  by_cases h0 : t4 < (r0.length : Int) ∧ t4 < 3
  case neg =>
    rw [← h]
    simp only [glassesStep, h0, if_false]
    simp only [den_br, den_bind, den_ret, den_fail, den_inl, den_inr, decide_eq_true_eq, gt_iff_lt, ge_iff_le, beq_iff_eq]
    by_cases c : t4 < (r0.length : Int) <;> by_cases d : t4 < 3 <;> simp only [c, d, if_true, if_false]
    exact absurd ⟨c, d⟩ h0
  by_cases h1 : 0 ≤ t4
  case neg => simp [glassesStep, h0, h1] at h
  obtain ⟨v, hg⟩ : ∃ v, r0[t4.toNat]? = some v := ⟨_, List.getElem?_eq_getElem (by omega)⟩
  rw [← h]
  have sc : ∀ c : Int, scaleOk c 0 = true ∧ scaleOk c 1 = true ∧ scaleOk c 2 = true ∧ scaleOk c 3 = true ∧ scaleOk c 4 = true ∧ scaleOk c 5 = true := fun _ => by simp [scaleOk]
  have sc0 := fun c => (sc c).1
  have sc1 := fun c => (sc c).2.1
  have sc2 := fun c => (sc c).2.2.1
  have sc3 := fun c => (sc c).2.2.2.1
  have sc4 := fun c => (sc c).2.2.2.2.1
  have sc5 := fun c => (sc c).2.2.2.2.2
  have pk200000 : ∀ n : Int, pickOk n 200000 = true := fun _ => by simp [pickOk]
  have pk50000 : ∀ n : Int, pickOk n 50000 = true := fun _ => by simp [pickOk]
  have pk3000 : ∀ n : Int, pickOk n 3000 = true := fun _ => by simp [pickOk]
  have pk9000 : ∀ n : Int, pickOk n 9000 = true := fun _ => by simp [pickOk]
  have w1 : ∀ n : Int, IntKind.i64.wrap (pick n 200000 - 1000) = pick n 200000 - 1000 := fun n => wr (by have := pick_bd n (m := 200000) (by decide); omega)
  have d6 := digOk6 h1 (by omega : t4 < 10000000)
  have z6 := dig_size 6 t4
  have so := strOk_of (a := sG) (b := dig 6 t4) (by decide) (by omega)
  simp only [glassesStep, glassOf, h0, h1, hg, and_self, if_true]
  simp only [den_br, den_bind, den_ret, den_fail, den_inl, den_inr, decide_eq_true_eq, gt_iff_lt, ge_iff_le, beq_iff_eq]
  rw [show (⟨#[103]⟩ : ByteArray) = sG from rfl]
  simp only [h0.1, h0.2, h1, hg, and_self, true_and, decide_true, if_true, den_get, den_br, den_bind, den_ret, den_fail, dv_eq, sc3, sc5, pk200000, pk50000, pk3000, pk9000, w1, d6, so]
  rfl
theorem t_meniscushand_Glasses (r0 : List Int) :
    evFnR Try.prog (Env.add 22 (F2p cInt cInt cInt pickOk pick) (Env.add 120 (F2p cInt cInt cDec scaleOk decOf) (Env.add 121 (F1p cInt cStr ((digOk 6)) ((dig 6))) Env.nil))) (Laws.add 3 (LoopR.of (sc 80 [4, 0, 3] (tCod 4 cInt (tSl 0 0 (tSl 3 1 tNil))) (rL_int (rG_glass 141 rNil))) (ocExit 0 (sc 80 [3] (tSl 3 0 tNil) (rG_glass 141 rNil))) (runBy glassesStep glassesM)) Laws.nil) 200 Try.f84 (((sc 1 [0] (tSl 0 0 tNil) (rL_int rNil)).enc ((()), (r0, ()))).tmps.map Prod.snd) ((sc 1 [0] (tSl 0 0 tNil) (rL_int rNil)).enc ((()), (r0, ()))).mem (sc 1 [0] (tSl 0 0 tNil) (rG_glass 141 rNil)).ts (sc 1 [0] (tSl 0 0 tNil) (rG_glass 141 rNil)).dec =
      .br (Go.Proofs.Ythgpgnijbajlgaa.scaleOk 103961 5)
       (
        .bind (Go.Proofs.Ythgpgnijbajlgaa.decOf 103961 5) fun vde0 =>
        .br (Go.Proofs.Ythgpgnijbajlgaa.scaleOk 23179 5)
         (
          .bind (Go.Proofs.Ythgpgnijbajlgaa.decOf 23179 5) fun vde1 =>
          .br (Go.Proofs.Ythgpgnijbajlgaa.scaleOk 101047 5)
           (
            .bind (Go.Proofs.Ythgpgnijbajlgaa.decOf 101047 5) fun vde2 =>
            .br (Go.Proofs.Ythgpgnijbajlgaa.scaleOk 600 5)
             (
              .bind (Go.Proofs.Ythgpgnijbajlgaa.decOf 600 5) fun vde3 =>
              .br (Go.Proofs.Ythgpgnijbajlgaa.scaleOk 2002 5)
               (
                .bind (Go.Proofs.Ythgpgnijbajlgaa.decOf 2002 5) fun vde4 =>
                .br (Go.Proofs.Ythgpgnijbajlgaa.scaleOk 1035607 4)
                 (
                  .bind (Go.Proofs.Ythgpgnijbajlgaa.decOf 1035607 4) fun vde5 =>
                  .br (Go.Proofs.Ythgpgnijbajlgaa.scaleOk 173760 5)
                   (
                    .bind (Go.Proofs.Ythgpgnijbajlgaa.decOf 173760 5) fun vde6 =>
                    .br (Go.Proofs.Ythgpgnijbajlgaa.scaleOk 31375 5)
                     (
                      .bind (Go.Proofs.Ythgpgnijbajlgaa.decOf 31375 5) fun vde7 =>
                      .br (Go.Proofs.Ythgpgnijbajlgaa.scaleOk 189878 5)
                       (
                        .bind (Go.Proofs.Ythgpgnijbajlgaa.decOf 189878 5) fun vde8 =>
                        .br (Go.Proofs.Ythgpgnijbajlgaa.scaleOk 1319 5)
                         (
                          .bind (Go.Proofs.Ythgpgnijbajlgaa.decOf 1319 5) fun vde9 =>
                          .br (Go.Proofs.Ythgpgnijbajlgaa.scaleOk 6231 5)
                           (
                            .bind (Go.Proofs.Ythgpgnijbajlgaa.decOf 6231 5) fun vde10 =>
                            .br (Go.Proofs.Ythgpgnijbajlgaa.scaleOk 1552363 4)
                             (
                              .bind (Go.Proofs.Ythgpgnijbajlgaa.decOf 1552363 4) fun vde11 =>
                              .get (Go.Proofs.Ythgpgnijbajlgaa.runBy Go.Proofs.Ythgpgnijbajlgaa.glassesStep Go.Proofs.Ythgpgnijbajlgaa.glassesM ((0, ()), r0, [Go.Proofs.Ythgpgnijbajlgaa.Glass.mk (ByteArray.mk #[99, 114, 111, 119, 110]) vde0 vde1 vde2 vde3 vde4 vde5, Go.Proofs.Ythgpgnijbajlgaa.Glass.mk (ByteArray.mk #[102, 108, 105, 110, 116]) vde6 vde7 vde8 vde9 vde10 vde11], ())) fun vy12 =>
                              .ret (((), vy12.snd.fst, ())))
                             (
                              .fail))
                           (
                            .fail))
                         (
                          .fail))
                       (
                        .fail))
                     (
                      .fail))
                   (
                    .fail))
                 (
                  .fail))
               (
                .fail))
             (
              .fail))
           (
            .fail))
         (
          .fail))
       (
        .fail) := by kernel_rfl
theorem c_meniscushand_Glasses : PlainR Try.prog 84 (sc 1 [0] (tSl 0 0 tNil) (rL_int rNil)) (sc 1 [0] (tSl 0 0 tNil) (rG_glass 141 rNil)) (fun _ => true) ((fun x => ((), (glassesOf x.2.1, ())))) := by
  intro x h N w vs hM hv
  obtain ⟨⟨⟩, ⟨r0, ⟨⟩⟩⟩ := x
  refine calls_of_treeR (n := 200) (EnvOK.add s_meniscushand_Pick (EnvOK.add s_meniscushand_Dec (EnvOK.add s_meniscusref8_Digits_6 EnvOK.nil))) Try.func84 hv (Nat.le_of_ble_eq_true (by kernel_rfl)) (LFn.add (fn := Try.f84) (i := 3) (by kernel_rfl) ok_meniscushand_Glasses_3 LFn.nil) hM (sc 1 [0] (tSl 0 0 tNil) (rG_glass 141 rNil)) rfl ?_
  rw [t_meniscushand_Glasses]
  simp only [den_br, den_bind, den_ret, den_fail, den_inl, den_inr, decide_eq_true_eq, gt_iff_lt, ge_iff_le, beq_iff_eq]
  have sc : ∀ c : Int, scaleOk c 0 = true ∧ scaleOk c 1 = true ∧ scaleOk c 2 = true ∧ scaleOk c 3 = true ∧ scaleOk c 4 = true ∧ scaleOk c 5 = true := fun _ => by simp [scaleOk]
  have sc0 := fun c => (sc c).1
  have sc1 := fun c => (sc c).2.1
  have sc2 := fun c => (sc c).2.2.1
  have sc3 := fun c => (sc c).2.2.2.1
  have sc4 := fun c => (sc c).2.2.2.2.1
  have sc5 := fun c => (sc c).2.2.2.2.2
  simp only [sc4, sc5, if_true]
  obtain ⟨y, hy, _⟩ := glasses_total r0
  rw [show (⟨⟨#[99, 114, 111, 119, 110]⟩, decOf 103961 5, decOf 23179 5, decOf 101047 5, decOf 600 5, decOf 2002 5, decOf 1035607 4⟩ : Glass) = crown from rfl, show (⟨⟨#[102, 108, 105, 110, 116]⟩, decOf 173760 5, decOf 31375 5, decOf 189878 5, decOf 1319 5, decOf 6231 5, decOf 1552363 4⟩ : Glass) = flint from rfl]
  simp only [glassesOf, hy]
  rfl
theorem s_meniscushand_Glasses : Ev.Spec Try.prog 84 (FR (sc 1 [0] (tSl 0 0 tNil) (rL_int rNil)) (sc 1 [0] (tSl 0 0 tNil) (rG_glass 141 rNil)) (fun _ => true) ((fun x => ((), (glassesOf x.2.1, ()))))) := specR rfl (fun _ => rfl) (fun vs w => Try.call84 vs w) c_meniscushand_Glasses
end Go.Proofs.Ythgpgnijbajlgaa
