/-
  Contracts of calls, written by a small program of this session out of the evaluator's trees.
-/
import Derived.Test.YtlbmjajjldfigaaGreatCore
import Derived.Test.YtlbmjajjldfigaaGreatCoreLoops
import Derived.Test.YtlbmjajjldfigaaGreatCore2
import Derived.Test.YtlbmjajjldfigaaGreatCore3
import Derived.Test.YtlbmjajjldfigaaGreatCore4
import Derived.Test.YtlbmjajjldfigaaGreatCore5
import Derived.Test.YtlbmjajjldfigaaGreatCore6
import Derived.Test.YtlbmjajjldfigaaGreatN0
import Derived.Test.YtlbmjajjldfigaaGreatEvCod
import Derived.Test.YtlbmjajjldfigaaGreatEvRet
import Derived.Test.YtlbmjajjldfigaaGreatProg
namespace Go.Proofs.YtlbmjajjldfigaaGreat
open Go Go.RowKit Ev
set_option maxRecDepth 100000
set_option linter.unusedVariables false
set_option linter.unusedSimpArgs false

/-! meniscusref8.rightFace -/
theorem t_meniscusref8_rightFace (t0 : Face) (r0 : List Glass) :
    evFn Tryz.prog (Env.add 82 (F1 cDec cBool decZero) (Env.add 86 (FS (sc 2 [0, 1] (tSl 0 0 (tCod 1 cStr tNil)) (rL_glass rNil)) (cTwo cGlass cBool) (fun x => lenOk x.2.1) ((fun x => findGlass x.2.1 x.1.1))) (Env.add 114 (F1p cStr cBool ((fun s => decide (s.size ≤ 1048576))) isWord) (Env.add 115 (F1 cDec cBool printable) (Env.add 116 (F1 cDec cBool ((fun d => decide (0 < d.c)))) (Env.add 146 (F2 cDec cDec cBool decLess) (Env.add 147 (F1p cDec cDec ((fun d => decide (-9223372036854775807 ≤ d.c ∧ d.c ≤ 9223372036854775807))) decSize) Env.nil))))))) Laws.nil 200 Tryz.f117 (((sc 2 [0, 1] (tCod 0 cFace (tSl 1 0 tNil)) (rL_glass rNil)).enc ((t0, ()), (r0, ()))).tmps.map Prod.snd) ((sc 2 [0, 1] (tCod 0 cFace (tSl 1 0 tNil)) (rL_glass rNil)).enc ((t0, ()), (r0, ()))).mem cBool.dec =
      .bind (printable t0.aperture) fun vb0 => .br (!vb0) (.ret (false)) (.bind (decide (0 < t0.aperture.c)) fun vb1 => .br (!vb1) (.ret (false)) (.bind (printable t0.thick) fun vb2 => .br (!vb2) (.ret (false)) (.br (decide (t0.thick.c < 0)) (.ret (false)) (.br (t0.stop) (.bind (decZero t0.radius) fun vb3 => .br (vb3) (.bind (decZero t0.conic) fun vb4 => .br (vb4) (.bind (decZero t0.a4) fun vb5 => .br (vb5) (.bind (decZero t0.a6) fun vb6 => .br (vb6) (.ret (Ev.strEq t0.glass (ByteArray.mk #[]))) (.ret (false))) (.ret (false))) (.ret (false))) (.ret (false))) (.br (Ev.lenOk r0) (.bind (findGlass r0 t0.glass) fun vy7 => .bind (printable t0.radius) fun vb8 => .br (vb8) (.bind (printable t0.conic) fun vb9 => .br (vb9) (.bind (printable t0.a4) fun vb10 => .br (vb10) (.bind (printable t0.a6) fun vb11 => .br (vb11) (.br (decide (t0.glass.size ≤ 1048576)) (.bind (isWord t0.glass) fun vb12 => .br (vb12) (.br (vy7.2) (.br (t0.radius.c == 0) (.ret (true)) (.br (decide (-9223372036854775807 ≤ t0.radius.c ∧ t0.radius.c ≤ 9223372036854775807)) (.bind (decSize t0.radius) fun vde13 => .bind (decLess vde13 t0.aperture) fun vb14 => .ret (!vb14)) (.fail))) (.br (Ev.strEq t0.glass (ByteArray.mk #[97, 105, 114])) (.br (t0.radius.c == 0) (.ret (true)) (.br (decide (-9223372036854775807 ≤ t0.radius.c ∧ t0.radius.c ≤ 9223372036854775807)) (.bind (decSize t0.radius) fun vde15 => .bind (decLess vde15 t0.aperture) fun vb16 => .ret (!vb16)) (.fail))) (.ret (false)))) (.ret (false))) (.fail)) (.ret (false))) (.ret (false))) (.ret (false))) (.ret (false))) (.fail)))))) := by kernel_rfl
theorem c_meniscusref8_rightFace : PlainS Tryz.prog 117 (sc 2 [0, 1] (tCod 0 cFace (tSl 1 0 tNil)) (rL_glass rNil)) cBool ((fun x => lenOk x.2.1 && wd x.1.1.glass)) ((fun x => rightFace x.1.1 x.2.1)) := by
  intro x h N w vs hM hv
  obtain ⟨⟨t0, ⟨⟩⟩, ⟨r0, ⟨⟩⟩⟩ := x
  refine calls_of_tree (n := 200) (EnvOK.add s_meniscusref8_zero (EnvOK.add s_meniscusref8_FindGlass (EnvOK.add s_meniscusref8_IsWord (EnvOK.add s_meniscusref8_printable (EnvOK.add s_meniscusref8_above (EnvOK.add s_meniscusref8_DecLess (EnvOK.add s_meniscusref8_size EnvOK.nil))))))) Tryz.func117 hv (Nat.le_of_ble_eq_true (by kernel_rfl)) LFn.nil hM cBool ?_
  rw [t_meniscusref8_rightFace]
  simp only [den_br, den_bind, den_ret, den_fail, den_inl, den_inr, decide_eq_true_eq, gt_iff_lt, ge_iff_le, beq_iff_eq]
  simp only [Bool.and_eq_true] at h
  obtain ⟨hg, hw⟩ := h
  have hs : ByteArray.size t0.glass ≤ 1048576 := by simp [wd] at hw; omega
  simp only [hg, hs, if_true]
  rw [show (⟨#[97, 105, 114]⟩ : ByteArray) = sAir from rfl]
  cases h1 : printable t0.aperture
  · simp [rightFace, h1]
  by_cases h2 : 0 < t0.aperture.c
  case neg => simp [rightFace, h1, h2]
  cases h3 : printable t0.thick
  · simp [rightFace, h1, h2, h3]
  by_cases h4 : t0.thick.c < 0
  case pos =>
    have h4' : ¬ 0 ≤ t0.thick.c := by omega
    simp [rightFace, h1, h2, h3, h4, h4']
  have h4' : 0 ≤ t0.thick.c := by omega
  simp only [rightFace, h1, h2, h3, h4, h4', and_self, decide_true, Bool.not_true, Bool.false_eq_true, if_true, if_false]
  cases h5 : t0.stop
  case true =>
    simp only [if_true]
    cases decZero t0.radius <;> cases decZero t0.conic <;> cases decZero t0.a4 <;> cases decZero t0.a6 <;> simp
  simp only [Bool.false_eq_true, if_false]
  cases h6 : printable t0.radius
  · simp
  have hb := (rightDec_bd (printable_right h6)).1
  have hb' : -9223372036854775807 ≤ t0.radius.c ∧ t0.radius.c ≤ 9223372036854775807 := by omega
  simp only [hb', and_self, if_true, Bool.true_and]
  cases printable t0.conic <;> cases printable t0.a4 <;> cases printable t0.a6 <;> cases isWord t0.glass <;> simp only [Bool.false_eq_true, if_true, if_false, Bool.true_and, Bool.false_and, Bool.and_false]
  cases (findGlass r0 t0.glass).2 <;> cases strEq t0.glass sAir <;> by_cases h7 : t0.radius.c = 0 <;> simp [h7]
theorem s_meniscusref8_rightFace : Ev.Spec Tryz.prog 117 (FS (sc 2 [0, 1] (tCod 0 cFace (tSl 1 0 tNil)) (rL_glass rNil)) cBool ((fun x => lenOk x.2.1 && wd x.1.1.glass)) ((fun x => rightFace x.1.1 x.2.1))) := specS rfl (fun vs w => Tryz.call117 vs w) c_meniscusref8_rightFace

/-! meniscushand.some -/
theorem tl_meniscushand_some_2 (t3 : Int) (r0 : List Face) :
    ev Tryz.prog Env.nil Laws.nil 200 none (loopAt Tryz.f78 2) ((sc 16 [3, 0] (tCod 3 cInt (tSl 0 0 tNil)) (rL_face rNil)).enc ((t3, ()), (r0, ()))) (backK (sc 16 [3, 0] (tCod 3 cInt (tSl 0 0 tNil)) (rL_face rNil)) (ocOr (ocExit 0 (sc 16 [] tNil rNil)) (ocRet (sc 16 [2] (tCod 2 cBool tNil) rNil)))) =
      .br (decide (t3 < (@Nat.cast Int _ r0.length))) (.br (decide (0 ≤ t3 ∧ t3 < (@Nat.cast Int _ r0.length))) (.get (r0[t3.toNat]?) fun vt0 => .br (!vt0.stop) (.ret (Sum.inr (Sum.inr ((true, ()), ())))) (.ret (Sum.inl ((IntKind.i64.wrap (t3 + 1), ()), r0, ())))) (.fail)) (.ret (Sum.inr (Sum.inl ((), ())))) := by kernel_rfl
theorem ok_meniscushand_some_2 : LOK Tryz.prog (LoopR.of (sc 16 [3, 0] (tCod 3 cInt (tSl 0 0 tNil)) (rL_face rNil)) (ocOr (ocExit 0 (sc 16 [] tNil rNil)) (ocRet (sc 16 [2] (tCod 2 cBool tNil) rNil))) (runBy someStep someM)) (loopAt Tryz.f78 2) := by
  refine loop_ok EnvOK.nil (LFn.at (fn := Tryz.f78) LFn.nil 2) someStep (n := 200) (fun x z h => ?_) (runBy_ok _ _)
  obtain ⟨⟨t3, ⟨⟩⟩, ⟨r0, ⟨⟩⟩⟩ := x
  rw [tl_meniscushand_some_2]
  rw [← h]
  simp only [den_br, den_bind, den_ret, den_fail, den_inl, den_inr, decide_eq_true_eq, gt_iff_lt, ge_iff_le, beq_iff_eq]
  simp only [someStep]
  by_cases h0 : t3 < (r0.length : Int) <;> simp only [h0, if_true, if_false]
  by_cases h1 : 0 ≤ t3 <;> simp only [h1, if_true, if_false, and_self, false_and, true_and]
  cases hg : r0[t3.toNat]? with
  | none => rfl
  | some a =>
    simp only [den_get, den_br, den_bind, den_ret, den_fail]
    cases a.stop <;> simp
theorem t_meniscushand_some (r0 : List Face) :
    evFn Tryz.prog Env.nil (Laws.add 2 (LoopR.of (sc 16 [3, 0] (tCod 3 cInt (tSl 0 0 tNil)) (rL_face rNil)) (ocOr (ocExit 0 (sc 16 [] tNil rNil)) (ocRet (sc 16 [2] (tCod 2 cBool tNil) rNil))) (runBy someStep someM)) Laws.nil) 200 Tryz.f78 (((sc 1 [0] (tSl 0 0 tNil) (rL_face rNil)).enc ((()), (r0, ()))).tmps.map Prod.snd) ((sc 1 [0] (tSl 0 0 tNil) (rL_face rNil)).enc ((()), (r0, ()))).mem cBool.dec =
      .get (runBy someStep someM ((0, ()), r0, ())) fun vy0 => .sum (vy0) (fun vs1 => .ret (false)) (fun vs2 => .ret (vs2.1.1)) := by kernel_rfl
theorem c_meniscushand_some : PlainS Tryz.prog 78 (sc 1 [0] (tSl 0 0 tNil) (rL_face rNil)) cBool ((fun x => lenOk x.2.1)) ((fun x => someFace x.2.1)) := by
  intro x h N w vs hM hv
  obtain ⟨⟨⟩, ⟨r0, ⟨⟩⟩⟩ := x
  refine calls_of_tree (n := 200) EnvOK.nil Tryz.func78 hv (Nat.le_of_ble_eq_true (by kernel_rfl)) (LFn.add (fn := Tryz.f78) (i := 2) (by kernel_rfl) ok_meniscushand_some_2 LFn.nil) hM cBool ?_
  rw [t_meniscushand_some]
  simp only at h
  obtain ⟨y, hy, _⟩ := some_total r0 (lenOk_iff.1 h)
  simp only [someFace, hy]
  rcases y with y | y <;> rfl
theorem s_meniscushand_some : Ev.Spec Tryz.prog 78 (FS (sc 1 [0] (tSl 0 0 tNil) (rL_face rNil)) cBool ((fun x => lenOk x.2.1)) ((fun x => someFace x.2.1))) := specS rfl (fun vs w => Tryz.call78 vs w) c_meniscushand_some

/-! meniscusref8.RightLens -/
theorem tl_meniscusref8_RightLens_5 (t5 : Bool) (t6 : Int) (r0a : ByteArray × Dec) (r0b : Unit) (r1 : List Glass) (r2 : List Face) :
    ev Tryz.prog (Env.add 114 (F1p cStr cBool ((fun s => decide (s.size ≤ 1048576))) isWord) (Env.add 115 (F1 cDec cBool printable) (Env.add 116 (F1 cDec cBool ((fun d => decide (0 < d.c)))) (Env.add 117 (FS (sc 2 [0, 1] (tCod 0 cFace (tSl 1 0 tNil)) (rL_glass rNil)) cBool ((fun x => lenOk x.2.1 && wd x.1.1.glass)) ((fun x => rightFace x.1.1 x.2.1))) Env.nil)))) Laws.nil 200 none (loopAt Tryz.f79 5) ((sc 55 [5, 6, 2, 1] (tCod 5 cBool (tCod 6 cInt (tOwn 2 0 (tSl 1 1 tNil)))) (rBoxA 2 (ccTwo ccStr ccDec) (ccTwo_ok ccStr_ok ccDec_ok) ccNil ccNil_ok (rL_glass (rL_face rNil)))).enc ((t5, t6, ()), (r0a, r0b, r1, r2, ()))) (backK (sc 55 [5, 6, 2, 1] (tCod 5 cBool (tCod 6 cInt (tOwn 2 0 (tSl 1 1 tNil)))) (rBoxA 2 (ccTwo ccStr ccDec) (ccTwo_ok ccStr_ok ccDec_ok) ccNil ccNil_ok (rL_glass (rL_face rNil)))) (ocOr (ocExit 0 (sc 55 [5] (tCod 5 cBool tNil) rNil)) (ocRet (sc 55 [4] (tCod 4 cBool tNil) rNil)))) =
      .br (decide (t6 < (@Nat.cast Int _ r2.length))) (.br (decide (0 ≤ t6 ∧ t6 < (@Nat.cast Int _ r2.length))) (.get (r2[t6.toNat]?) fun vt0 => .br (Ev.lenOk r1 && wd vt0.glass) (.bind (rightFace vt0 r1) fun vb1 => .br (!vb1) (.ret (Sum.inr (Sum.inr ((false, ()), ())))) (.br (t5) (.ret (Sum.inl ((true, IntKind.i64.wrap (t6 + 1), ()), r0a, (), r1, r2, ()))) (.br (decide (0 ≤ t6 ∧ t6 < (@Nat.cast Int _ r2.length))) (.get (r2[t6.toNat]?) fun vt2 => .ret (Sum.inl ((!vt2.stop, IntKind.i64.wrap (t6 + 1), ()), r0a, (), r1, r2, ()))) (.fail)))) (.fail)) (.fail)) (.ret (Sum.inr (Sum.inl ((t5, ()), ())))) := by kernel_rfl
theorem ok_meniscusref8_RightLens_5 : LOK Tryz.prog (LoopR.of (sc 55 [5, 6, 2, 1] (tCod 5 cBool (tCod 6 cInt (tOwn 2 0 (tSl 1 1 tNil)))) (rBoxA 2 (ccTwo ccStr ccDec) (ccTwo_ok ccStr_ok ccDec_ok) ccNil ccNil_ok (rL_glass (rL_face rNil)))) (ocOr (ocExit 0 (sc 55 [5] (tCod 5 cBool tNil) rNil)) (ocRet (sc 55 [4] (tCod 4 cBool tNil) rNil))) (runBy rlStep rlM)) (loopAt Tryz.f79 5) := by
  refine loop_ok (EnvOK.add s_meniscusref8_IsWord (EnvOK.add s_meniscusref8_printable (EnvOK.add s_meniscusref8_above (EnvOK.add s_meniscusref8_rightFace EnvOK.nil)))) (LFn.at (fn := Tryz.f79) LFn.nil 5) rlStep (n := 200) (fun x z h => ?_) (runBy_ok _ _)
  obtain ⟨⟨t5, t6, ⟨⟩⟩, ⟨r0a, r0b, r1, r2, ⟨⟩⟩⟩ := x
  rw [tl_meniscusref8_RightLens_5]
  rw [← h]
  simp only [den_br, den_bind, den_ret, den_fail, den_inl, den_inr, decide_eq_true_eq, gt_iff_lt, ge_iff_le, beq_iff_eq]
  simp only [rlStep]
  by_cases h0 : t6 < (r2.length : Int) <;> simp only [h0, if_true, if_false]
  by_cases h1 : 0 ≤ t6 <;> simp only [h1, if_true, if_false, and_self, false_and, true_and]
  cases hg : r2[t6.toNat]? with
  | none => rfl
  | some a =>
    simp only [den_get, den_br, den_bind, den_ret, den_fail, h0, h1, decide_true, and_self]
    cases (lenOk r1 && wd a.glass) <;> cases rightFace a r1 <;> cases t5 <;> simp
theorem t_meniscusref8_RightLens (t0a : ByteArray × Dec) (t0b : Unit) (r0 : List Face) (r1 : List Glass) :
    evFn Tryz.prog (Env.add 114 (F1p cStr cBool ((fun s => decide (s.size ≤ 1048576))) isWord) (Env.add 115 (F1 cDec cBool printable) (Env.add 116 (F1 cDec cBool ((fun d => decide (0 < d.c)))) (Env.add 117 (FS (sc 2 [0, 1] (tCod 0 cFace (tSl 1 0 tNil)) (rL_glass rNil)) cBool ((fun x => lenOk x.2.1 && wd x.1.1.glass)) ((fun x => rightFace x.1.1 x.2.1))) Env.nil)))) (Laws.add 5 (LoopR.of (sc 55 [5, 6, 2, 1] (tCod 5 cBool (tCod 6 cInt (tOwn 2 0 (tSl 1 1 tNil)))) (rBoxA 2 (ccTwo ccStr ccDec) (ccTwo_ok ccStr_ok ccDec_ok) ccNil ccNil_ok (rL_glass (rL_face rNil)))) (ocOr (ocExit 0 (sc 55 [5] (tCod 5 cBool tNil) rNil)) (ocRet (sc 55 [4] (tCod 4 cBool tNil) rNil))) (runBy rlStep rlM)) Laws.nil) 200 Tryz.f79 (((sc 2 [0, 1] (tAgg 0 0 (ccTwo ccStr ccDec) (ccTwo_ok ccStr_ok ccDec_ok) ccNil ccNil_ok (tSl 1 1 tNil)) (rL_face (rL_glass rNil))).enc ((t0a, t0b, ()), (r0, r1, ()))).tmps.map Prod.snd) ((sc 2 [0, 1] (tAgg 0 0 (ccTwo ccStr ccDec) (ccTwo_ok ccStr_ok ccDec_ok) ccNil ccNil_ok (tSl 1 1 tNil)) (rL_face (rL_glass rNil))).enc ((t0a, t0b, ()), (r0, r1, ()))).mem cBool.dec =
      .br (decide (t0a.1.size ≤ 1048576)) (.bind (isWord t0a.1) fun vb0 => .br (!vb0) (.ret (false)) (.bind (printable t0a.2) fun vb1 => .br (!vb1) (.ret (false)) (.bind (decide (0 < t0a.2.c)) fun vb2 => .br (!vb2) (.ret (false)) (.br (decide ((@Nat.cast Int _ r0.length) > 12)) (.ret (false)) (.get (runBy rlStep rlM ((false, 0, ()), t0a, (), r1, r0, ())) fun vy3 => .sum (vy3) (fun vs4 => .ret (vs4.1.1)) (fun vs5 => .ret (vs5.1.1))))))) (.fail) := by kernel_rfl
theorem c_meniscusref8_RightLens : PlainS Tryz.prog 79 (sc 2 [0, 1] (tAgg 0 0 (ccTwo ccStr ccDec) (ccTwo_ok ccStr_ok ccDec_ok) ccNil ccNil_ok (tSl 1 1 tNil)) (rL_face (rL_glass rNil))) cBool ((fun x => lensOk (x.1.1, x.2.1) x.2.2.1)) ((fun x => rightLens (x.1.1, x.2.1) x.2.2.1)) := by
  intro x h N w vs hM hv
  obtain ⟨⟨t0a, t0b, ⟨⟩⟩, ⟨r0, r1, ⟨⟩⟩⟩ := x
  refine calls_of_tree (n := 200) (EnvOK.add s_meniscusref8_IsWord (EnvOK.add s_meniscusref8_printable (EnvOK.add s_meniscusref8_above (EnvOK.add s_meniscusref8_rightFace EnvOK.nil)))) Tryz.func79 hv (Nat.le_of_ble_eq_true (by kernel_rfl)) (LFn.add (fn := Tryz.f79) (i := 5) (by kernel_rfl) ok_meniscusref8_RightLens_5 LFn.nil) hM cBool ?_
  rw [t_meniscusref8_RightLens]
  simp only [den_br, den_bind, den_ret, den_fail, den_inl, den_inr, decide_eq_true_eq, gt_iff_lt, ge_iff_le, beq_iff_eq]
  have h' := h
  simp only [lensOk, Bool.and_eq_true] at h'
  obtain ⟨k1, k2, k3, k4⟩ := h'
  have hs : ByteArray.size t0a.1 ≤ 1048576 := by simp [wd] at k1; omega
  obtain ⟨y, hy, _⟩ := rl_total t0a r1 r0 k4 k2 (lenOk_iff.1 k3)
  simp only [hs, if_true, rightLens, hy]
  cases isWord t0a.1
  · simp
  cases printable t0a.2
  · simp
  by_cases h2 : 0 < t0a.2.c
  case neg => simp [h2]
  by_cases h3 : 12 < (r0.length : Int)
  case pos =>
    have h3' : ¬ (r0.length : Int) ≤ 12 := by omega
    simp only [h2, h3, h3', and_false, if_false, if_true, decide_true, Bool.not_true, Bool.false_eq_true]
  have h3' : (r0.length : Int) ≤ 12 := by omega
  simp only [h2, h3, h3', and_self, if_false, if_true, decide_true, Bool.not_true, Bool.false_eq_true, den_get]
  rcases y with y | y <;> rfl
theorem s_meniscusref8_RightLens : Ev.Spec Tryz.prog 79 (FS (sc 2 [0, 1] (tAgg 0 0 (ccTwo ccStr ccDec) (ccTwo_ok ccStr_ok ccDec_ok) ccNil ccNil_ok (tSl 1 1 tNil)) (rL_face (rL_glass rNil))) cBool ((fun x => lensOk (x.1.1, x.2.1) x.2.2.1)) ((fun x => rightLens (x.1.1, x.2.1) x.2.2.1))) := specS rfl (fun vs w => Tryz.call79 vs w) c_meniscusref8_RightLens

/-! meniscusref8.RightSystem -/
theorem tl_meniscusref8_RightSystem_2 (t3 : Int) (r0 : Iv) (r1 : List Surf) :
    ev Tryz.prog (Env.add 123 (F1 cIv cBool Iv.right) Env.nil) Laws.nil 200 none (loopAt Tryz.f88 2) ((sc 60 [3, 1] (tCod 3 cInt (tOwn 1 0 tNil)) (rBoxSl 1 ccIv ccIv_ok (rL_surf rNil))).enc ((t3, ()), (r0, r1, ()))) (backK (sc 60 [3, 1] (tCod 3 cInt (tOwn 1 0 tNil)) (rBoxSl 1 ccIv ccIv_ok (rL_surf rNil))) (ocOr (ocExit 0 (sc 60 [1] (tOwn 1 0 tNil) (rBoxSl 1 ccIv ccIv_ok (rL_surf rNil)))) (ocRet (sc 60 [2] (tCod 2 cBool tNil) rNil)))) =
      .br (decide (t3 < (@Nat.cast Int _ r1.length))) (.br (decide (0 ≤ t3 ∧ t3 < (@Nat.cast Int _ r1.length))) (.get (r1[t3.toNat]?) fun vt0 => .bind (vt0.curve.right) fun vb1 => .br (!vb1) (.ret (Sum.inr (Sum.inr ((false, ()), ())))) (.bind (vt0.conic.right) fun vb2 => .br (!vb2) (.ret (Sum.inr (Sum.inr ((false, ()), ())))) (.bind (vt0.a4.right) fun vb3 => .br (!vb3) (.ret (Sum.inr (Sum.inr ((false, ()), ())))) (.bind (vt0.a6.right) fun vb4 => .br (!vb4) (.ret (Sum.inr (Sum.inr ((false, ()), ())))) (.bind (vt0.at_.right) fun vb5 => .br (!vb5) (.ret (Sum.inr (Sum.inr ((false, ()), ())))) (.bind (vt0.open2.right) fun vb6 => .br (!vb6) (.ret (Sum.inr (Sum.inr ((false, ()), ())))) (.bind (vt0.ratio.right) fun vb7 => .br (!vb7) (.ret (Sum.inr (Sum.inr ((false, ()), ())))) (.ret (Sum.inl ((IntKind.i64.wrap (t3 + 1), ()), r0, r1, ())))))))))) (.fail)) (.ret (Sum.inr (Sum.inl ((), r0, r1, ())))) := by kernel_rfl
theorem ok_meniscusref8_RightSystem_2 : LOK Tryz.prog (LoopR.of (sc 60 [3, 1] (tCod 3 cInt (tOwn 1 0 tNil)) (rBoxSl 1 ccIv ccIv_ok (rL_surf rNil))) (ocOr (ocExit 0 (sc 60 [1] (tOwn 1 0 tNil) (rBoxSl 1 ccIv ccIv_ok (rL_surf rNil)))) (ocRet (sc 60 [2] (tCod 2 cBool tNil) rNil))) (runBy rsStep rsM)) (loopAt Tryz.f88 2) := by
  refine loop_ok (EnvOK.add s_meniscusref1_Right EnvOK.nil) (LFn.at (fn := Tryz.f88) LFn.nil 2) rsStep (n := 200) (fun x z h => ?_) (runBy_ok _ _)
  obtain ⟨⟨t3, ⟨⟩⟩, ⟨r0, r1, ⟨⟩⟩⟩ := x
  rw [tl_meniscusref8_RightSystem_2]
  rw [← h]
  simp only [den_br, den_bind, den_ret, den_fail, den_inl, den_inr, decide_eq_true_eq, gt_iff_lt, ge_iff_le, beq_iff_eq]
  simp only [rsStep]
  by_cases h0 : t3 < (r1.length : Int) <;> simp only [h0, if_true, if_false]
  by_cases h1 : 0 ≤ t3 <;> simp only [h1, if_true, if_false, and_self, false_and, true_and]
  cases hg : r1[t3.toNat]? with
  | none => rfl
  | some a =>
    simp only [den_get, den_br, den_bind, den_ret, den_fail, surfRight]
    by_cases c1 : a.curve.right = true <;> by_cases c2 : a.conic.right = true <;> by_cases c3 : a.a4.right = true <;> by_cases c4 : a.a6.right = true <;> by_cases c5 : a.at_.right = true <;> by_cases c6 : a.open2.right = true <;> by_cases c7 : a.ratio.right = true <;> simp [c1, c2, c3, c4, c5, c6, c7]
theorem t_meniscusref8_RightSystem (t0a : Unit) (t0b : Iv) (r0 : List Surf) :
    evFn Tryz.prog (Env.add 123 (F1 cIv cBool Iv.right) Env.nil) (Laws.add 2 (LoopR.of (sc 60 [3, 1] (tCod 3 cInt (tOwn 1 0 tNil)) (rBoxSl 1 ccIv ccIv_ok (rL_surf rNil))) (ocOr (ocExit 0 (sc 60 [1] (tOwn 1 0 tNil) (rBoxSl 1 ccIv ccIv_ok (rL_surf rNil)))) (ocRet (sc 60 [2] (tCod 2 cBool tNil) rNil))) (runBy rsStep rsM)) Laws.nil) 200 Tryz.f88 (((sc 1 [0] (tAgg 0 0 ccNil ccNil_ok ccIv ccIv_ok tNil) (rL_surf rNil)).enc ((t0a, t0b, ()), (r0, ()))).tmps.map Prod.snd) ((sc 1 [0] (tAgg 0 0 ccNil ccNil_ok ccIv ccIv_ok tNil) (rL_surf rNil)).enc ((t0a, t0b, ()), (r0, ()))).mem cBool.dec =
      .get (runBy rsStep rsM ((0, ()), t0b, r0, ())) fun vy0 => .sum (vy0) (fun vs1 => .bind (vs1.2.1.right) fun vb2 => .ret (vb2)) (fun vs3 => .ret (vs3.1.1)) := by kernel_rfl
theorem c_meniscusref8_RightSystem : PlainS Tryz.prog 88 (sc 1 [0] (tAgg 0 0 ccNil ccNil_ok ccIv ccIv_ok tNil) (rL_surf rNil)) cBool ((fun x => lenOk x.2.1)) ((fun x => rightSystem x.1.2.1 x.2.1)) := by
  intro x h N w vs hM hv
  obtain ⟨⟨t0a, t0b, ⟨⟩⟩, ⟨r0, ⟨⟩⟩⟩ := x
  refine calls_of_tree (n := 200) (EnvOK.add s_meniscusref1_Right EnvOK.nil) Tryz.func88 hv (Nat.le_of_ble_eq_true (by kernel_rfl)) (LFn.add (fn := Tryz.f88) (i := 2) (by kernel_rfl) ok_meniscusref8_RightSystem_2 LFn.nil) hM cBool ?_
  rw [t_meniscusref8_RightSystem]
  simp only at h
  obtain ⟨y, hy, _⟩ := rs_total t0b r0 (lenOk_iff.1 h)
  simp only [rightSystem, hy]
  rcases y with y | y <;> rfl
theorem s_meniscusref8_RightSystem : Ev.Spec Tryz.prog 88 (FS (sc 1 [0] (tAgg 0 0 ccNil ccNil_ok ccIv ccIv_ok tNil) (rL_surf rNil)) cBool ((fun x => lenOk x.2.1)) ((fun x => rightSystem x.1.2.1 x.2.1))) := specS rfl (fun vs w => Tryz.call88 vs w) c_meniscusref8_RightSystem

/-! meniscusref8.Build -/
theorem tl_meniscusref8_Build_8 (t12 : Int) (r0a : ByteArray × Dec) (r0b : Unit) (r1 : Iv) (r2 : Iv) (r3 : Iv) (r4 : Iv) (r5 : Iv) (r6 : Iv) (r7 : List Glass) (r8 : List Face) (r9 : List Surf) (r10 : List Surf) :
    ev Tryz.prog (Env.add 79 (FS (sc 2 [0, 1] (tAgg 0 0 (ccTwo ccStr ccDec) (ccTwo_ok ccStr_ok ccDec_ok) ccNil ccNil_ok (tSl 1 1 tNil)) (rL_face (rL_glass rNil))) cBool ((fun x => lensOk (x.1.1, x.2.1) x.2.2.1)) ((fun x => rightLens (x.1.1, x.2.1) x.2.2.1))) (Env.add 80 (F1 cInt cIv Iv.point) (Env.add 81 (F1 cDec cIv decIv) (Env.add 82 (F1 cDec cBool decZero) (Env.add 83 (F2 cIv cIv cIv Iv.add) (Env.add 84 (F1 cIv cIv Iv.sqr) (Env.add 85 (F2 cIv cIv cIv Iv.div) (Env.add 86 (FS (sc 2 [0, 1] (tSl 0 0 (tCod 1 cStr tNil)) (rL_glass rNil)) (cTwo cGlass cBool) (fun x => lenOk x.2.1) ((fun x => findGlass x.2.1 x.1.1))) (Env.add 87 (F2 cGlass cIv cIv index) (Env.add 88 (FS (sc 1 [0] (tAgg 0 0 ccNil ccNil_ok ccIv ccIv_ok tNil) (rL_surf rNil)) cBool ((fun x => lenOk x.2.1)) ((fun x => rightSystem x.1.2.1 x.2.1))) Env.nil)))))))))) Laws.nil 200 none (loopAt Tryz.f36 8) ((sc 126 [12, 3, 5, 8, 9, 10, 11, 6, 1] (tCod 12 cInt (tOwn 3 0 (tOwn 5 1 (tOwn 8 2 (tOwn 9 3 (tOwn 10 4 (tOwn 11 5 (tOwn 6 6 (tSl 1 7 tNil))))))))) (rBoxA 8 (ccTwo ccStr ccDec) (ccTwo_ok ccStr_ok ccDec_ok) ccNil ccNil_ok (rBox ccIv ccIv_ok (rBox ccIv ccIv_ok (rBoxSl 9 ccIv ccIv_ok (rBox ccIv ccIv_ok (rBox ccIv ccIv_ok (rBoxSl 10 ccIv ccIv_ok (rL_glass (rL_face (rG_surf 38 (rL_surf rNil)))))))))))).enc ((t12, ()), (r0a, r0b, r1, r2, r3, r4, r5, r6, r7, r8, r9, r10, ()))) (backK (sc 126 [12, 3, 5, 8, 9, 10, 11, 6, 1] (tCod 12 cInt (tOwn 3 0 (tOwn 5 1 (tOwn 8 2 (tOwn 9 3 (tOwn 10 4 (tOwn 11 5 (tOwn 6 6 (tSl 1 7 tNil))))))))) (rBoxA 8 (ccTwo ccStr ccDec) (ccTwo_ok ccStr_ok ccDec_ok) ccNil ccNil_ok (rBox ccIv ccIv_ok (rBox ccIv ccIv_ok (rBoxSl 9 ccIv ccIv_ok (rBox ccIv ccIv_ok (rBox ccIv ccIv_ok (rBoxSl 10 ccIv ccIv_ok (rL_glass (rL_face (rG_surf 38 (rL_surf rNil)))))))))))) (ocExit 0 (sc 126 [9, 6] (tOwn 9 0 (tOwn 6 1 tNil)) (rBoxSl 2 ccIv ccIv_ok (rBoxSl 3 ccIv ccIv_ok (rG_surf 38 (rL_surf rNil))))))) =
      .br (decide (t12 < (@Nat.cast Int _ r8.length))) (.br (decide (0 ≤ t12 ∧ t12 < (@Nat.cast Int _ r8.length))) (.get (r8[t12.toNat]?) fun vt0 => .bind (decZero vt0.a4) fun vb1 => .br (!vb1) (.bind (Iv.point 0) fun viv2 => .bind (decIv vt0.conic) fun viv3 => .bind (r2.add viv3) fun viv4 => .bind (decIv vt0.a4) fun viv5 => .bind (decIv vt0.a6) fun viv6 => .bind (decIv vt0.aperture) fun viv7 => .bind (viv7.sqr) fun viv8 => .br (vt0.radius.c != 0) (.bind (decIv vt0.radius) fun viv9 => .bind (r2.div viv9) fun viv10 => .br (!vt0.stop) (.br (!Ev.strEq vt0.glass (ByteArray.mk #[97, 105, 114])) (.br (Ev.lenOk r7) (.bind (findGlass r7 vt0.glass) fun vy11 => .bind (index vy11.1 r1) fun viv12 => .bind (r5.div viv12) fun viv13 => .bind (decIv vt0.thick) fun viv14 => .bind (r4.add viv14) fun viv15 => .br (Ev.lenOk (r9 ++ [Surf.mk vt0.stop true viv10 viv4 viv5 viv6 r4 viv8 viv13])) (.ret (Sum.inl ((IntKind.i64.wrap (t12 + 1), ()), r0a, (), r1, r2, r3, viv15, viv12, r6, r7, r8, r9 ++ [Surf.mk vt0.stop true viv10 viv4 viv5 viv6 r4 viv8 viv13], r10, ()))) (.fail)) (.fail)) (.bind (r5.div r2) fun viv16 => .bind (decIv vt0.thick) fun viv17 => .bind (r4.add viv17) fun viv18 => .br (Ev.lenOk (r9 ++ [Surf.mk vt0.stop true viv10 viv4 viv5 viv6 r4 viv8 viv16])) (.ret (Sum.inl ((IntKind.i64.wrap (t12 + 1), ()), r0a, (), r1, r2, r3, viv18, r2, r6, r7, r8, r9 ++ [Surf.mk vt0.stop true viv10 viv4 viv5 viv6 r4 viv8 viv16], r10, ()))) (.fail))) (.bind (decIv vt0.thick) fun viv19 => .bind (r4.add viv19) fun viv20 => .br (Ev.lenOk (r9 ++ [Surf.mk vt0.stop true viv10 viv4 viv5 viv6 r4 viv8 r2])) (.ret (Sum.inl ((IntKind.i64.wrap (t12 + 1), ()), r0a, (), r1, r2, r3, viv20, r5, r6, r7, r8, r9 ++ [Surf.mk vt0.stop true viv10 viv4 viv5 viv6 r4 viv8 r2], r10, ()))) (.fail))) (.br (!vt0.stop) (.br (!Ev.strEq vt0.glass (ByteArray.mk #[97, 105, 114])) (.br (Ev.lenOk r7) (.bind (findGlass r7 vt0.glass) fun vy21 => .bind (index vy21.1 r1) fun viv22 => .bind (r5.div viv22) fun viv23 => .bind (decIv vt0.thick) fun viv24 => .bind (r4.add viv24) fun viv25 => .br (Ev.lenOk (r9 ++ [Surf.mk vt0.stop true viv2 viv4 viv5 viv6 r4 viv8 viv23])) (.ret (Sum.inl ((IntKind.i64.wrap (t12 + 1), ()), r0a, (), r1, r2, r3, viv25, viv22, r6, r7, r8, r9 ++ [Surf.mk vt0.stop true viv2 viv4 viv5 viv6 r4 viv8 viv23], r10, ()))) (.fail)) (.fail)) (.bind (r5.div r2) fun viv26 => .bind (decIv vt0.thick) fun viv27 => .bind (r4.add viv27) fun viv28 => .br (Ev.lenOk (r9 ++ [Surf.mk vt0.stop true viv2 viv4 viv5 viv6 r4 viv8 viv26])) (.ret (Sum.inl ((IntKind.i64.wrap (t12 + 1), ()), r0a, (), r1, r2, r3, viv28, r2, r6, r7, r8, r9 ++ [Surf.mk vt0.stop true viv2 viv4 viv5 viv6 r4 viv8 viv26], r10, ()))) (.fail))) (.bind (decIv vt0.thick) fun viv29 => .bind (r4.add viv29) fun viv30 => .br (Ev.lenOk (r9 ++ [Surf.mk vt0.stop true viv2 viv4 viv5 viv6 r4 viv8 r2])) (.ret (Sum.inl ((IntKind.i64.wrap (t12 + 1), ()), r0a, (), r1, r2, r3, viv30, r5, r6, r7, r8, r9 ++ [Surf.mk vt0.stop true viv2 viv4 viv5 viv6 r4 viv8 r2], r10, ()))) (.fail)))) (.bind (decZero vt0.a6) fun vb31 => .bind (Iv.point 0) fun viv32 => .bind (decIv vt0.conic) fun viv33 => .bind (r2.add viv33) fun viv34 => .bind (decIv vt0.a4) fun viv35 => .bind (decIv vt0.a6) fun viv36 => .bind (decIv vt0.aperture) fun viv37 => .bind (viv37.sqr) fun viv38 => .br (vt0.radius.c != 0) (.bind (decIv vt0.radius) fun viv39 => .bind (r2.div viv39) fun viv40 => .br (!vt0.stop) (.br (!Ev.strEq vt0.glass (ByteArray.mk #[97, 105, 114])) (.br (Ev.lenOk r7) (.bind (findGlass r7 vt0.glass) fun vy41 => .bind (index vy41.1 r1) fun viv42 => .bind (r5.div viv42) fun viv43 => .bind (decIv vt0.thick) fun viv44 => .bind (r4.add viv44) fun viv45 => .br (Ev.lenOk (r9 ++ [Surf.mk vt0.stop (!vb31) viv40 viv34 viv35 viv36 r4 viv38 viv43])) (.ret (Sum.inl ((IntKind.i64.wrap (t12 + 1), ()), r0a, (), r1, r2, r3, viv45, viv42, r6, r7, r8, r9 ++ [Surf.mk vt0.stop (!vb31) viv40 viv34 viv35 viv36 r4 viv38 viv43], r10, ()))) (.fail)) (.fail)) (.bind (r5.div r2) fun viv46 => .bind (decIv vt0.thick) fun viv47 => .bind (r4.add viv47) fun viv48 => .br (Ev.lenOk (r9 ++ [Surf.mk vt0.stop (!vb31) viv40 viv34 viv35 viv36 r4 viv38 viv46])) (.ret (Sum.inl ((IntKind.i64.wrap (t12 + 1), ()), r0a, (), r1, r2, r3, viv48, r2, r6, r7, r8, r9 ++ [Surf.mk vt0.stop (!vb31) viv40 viv34 viv35 viv36 r4 viv38 viv46], r10, ()))) (.fail))) (.bind (decIv vt0.thick) fun viv49 => .bind (r4.add viv49) fun viv50 => .br (Ev.lenOk (r9 ++ [Surf.mk vt0.stop (!vb31) viv40 viv34 viv35 viv36 r4 viv38 r2])) (.ret (Sum.inl ((IntKind.i64.wrap (t12 + 1), ()), r0a, (), r1, r2, r3, viv50, r5, r6, r7, r8, r9 ++ [Surf.mk vt0.stop (!vb31) viv40 viv34 viv35 viv36 r4 viv38 r2], r10, ()))) (.fail))) (.br (!vt0.stop) (.br (!Ev.strEq vt0.glass (ByteArray.mk #[97, 105, 114])) (.br (Ev.lenOk r7) (.bind (findGlass r7 vt0.glass) fun vy51 => .bind (index vy51.1 r1) fun viv52 => .bind (r5.div viv52) fun viv53 => .bind (decIv vt0.thick) fun viv54 => .bind (r4.add viv54) fun viv55 => .br (Ev.lenOk (r9 ++ [Surf.mk vt0.stop (!vb31) viv32 viv34 viv35 viv36 r4 viv38 viv53])) (.ret (Sum.inl ((IntKind.i64.wrap (t12 + 1), ()), r0a, (), r1, r2, r3, viv55, viv52, r6, r7, r8, r9 ++ [Surf.mk vt0.stop (!vb31) viv32 viv34 viv35 viv36 r4 viv38 viv53], r10, ()))) (.fail)) (.fail)) (.bind (r5.div r2) fun viv56 => .bind (decIv vt0.thick) fun viv57 => .bind (r4.add viv57) fun viv58 => .br (Ev.lenOk (r9 ++ [Surf.mk vt0.stop (!vb31) viv32 viv34 viv35 viv36 r4 viv38 viv56])) (.ret (Sum.inl ((IntKind.i64.wrap (t12 + 1), ()), r0a, (), r1, r2, r3, viv58, r2, r6, r7, r8, r9 ++ [Surf.mk vt0.stop (!vb31) viv32 viv34 viv35 viv36 r4 viv38 viv56], r10, ()))) (.fail))) (.bind (decIv vt0.thick) fun viv59 => .bind (r4.add viv59) fun viv60 => .br (Ev.lenOk (r9 ++ [Surf.mk vt0.stop (!vb31) viv32 viv34 viv35 viv36 r4 viv38 r2])) (.ret (Sum.inl ((IntKind.i64.wrap (t12 + 1), ()), r0a, (), r1, r2, r3, viv60, r5, r6, r7, r8, r9 ++ [Surf.mk vt0.stop (!vb31) viv32 viv34 viv35 viv36 r4 viv38 r2], r10, ()))) (.fail))))) (.fail)) (.ret (Sum.inr ((), r3, r6, r9, r10, ()))) := by kernel_rfl
theorem ok_meniscusref8_Build_8 : LOK Tryz.prog (LoopR.of (sc 126 [12, 3, 5, 8, 9, 10, 11, 6, 1] (tCod 12 cInt (tOwn 3 0 (tOwn 5 1 (tOwn 8 2 (tOwn 9 3 (tOwn 10 4 (tOwn 11 5 (tOwn 6 6 (tSl 1 7 tNil))))))))) (rBoxA 8 (ccTwo ccStr ccDec) (ccTwo_ok ccStr_ok ccDec_ok) ccNil ccNil_ok (rBox ccIv ccIv_ok (rBox ccIv ccIv_ok (rBoxSl 9 ccIv ccIv_ok (rBox ccIv ccIv_ok (rBox ccIv ccIv_ok (rBoxSl 10 ccIv ccIv_ok (rL_glass (rL_face (rG_surf 38 (rL_surf rNil)))))))))))) (ocExit 0 (sc 126 [9, 6] (tOwn 9 0 (tOwn 6 1 tNil)) (rBoxSl 2 ccIv ccIv_ok (rBoxSl 3 ccIv ccIv_ok (rG_surf 38 (rL_surf rNil)))))) (runBy buildStep buildM)) (loopAt Tryz.f36 8) := by
  refine loop_ok (EnvOK.add s_meniscusref8_RightLens (EnvOK.add s_meniscusref1_Point (EnvOK.add s_meniscusref8_DecIv (EnvOK.add s_meniscusref8_zero (EnvOK.add s_meniscusref1_Add (EnvOK.add s_meniscusref1_Sqr (EnvOK.add s_meniscusref1_DivIv (EnvOK.add s_meniscusref8_FindGlass (EnvOK.add s_meniscusref8_Index (EnvOK.add s_meniscusref8_RightSystem EnvOK.nil)))))))))) (LFn.at (fn := Tryz.f36) LFn.nil 8) buildStep (n := 200) (fun x z h => ?_) (runBy_ok _ _)
  obtain ⟨⟨t12, ⟨⟩⟩, ⟨r0a, r0b, r1, r2, r3, r4, r5, r6, r7, r8, r9, r10, ⟨⟩⟩⟩ := x
  rw [tl_meniscusref8_Build_8]
  by_cases h0 : t12 < (r8.length : Int)
  case neg =>
    rw [← h]
    simp only [den_br, den_ret, decide_eq_true_eq, buildStep, h0, if_false]
  by_cases h1 : 0 ≤ t12
  case neg => simp [buildStep, h0, h1] at h
  cases hg : r8[t12.toNat]? with
  | none => exact absurd h (by simp only [buildStep, if_pos h0, if_pos (And.intro h1 h0), hg]; intro e; cases e)
  | some a =>
    by_cases hl : lenOk r7 = true
    case neg => simp [buildStep, h0, h1, hg, hl] at h
    rw [← h]
    simp only [buildStep, buildSurf, h0, h1, hg, hl, and_self, if_true, den_br, den_bind, den_ret, den_get, den_fail, decide_eq_true_eq]
    rw [show (⟨#[97, 105, 114]⟩ : ByteArray) = sAir from rfl]
    by_cases hr : a.radius.c = 0
    · have hr' : (a.radius.c != 0) = false := by simp [hr]
      cases hs : a.stop <;> cases decZero a.a4 <;> cases strEq a.glass sAir <;> simp only [hr, hr', bne_self_eq_false, Bool.not_true, Bool.not_false, Bool.false_eq_true, if_true, if_false, Bool.true_or, Bool.false_or]
    · have hr' : (a.radius.c != 0) = true := by simp [hr]
      cases hs : a.stop <;> cases decZero a.a4 <;> cases strEq a.glass sAir <;> simp only [hr, hr', bne_self_eq_false, Bool.not_true, Bool.not_false, Bool.false_eq_true, if_true, if_false, Bool.true_or, Bool.false_or]
theorem t_meniscusref8_Build (t0a : ByteArray × Dec) (t0b : Unit) (t2 : Iv) (r0 : List Face) (r1 : List Glass) :
    evFnR Tryz.prog (Env.add 79 (FS (sc 2 [0, 1] (tAgg 0 0 (ccTwo ccStr ccDec) (ccTwo_ok ccStr_ok ccDec_ok) ccNil ccNil_ok (tSl 1 1 tNil)) (rL_face (rL_glass rNil))) cBool ((fun x => lensOk (x.1.1, x.2.1) x.2.2.1)) ((fun x => rightLens (x.1.1, x.2.1) x.2.2.1))) (Env.add 80 (F1 cInt cIv Iv.point) (Env.add 81 (F1 cDec cIv decIv) (Env.add 82 (F1 cDec cBool decZero) (Env.add 83 (F2 cIv cIv cIv Iv.add) (Env.add 84 (F1 cIv cIv Iv.sqr) (Env.add 85 (F2 cIv cIv cIv Iv.div) (Env.add 86 (FS (sc 2 [0, 1] (tSl 0 0 (tCod 1 cStr tNil)) (rL_glass rNil)) (cTwo cGlass cBool) (fun x => lenOk x.2.1) ((fun x => findGlass x.2.1 x.1.1))) (Env.add 87 (F2 cGlass cIv cIv index) (Env.add 88 (FS (sc 1 [0] (tAgg 0 0 ccNil ccNil_ok ccIv ccIv_ok tNil) (rL_surf rNil)) cBool ((fun x => lenOk x.2.1)) ((fun x => rightSystem x.1.2.1 x.2.1))) Env.nil)))))))))) (Laws.add 8 (LoopR.of (sc 126 [12, 3, 5, 8, 9, 10, 11, 6, 1] (tCod 12 cInt (tOwn 3 0 (tOwn 5 1 (tOwn 8 2 (tOwn 9 3 (tOwn 10 4 (tOwn 11 5 (tOwn 6 6 (tSl 1 7 tNil))))))))) (rBoxA 8 (ccTwo ccStr ccDec) (ccTwo_ok ccStr_ok ccDec_ok) ccNil ccNil_ok (rBox ccIv ccIv_ok (rBox ccIv ccIv_ok (rBoxSl 9 ccIv ccIv_ok (rBox ccIv ccIv_ok (rBox ccIv ccIv_ok (rBoxSl 10 ccIv ccIv_ok (rL_glass (rL_face (rG_surf 38 (rL_surf rNil)))))))))))) (ocExit 0 (sc 126 [9, 6] (tOwn 9 0 (tOwn 6 1 tNil)) (rBoxSl 2 ccIv ccIv_ok (rBoxSl 3 ccIv ccIv_ok (rG_surf 38 (rL_surf rNil)))))) (runBy buildStep buildM)) Laws.nil) 200 Tryz.f36 (((sc 3 [0, 1, 2] (tAgg 0 0 (ccTwo ccStr ccDec) (ccTwo_ok ccStr_ok ccDec_ok) ccNil ccNil_ok (tSl 1 1 (tCod 2 cIv tNil))) (rL_face (rL_glass rNil))).enc ((t0a, t0b, t2, ()), (r0, r1, ()))).tmps.map Prod.snd) ((sc 3 [0, 1, 2] (tAgg 0 0 (ccTwo ccStr ccDec) (ccTwo_ok ccStr_ok ccDec_ok) ccNil ccNil_ok (tSl 1 1 (tCod 2 cIv tNil))) (rL_face (rL_glass rNil))).enc ((t0a, t0b, t2, ()), (r0, r1, ()))).mem (sc 2 [0, 1] (tAgg 0 0 ccNil ccNil_ok ccIv ccIv_ok (tCod 1 cInt tNil)) (rG_surf 38 rNil)).ts (sc 2 [0, 1] (tAgg 0 0 ccNil ccNil_ok ccIv ccIv_ok (tCod 1 cInt tNil)) (rG_surf 38 rNil)).dec =
      .br (lensOk (t0a, r0) r1) (.bind (rightLens (t0a, r0) r1) fun vb0 => .br (!vb0) (.ret ((((), Iv.mk 0 0 false, 1, ()), [], ()))) (.bind (Iv.point 65536) fun viv1 => .br (decide ((0 : Int) ≤ 0 ∧ 0 < (@Nat.cast Int _ r0.length))) (.get (r0[Int.toNat 0]?) fun vt2 => .bind (decIv vt2.aperture) fun viv3 => .bind (decIv t0a.2) fun viv4 => .get (runBy buildStep buildM ((0, ()), t0a, (), t2, viv1, viv3, viv4, viv1, Iv.mk 0 0 false, r1, r0, [], [], ())) fun vy5 => .br (Ev.lenOk vy5.2.2.2.1) (.bind (rightSystem vy5.2.1 vy5.2.2.2.1) fun vb6 => .br (!vb6) (.ret ((((), Iv.mk 0 0 false, 6, ()), [], ()))) (.ret ((((), vy5.2.1, 0, ()), vy5.2.2.2.1, ())))) (.fail)) (.fail))) (.fail) := by kernel_rfl
theorem c_meniscusref8_Build : PlainR Tryz.prog 36 (sc 3 [0, 1, 2] (tAgg 0 0 (ccTwo ccStr ccDec) (ccTwo_ok ccStr_ok ccDec_ok) ccNil ccNil_ok (tSl 1 1 (tCod 2 cIv tNil))) (rL_face (rL_glass rNil))) (sc 2 [0, 1] (tAgg 0 0 ccNil ccNil_ok ccIv ccIv_ok (tCod 1 cInt tNil)) (rG_surf 38 rNil)) ((fun x => lensOk (x.1.1, x.2.1) x.2.2.1)) ((fun x => (fun r : SysV × Int => (((), r.1.1, r.2, ()), (r.1.2, ()))) (build (x.1.1, x.2.1) x.2.2.1 x.1.2.2.1))) := by
  intro x h N w vs hM hv
  obtain ⟨⟨t0a, t0b, t2, ⟨⟩⟩, ⟨r0, r1, ⟨⟩⟩⟩ := x
  refine calls_of_treeR (n := 200) (EnvOK.add s_meniscusref8_RightLens (EnvOK.add s_meniscusref1_Point (EnvOK.add s_meniscusref8_DecIv (EnvOK.add s_meniscusref8_zero (EnvOK.add s_meniscusref1_Add (EnvOK.add s_meniscusref1_Sqr (EnvOK.add s_meniscusref1_DivIv (EnvOK.add s_meniscusref8_FindGlass (EnvOK.add s_meniscusref8_Index (EnvOK.add s_meniscusref8_RightSystem EnvOK.nil)))))))))) Tryz.func36 hv (Nat.le_of_ble_eq_true (by kernel_rfl)) (LFn.add (fn := Tryz.f36) (i := 8) (by kernel_rfl) ok_meniscusref8_Build_8 LFn.nil) hM (sc 2 [0, 1] (tAgg 0 0 ccNil ccNil_ok ccIv ccIv_ok (tCod 1 cInt tNil)) (rG_surf 38 rNil)) rfl ?_
  rw [t_meniscusref8_Build]
  simp only [den_br, den_bind, den_ret, den_fail, den_inl, den_inr, decide_eq_true_eq, gt_iff_lt, ge_iff_le, beq_iff_eq]
  have h' := h
  simp only [lensOk, Bool.and_eq_true] at h'
  obtain ⟨k1, k2, k3, k4⟩ := h'
  simp only [h, if_true, build]
  cases hr : rightLens (t0a, r0) r1
  · simp only [Bool.not_false, if_true, Bool.false_eq_true, if_false]
  obtain ⟨n1, n2⟩ := rightLens_some h hr
  have n3 : (0 : Int) ≤ 0 ∧ 0 < (r0.length : Int) := by
    have : r0.length ≠ 0 := fun e => n1 (List.eq_nil_of_length_eq_zero e)
    omega
  obtain ⟨f, hf⟩ : ∃ f, r0[Int.toNat 0]? = some f := ⟨_, List.getElem?_eq_getElem (by simp; omega)⟩
  obtain ⟨y, hy, y1, y2⟩ := build_total t0a t2 (Iv.point 65536) (decIv f.aperture) (decIv t0a.2) (Iv.point 65536) ⟨0, 0, false⟩ r1 r0 [] k4 (by simp only at n2; omega)
  have hb : buildRun (t0a, r0) r1 t2 = (y.2.1, y.2.2.2.1) := by
    have hf' : r0[0]? = some f := hf
    simp only [buildRun, hf', Option.getD_some, hy]
  have y3 : lenOk y.2.2.2.1 = true := lenOk_iff.2 (by omega)
  simp only [Bool.not_true, Bool.false_eq_true, if_false, if_true, n3, and_self, hf, den_get, den_br, den_bind, den_ret, hy, y3, hb]
  cases rightSystem y.2.1 y.2.2.2.1 <;> simp
theorem s_meniscusref8_Build : Ev.Spec Tryz.prog 36 (FR (sc 3 [0, 1, 2] (tAgg 0 0 (ccTwo ccStr ccDec) (ccTwo_ok ccStr_ok ccDec_ok) ccNil ccNil_ok (tSl 1 1 (tCod 2 cIv tNil))) (rL_face (rL_glass rNil))) (sc 2 [0, 1] (tAgg 0 0 ccNil ccNil_ok ccIv ccIv_ok (tCod 1 cInt tNil)) (rG_surf 38 rNil)) ((fun x => lensOk (x.1.1, x.2.1) x.2.2.1)) ((fun x => (fun r : SysV × Int => (((), r.1.1, r.2, ()), (r.1.2, ()))) (build (x.1.1, x.2.1) x.2.2.1 x.1.2.2.1)))) := specR rfl (fun _ => rfl) (fun vs w => Tryz.call36 vs w) c_meniscusref8_Build
end Go.Proofs.YtlbmjajjldfigaaGreat
