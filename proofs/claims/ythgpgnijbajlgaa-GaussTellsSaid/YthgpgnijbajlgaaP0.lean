/-
  Contracts of calls, written by a small program of this session out of the evaluator's trees.
-/
import Derived.Test.YthgpgnijbajlgaaCore
import Derived.Test.YthgpgnijbajlgaaCoreLoops
import Derived.Test.YthgpgnijbajlgaaCore2
import Derived.Test.YthgpgnijbajlgaaCore3
import Derived.Test.YthgpgnijbajlgaaCore4
import Derived.Test.YthgpgnijbajlgaaCore5
import Derived.Test.YthgpgnijbajlgaaFloCod
import Derived.Test.YthgpgnijbajlgaaGs
import Derived.Test.YthgpgnijbajlgaaGsL
import Derived.Test.YthgpgnijbajlgaaGt
import Derived.Test.YthgpgnijbajlgaaK0
import Derived.Test.YthgpgnijbajlgaaG0
import Derived.Test.YthgpgnijbajlgaaEvCod
import Derived.Test.YthgpgnijbajlgaaEvRet
import Derived.Test.YthgpgnijbajlgaaProg
namespace Go.Proofs.Ythgpgnijbajlgaa
open Go Go.RowKit Ev
set_option maxRecDepth 100000
set_option linter.unusedVariables false
set_option linter.unusedSimpArgs false

/-! meniscusref8.Within -/
theorem t_meniscusref8_Within (x0 : Int) (x1 : Int) (x2 : Int) :
    evFn Try.prog Env.nil Laws.nil 200 Try.f81 [cInt.av x0, cInt.av x1, cInt.av x2] [] cInt.dec =
      .ret (Max.max x1 (Min.min x2 x0)) := by kernel_rfl
theorem c_meniscusref8_Within (x0 : Int) (x1 : Int) (x2 : Int) : Plain Try.prog 81 [cInt.enc x0, cInt.enc x1, cInt.enc x2] (cInt.enc (within x0 x1 x2)) :=
  plain_of_tree (n := 200) EnvOK.nil Try.func81 (args := [cInt.av x0, cInt.av x1, cInt.av x2]) (by simp only [AV.vals, Cod.av_val]) (Nat.le_of_ble_eq_true (by kernel_rfl)) LFn.nil cInt (by
    rw [t_meniscusref8_Within]
    rfl)
theorem s_meniscusref8_Within : Ev.Spec Try.prog 81 (F3 cInt cInt cInt cInt within) := spec3 (fun vs w => Try.call81 vs w) c_meniscusref8_Within

/-! meniscuslaw8.known -/
theorem t_meniscuslaw8_known  :
    evFn Try.prog (Env.add 19 (F2 cCx cInt cCx cTurn) (Env.add 21 (F1 cCx cInt ((fun z => if cWhole z = true then cNorm z else 0))) (Env.add 29 (FR (sc 1 [0] (tCod 0 cInt tNil) rNil) (sc 1 [0] (tSl 0 0 tNil) (rG_cx 22 rNil)) (fun _ => true) ((fun x => ((), ((cellsP (cellsR x.1.1)).map cxOf, ()))))) (Env.add 33 (F1 cCx cBool cWhole) Env.nil)))) Laws.nil 200 Try.f18 [] [] cBool.dec =
      .bind (cTurn (4613937818241073152, 4616189618054758400) 1) fun vcx0 => .br (Ev.cEq vcx0.1 vcx0.2 13839561654909534208 4613937818241073152) (.bind (cWhole (4613937818241073152, 4616189618054758400)) fun vb1 => .br (vb1) (.bind (if cWhole (4613937818241073152, 4616189618054758400) = true then cNorm (4613937818241073152, 4616189618054758400) else 0) fun vn2 => .br (vn2 == 25) (.br (true) (.bind (((), List.map cxOf (cellsP (cellsR 1)), ())) fun vy3 => .ret ((@Nat.cast Int _ vy3.2.1.length) == 4)) (.fail)) (.ret (false))) (.ret (false))) (.ret (false)) := by kernel_rfl
theorem c_meniscuslaw8_known  : Plain Try.prog 18 [] (cBool.enc (true)) :=
  plain_of_tree (n := 200) (EnvOK.add s_gauss_Turn (EnvOK.add s_gauss_Norm (EnvOK.add s_gauss_Cells (EnvOK.add s_gauss_Whole EnvOK.nil)))) Try.func18 (args := []) rfl (Nat.le_of_ble_eq_true (by kernel_rfl)) LFn.nil cBool (by
    rw [t_meniscuslaw8_known]
    decide +kernel)
theorem s_meniscuslaw8_known : Ev.Spec Try.prog 18 (F0 cBool true) := spec0 (fun vs w => Try.call18 vs w) c_meniscuslaw8_known

/-! meniscusref8.near -/
theorem t_meniscusref8_near (x0 : Int) :
    evFn Try.prog Env.nil Laws.nil 200 Try.f82 [cInt.av x0] [] cInt.dec =
      .br (decide (x0 ≥ 0)) (.ret (x0)) (.ret (Min.min (IntKind.i64.wrap (x0 + 1)) 0)) := by kernel_rfl
theorem c_meniscusref8_near (x0 : Int) (h : near30 x0 = true) : Plain Try.prog 82 [cInt.enc x0] (cInt.enc (nearI x0)) :=
  plain_of_tree (n := 200) EnvOK.nil Try.func82 (args := [cInt.av x0]) (by simp only [AV.vals, Cod.av_val]) (Nat.le_of_ble_eq_true (by kernel_rfl)) LFn.nil cInt (by
    rw [t_meniscusref8_near]
    have hb := of_decide_eq_true h
    simp only [den_br, den_bind, den_ret, den_fail, den_get, den_inl, den_inr, decide_eq_true_eq, gt_iff_lt, ge_iff_le, beq_iff_eq]
    unfold nearI
    by_cases c : x0 < 0
    · have c' : ¬ 0 ≤ x0 := by omega
      simp only [c, c', if_true, if_false]
      rw [wr (by omega), Int.min_eq_left (by omega)]
    · have c' : 0 ≤ x0 := by omega
      simp only [c, c', if_true, if_false])
theorem s_meniscusref8_near : Ev.Spec Try.prog 82 (F1p cInt cInt near30 nearI) := spec1p (fun vs w => Try.call82 vs w) c_meniscusref8_near

/-! (meniscus/meniscusref8.Pair).Norm -/
theorem t_meniscusref8_Pair_Norm (x0 : Pair) :
    evFn Try.prog Env.nil Laws.nil 200 Try.f31 [cPair.av x0] [] cInt.dec =
      .ret (IntKind.i64.wrap (IntKind.i64.wrap (x0.x * x0.x) + IntKind.i64.wrap (x0.y * x0.y))) := by kernel_rfl
theorem c_meniscusref8_Pair_Norm (x0 : Pair) (h : pair30 x0 = true) : Plain Try.prog 31 [cPair.enc x0] (cInt.enc (Pair.norm x0)) :=
  plain_of_tree (n := 200) EnvOK.nil Try.func31 (args := [cPair.av x0]) (by simp only [AV.vals, Cod.av_val]) (Nat.le_of_ble_eq_true (by kernel_rfl)) LFn.nil cInt (by
    rw [t_meniscusref8_Pair_Norm]
    simp only [pair30, near30, Bool.and_eq_true, decide_eq_true_eq] at h
    have b1 := sq_bd (a := x0.x) (B := 1073741824) (by omega) (by decide)
    have b2 := sq_bd (a := x0.y) (B := 1073741824) (by omega) (by decide)
    rw [wr (n := x0.x * x0.x) (by omega), wr (n := x0.y * x0.y) (by omega), wr (n := x0.x * x0.x + x0.y * x0.y) (by omega)]
    rfl)
theorem s_meniscusref8_Pair_Norm : Ev.Spec Try.prog 31 (F1p cPair cInt pair30 Pair.norm) := spec1p (fun vs w => Try.call31 vs w) c_meniscusref8_Pair_Norm

/-! (meniscus/meniscusref8.Pair).InDisc -/
theorem t_meniscusref8_Pair_InDisc (x0 : Pair) (x1 : Int) :
    evFn Try.prog (Env.add 31 (F1p cPair cInt pair30 Pair.norm) (Env.add 81 (F3 cInt cInt cInt cInt within) (Env.add 82 (F1p cInt cInt near30 nearI) Env.nil))) Laws.nil 200 Try.f32 [cPair.av x0, cInt.av x1] [] cInt.dec =
      .bind (within x1 0 1048576) fun vn0 => .br (pair30 (Pair.mk (IntKind.i64.wrap (x0.x + Int.tmod 0 2)) (IntKind.i64.wrap (x0.y + IntKind.i64.wrap (Int.tdiv 0 2))))) (.bind ((Pair.mk (IntKind.i64.wrap (x0.x + Int.tmod 0 2)) (IntKind.i64.wrap (x0.y + IntKind.i64.wrap (Int.tdiv 0 2)))).norm) fun vn1 => .br (pair30 (Pair.mk (IntKind.i64.wrap (x0.x + (IntKind.i64.wrap (0 + 1)).tmod 2)) (IntKind.i64.wrap (x0.y + IntKind.i64.wrap ((IntKind.i64.wrap (0 + 1)).tdiv 2))))) (.bind ((Pair.mk (IntKind.i64.wrap (x0.x + (IntKind.i64.wrap (0 + 1)).tmod 2)) (IntKind.i64.wrap (x0.y + IntKind.i64.wrap ((IntKind.i64.wrap (0 + 1)).tdiv 2)))).norm) fun vn2 => .br (pair30 (Pair.mk (IntKind.i64.wrap (x0.x + (IntKind.i64.wrap (IntKind.i64.wrap (0 + 1) + 1)).tmod 2)) (IntKind.i64.wrap (x0.y + IntKind.i64.wrap ((IntKind.i64.wrap (IntKind.i64.wrap (0 + 1) + 1)).tdiv 2))))) (.bind ((Pair.mk (IntKind.i64.wrap (x0.x + (IntKind.i64.wrap (IntKind.i64.wrap (0 + 1) + 1)).tmod 2)) (IntKind.i64.wrap (x0.y + IntKind.i64.wrap ((IntKind.i64.wrap (IntKind.i64.wrap (0 + 1) + 1)).tdiv 2)))).norm) fun vn3 => .br (pair30 (Pair.mk (IntKind.i64.wrap (x0.x + (IntKind.i64.wrap (IntKind.i64.wrap (IntKind.i64.wrap (0 + 1) + 1) + 1)).tmod 2)) (IntKind.i64.wrap (x0.y + IntKind.i64.wrap ((IntKind.i64.wrap (IntKind.i64.wrap (IntKind.i64.wrap (0 + 1) + 1) + 1)).tdiv 2))))) (.bind ((Pair.mk (IntKind.i64.wrap (x0.x + (IntKind.i64.wrap (IntKind.i64.wrap (IntKind.i64.wrap (0 + 1) + 1) + 1)).tmod 2)) (IntKind.i64.wrap (x0.y + IntKind.i64.wrap ((IntKind.i64.wrap (IntKind.i64.wrap (IntKind.i64.wrap (0 + 1) + 1) + 1)).tdiv 2)))).norm) fun vn4 => .br (decide (Max.max (Max.max (Max.max (Max.max 0 vn1) vn2) vn3) vn4 ≤ IntKind.i64.wrap (vn0 * vn0))) (.ret (1)) (.br (near30 x0.x) (.bind (nearI x0.x) fun vn5 => .br (near30 x0.y) (.bind (nearI x0.y) fun vn6 => .br (pair30 (Pair.mk vn5 vn6)) (.bind ((Pair.mk vn5 vn6).norm) fun vn7 => .br (decide (vn7 > IntKind.i64.wrap (vn0 * vn0))) (.ret (2)) (.ret (0))) (.fail)) (.fail)) (.fail))) (.fail)) (.fail)) (.fail)) (.fail) := by kernel_rfl
theorem c_meniscusref8_Pair_InDisc (x0 : Pair) (x1 : Int) (h : ((fun p _ => pair20 p)) x0 x1 = true) : Plain Try.prog 32 [cPair.enc x0, cInt.enc x1] (cInt.enc (discOf x0 x1)) :=
  plain_of_tree (n := 200) (EnvOK.add s_meniscusref8_Pair_Norm (EnvOK.add s_meniscusref8_Within (EnvOK.add s_meniscusref8_near EnvOK.nil))) Try.func32 (args := [cPair.av x0, cInt.av x1]) (by simp only [AV.vals, Cod.av_val]) (Nat.le_of_ble_eq_true (by kernel_rfl)) LFn.nil cInt (by
    rw [t_meniscusref8_Pair_InDisc]
    have hp := h
    simp only [pair20, Bool.and_eq_true, decide_eq_true_eq] at hp
    obtain ⟨hx, hy⟩ := hp
    have q0 : (0 : Int).tmod 2 = 0 := by decide
    have q1 : (IntKind.i64.wrap (0 + 1)).tmod 2 = 1 := by decide +kernel
    have q2 : (IntKind.i64.wrap (IntKind.i64.wrap (0 + 1) + 1)).tmod 2 = 0 := by decide +kernel
    have q3 : (IntKind.i64.wrap (IntKind.i64.wrap (IntKind.i64.wrap (0 + 1) + 1) + 1)).tmod 2 = 1 := by decide +kernel
    have p0 : IntKind.i64.wrap ((0 : Int).tdiv 2) = 0 := by decide +kernel
    have p1 : IntKind.i64.wrap ((IntKind.i64.wrap (0 + 1)).tdiv 2) = 0 := by decide +kernel
    have p2 : IntKind.i64.wrap ((IntKind.i64.wrap (IntKind.i64.wrap (0 + 1) + 1)).tdiv 2) = 1 := by decide +kernel
    have p3 : IntKind.i64.wrap ((IntKind.i64.wrap (IntKind.i64.wrap (IntKind.i64.wrap (0 + 1) + 1) + 1)).tdiv 2) = 1 := by decide +kernel
    have wx0 : IntKind.i64.wrap (x0.x + 0) = x0.x := by rw [Int.add_zero]; exact wr (by omega)
    have wy0 : IntKind.i64.wrap (x0.y + 0) = x0.y := by rw [Int.add_zero]; exact wr (by omega)
    have wx1 : IntKind.i64.wrap (x0.x + 1) = x0.x + 1 := wr (by omega)
    have wy1 : IntKind.i64.wrap (x0.y + 1) = x0.y + 1 := wr (by omega)
    have nr : ∀ a b : Int, -1048577 ≤ a ∧ a ≤ 1048577 → -1048577 ≤ b ∧ b ≤ 1048577 → pair30 ⟨a, b⟩ = true := fun a b ha hb => by unfold pair30 near30; rw [decide_eq_true (by simp only; omega), decide_eq_true (by simp only; omega)]; rfl
    have n1 : near30 x0.x = true := decide_eq_true (by omega)
    have n2 : near30 x0.y = true := decide_eq_true (by omega)
    have m1 : -1048577 ≤ nearI x0.x ∧ nearI x0.x ≤ 1048577 := by unfold nearI; split <;> (try rw [wx1]) <;> omega
    have m2 : -1048577 ≤ nearI x0.y ∧ nearI x0.y ≤ 1048577 := by unfold nearI; split <;> (try rw [wy1]) <;> omega
    have hd : within x1 0 1048576 = discR x1 := by unfold within discR; rw [Int.min_comm]
    have hdb : 0 ≤ discR x1 ∧ discR x1 ≤ 1048576 := by unfold discR; omega
    have hw2 : IntKind.i64.wrap (discR x1 * discR x1) = discR x1 * discR x1 := wr (by have := sq_bd (a := discR x1) (B := 1048576) (by omega) (by decide); omega)
    simp only [den_br, den_bind, den_ret, den_fail, q0, q1, q2, q3, p0, p1, p2, p3, wx0, wy0, wx1, wy1, nr _ _ (show -1048577 ≤ x0.x ∧ x0.x ≤ 1048577 by omega) (show -1048577 ≤ x0.y ∧ x0.y ≤ 1048577 by omega), nr _ _ (show -1048577 ≤ x0.x + 1 ∧ x0.x + 1 ≤ 1048577 by omega) (show -1048577 ≤ x0.y ∧ x0.y ≤ 1048577 by omega), nr _ _ (show -1048577 ≤ x0.x ∧ x0.x ≤ 1048577 by omega) (show -1048577 ≤ x0.y + 1 ∧ x0.y + 1 ≤ 1048577 by omega), nr _ _ (show -1048577 ≤ x0.x + 1 ∧ x0.x + 1 ≤ 1048577 by omega) (show -1048577 ≤ x0.y + 1 ∧ x0.y + 1 ≤ 1048577 by omega), nr _ _ m1 m2, n1, n2, hd, hw2, if_true, decide_eq_true_eq, gt_iff_lt]
    rw [disc_doc h x1]
    have a0 : (x0.add ⟨1, 0⟩) = ⟨x0.x + 1, x0.y⟩ := by simp [Pair.add]
    have a1 : (x0.add ⟨0, 1⟩) = ⟨x0.x, x0.y + 1⟩ := by simp [Pair.add]
    have a2 : (x0.add ⟨1, 1⟩) = ⟨x0.x + 1, x0.y + 1⟩ := by simp [Pair.add]
    rw [a0, a1, a2, show (⟨x0.x, x0.y⟩ : Pair) = x0 from rfl]
    split
    · rfl
    · split <;> rfl)
theorem s_meniscusref8_Pair_InDisc : Ev.Spec Try.prog 32 (F2p cPair cInt cInt ((fun p _ => pair20 p)) discOf) := spec2p (fun vs w => Try.call32 vs w) c_meniscusref8_Pair_InDisc

/-! (meniscus/meniscusref8.Pair).Complex -/
theorem t_meniscusref8_Pair_Complex (x0 : Pair) :
    evFn Try.prog Env.nil Laws.nil 200 Try.f78 [cPair.av x0] [] cCx.dec =
      .ret ((Ev.fInt x0.x, Ev.fInt x0.y)) := by kernel_rfl
theorem c_meniscusref8_Pair_Complex (x0 : Pair) : Plain Try.prog 78 [cPair.enc x0] (cCx.enc (cxOf x0)) :=
  plain_of_tree (n := 200) EnvOK.nil Try.func78 (args := [cPair.av x0]) (by simp only [AV.vals, Cod.av_val]) (Nat.le_of_ble_eq_true (by kernel_rfl)) LFn.nil cCx (by
    rw [t_meniscusref8_Pair_Complex]
    rfl)
theorem s_meniscusref8_Pair_Complex : Ev.Spec Try.prog 78 (F1 cPair cCx cxOf) := spec1 (fun vs w => Try.call78 vs w) c_meniscusref8_Pair_Complex

/-! meniscusref8.Cells -/
theorem tl_meniscusref8_Cells_7 (t5 : Int) (t0 : Int) (t4 : Int) (r0 : List Pair) :
    ev Try.prog (Env.add 81 (F3 cInt cInt cInt cInt within) Env.nil) Laws.nil 200 none (loopAt Try.f35 7) ((sc 29 [5, 0, 4, 3] (tCod 5 cInt (tCod 0 cInt (tCod 4 cInt (tSl 3 0 tNil)))) (rG_pair 35 rNil)).enc ((t5, t0, t4, ()), (r0, ()))) (backK (sc 29 [5, 0, 4, 3] (tCod 5 cInt (tCod 0 cInt (tCod 4 cInt (tSl 3 0 tNil)))) (rG_pair 35 rNil)) (ocExit 2 (sc 29 [0, 4, 3] (tCod 0 cInt (tCod 4 cInt (tSl 3 0 tNil))) (rG_pair 35 rNil)))) =
      .br (decide (t5 < t0)) (.br (Ev.lenOk (r0 ++ [Pair.mk t5 t4])) (.ret (Sum.inl ((IntKind.i64.wrap (t5 + 1), t0, t4, ()), r0 ++ [Pair.mk t5 t4], ()))) (.fail)) (.ret (Sum.inr ((t0, t4, ()), r0, ()))) := by kernel_rfl
theorem ok_meniscusref8_Cells_7 : LOK Try.prog (LoopR.of (sc 29 [5, 0, 4, 3] (tCod 5 cInt (tCod 0 cInt (tCod 4 cInt (tSl 3 0 tNil)))) (rG_pair 35 rNil)) (ocExit 2 (sc 29 [0, 4, 3] (tCod 0 cInt (tCod 4 cInt (tSl 3 0 tNil))) (rG_pair 35 rNil))) (runBy cellInD cellInDM)) (loopAt Try.f35 7) := by
  refine loop_ok (EnvOK.add s_meniscusref8_Within EnvOK.nil) (LFn.at (fn := Try.f35) LFn.nil 7) cellInD (n := 200) (fun x z h => ?_) (runBy_ok _ _)
  obtain ⟨⟨t5, t0, t4, ⟨⟩⟩, ⟨r0, ⟨⟩⟩⟩ := x
  rw [tl_meniscusref8_Cells_7]
  rw [← h]
  simp only [den_br, den_bind, den_ret, den_fail, den_inl, den_inr, decide_eq_true_eq, gt_iff_lt, ge_iff_le, beq_iff_eq]
  simp only [cellInD]
theorem tl_meniscusref8_Cells_4 (t4 : Int) (t0 : Int) (r0 : List Pair) :
    ev Try.prog (Env.add 81 (F3 cInt cInt cInt cInt within) Env.nil) (Laws.add 7 (LoopR.of (sc 29 [5, 0, 4, 3] (tCod 5 cInt (tCod 0 cInt (tCod 4 cInt (tSl 3 0 tNil)))) (rG_pair 35 rNil)) (ocExit 2 (sc 29 [0, 4, 3] (tCod 0 cInt (tCod 4 cInt (tSl 3 0 tNil))) (rG_pair 35 rNil))) (runBy cellInD cellInDM)) Laws.nil) 200 none (loopAt Try.f35 4) ((sc 29 [4, 0, 3] (tCod 4 cInt (tCod 0 cInt (tSl 3 0 tNil))) (rG_pair 35 rNil)).enc ((t4, t0, ()), (r0, ()))) (backK (sc 29 [4, 0, 3] (tCod 4 cInt (tCod 0 cInt (tSl 3 0 tNil))) (rG_pair 35 rNil)) (ocExit 0 (sc 29 [3] (tSl 3 0 tNil) (rG_pair 35 rNil)))) =
      .br (decide (t4 < t0)) (.get (runBy cellInD cellInDM ((IntKind.i64.wrap (0 - t0), t0, t4, ()), r0, ())) fun vy0 => .ret (Sum.inl ((IntKind.i64.wrap (vy0.1.2.1 + 1), vy0.1.1, ()), vy0.2.1, ()))) (.ret (Sum.inr ((), r0, ()))) := by kernel_rfl
theorem ok_meniscusref8_Cells_4 : LOK Try.prog (LoopR.of (sc 29 [4, 0, 3] (tCod 4 cInt (tCod 0 cInt (tSl 3 0 tNil))) (rG_pair 35 rNil)) (ocExit 0 (sc 29 [3] (tSl 3 0 tNil) (rG_pair 35 rNil))) (runBy cellOutD cellOutDM)) (loopAt Try.f35 4) := by
  refine loop_ok (EnvOK.add s_meniscusref8_Within EnvOK.nil) (LFn.at (fn := Try.f35) (LFn.add (fn := Try.f35) (i := 7) (by kernel_rfl) ok_meniscusref8_Cells_7 LFn.nil) 4) cellOutD (n := 200) (fun x z h => ?_) (runBy_ok _ _)
  obtain ⟨⟨t4, t0, ⟨⟩⟩, ⟨r0, ⟨⟩⟩⟩ := x
  rw [tl_meniscusref8_Cells_4]
  rw [← h]
  simp only [den_br, den_bind, den_ret, den_fail, den_inl, den_inr, decide_eq_true_eq, gt_iff_lt, ge_iff_le, beq_iff_eq]
  simp only [cellOutD]
  by_cases h0 : t4 < t0 <;> simp only [h0, if_true, if_false]
  cases runBy cellInD cellInDM ((IntKind.i64.wrap (0 - t0), t0, t4, ()), (r0, ())) <;> rfl
theorem t_meniscusref8_Cells (t0 : Int) :
    evFnR Try.prog (Env.add 81 (F3 cInt cInt cInt cInt within) Env.nil) (Laws.add 4 (LoopR.of (sc 29 [4, 0, 3] (tCod 4 cInt (tCod 0 cInt (tSl 3 0 tNil))) (rG_pair 35 rNil)) (ocExit 0 (sc 29 [3] (tSl 3 0 tNil) (rG_pair 35 rNil))) (runBy cellOutD cellOutDM)) (Laws.add 7 (LoopR.of (sc 29 [5, 0, 4, 3] (tCod 5 cInt (tCod 0 cInt (tCod 4 cInt (tSl 3 0 tNil)))) (rG_pair 35 rNil)) (ocExit 2 (sc 29 [0, 4, 3] (tCod 0 cInt (tCod 4 cInt (tSl 3 0 tNil))) (rG_pair 35 rNil))) (runBy cellInD cellInDM)) Laws.nil)) 200 Try.f35 (((sc 1 [0] (tCod 0 cInt tNil) rNil).enc ((t0, ()), (()))).tmps.map Prod.snd) ((sc 1 [0] (tCod 0 cInt tNil) rNil).enc ((t0, ()), (()))).mem (sc 1 [0] (tSl 0 0 tNil) (rG_pair 35 rNil)).ts (sc 1 [0] (tSl 0 0 tNil) (rG_pair 35 rNil)).dec =
      .bind (within t0 0 16) fun vn0 => .get (runBy cellOutD cellOutDM ((IntKind.i64.wrap (0 - vn0), vn0, ()), [], ())) fun vy1 => .ret (((), vy1.2.1, ())) := by kernel_rfl
theorem c_meniscusref8_Cells : PlainR Try.prog 35 (sc 1 [0] (tCod 0 cInt tNil) rNil) (sc 1 [0] (tSl 0 0 tNil) (rG_pair 35 rNil)) (fun _ => true) ((fun x => ((), (cellsP (cellsR x.1.1), ())))) := by
  intro x h N w vs hM hv
  obtain ⟨⟨t0, ⟨⟩⟩, ⟨⟩⟩ := x
  refine calls_of_treeR (n := 200) (EnvOK.add s_meniscusref8_Within EnvOK.nil) Try.func35 hv (Nat.le_of_ble_eq_true (by kernel_rfl)) (LFn.add (fn := Try.f35) (i := 4) (by kernel_rfl) ok_meniscusref8_Cells_4 (LFn.add (fn := Try.f35) (i := 7) (by kernel_rfl) ok_meniscusref8_Cells_7 LFn.nil)) hM (sc 1 [0] (tSl 0 0 tNil) (rG_pair 35 rNil)) rfl ?_
  rw [t_meniscusref8_Cells]
  have hr := cellsD_run (n := cellsR t0) (by unfold cellsR; omega)
  have hw : within t0 0 16 = cellsR t0 := by unfold within cellsR; rw [Int.min_comm]
  simp only [den_bind, hw, hr]
  rfl
theorem s_meniscusref8_Cells : Ev.Spec Try.prog 35 (FR (sc 1 [0] (tCod 0 cInt tNil) rNil) (sc 1 [0] (tSl 0 0 tNil) (rG_pair 35 rNil)) (fun _ => true) ((fun x => ((), (cellsP (cellsR x.1.1), ()))))) := specR rfl (fun _ => rfl) (fun vs w => Try.call35 vs w) c_meniscusref8_Cells

/-! meniscuslaw8.plain -/
theorem t_meniscuslaw8_plain (x0 : Cx) :
    evFn Try.prog Env.nil Laws.nil 200 Try.f79 [cCx.av x0] [] cBool.dec =
      .br (Ev.fOrd x0.1 0 == some Ordering.eq) (.get (floatBits BinOp.quo FloatKind.f64 4607182418800017408 x0.1) fun vna0 => .br (!Ev.fOrd vna0 0 == some Ordering.lt) (.br (Ev.fOrd x0.2 0 == some Ordering.eq) (.get (floatBits BinOp.quo FloatKind.f64 4607182418800017408 x0.2) fun vna1 => .ret (!Ev.fOrd vna1 0 == some Ordering.lt)) (.ret (!false))) (.ret (false))) (.br (Ev.fOrd x0.2 0 == some Ordering.eq) (.get (floatBits BinOp.quo FloatKind.f64 4607182418800017408 x0.2) fun vna2 => .ret (!Ev.fOrd vna2 0 == some Ordering.lt)) (.ret (!false))) := by kernel_rfl
theorem c_meniscuslaw8_plain (x0 : Cx) (h : canon x0 = true) : Plain Try.prog 79 [cCx.enc x0] (cBool.enc (((fun _ => true)) x0)) :=
  plain_of_tree (n := 200) EnvOK.nil Try.func79 (args := [cCx.av x0]) (by simp only [AV.vals, Cod.av_val]) (Nat.le_of_ble_eq_true (by kernel_rfl)) LFn.nil cBool (by
    rw [t_meniscuslaw8_plain]
    obtain ⟨p, hp, rfl⟩ := canon_spec h
    exact plain_law hp)
theorem s_meniscuslaw8_plain : Ev.Spec Try.prog 79 (F1p cCx cBool canon ((fun _ => true))) := spec1p (fun vs w => Try.call79 vs w) c_meniscuslaw8_plain

/-! meniscuslaw8.same -/
theorem t_meniscuslaw8_same (x0 : Cx) (x1 : Pair) (x2 : Bool) :
    evFn Try.prog (Env.add 78 (F1 cPair cCx cxOf) (Env.add 79 (F1p cCx cBool canon ((fun _ => true))) Env.nil)) Laws.nil 200 Try.f27 [cCx.av x0, cPair.av x1, cBool.av x2] [] cBool.dec =
      .br (!x2) (.bind (cxOf (Pair.mk 0 0)) fun vcx0 => .br (Ev.cEq x0.1 x0.2 vcx0.1 vcx0.2) (.br (canon x0) (.bind (true) fun vb1 => .ret (vb1)) (.fail)) (.ret (false))) (.bind (cxOf x1) fun vcx2 => .br (Ev.cEq x0.1 x0.2 vcx2.1 vcx2.2) (.br (canon x0) (.bind (true) fun vb3 => .ret (vb3)) (.fail)) (.ret (false))) := by kernel_rfl
theorem c_meniscuslaw8_same (x0 : Cx) (x1 : Pair) (x2 : Bool) (h : ((fun z _ _ => canon z)) x0 x1 x2 = true) : Plain Try.prog 27 [cCx.enc x0, cPair.enc x1, cBool.enc x2] (cBool.enc (samePz x0 x1 x2)) :=
  plain_of_tree (n := 200) (EnvOK.add s_meniscusref8_Pair_Complex (EnvOK.add s_meniscuslaw8_plain EnvOK.nil)) Try.func27 (args := [cCx.av x0, cPair.av x1, cBool.av x2]) (by simp only [AV.vals, Cod.av_val]) (Nat.le_of_ble_eq_true (by kernel_rfl)) LFn.nil cBool (by
    rw [t_meniscuslaw8_same]
    cases x2 <;> simp only [den_br, den_bind, den_ret, den_fail, h, if_true, samePz, Bool.not_true, Bool.not_false, Bool.false_eq_true, if_false]
    · rw [show cxOf ⟨0, 0⟩ = ((0 : Nat), (0 : Nat)) from rfl]
      cases Ev.cEq x0.1 x0.2 0 0 <;> rfl
    · cases Ev.cEq x0.1 x0.2 (cxOf x1).1 (cxOf x1).2 <;> rfl)
theorem s_meniscuslaw8_same : Ev.Spec Try.prog 27 (F3p cCx cPair cBool cBool ((fun z _ _ => canon z)) samePz) := spec3p (fun vs w => Try.call27 vs w) c_meniscuslaw8_same

/-! meniscusref8.Of -/
theorem t_meniscusref8_Of (x0 : Cx) :
    evFn Try.prog Env.nil Laws.nil 200 Try.f30 [cCx.av x0] [] (cTwo cPair cBool).dec =
      .br (Ev.fOrd x0.1 13920626448202203136 == some Ordering.gt || Ev.fOrd x0.1 13920626448202203136 == some Ordering.eq) (.br (Ev.fOrd x0.1 4697254411347427328 == some Ordering.lt || Ev.fOrd x0.1 4697254411347427328 == some Ordering.eq) (.br (Ev.fOrd x0.2 13920626448202203136 == some Ordering.gt || Ev.fOrd x0.2 13920626448202203136 == some Ordering.eq) (.br (!(Ev.fOrd x0.2 4697254411347427328 == some Ordering.lt || Ev.fOrd x0.2 4697254411347427328 == some Ordering.eq)) (.ret ((Pair.mk 0 0, false))) (.get (Ev.fTo x0.1) fun vn0 => .get (Ev.fTo x0.2) fun vn1 => .br (Ev.fOrd (Ev.fInt vn0) x0.1 != some Ordering.eq) (.ret ((Pair.mk 0 0, false))) (.br (Ev.fOrd (Ev.fInt vn1) x0.2 != some Ordering.eq) (.ret ((Pair.mk 0 0, false))) (.ret ((Pair.mk vn0 vn1, true)))))) (.ret ((Pair.mk 0 0, false)))) (.ret ((Pair.mk 0 0, false)))) (.ret ((Pair.mk 0 0, false))) := by kernel_rfl
theorem c_meniscusref8_Of (x0 : Cx) : Plain Try.prog 30 [cCx.enc x0] ((cTwo cPair cBool).enc (ofD x0)) :=
  plain_of_tree (n := 200) EnvOK.nil Try.func30 (args := [cCx.av x0]) (by simp only [AV.vals, Cod.av_val]) (Nat.le_of_ble_eq_true (by kernel_rfl)) LFn.nil (cTwo cPair cBool) (by
    rw [t_meniscusref8_Of]
    exact of_run x0)
theorem s_meniscusref8_Of : Ev.Spec Try.prog 30 (F1 cCx (cTwo cPair cBool) ofD) := spec1 (fun vs w => Try.call30 vs w) c_meniscusref8_Of

/-! (meniscus/meniscusref8.Pair).Turn -/
theorem tl_meniscusref8_Pair_Turn_4 (t1 : Int) (r0 : Pair) (r1 : Pair) :
    ev Try.prog Env.nil Laws.nil 200 none (loopAt Try.f34 4) ((sc 22 [1, 2, 4] (tCod 1 cInt (tOwn 2 0 (tOwn 4 1 tNil))) (rBox ccPair ccPair_ok (rBox ccPair ccPair_ok rNil))).enc ((t1, ()), (r0, r1, ()))) (backK (sc 22 [1, 2, 4] (tCod 1 cInt (tOwn 2 0 (tOwn 4 1 tNil))) (rBox ccPair ccPair_ok (rBox ccPair ccPair_ok rNil))) (ocExit 0 (sc 22 [2, 4] (tOwn 2 0 (tOwn 4 1 tNil)) (rBox ccPair ccPair_ok (rBox ccPair ccPair_ok rNil))))) =
      .br (decide (t1 > 0)) (.ret (Sum.inl ((IntKind.i64.wrap (t1 - 1), ()), Pair.mk (IntKind.i64.wrap (0 - r0.y)) r0.x, r1, ()))) (.ret (Sum.inr ((), r0, r1, ()))) := by kernel_rfl
theorem ok_meniscusref8_Pair_Turn_4 : LOK Try.prog (LoopR.of (sc 22 [1, 2, 4] (tCod 1 cInt (tOwn 2 0 (tOwn 4 1 tNil))) (rBox ccPair ccPair_ok (rBox ccPair ccPair_ok rNil))) (ocExit 0 (sc 22 [2, 4] (tOwn 2 0 (tOwn 4 1 tNil)) (rBox ccPair ccPair_ok (rBox ccPair ccPair_ok rNil)))) (runBy turnDStep turnDM)) (loopAt Try.f34 4) := by
  refine loop_ok EnvOK.nil (LFn.at (fn := Try.f34) LFn.nil 4) turnDStep (n := 200) (fun x z h => ?_) (runBy_ok _ _)
  obtain ⟨⟨t1, ⟨⟩⟩, ⟨r0, r1, ⟨⟩⟩⟩ := x
  rw [tl_meniscusref8_Pair_Turn_4]
  rw [← h]
  simp only [turnDStep]
  simp only [den_br, den_bind, den_ret, den_fail, den_inl, den_inr, decide_eq_true_eq, gt_iff_lt, ge_iff_le, beq_iff_eq]
theorem t_meniscusref8_Pair_Turn (x0 : Pair) (x1 : Int) :
    evFn Try.prog Env.nil (Laws.add 4 (LoopR.of (sc 22 [1, 2, 4] (tCod 1 cInt (tOwn 2 0 (tOwn 4 1 tNil))) (rBox ccPair ccPair_ok (rBox ccPair ccPair_ok rNil))) (ocExit 0 (sc 22 [2, 4] (tOwn 2 0 (tOwn 4 1 tNil)) (rBox ccPair ccPair_ok (rBox ccPair ccPair_ok rNil)))) (runBy turnDStep turnDM)) Laws.nil) 200 Try.f34 [cPair.av x0, cInt.av x1] [] cPair.dec =
      .br (decide (x1.tmod 4 < 0)) (.get (runBy turnDStep turnDM ((IntKind.i64.wrap (x1.tmod 4 + 4), ()), x0, Pair.mk 0 0, ())) fun vy0 => .ret (vy0.2.1)) (.get (runBy turnDStep turnDM ((x1.tmod 4, ()), x0, Pair.mk 0 0, ())) fun vy1 => .ret (vy1.2.1)) := by kernel_rfl
theorem c_meniscusref8_Pair_Turn (x0 : Pair) (x1 : Int) (h : ((fun p _ => pair20 p)) x0 x1 = true) : Plain Try.prog 34 [cPair.enc x0, cInt.enc x1] (cPair.enc (Pair.turn x0 x1)) :=
  plain_of_tree (n := 200) EnvOK.nil Try.func34 (args := [cPair.av x0, cInt.av x1]) (by simp only [AV.vals, Cod.av_val]) (Nat.le_of_ble_eq_true (by kernel_rfl)) (LFn.add (fn := Try.f34) (i := 4) (by kernel_rfl) ok_meniscusref8_Pair_Turn_4 LFn.nil) cPair (by
    rw [t_meniscusref8_Pair_Turn]
    have hs := small_of20 h
    simp only [den_br, den_get, den_ret, decide_eq_true_eq]
    by_cases c : x1.tmod 4 < 0
    · obtain ⟨e, b1, b2⟩ := turn_neg_arg c
      simp only [c, if_true, e, turnD_run hs _ ⟨b1, b2⟩, den_get, den_ret, Pair.turn]
    · obtain ⟨e, b1, b2⟩ := turn_pos_arg c
      rw [e] at c ⊢
      simp only [c, if_false, turnD_run hs _ ⟨b1, b2⟩, den_get, den_ret, Pair.turn])
theorem s_meniscusref8_Pair_Turn : Ev.Spec Try.prog 34 (F2p cPair cInt cPair ((fun p _ => pair20 p)) Pair.turn) := spec2p (fun vs w => Try.call34 vs w) c_meniscusref8_Pair_Turn

/-! meniscuslaw8.number -/
theorem t_meniscuslaw8_number (x0 : Int) (x1 : Int) (x2 : Int) :
    evFn Try.prog (Env.add 22 (F2p cInt cInt cInt pickOk pick) Env.nil) Laws.nil 200 Try.f17 [cInt.av x0, cInt.av x1, cInt.av x2] [] cCx.dec =
      .br (pickOk x0 81) (.bind (pick x0 81) fun vn0 => .br (pickOk x1 81) (.bind (pick x1 81) fun vn1 => .br (pickOk x2 9) (.bind (pick x2 9) fun vn2 => .br (vn2 == 5) (.ret ((Ev.fInt x0, Ev.fInt (IntKind.i64.wrap (vn1 - 40))))) (.br (vn2 == 6) (.get (floatBits BinOp.add FloatKind.f64 (Ev.fInt (IntKind.i64.wrap (vn1 - 40))) 4602678819172646912) fun vna3 => .ret ((Ev.fInt (IntKind.i64.wrap (vn0 - 40)), vna3))) (.br (vn2 == 7) (.get (floatBits BinOp.mul FloatKind.f64 (Ev.fInt (IntKind.i64.wrap (vn0 - 40))) 4673975551164153856) fun vna4 => .get (floatBits BinOp.mul FloatKind.f64 (Ev.fInt (IntKind.i64.wrap (vn1 - 40))) 4673975551164153856) fun vna5 => .ret ((vna4, vna5))) (.br (vn2 == 8) (.get (floatBits BinOp.quo FloatKind.f64 (Ev.fInt x1) 4613937818241073152) fun vna6 => .ret ((Ev.fInt (IntKind.i64.wrap (vn0 - 40)), vna6))) (.ret ((Ev.fInt (IntKind.i64.wrap (vn0 - 40)), Ev.fInt (IntKind.i64.wrap (vn1 - 40))))))))) (.fail)) (.fail)) (.fail) := by kernel_rfl
theorem c_meniscuslaw8_number (x0 : Int) (x1 : Int) (x2 : Int) : Plain Try.prog 17 [cInt.enc x0, cInt.enc x1, cInt.enc x2] (cCx.enc (numZ x0 x1 x2)) :=
  plain_of_tree (n := 200) (EnvOK.add s_meniscushand_Pick EnvOK.nil) Try.func17 (args := [cInt.av x0, cInt.av x1, cInt.av x2]) (by simp only [AV.vals, Cod.av_val]) (Nat.le_of_ble_eq_true (by kernel_rfl)) LFn.nil cCx (by
    rw [t_meniscuslaw8_number]
    have p81 : ∀ n : Int, pickOk n 81 = true := fun _ => by simp [pickOk]
    have p9 : ∀ n : Int, pickOk n 9 = true := fun _ => by simp [pickOk]
    have b0 := pick_bd x0 (m := 81) (by decide)
    have b1 := pick_bd x1 (m := 81) (by decide)
    have w0 : IntKind.i64.wrap (pick x0 81 - 40) = pick x0 81 - 40 := wr (by omega)
    have w1 : IntKind.i64.wrap (pick x1 81 - 40) = pick x1 81 - 40 := wr (by omega)
    have e6 := half_some x1
    have e7 := fac_some x0
    have e7' := fac_some x1
    have e8 := third_num x1
    simp only [numU, halfF, fac3, threeF] at e6 e7 e7' e8
    simp only [den_br, den_bind, den_ret, den_fail, p81, p9, if_true, w0, w1, beq_iff_eq, numZ, numU, halfF, fac3, threeF]
    by_cases c5 : pick x2 9 = 5
    · simp only [c5, if_true]
    by_cases c6 : pick x2 9 = 6
    · simp only [c6, if_true, show ¬ (6 : Int) = 5 by decide, if_false]; rw [e6]; rfl
    by_cases c7 : pick x2 9 = 7
    · simp only [c7, if_true, show ¬ (7 : Int) = 5 by decide, show ¬ (7 : Int) = 6 by decide, if_false]; rw [e7, e7']; rfl
    by_cases c8 : pick x2 9 = 8
    · simp only [c8, if_true, show ¬ (8 : Int) = 5 by decide, show ¬ (8 : Int) = 6 by decide, show ¬ (8 : Int) = 7 by decide, if_false]; rw [e8]; rfl
    simp only [c5, c6, c7, c8, if_false])
theorem s_meniscuslaw8_number : Ev.Spec Try.prog 17 (F3 cInt cInt cInt cCx numZ) := spec3 (fun vs w => Try.call17 vs w) c_meniscuslaw8_number

/-! meniscuslaw8.GaussTells -/
theorem tl_meniscuslaw8_GaussTells_17 (t97 : Int) (t96 : Int) (r0 : List Cx) (r1 : List Pair) :
    ev Try.prog (Env.add 17 (F3 cInt cInt cInt cCx numZ) (Env.add 18 (F0 cBool true) (Env.add 19 (F2 cCx cInt cCx cTurn) (Env.add 20 (F1 cCx cCx cMirror) (Env.add 21 (F1 cCx cInt ((fun z => if cWhole z = true then cNorm z else 0))) (Env.add 22 (F2p cInt cInt cInt pickOk pick) (Env.add 27 (F3p cCx cPair cBool cBool ((fun z _ _ => canon z)) samePz) (Env.add 28 (F2 cCx cInt cInt cInDisc) (Env.add 29 (FR (sc 1 [0] (tCod 0 cInt tNil) rNil) (sc 1 [0] (tSl 0 0 tNil) (rG_cx 22 rNil)) (fun _ => true) ((fun x => ((), ((cellsP (cellsR x.1.1)).map cxOf, ()))))) (Env.add 30 (F1 cCx (cTwo cPair cBool) ofD) (Env.add 31 (F1p cPair cInt pair30 Pair.norm) (Env.add 32 (F2p cPair cInt cInt ((fun p _ => pair20 p)) discOf) (Env.add 33 (F1 cCx cBool cWhole) (Env.add 34 (F2p cPair cInt cPair ((fun p _ => pair20 p)) Pair.turn) (Env.add 35 (FR (sc 1 [0] (tCod 0 cInt tNil) rNil) (sc 1 [0] (tSl 0 0 tNil) (rG_pair 35 rNil)) (fun _ => true) ((fun x => ((), (cellsP (cellsR x.1.1), ()))))) Env.nil))))))))))))))) Laws.nil 200 none (loopAt Try.f6 17) ((sc 111 [97, 96, 18, 19] (tCod 97 cInt (tCod 96 cInt (tSl 18 0 (tSl 19 1 tNil)))) (rG_cx 22 (rG_pair 35 rNil))).enc ((t97, t96, ()), (r0, r1, ()))) (backK (sc 111 [97, 96, 18, 19] (tCod 97 cInt (tCod 96 cInt (tSl 18 0 (tSl 19 1 tNil)))) (rG_cx 22 (rG_pair 35 rNil))) (ocOr (ocExit 0 (sc 111 [] tNil rNil)) (ocRet (sc 111 [12] (tCod 12 cBool tNil) rNil)))) =
      .br (decide (t97 < t96)) (.br (decide (0 ≤ t97 ∧ t97 < (@Nat.cast Int _ r0.length))) (.get (r0[t97.toNat]?) fun vt0 => .br (decide (0 ≤ t97 ∧ t97 < (@Nat.cast Int _ r1.length))) (.get (r1[t97.toNat]?) fun vt1 => .br (canon vt0) (.bind (samePz vt0 vt1 true) fun vb2 => .br (!vb2) (.ret (Sum.inr (Sum.inr ((false, ()), ())))) (.ret (Sum.inl ((IntKind.i64.wrap (t97 + 1), t96, ()), r0, r1, ())))) (.fail)) (.fail)) (.fail)) (.ret (Sum.inr (Sum.inl ((), ())))) := by kernel_rfl
theorem ok_meniscuslaw8_GaussTells_17 : LOK Try.prog (LoopR.of (sc 111 [97, 96, 18, 19] (tCod 97 cInt (tCod 96 cInt (tSl 18 0 (tSl 19 1 tNil)))) (rG_cx 22 (rG_pair 35 rNil))) (ocOr (ocExit 0 (sc 111 [] tNil rNil)) (ocRet (sc 111 [12] (tCod 12 cBool tNil) rNil))) (runBy gtStep gtM)) (loopAt Try.f6 17) := by
  refine loop_ok (EnvOK.add s_meniscuslaw8_number (EnvOK.add s_meniscuslaw8_known (EnvOK.add s_gauss_Turn (EnvOK.add s_gauss_Mirror (EnvOK.add s_gauss_Norm (EnvOK.add s_meniscushand_Pick (EnvOK.add s_meniscuslaw8_same (EnvOK.add s_gauss_InDisc (EnvOK.add s_gauss_Cells (EnvOK.add s_meniscusref8_Of (EnvOK.add s_meniscusref8_Pair_Norm (EnvOK.add s_meniscusref8_Pair_InDisc (EnvOK.add s_gauss_Whole (EnvOK.add s_meniscusref8_Pair_Turn (EnvOK.add s_meniscusref8_Cells EnvOK.nil))))))))))))))) (LFn.at (fn := Try.f6) LFn.nil 17) gtStep (n := 200) (fun x z h => ?_) (runBy_ok _ _)
  obtain ⟨⟨t97, t96, ⟨⟩⟩, ⟨r0, r1, ⟨⟩⟩⟩ := x
  rw [tl_meniscuslaw8_GaussTells_17]
  rw [← h]
  simp only [gtStep]
  simp only [den_br, den_bind, den_ret, den_fail, den_inl, den_inr, decide_eq_true_eq, gt_iff_lt, ge_iff_le, beq_iff_eq]
  by_cases h0 : t97 < t96 <;> simp only [h0, if_true, if_false]
  by_cases h1 : 0 ≤ t97 ∧ t97 < (r0.length : Int) <;> simp only [h1, and_self, if_true, if_false]
  cases hg : r0[t97.toNat]? with
  | none => rfl
  | some c =>
    simp only [den_get, den_br, den_bind, den_ret, den_fail, decide_eq_true_eq, true_and]
    by_cases h2 : t97 < (r1.length : Int) <;> simp only [h2, and_self, if_true, if_false]
    cases hg2 : r1[t97.toNat]? with
    | none => rfl
    | some p =>
      simp only [den_get, den_br, den_bind, den_ret, den_fail]
      cases canon c <;> cases samePz c p true <;> simp
theorem t_meniscuslaw8_GaussTells (t0 : Int) (t1 : Int) (t2 : Int) (t3 : Int) (t4 : Int) (t5 : Bool) :
    evFn Try.prog (Env.add 17 (F3 cInt cInt cInt cCx numZ) (Env.add 18 (F0 cBool true) (Env.add 19 (F2 cCx cInt cCx cTurn) (Env.add 20 (F1 cCx cCx cMirror) (Env.add 21 (F1 cCx cInt ((fun z => if cWhole z = true then cNorm z else 0))) (Env.add 22 (F2p cInt cInt cInt pickOk pick) (Env.add 27 (F3p cCx cPair cBool cBool ((fun z _ _ => canon z)) samePz) (Env.add 28 (F2 cCx cInt cInt cInDisc) (Env.add 29 (FR (sc 1 [0] (tCod 0 cInt tNil) rNil) (sc 1 [0] (tSl 0 0 tNil) (rG_cx 22 rNil)) (fun _ => true) ((fun x => ((), ((cellsP (cellsR x.1.1)).map cxOf, ()))))) (Env.add 30 (F1 cCx (cTwo cPair cBool) ofD) (Env.add 31 (F1p cPair cInt pair30 Pair.norm) (Env.add 32 (F2p cPair cInt cInt ((fun p _ => pair20 p)) discOf) (Env.add 33 (F1 cCx cBool cWhole) (Env.add 34 (F2p cPair cInt cPair ((fun p _ => pair20 p)) Pair.turn) (Env.add 35 (FR (sc 1 [0] (tCod 0 cInt tNil) rNil) (sc 1 [0] (tSl 0 0 tNil) (rG_pair 35 rNil)) (fun _ => true) ((fun x => ((), (cellsP (cellsR x.1.1), ()))))) Env.nil))))))))))))))) (Laws.add 17 (LoopR.of (sc 111 [97, 96, 18, 19] (tCod 97 cInt (tCod 96 cInt (tSl 18 0 (tSl 19 1 tNil)))) (rG_cx 22 (rG_pair 35 rNil))) (ocOr (ocExit 0 (sc 111 [] tNil rNil)) (ocRet (sc 111 [12] (tCod 12 cBool tNil) rNil))) (runBy gtStep gtM)) Laws.nil) 200 Try.f6 (((sc 6 [0, 1, 2, 3, 4, 5] (tCod 0 cInt (tCod 1 cInt (tCod 2 cInt (tCod 3 cInt (tCod 4 cInt (tCod 5 cBool tNil)))))) rNil).enc ((t0, t1, t2, t3, t4, t5, ()), (()))).tmps.map Prod.snd) ((sc 6 [0, 1, 2, 3, 4, 5] (tCod 0 cInt (tCod 1 cInt (tCod 2 cInt (tCod 3 cInt (tCod 4 cInt (tCod 5 cBool tNil)))))) rNil).enc ((t0, t1, t2, t3, t4, t5, ()), (()))).mem cBool.dec =
      .bind (numZ t0 t1 t2) fun vcx0 => .br (!t5) (.br (pickOk t4 60) (.bind (pick t4 60) fun vn1 => .bind (ofD vcx0) fun vy2 => .br (vy2.2) (.br (pair30 vy2.1) (.bind (vy2.1.norm) fun vn3 => .br (pair20 vy2.1) (.bind (discOf vy2.1 (IntKind.i64.wrap (vn1 - 5))) fun vn4 => .bind (true) fun vb5 => .br (!vb5) (.ret (false)) (.bind (cWhole vcx0) fun vb6 => .br (!vb6 == vy2.2) (.ret (false)) (.bind (cTurn vcx0 t3) fun vcx7 => .br (pair20 vy2.1) (.bind (vy2.1.turn t3) fun vpa8 => .br (canon vcx7) (.bind (samePz vcx7 vpa8 vy2.2) fun vb9 => .br (!vb9) (.ret (false)) (.bind (cMirror vcx0) fun vcx10 => .br (canon vcx10) (.bind (samePz vcx10 (Pair.mk vy2.1.x (IntKind.i64.wrap (0 - vy2.1.y))) vy2.2) fun vb11 => .br (!vb11) (.ret (false)) (.bind (if cWhole vcx0 = true then cNorm vcx0 else 0) fun vn12 => .br (vn12 != vn3) (.ret (false)) (.bind (cInDisc vcx0 (IntKind.i64.wrap (vn1 - 5))) fun vn13 => .br (vn13 != vn4) (.ret (false)) (.br (true) (.bind (((), List.map cxOf (cellsP (cellsR (IntKind.i64.wrap (vn1 - 5)))), ())) fun vy14 => .br (true) (.bind (((), cellsP (cellsR (IntKind.i64.wrap (vn1 - 5))), ())) fun vy15 => .br ((@Nat.cast Int _ vy14.2.1.length) != (@Nat.cast Int _ vy15.2.1.length)) (.ret (false)) (.get (runBy gtStep gtM ((0, (@Nat.cast Int _ vy14.2.1.length), ()), vy14.2.1, vy15.2.1, ())) fun vy16 => .sum (vy16) (fun vs17 => .ret (true)) (fun vs18 => .ret (vs18.1.1)))) (.fail)) (.fail))))) (.fail))) (.fail)) (.fail)))) (.fail)) (.fail)) (.bind (true) fun vb19 => .br (!vb19) (.ret (false)) (.bind (cWhole vcx0) fun vb20 => .br (!vb20 == vy2.2) (.ret (false)) (.bind (cTurn vcx0 t3) fun vcx21 => .br (pair20 vy2.1) (.bind (vy2.1.turn t3) fun vpa22 => .br (canon vcx21) (.bind (samePz vcx21 vpa22 vy2.2) fun vb23 => .br (!vb23) (.ret (false)) (.bind (cMirror vcx0) fun vcx24 => .br (canon vcx24) (.bind (samePz vcx24 (Pair.mk vy2.1.x (IntKind.i64.wrap (0 - vy2.1.y))) vy2.2) fun vb25 => .br (!vb25) (.ret (false)) (.bind (if cWhole vcx0 = true then cNorm vcx0 else 0) fun vn26 => .br (vn26 != 0) (.ret (false)) (.bind (cInDisc vcx0 (IntKind.i64.wrap (vn1 - 5))) fun vn27 => .br (vn27 != 0) (.ret (false)) (.br (true) (.bind (((), List.map cxOf (cellsP (cellsR (IntKind.i64.wrap (vn1 - 5)))), ())) fun vy28 => .br (true) (.bind (((), cellsP (cellsR (IntKind.i64.wrap (vn1 - 5))), ())) fun vy29 => .br ((@Nat.cast Int _ vy28.2.1.length) != (@Nat.cast Int _ vy29.2.1.length)) (.ret (false)) (.get (runBy gtStep gtM ((0, (@Nat.cast Int _ vy28.2.1.length), ()), vy28.2.1, vy29.2.1, ())) fun vy30 => .sum (vy30) (fun vs31 => .ret (true)) (fun vs32 => .ret (vs32.1.1)))) (.fail)) (.fail))))) (.fail))) (.fail)) (.fail))))) (.fail)) (.bind (ofD vcx0) fun vy33 => .br (vy33.2) (.br (pair30 vy33.1) (.bind (vy33.1.norm) fun vn34 => .br (pair20 vy33.1) (.bind (discOf vy33.1 t4) fun vn35 => .bind (true) fun vb36 => .br (!vb36) (.ret (false)) (.bind (cWhole vcx0) fun vb37 => .br (!vb37 == vy33.2) (.ret (false)) (.bind (cTurn vcx0 t3) fun vcx38 => .br (pair20 vy33.1) (.bind (vy33.1.turn t3) fun vpa39 => .br (canon vcx38) (.bind (samePz vcx38 vpa39 vy33.2) fun vb40 => .br (!vb40) (.ret (false)) (.bind (cMirror vcx0) fun vcx41 => .br (canon vcx41) (.bind (samePz vcx41 (Pair.mk vy33.1.x (IntKind.i64.wrap (0 - vy33.1.y))) vy33.2) fun vb42 => .br (!vb42) (.ret (false)) (.bind (if cWhole vcx0 = true then cNorm vcx0 else 0) fun vn43 => .br (vn43 != vn34) (.ret (false)) (.bind (cInDisc vcx0 t4) fun vn44 => .br (vn44 != vn35) (.ret (false)) (.br (true) (.bind (((), List.map cxOf (cellsP (cellsR t4)), ())) fun vy45 => .br (true) (.bind (((), cellsP (cellsR t4), ())) fun vy46 => .br ((@Nat.cast Int _ vy45.2.1.length) != (@Nat.cast Int _ vy46.2.1.length)) (.ret (false)) (.get (runBy gtStep gtM ((0, (@Nat.cast Int _ vy45.2.1.length), ()), vy45.2.1, vy46.2.1, ())) fun vy47 => .sum (vy47) (fun vs48 => .ret (true)) (fun vs49 => .ret (vs49.1.1)))) (.fail)) (.fail))))) (.fail))) (.fail)) (.fail)))) (.fail)) (.fail)) (.bind (true) fun vb50 => .br (!vb50) (.ret (false)) (.bind (cWhole vcx0) fun vb51 => .br (!vb51 == vy33.2) (.ret (false)) (.bind (cTurn vcx0 t3) fun vcx52 => .br (pair20 vy33.1) (.bind (vy33.1.turn t3) fun vpa53 => .br (canon vcx52) (.bind (samePz vcx52 vpa53 vy33.2) fun vb54 => .br (!vb54) (.ret (false)) (.bind (cMirror vcx0) fun vcx55 => .br (canon vcx55) (.bind (samePz vcx55 (Pair.mk vy33.1.x (IntKind.i64.wrap (0 - vy33.1.y))) vy33.2) fun vb56 => .br (!vb56) (.ret (false)) (.bind (if cWhole vcx0 = true then cNorm vcx0 else 0) fun vn57 => .br (vn57 != 0) (.ret (false)) (.bind (cInDisc vcx0 t4) fun vn58 => .br (vn58 != 0) (.ret (false)) (.br (true) (.bind (((), List.map cxOf (cellsP (cellsR t4)), ())) fun vy59 => .br (true) (.bind (((), cellsP (cellsR t4), ())) fun vy60 => .br ((@Nat.cast Int _ vy59.2.1.length) != (@Nat.cast Int _ vy60.2.1.length)) (.ret (false)) (.get (runBy gtStep gtM ((0, (@Nat.cast Int _ vy59.2.1.length), ()), vy59.2.1, vy60.2.1, ())) fun vy61 => .sum (vy61) (fun vs62 => .ret (true)) (fun vs63 => .ret (vs63.1.1)))) (.fail)) (.fail))))) (.fail))) (.fail)) (.fail))))) := by kernel_rfl
theorem c_meniscuslaw8_GaussTells : PlainS Try.prog 6 (sc 6 [0, 1, 2, 3, 4, 5] (tCod 0 cInt (tCod 1 cInt (tCod 2 cInt (tCod 3 cInt (tCod 4 cInt (tCod 5 cBool tNil)))))) rNil) cBool (fun _ => true) ((fun _ => true)) := by
  intro x h N w vs hM hv
  obtain ⟨⟨t0, t1, t2, t3, t4, t5, ⟨⟩⟩, ⟨⟩⟩ := x
  refine calls_of_tree (n := 200) (EnvOK.add s_meniscuslaw8_number (EnvOK.add s_meniscuslaw8_known (EnvOK.add s_gauss_Turn (EnvOK.add s_gauss_Mirror (EnvOK.add s_gauss_Norm (EnvOK.add s_meniscushand_Pick (EnvOK.add s_meniscuslaw8_same (EnvOK.add s_gauss_InDisc (EnvOK.add s_gauss_Cells (EnvOK.add s_meniscusref8_Of (EnvOK.add s_meniscusref8_Pair_Norm (EnvOK.add s_meniscusref8_Pair_InDisc (EnvOK.add s_gauss_Whole (EnvOK.add s_meniscusref8_Pair_Turn (EnvOK.add s_meniscusref8_Cells EnvOK.nil))))))))))))))) Try.func6 hv (Nat.le_of_ble_eq_true (by kernel_rfl)) (LFn.add (fn := Try.f6) (i := 17) (by kernel_rfl) ok_meniscuslaw8_GaussTells_17 LFn.nil) hM cBool ?_
  rw [t_meniscuslaw8_GaussTells]
  have p60 : ∀ n : Int, pickOk n 60 = true := fun _ => by simp [pickOk]
  obtain ⟨z, hz⟩ : ∃ z, numZ t0 t1 t2 = z := ⟨_, rfl⟩
  obtain ⟨f1, f2, f3, f4, f5, f6, f7, f8, f9⟩ := tells_one z t3
  obtain ⟨n, hn⟩ : ∃ n, IntKind.i64.wrap (pick t4 60 - 5) = n := ⟨_, rfl⟩
  have g1 := gt_run n
  have g2 := gt_run t4
  simp only [List.length_map] at g1 g2
  simp only [den_br, den_bind, den_ret, den_fail, den_get, hz, p60, hn, f1, f2, f3, f4, f5, f6, f7, if_true, List.length_map, g1, g2, den_inl, den_inr, bne_self_eq_false, Bool.not_true, Bool.false_eq_true, if_false]
  cases hw : cWhole z
  · cases t5 <;> simp [f9, hw, g1, g2, den_inl]
  · have f8' := f8 hw
    cases t5 <;> simp [f8', f9, hw, g1, g2, den_inl]
theorem s_meniscuslaw8_GaussTells : Ev.Spec Try.prog 6 (FS (sc 6 [0, 1, 2, 3, 4, 5] (tCod 0 cInt (tCod 1 cInt (tCod 2 cInt (tCod 3 cInt (tCod 4 cInt (tCod 5 cBool tNil)))))) rNil) cBool (fun _ => true) ((fun _ => true))) := specS rfl (fun vs w => Try.call6 vs w) c_meniscuslaw8_GaussTells
end Go.Proofs.Ythgpgnijbajlgaa
