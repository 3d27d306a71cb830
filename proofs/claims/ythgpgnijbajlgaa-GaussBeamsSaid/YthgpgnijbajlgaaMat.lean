/-
  Products of matrices; in plain Lean.
-/
import Derived.Test.YthgpgnijbajlgaaGsL
import Derived.Test.YthgpgnijbajlgaaPar
namespace Go.Proofs.Ythgpgnijbajlgaa
open Go Ev
set_option linter.unusedVariables false
set_option linter.unusedSimpArgs false

theorem small1_iff {n : Int} : small1 n = true ↔ -1048576 ≤ n ∧ n ≤ 1048576 := by simp [small1]
theorem quadIn_iff {m : Quad} : quadIn m = true ↔ ((-1048576 ≤ m.1 ∧ m.1 ≤ 1048576) ∧ (-1048576 ≤ m.2.1 ∧ m.2.1 ≤ 1048576) ∧ (-1048576 ≤ m.2.2.1 ∧ m.2.2.1 ≤ 1048576) ∧ (-1048576 ≤ m.2.2.2 ∧ m.2.2.2 ≤ 1048576)) := by
  simp only [quadIn, Bool.and_eq_true, small1_iff]
def timesO (a b : Int) (u v : Cx) : Option Int := (rowC a b u v).bind fun r => fTo r.1
theorem times_eq {a b x y : Int} (ha : small1 a = true) (hb : small1 b = true) (hx : small1 x = true) (hy : small1 y = true) : timesO a b (cxOf ⟨x, 0⟩) (cxOf ⟨y, 0⟩) = some (a * x + b * y) := by
  have hx' := small1_iff.1 hx
  have hy' := small1_iff.1 hy
  have sx : Pair.small ⟨x, 0⟩ 1048576 := ⟨hx', by simp only; omega⟩
  have sy : Pair.small ⟨y, 0⟩ 1048576 := ⟨hy', by simp only; omega⟩
  obtain ⟨r, e, f⟩ := rowC_CI (CI_small sx) (CI_small sy) sx sy ha hb
  unfold timesO
  rw [e]
  exact to_FI f.1
def colOk (m : Quad) (x y : Int) : Bool := quadIn m && (small1 x && small1 y)
def colOf (m : Quad) (x y : Int) : Int × Int := (m.1 * x + m.2.1 * y, m.2.2.1 * x + m.2.2.2 * y)
def qmul (a m : Quad) : Quad := (a.1 * m.1 + a.2.1 * m.2.2.1, a.1 * m.2.1 + a.2.1 * m.2.2.2, a.2.2.1 * m.1 + a.2.2.2 * m.2.2.1, a.2.2.1 * m.2.1 + a.2.2.2 * m.2.2.2)
def zeroQ : Quad := (0, 0, 0, 0)
def matGo : List Quad → Quad → Quad × Bool
  | [], m => (m, true)
  | a :: t, m => if quadIn a = true then (if quadIn (qmul a m) = true then matGo t (qmul a m) else (zeroQ, false)) else (zeroQ, false)
def matOf (l : List Quad) : Quad × Bool := matGo l (1, 0, 0, 1)
abbrev MatX := (Int × Int × Unit) × (List Quad × Quad × Quad × Unit)
abbrev MatX2 := (Int × Unit) × (List Quad × Quad × Quad × Unit)
abbrev MatY := (Unit × (Quad × Quad × Unit)) ⊕ ((Bool × Unit) × (Quad × Unit))
def matStep : MatX → Option (MatX ⊕ MatY)
  | ((i, n, _), (l, r, m, _)) =>
    if i < n then
      if 0 ≤ i ∧ i < (l.length : Int) then
        match l[i.toNat]? with
        | some a =>
          if quadIn a = true then
            if colOk a m.1 m.2.2.1 = true then
              if colOk a m.2.1 m.2.2.2 = true then
                if quadIn (qmul a m) = true then some (.inl ((IntKind.i64.wrap (i + 1), n, ()), (l, r, qmul a m, ())))
                else some (.inr (.inr ((false, ()), (zeroQ, ()))))
              else none
            else none
          else some (.inr (.inr ((false, ()), (zeroQ, ()))))
        | none => none
      else none
    else some (.inr (.inl ((), (r, m, ()))))
def qmulW (a m : Quad) : Quad :=
  (IntKind.i64.wrap (IntKind.i64.wrap (a.1 * m.1) + IntKind.i64.wrap (a.2.1 * m.2.2.1)), IntKind.i64.wrap (IntKind.i64.wrap (a.1 * m.2.1) + IntKind.i64.wrap (a.2.1 * m.2.2.2)),
   IntKind.i64.wrap (IntKind.i64.wrap (a.2.2.1 * m.1) + IntKind.i64.wrap (a.2.2.2 * m.2.2.1)), IntKind.i64.wrap (IntKind.i64.wrap (a.2.2.1 * m.2.1) + IntKind.i64.wrap (a.2.2.2 * m.2.2.2)))
def matStep2 : MatX2 → Option (MatX2 ⊕ MatY)
  | ((i, _), (l, r, m, _)) =>
    if i < (l.length : Int) then
      if 0 ≤ i then
        match l[i.toNat]? with
        | some a =>
          if quadIn a = true then
            if quadIn (qmulW a m) = true then some (.inl ((IntKind.i64.wrap (i + 1), ()), (l, r, qmulW a m, ())))
            else some (.inr (.inr ((false, ()), (zeroQ, ()))))
          else some (.inr (.inr ((false, ()), (zeroQ, ()))))
        | none => none
      else none
    else some (.inr (.inl ((), (r, m, ()))))
def matM (x : MatX) : Nat := x.2.1.length
def matM2 (x : MatX2) : Nat := x.2.1.length
theorem qmulW_eq {a m : Quad} (ha : quadIn a = true) (hm : quadIn m = true) : qmulW a m = qmul a m := by
  obtain ⟨a1, a2, a3, a4⟩ := quadIn_iff.1 ha
  obtain ⟨m1, m2, m3, m4⟩ := quadIn_iff.1 hm
  have w : ∀ {x y u v : Int}, (-1048576 ≤ x ∧ x ≤ 1048576) → (-1048576 ≤ y ∧ y ≤ 1048576) → (-1048576 ≤ u ∧ u ≤ 1048576) → (-1048576 ≤ v ∧ v ≤ 1048576) → IntKind.i64.wrap (IntKind.i64.wrap (x * y) + IntKind.i64.wrap (u * v)) = x * y + u * v := by
    intro x y u v hx hy hu hv
    have b1 := abs_mul_le hx hy
    have b2 := abs_mul_le hu hv
    have e : ((1048576 : Int) * 1048576).natAbs = 1099511627776 := by decide
    rw [e] at b1 b2
    rw [wr (n := x * y) (by omega), wr (n := u * v) (by omega), wr (by omega)]
  unfold qmulW qmul
  rw [w a1 m1 a2 m3, w a1 m2 a2 m4, w a3 m1 a4 m3, w a3 m2 a4 m4]
theorem colOk_in {a m : Quad} (ha : quadIn a = true) (hm : quadIn m = true) : colOk a m.1 m.2.2.1 = true ∧ colOk a m.2.1 m.2.2.2 = true := by
  obtain ⟨m1, m2, m3, m4⟩ := quadIn_iff.1 hm
  unfold colOk
  rw [ha, small1_iff.2 m1, small1_iff.2 m2, small1_iff.2 m3, small1_iff.2 m4]
  exact ⟨rfl, rfl⟩
def matOut (r : Quad) (y : Quad × Bool) : MatY := if y.2 = true then .inl ((), (r, y.1, ())) else .inr ((false, ()), (zeroQ, ()))
theorem matGo_false : ∀ (l : List Quad) (m : Quad), (matGo l m).2 = false → (matGo l m).1 = zeroQ
  | [], _, h => by cases h
  | a :: t, m, h => by
    unfold matGo at h ⊢
    split
    · rename_i c
      rw [if_pos c] at h
      split
      · rename_i d
        rw [if_pos d] at h
        exact matGo_false t _ h
      · rfl
    · rfl
theorem mat_iter {l : List Quad} (hl : l.length ≤ 1048576) (r : Quad) : ∀ (t pre : List Quad) (m : Quad) (j : Nat), pre ++ t = l → quadIn m = true → t.length ≤ j →
    Ev.iter matStep (j + 1) (((pre.length : Int), (l.length : Int), ()), (l, r, m, ())) = some (matOut r (matGo t m))
  | [], pre, m, j, h, _, _ => by
    have : l.length = pre.length := by rw [← h]; simp
    rw [Ev.iter]
    simp only [matStep, if_neg (show ¬ (pre.length : Int) < (l.length : Int) by omega)]
    rfl
  | a :: t, pre, m, j, h, hm, hj => by
    have hn : l.length = pre.length + (t.length + 1) := by rw [← h]; simp
    obtain ⟨j', rfl⟩ : ∃ j', j = j' + 1 := ⟨j - 1, by simp at hj; omega⟩
    have hg : l[((pre.length : Int)).toNat]? = some a := by
      rw [show ((pre.length : Int)).toNat = pre.length from by omega, ← h, List.getElem?_append_right (by omega)]; simp
    have hw : IntKind.i64.wrap ((pre.length : Int) + 1) = ((pre ++ [a]).length : Int) := by
      rw [wr (by omega)]; simp
    rw [Ev.iter]
    simp only [matStep, if_pos (show (pre.length : Int) < (l.length : Int) by omega), if_pos (show 0 ≤ (pre.length : Int) ∧ (pre.length : Int) < (l.length : Int) by omega), hg, hw]
    unfold matGo
    by_cases ha : quadIn a = true
    · obtain ⟨c1, c2⟩ := colOk_in ha hm
      rw [if_pos ha, if_pos ha, if_pos c1, if_pos c2]
      by_cases hq : quadIn (qmul a m) = true
      · rw [if_pos hq, if_pos hq]
        exact mat_iter hl r t (pre ++ [a]) (qmul a m) j' (by rw [← h]; simp) hq (by simp at hj; omega)
      · rw [if_neg hq, if_neg hq]; rfl
    · rw [if_neg ha, if_neg ha]; rfl
theorem mat_run {l : List Quad} (hl : l.length ≤ 1048576) (r : Quad) : runBy matStep matM ((0, (l.length : Int), ()), (l, r, (1, 0, 0, 1), ())) = some (matOut r (matOf l)) :=
  mat_iter hl r l [] _ _ rfl (by decide) (Nat.le_refl _)
theorem mat_iter2 {l : List Quad} (hl : l.length ≤ 1048576) (r : Quad) : ∀ (t pre : List Quad) (m : Quad) (j : Nat), pre ++ t = l → quadIn m = true → t.length ≤ j →
    Ev.iter matStep2 (j + 1) (((pre.length : Int), ()), (l, r, m, ())) = some (matOut r (matGo t m))
  | [], pre, m, j, h, _, _ => by
    have : l.length = pre.length := by rw [← h]; simp
    rw [Ev.iter]
    simp only [matStep2, if_neg (show ¬ (pre.length : Int) < (l.length : Int) by omega)]
    rfl
  | a :: t, pre, m, j, h, hm, hj => by
    have hn : l.length = pre.length + (t.length + 1) := by rw [← h]; simp
    obtain ⟨j', rfl⟩ : ∃ j', j = j' + 1 := ⟨j - 1, by simp at hj; omega⟩
    have hg : l[((pre.length : Int)).toNat]? = some a := by
      rw [show ((pre.length : Int)).toNat = pre.length from by omega, ← h, List.getElem?_append_right (by omega)]; simp
    have hw : IntKind.i64.wrap ((pre.length : Int) + 1) = ((pre ++ [a]).length : Int) := by
      rw [wr (by omega)]; simp
    rw [Ev.iter]
    simp only [matStep2, if_pos (show (pre.length : Int) < (l.length : Int) by omega), if_pos (show 0 ≤ (pre.length : Int) by omega), hg, hw]
    unfold matGo
    by_cases ha : quadIn a = true
    · rw [if_pos ha, if_pos ha, qmulW_eq ha hm]
      by_cases hq : quadIn (qmul a m) = true
      · rw [if_pos hq, if_pos hq]
        exact mat_iter2 hl r t (pre ++ [a]) (qmul a m) j' (by rw [← h]; simp) hq (by simp at hj; omega)
      · rw [if_neg hq, if_neg hq]; rfl
    · rw [if_neg ha, if_neg ha]; rfl
theorem mat_run2 {l : List Quad} (hl : l.length ≤ 1048576) (r : Quad) : runBy matStep2 matM2 ((0, ()), (l, r, (1, 0, 0, 1), ())) = some (matOut r (matOf l)) :=
  mat_iter2 hl r l [] _ _ rfl (by decide) (Nat.le_refl _)
end Go.Proofs.Ythgpgnijbajlgaa
