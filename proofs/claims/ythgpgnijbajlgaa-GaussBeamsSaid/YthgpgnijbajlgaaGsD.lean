/-
  Discs and cells; in plain Lean.
-/
import Derived.Test.YthgpgnijbajlgaaGsL
namespace Go.Proofs.Ythgpgnijbajlgaa
open Go Ev
set_option linter.unusedVariables false
set_option linter.unusedSimpArgs false

theorem sq_le_of {u v : Int} (h0 : 0 ≤ u) (h : u ≤ v) : u * u ≤ v * v := Int.mul_le_mul h h h0 (by omega)
theorem sq_le_neg {u v : Int} (h0 : u ≤ 0) (h : v ≤ u) : u * u ≤ v * v := by
  have := sq_le_of (u := -u) (v := -v) (by omega) (by omega)
  rwa [Int.neg_mul_neg, Int.neg_mul_neg] at this
theorem sq_between {lo u hi : Int} (h1 : lo ≤ u) (h2 : u ≤ hi) : u * u ≤ lo * lo ∨ u * u ≤ hi * hi := by
  rcases Int.lt_or_le u 0 with h | h
  · exact .inl (sq_le_neg (by omega) h1)
  · exact .inr (sq_le_of h h2)
theorem ten_sq (a : Int) : (10 * a) * (10 * a) = 100 * (a * a) := by grind
def inD (a b n i j : Int) : Bool := decide ((10 * a + i) * (10 * a + i) + (10 * b + j) * (10 * b + j) ≤ 100 * (n * n))
structure AllIn (p : Pair) (n : Int) : Prop where
  a : p.norm ≤ n * n
  b : (p.add ⟨1, 0⟩).norm ≤ n * n
  c : (p.add ⟨0, 1⟩).norm ≤ n * n
  d : (p.add ⟨1, 1⟩).norm ≤ n * n
theorem nearI_eq {x : Int} (h : -1048576 ≤ x ∧ x ≤ 1048576) : nearI x = if x < 0 then x + 1 else x := by
  unfold nearI
  split
  · exact wr (by omega)
  · rfl
theorem disc_yes {p : Pair} {n : Int} (hn : 0 ≤ n ∧ n ≤ 1048576) (h : discOf p n = 1) : AllIn p n := by
  have e : discR n = n := by unfold discR; omega
  unfold discOf at h
  rw [e] at h
  split at h
  · cases h
  · split at h
    · cases h
    · rename_i h2
      exact ⟨by omega, by omega, by omega, by omega⟩
theorem disc_no {p : Pair} {n : Int} (hn : 0 ≤ n ∧ n ≤ 1048576) (h : discOf p n = 2) : n * n < Pair.norm ⟨nearI p.x, nearI p.y⟩ := by
  have e : discR n = n := by unfold discR; omega
  unfold discOf at h
  rw [e] at h
  split at h
  · assumption
  · split at h <;> cases h
theorem inD_yes {p : Pair} {n : Int} (h : AllIn p n) {i j : Int} (hi : 0 ≤ i ∧ i ≤ 10) (hj : 0 ≤ j ∧ j ≤ 10) : inD p.x p.y n i j = true := by
  obtain ⟨a, b⟩ := p
  obtain ⟨h1, h2, h3, h4⟩ := h
  simp only [Pair.norm, Pair.add, Int.add_zero] at h1 h2 h3 h4
  have u := sq_between (lo := 10 * a) (u := 10 * a + i) (hi := 10 * (a + 1)) (by omega) (by omega)
  have v := sq_between (lo := 10 * b) (u := 10 * b + j) (hi := 10 * (b + 1)) (by omega) (by omega)
  rw [ten_sq, ten_sq] at u v
  unfold inD
  apply decide_eq_true
  simp only
  omega
theorem near_far {a i : Int} (ha : -1048576 ≤ a ∧ a ≤ 1048576) (hi : 0 ≤ i ∧ i ≤ 10) : 100 * (nearI a * nearI a) ≤ (10 * a + i) * (10 * a + i) := by
  rw [nearI_eq ha, ← ten_sq]
  split
  · exact sq_le_neg (by omega) (by omega)
  · exact sq_le_of (by omega) (by omega)
theorem inD_no {p : Pair} {n : Int} (hp : p.small 1048576) (h : n * n < Pair.norm ⟨nearI p.x, nearI p.y⟩) {i j : Int} (hi : 0 ≤ i ∧ i ≤ 10) (hj : 0 ≤ j ∧ j ≤ 10) : inD p.x p.y n i j = false := by
  obtain ⟨a, b⟩ := p
  have u := near_far hp.1 hi
  have v := near_far hp.2 hj
  simp only [Pair.norm] at h
  simp only at u v
  unfold inD
  apply decide_eq_false
  simp only
  omega
/-- A part of a cell. -/
theorem five_sq (a e : Int) : (10 * a + 5 * e) * (10 * a + 5 * e) = 25 * ((2 * a + e) * (2 * a + e)) := by grind
theorem two_sq (n : Int) : (2 * n) * (2 * n) = 4 * (n * n) := by grind
theorem part_iff (a b n e f : Int) : inD a b n (5 * e) (5 * f) = decide ((2 * a + e) * (2 * a + e) + (2 * b + f) * (2 * b + f) ≤ (2 * n) * (2 * n)) := by
  unfold inD
  rw [five_sq, five_sq, two_sq]
  apply decide_eq_decide.2
  omega
theorem near_part {x : Int} (h : -1048576 ≤ x ∧ x ≤ 1048576) : nearI x = x ∨ nearI x = x + 1 := by
  rw [nearI_eq h]; split <;> omega
theorem fine_yes {p : Pair} {n : Int} (hp : p.small 100) (hn : 0 ≤ n ∧ n ≤ 1000) (h : AllIn p n) {e f : Int} (he : 0 ≤ e ∧ e ≤ 1) (hf : 0 ≤ f ∧ f ≤ 1) : discOf ⟨2 * p.x + e, 2 * p.y + f⟩ (2 * n) = 1 := by
  have k : ∀ e f : Int, 0 ≤ e ∧ e ≤ 2 → 0 ≤ f ∧ f ≤ 2 → (2 * p.x + e) * (2 * p.x + e) + (2 * p.y + f) * (2 * p.y + f) ≤ (2 * n) * (2 * n) := fun e f h1 h2 =>
    of_decide_eq_true ((part_iff _ _ _ _ _).symm.trans (inD_yes h (by omega) (by omega)))
  have q : discR (2 * n) = 2 * n := by unfold discR; omega
  have k1 := k e f (by omega) (by omega)
  have k2 := k (e + 1) f (by omega) (by omega)
  have k3 := k e (f + 1) (by omega) (by omega)
  have k4 := k (e + 1) (f + 1) (by omega) (by omega)
  have ex : 2 * p.x + e + 1 = 2 * p.x + (e + 1) := by omega
  have ey : 2 * p.y + f + 1 = 2 * p.y + (f + 1) := by omega
  have hx := hp.1
  have hy := hp.2
  unfold discOf
  rw [q]
  rw [if_neg, if_neg]
  · simp only [Pair.norm, Pair.add, Int.add_zero, ex, ey]
    omega
  · simp only [Pair.norm]
    rcases near_part (x := 2 * p.x + e) (by omega) with h1 | h1 <;> rcases near_part (x := 2 * p.y + f) (by omega) with h2 | h2 <;> rw [h1, h2] <;> (try rw [ex]) <;> (try rw [ey]) <;> omega
theorem fine_no {p : Pair} {n : Int} (hp : p.small 100) (hn : 0 ≤ n ∧ n ≤ 1000) (h : n * n < Pair.norm ⟨nearI p.x, nearI p.y⟩) {e f : Int} (he : 0 ≤ e ∧ e ≤ 1) (hf : 0 ≤ f ∧ f ≤ 1) : discOf ⟨2 * p.x + e, 2 * p.y + f⟩ (2 * n) = 2 := by
  have k : ∀ e f : Int, 0 ≤ e ∧ e ≤ 2 → 0 ≤ f ∧ f ≤ 2 → (2 * n) * (2 * n) < (2 * p.x + e) * (2 * p.x + e) + (2 * p.y + f) * (2 * p.y + f) := fun e f h1 h2 => by
    have := of_decide_eq_false ((part_iff p.x p.y n e f).symm.trans (inD_no (small_mono hp (by decide)) h (by omega) (by omega)))
    omega
  have q : discR (2 * n) = 2 * n := by unfold discR; omega
  have k1 := k e f (by omega) (by omega)
  have k2 := k (e + 1) f (by omega) (by omega)
  have k3 := k e (f + 1) (by omega) (by omega)
  have k4 := k (e + 1) (f + 1) (by omega) (by omega)
  have ex : 2 * p.x + e + 1 = 2 * p.x + (e + 1) := by omega
  have ey : 2 * p.y + f + 1 = 2 * p.y + (f + 1) := by omega
  have hx := hp.1
  have hy := hp.2
  unfold discOf
  rw [q, if_pos]
  simp only [Pair.norm]
  rcases near_part (x := 2 * p.x + e) (by omega) with h1 | h1 <;> rcases near_part (x := 2 * p.y + f) (by omega) with h2 | h2 <;> rw [h1, h2] <;> (try rw [ex]) <;> (try rw [ey]) <;> omega
theorem cells_list : ∀ m : Fin 17, cellsP (m.1 : Int) = (List.range (4 * m.1 * m.1)).map fun (i : Nat) => (⟨(i : Int) % (2 * m.1) - m.1, (i : Int) / (2 * m.1) - m.1⟩ : Pair) := by decide +kernel
end Go.Proofs.Ythgpgnijbajlgaa
