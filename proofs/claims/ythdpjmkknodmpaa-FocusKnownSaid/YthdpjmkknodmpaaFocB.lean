/-
  A focus that is asked narrower; in plain Lean.
-/
import Derived.Test.YthdpjmkknodmpaaFoc
import Derived.Test.YthdpjmkknodmpaaPar
namespace Go.Proofs.Ythdpjmkknodmpaa
open Go
set_option linter.unusedVariables false
set_option linter.unusedSimpArgs false

theorem point_sub_of {n a b : Int} (h : a ≤ n ∧ n ≤ b) (ha : -1073741824 ≤ a) (hb : b ≤ 1073741824) : Sub (Iv.point n) ⟨a, b, false⟩ := fun hr => by
  have e : Iv.point n = ⟨n, n, false⟩ := of_eq ⟨⟨numIn_iff.2 (by omega), numIn_iff.2 (by omega)⟩, Int.le_refl _⟩
  rw [e]
  exact ⟨right_iff.2 ⟨rfl, by dsimp only; omega, by dsimp only; omega, by dsimp only; omega⟩, by dsimp only; omega, by dsimp only; omega⟩
theorem half_near : (crossOf [halfS] (Iv.whole 1) ⟨0, 655360, false⟩).2 = 1 ∧ 0 < (crossOf [halfS] (Iv.whole 1) ⟨0, 655360, false⟩).1.lo := by decide +kernel
theorem half_far : (crossOf [halfS] (Iv.whole 1) ⟨1310720, 3276800, false⟩).2 = 1 ∧ (crossOf [halfS] (Iv.whole 1) ⟨1310720, 3276800, false⟩).1.hi < 0 := by decide +kernel
theorem half_bfl : (paraxOf (Iv.whole 3) [halfS]).2.1.has 1048576 = true := by decide +kernel
theorem half_lo {n : Int} (h : 0 ≤ n ∧ n ≤ 655360) : signOf [halfS] (Iv.whole 1) n = 1 := by
  obtain ⟨h1, h2⟩ := half_near
  obtain ⟨k1, k2, k3⟩ := crossOf_sub (l := [halfS]) (h := Iv.whole 1) (point_sub_of h (by decide) (by decide)) h1
  obtain ⟨_, k4, _⟩ := k3 (throughOf_right h1)
  unfold signOf signIv
  rw [if_pos k1, if_pos (by omega)]
theorem half_hi {n : Int} (h : 1310720 ≤ n ∧ n ≤ 3276800) : signOf [halfS] (Iv.whole 1) n = -1 := by
  obtain ⟨h1, h2⟩ := half_far
  obtain ⟨k1, k2, k3⟩ := crossOf_sub (l := [halfS]) (h := Iv.whole 1) (point_sub_of h (by decide) (by decide)) h1
  obtain ⟨_, _, k4⟩ := k3 (throughOf_right h1)
  have := right_bd k2
  unfold signOf signIv
  rw [if_pos k1, if_neg (by omega), if_pos (by omega)]
theorem half_focus {lo hi most : Int} (h1 : 0 ≤ lo ∧ lo < 655360) (h2 : 1310720 ≤ hi ∧ hi < 3276800) (hm : 1 ≤ most) :
    focusOf [halfS] (Iv.whole 1) lo hi most = match focGo (signOf [halfS] (Iv.whole 1)) most 1 (hi - lo).toNat lo hi with
      | .inl x => (Iv.of x.1 x.2, 0)
      | .inr _ => (zeroIv, 8) := by
  unfold focusOf
  have n1 : numIn lo = true := numIn_iff.2 (by omega)
  have n2 : numIn hi = true := numIn_iff.2 (by omega)
  rw [if_neg (by rw [n1, n2]; simp; omega), half_lo (by omega), half_hi (by omega), if_neg (by decide), if_neg (by decide)]
  cases focGo (signOf [halfS] (Iv.whole 1)) most 1 (hi - lo).toNat lo hi <;> rfl
theorem half_finer {lo hi most finer : Int} (h1 : 0 ≤ lo ∧ lo < 655360) (h2 : 1310720 ≤ hi ∧ hi < 3276800) (hf : 1 ≤ finer) (hm : finer ≤ most) :
    ((focusOf [halfS] (Iv.whole 1) lo hi most).2 = 8 ∧ (focusOf [halfS] (Iv.whole 1) lo hi finer).2 = 8) ∨
    ((focusOf [halfS] (Iv.whole 1) lo hi most).2 = 0 ∧ (focusOf [halfS] (Iv.whole 1) lo hi finer).2 = 8) ∨
    ((focusOf [halfS] (Iv.whole 1) lo hi most).2 = 0 ∧ (focusOf [halfS] (Iv.whole 1) lo hi finer).2 = 0 ∧ (focusOf [halfS] (Iv.whole 1) lo hi finer).1.inside (focusOf [halfS] (Iv.whole 1) lo hi most).1 = true) := by
  rw [half_focus h1 h2 (by omega), half_focus h1 h2 hf]
  obtain ⟨f1, f2⟩ := focGo_finer (sg := signOf [halfS] (Iv.whole 1)) (first := 1) hm (hi - lo).toNat lo hi (Nat.le_refl _) hf
  have s1 : signOf [halfS] (Iv.whole 1) lo = 1 := half_lo (by omega)
  have s2 : signOf [halfS] (Iv.whole 1) hi = -1 := half_hi (by omega)
  cases hg : focGo (signOf [halfS] (Iv.whole 1)) most 1 (hi - lo).toNat lo hi with
  | inr u =>
    rw [f1 hg]
    exact .inl ⟨rfl, rfl⟩
  | inl x =>
    obtain ⟨a, b⟩ := x
    rcases f2 a b hg with e | ⟨c, d, e, hi'⟩
    · rw [e]; exact .inr (.inl ⟨rfl, rfl⟩)
    · rw [e]
      obtain ⟨i1, i2⟩ := hi' (by omega)
      obtain ⟨_, _, _, g4, g5, g6, _⟩ := focGo_inv (sg := signOf [halfS] (Iv.whole 1)) (first := 1) (by omega) _ lo hi a b (by omega) (Nat.le_refl _) s1 (by rw [s2]; decide) (by rw [s2]; decide) hg
      obtain ⟨_, _, _, k4, k5, k6, _⟩ := focGo_inv (sg := signOf [halfS] (Iv.whole 1)) (first := 1) hf _ lo hi c d (by omega) (Nat.le_refl _) s1 (by rw [s2]; decide) (by rw [s2]; decide) e
      refine .inr (.inr ⟨rfl, rfl, ?_⟩)
      dsimp only
      have e1 : Iv.of a b = ⟨a, b, false⟩ := of_eq ⟨⟨numIn_iff.2 (by omega), numIn_iff.2 (by omega)⟩, by omega⟩
      have e2 : Iv.of c d = ⟨c, d, false⟩ := of_eq ⟨⟨numIn_iff.2 (by omega), numIn_iff.2 (by omega)⟩, by omega⟩
      rw [e1, e2]
      have r1 : (⟨a, b, false⟩ : Iv).right = true := right_iff.2 ⟨rfl, by dsimp only; omega, by dsimp only; omega, by dsimp only; omega⟩
      have r2 : (⟨c, d, false⟩ : Iv).right = true := right_iff.2 ⟨rfl, by dsimp only; omega, by dsimp only; omega, by dsimp only; omega⟩
      simp [Iv.inside, Iv.both, r1, r2, i1, i2]
end Go.Proofs.Ythdpjmkknodmpaa
