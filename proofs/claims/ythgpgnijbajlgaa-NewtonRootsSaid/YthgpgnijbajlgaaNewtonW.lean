/-
  A line with a whole zero, solved by Newton's rounds: exact; in plain Lean.
-/
import Derived.Test.YthgpgnijbajlgaaCore3
import Derived.Test.YthgpgnijbajlgaaPlane
namespace Go.Proofs.Ythgpgnijbajlgaa
open Go

def wholeF (p k : Int) (t : Iv) : Iv × Iv := ((t.sub (Iv.whole p)).times k, Iv.whole k)
def stp (n : Int) : Iv := ⟨n, n, false⟩
theorem stp_right {n : Int} (h : -1073741824 ≤ n ∧ n ≤ 1073741824) : (stp n).right = true := right_mk (by omega)
theorem of_stp {n : Int} (h : -1073741824 ≤ n ∧ n ≤ 1073741824) : Iv.of n n = stp n := of_mk (by omega)
theorem whole_stp {k : Int} (h : -16384 ≤ k ∧ k ≤ 16384) : Iv.whole k = stp (k * 65536) := whole_pt h
theorem fl_exact (q : Int) {b : Int} (hb : b ≠ 0) : fl (q * b) b = q := by
  rcases Int.lt_or_le b 0 with h | h
  · have : fl (q * b) b = (-(q * b)) / (-b) := if_pos h
    rw [this, show -(q * b) = q * (-b) by rw [Int.mul_neg]]
    exact Int.mul_ediv_cancel _ (by omega)
  · exact fl_mul_exact q b (by omega)
theorem rnd_ex (q : Int) {b : Int} (hb : b ≠ 0) (up : Bool) (h : numIn q = true) : rnd (q * b) b up = (q, true) := by
  simp [rnd, fl_exact q hb, h]
theorem div_stp {n k : Int} (hk : k ≠ 0) (hk2 : -5 ≤ k ∧ k ≤ 5) (hn : -8000000 ≤ n ∧ n ≤ 8000000) : (stp (k * n)).div (stp (k * 65536)) = stp n := by
  have hkn : -40000000 ≤ k * n ∧ k * n ≤ 40000000 := by
    have := prod_bd (a := k) (b := n) (A := 5) (B := 8000000) (by omega) (by omega) (by omega) (by omega)
    omega
  have hh : ∀ up, numDiv (k * n) (k * 65536) up = (n, true) := by
    intro up
    unfold numDiv
    rw [if_pos ⟨⟨numIn_iff.2 (by omega), numIn_iff.2 (by omega)⟩, by omega⟩]
    rw [show k * n * 65536 = n * (k * 65536) by rw [Int.mul_comm k n, Int.mul_assoc]]
    exact rnd_ex n (by omega) up (numIn_iff.2 (by omega))
  have hb : Iv.both (stp (k * n)) (stp (k * 65536)) = true := both_mk (stp_right (by omega)) (stp_right (by omega))
  have h0 : Iv.has (stp (k * 65536)) 0 = false := by
    simp only [Iv.has, stp]
    rcases Int.lt_or_le k 0 with h | h
    · have : ¬ (0 ≤ k * 65536) := by omega
      simp [this]
    · have : ¬ (k * 65536 ≤ 0) := by omega
      simp [this]
  unfold Iv.div
  rw [if_pos ⟨hb, h0⟩]
  unfold ends
  simp only [stp, hh, and_self, if_true, Int.min_self, Int.max_self]
  exact of_stp (by omega)
theorem next_whole {p k : Int} {t : Iv} (hp : -10 ≤ p ∧ p ≤ 10) (hk : k ≠ 0) (hk2 : -5 ≤ k ∧ k ≤ 5) (ht : t.no = false) (h1 : -2621440 ≤ t.lo) (h2 : t.lo ≤ t.hi) (h3 : t.hi ≤ 4194304) :
    nextN (wholeF p k) t = stp (p * 65536) := by
  have hr : t.right = true := right_iff.2 ⟨ht, by omega, h2, by omega⟩
  have hm : t.mid = (t.lo + t.hi) / 2 := if_pos hr
  have hmb : -2621440 ≤ t.mid ∧ t.mid ≤ 4194304 := by rw [hm]; omega
  have e1 : Iv.point t.mid = stp t.mid := of_stp (by omega)
  have e2 : (stp t.mid).sub (stp (p * 65536)) = stp (t.mid - p * 65536) := by
    rw [sub_eq, if_pos (both_mk (stp_right (by omega)) (stp_right (by omega)))]
    exact of_stp (by simp only [stp]; omega)
  have hkm : -40000000 ≤ k * (t.mid - p * 65536) ∧ k * (t.mid - p * 65536) ≤ 40000000 := by
    have := prod_bd (a := k) (b := t.mid - p * 65536) (A := 5) (B := 8000000) (by omega) (by omega) (by omega) (by omega)
    omega
  have e3 : (stp (t.mid - p * 65536)).times k = stp (k * (t.mid - p * 65536)) := by
    unfold Iv.times
    rw [if_pos ⟨stp_right (by omega), numIn_iff.2 (by omega)⟩]
    simp only [stp, Int.min_self, Int.max_self]
    exact of_stp (by omega)
  unfold nextN wholeF
  rw [e1, whole_stp (by omega), whole_stp (by omega), e2, e3, div_stp hk hk2 (by omega)]
  rw [sub_eq, if_pos (both_mk (stp_right (by omega)) (stp_right (by omega)))]
  simp only [stp]
  rw [show t.mid - (t.mid - p * 65536) = p * 65536 by omega]
  exact of_stp (by omega)
theorem solve_whole {p k : Int} {t : Iv} (hp : -10 ≤ p ∧ p ≤ 10) (hk : k ≠ 0) (hk2 : -5 ≤ k ∧ k ≤ 5) (ht : t.no = false) (h1 : -2621440 ≤ t.lo) (h2 : t.lo ≤ t.hi) (h3 : t.hi ≤ 4194304) :
    solve (wholeF p k) t 20 = if p * 65536 < t.lo ∨ t.hi < p * 65536 then (Iv.none, 2) else if t.lo < p * 65536 ∧ p * 65536 < t.hi then (stp (p * 65536), 1) else (Iv.none, 0) := by
  have hr : t.right = true := right_iff.2 ⟨ht, by omega, h2, by omega⟩
  have hP : -1073741824 ≤ p * 65536 ∧ p * 65536 ≤ 1073741824 := by omega
  have hn := next_whole hp hk hk2 ht h1 h2 h3
  have hn2 : nextN (wholeF p k) (stp (p * 65536)) = stp (p * 65536) := next_whole hp hk hk2 rfl (by simp only [stp]; omega) (by simp only [stp]; omega) (by simp only [stp]; omega)
  have hm : t.meet (stp (p * 65536)) = Iv.of (max t.lo (p * 65536)) (min t.hi (p * 65536)) := if_pos (both_mk hr (stp_right hP))
  have hm2 : (stp (p * 65536)).meet (stp (p * 65536)) = stp (p * 65536) := by
    unfold Iv.meet
    rw [if_pos (both_mk (stp_right hP) (stp_right hP))]
    simp only [stp, Int.min_self, Int.max_self]
    exact of_stp hP
  have hno : (stp (p * 65536)).no = false := rfl
  unfold solve
  rw [if_pos hr]
  show solveGo _ (18 + 1 + 1) _ _ = _
  rw [solveGo, solveRound, hn, hno, hm]
  simp only [Bool.false_eq_true, if_false]
  by_cases hout : p * 65536 < t.lo ∨ t.hi < p * 65536
  · have : (Iv.of (max t.lo (p * 65536)) (min t.hi (p * 65536))) = Iv.none := by
      unfold Iv.of
      rw [if_neg (fun h => by have := right_iff.1 h; dsimp only at this; omega)]
    rw [this]
    simp [Iv.none, hout]
  · have he : Iv.of (max t.lo (p * 65536)) (min t.hi (p * 65536)) = stp (p * 65536) := by
      rw [show max t.lo (p * 65536) = p * 65536 by omega, show min t.hi (p * 65536) = p * 65536 by omega]
      exact of_stp hP
    rw [he, hno]
    simp only [Bool.false_eq_true, if_false, hout]
    by_cases heq : stp (p * 65536) = t
    · have hlo : t.lo = p * 65536 := by rw [← heq]; rfl
      rw [if_pos heq]
      simp only [hlo, stp, Int.lt_irrefl, decide_false, Bool.false_or, Bool.false_and, false_and, Bool.false_eq_true, if_false]
    · rw [if_neg heq]
      show solveGo (wholeF p k) (18 + 1) (stp (p * 65536)) _ = _
      rw [solveGo, solveRound, hn2, hno, hm2, hno]
      simp only [Bool.false_eq_true, if_false, if_true, stp]
      by_cases hin : t.lo < p * 65536 ∧ p * 65536 < t.hi
      · simp [hin.1, hin.2]
      · rw [if_neg hin]
        simp only [Bool.false_or, Int.lt_irrefl, decide_false, Bool.false_and, Bool.or_false]
        split
        · rename_i h
          simp only [Bool.and_eq_true] at h
          exact absurd ⟨of_decide_eq_true h.1, of_decide_eq_true h.2⟩ hin
        · rfl
end Go.Proofs.Ythgpgnijbajlgaa
