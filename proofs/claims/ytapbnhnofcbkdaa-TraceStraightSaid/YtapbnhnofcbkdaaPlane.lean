/-
  Whole numbers as intervals; a ray of whole numbers meets a plane.
-/
import Derived.Test.YtapbnhnofcbkdaaCore
namespace Go.Proofs.Ytapbnhnofcbkdaa
open Go

def pt (k : Int) : Iv := ⟨k * 65536, k * 65536, false⟩
theorem prod_bd {a b A B : Int} (h1 : -A ≤ a) (h2 : a ≤ A) (h3 : -B ≤ b) (h4 : b ≤ B) : -(A * B) ≤ a * b ∧ a * b ≤ A * B := by
  have e := Int.natAbs_mul a b
  have : a.natAbs * b.natAbs ≤ A.natAbs * B.natAbs := Nat.mul_le_mul (by omega) (by omega)
  have e2 := Int.natAbs_mul A B
  have : 0 ≤ A * B := Int.mul_nonneg (by omega) (by omega)
  omega
theorem fl_mul_exact (q b : Int) (hb : 0 < b) : fl (q * b) b = q := by
  unfold fl
  rw [if_neg (by omega), Int.mul_ediv_cancel _ (by omega)]
theorem rnd_exact (q : Int) {b : Int} (hb : 0 < b) (up : Bool) (h : numIn q = true) : rnd (q * b) b up = (q, true) := by
  unfold rnd
  simp [fl_mul_exact q b hb, h]
theorem mulk (k n : Int) (up : Bool) (h : -1073741824 ≤ k * n ∧ k * n ≤ 1073741824) (hk : -16384 ≤ k ∧ k ≤ 16384) (hn : -1073741824 ≤ n ∧ n ≤ 1073741824) : numMul (k * 65536) n up = (k * n, true) := by
  unfold numMul
  rw [if_pos ⟨numIn_iff.2 (by omega), numIn_iff.2 (by omega)⟩]
  have : k * 65536 * n = k * n * 65536 := by rw [Int.mul_assoc, Int.mul_comm 65536 n, Int.mul_assoc]
  rw [this]
  exact rnd_exact _ (by omega) up (numIn_iff.2 h)
theorem right_mk {a b : Int} (h : -1073741824 ≤ a ∧ a ≤ b ∧ b ≤ 1073741824) : (⟨a, b, false⟩ : Iv).right = true := right_iff.2 ⟨rfl, h.1, h.2.1, h.2.2⟩
theorem pt_right {a : Int} (h : -16384 ≤ a ∧ a ≤ 16384) : (pt a).right = true := right_mk (by omega)
theorem of_mk {a b : Int} (h : -1073741824 ≤ a ∧ a ≤ b ∧ b ≤ 1073741824) : Iv.of a b = ⟨a, b, false⟩ := of_eq ⟨⟨numIn_iff.2 (by omega), numIn_iff.2 (by omega)⟩, h.2.1⟩
theorem both_mk {a b : Iv} (ha : a.right = true) (hb : b.right = true) : Iv.both a b = true := by simp [Iv.both, ha, hb]
theorem mul_mk {k a b : Int} (hk : -16384 ≤ k ∧ k ≤ 16384) (h : -1073741824 ≤ a ∧ a ≤ b ∧ b ≤ 1073741824) (h1 : -1073741824 ≤ k * a ∧ k * a ≤ 1073741824) (h2 : -1073741824 ≤ k * b ∧ k * b ≤ 1073741824) :
    Iv.mul (pt k) ⟨a, b, false⟩ = ⟨min (k * a) (k * b), max (k * a) (k * b), false⟩ := by
  have e : ∀ up, numMul (k * 65536) a up = (k * a, true) := fun up => mulk k a up h1 hk (by omega)
  have e' : ∀ up, numMul (k * 65536) b up = (k * b, true) := fun up => mulk k b up h2 hk (by omega)
  unfold Iv.mul
  rw [if_pos (both_mk (pt_right hk) (right_mk (by omega)))]
  simp only [ends, pt, e, e', and_self, if_true, Int.min_self, Int.max_self]
  exact of_mk (by omega)
theorem whole_pt {k : Int} (h : -16384 ≤ k ∧ k ≤ 16384) : Iv.whole k = pt k := by
  unfold Iv.whole
  rw [if_pos (numIn_iff.2 (by omega))]
  exact of_mk (by omega)
theorem point0 : Iv.point 0 = pt 0 := by decide
theorem pt_add {a b : Int} (ha : -16384 ≤ a ∧ a ≤ 16384) (hb : -16384 ≤ b ∧ b ≤ 16384) (h : -16384 ≤ a + b ∧ a + b ≤ 16384) : (pt a).add (pt b) = pt (a + b) := by
  unfold Iv.add
  rw [if_pos (both_mk (pt_right ha) (pt_right hb))]
  simp only [pt]
  rw [of_mk (by omega), Int.add_mul]
theorem pt_neg {a : Int} (ha : -16384 ≤ a ∧ a ≤ 16384) : (pt a).neg = pt (-a) := by
  unfold Iv.neg
  rw [if_pos (pt_right ha)]
  simp only [pt]
  rw [of_mk (by omega), Int.neg_mul]
theorem pt_sub {a b : Int} (ha : -16384 ≤ a ∧ a ≤ 16384) (hb : -16384 ≤ b ∧ b ≤ 16384) (h : -16384 ≤ a - b ∧ a - b ≤ 16384) : (pt a).sub (pt b) = pt (a - b) := by
  unfold Iv.sub
  rw [pt_neg hb, pt_add ha (by omega) (by omega), Int.sub_eq_add_neg]
theorem pt_mul {a b : Int} (ha : -16384 ≤ a ∧ a ≤ 16384) (hb : -16384 ≤ b ∧ b ≤ 16384) (h : -16384 ≤ a * b ∧ a * b ≤ 16384) : (pt a).mul (pt b) = pt (a * b) := by
  have e : a * (b * 65536) = a * b * 65536 := by rw [Int.mul_assoc]
  have := mul_mk (k := a) (a := b * 65536) (b := b * 65536) ha (by omega) (by omega) (by omega)
  simp only [Int.min_self, Int.max_self, e] at this
  exact this
theorem pt_sqr {a : Int} (ha : -16384 ≤ a ∧ a ≤ 16384) (h : a * a ≤ 16384) : (pt a).sqr = pt (a * a) := by
  have h0 : 0 ≤ a * a := by
    rcases Int.lt_or_le a 0 with h | h
    · exact Int.mul_nonneg_of_nonpos_of_nonpos (by omega) (by omega)
    · exact Int.mul_nonneg h h
  have key : ∀ b : Int, (b = a ∨ b = -a) → ∀ up, numMul (b * 65536) (b * 65536) up = (a * a * 65536, true) := by
    intro b hb up
    have hbb : b * b = a * a := by rcases hb with rfl | rfl <;> simp only [Int.neg_mul_neg]
    rw [mulk b (b * 65536) up (by rw [← Int.mul_assoc, hbb]; omega) (by omega) (by omega), ← Int.mul_assoc, hbb]
  have k1 : ∃ b, (b = a ∨ b = -a) ∧ max (-(a * 65536)) (a * 65536) = b * 65536 := by
    rcases Int.le_total 0 a with h | h
    · exact ⟨a, .inl rfl, by omega⟩
    · exact ⟨-a, .inr rfl, by omega⟩
  have k2 : ∃ b, (b = a ∨ b = -a) ∧ max (max (a * 65536) (-(a * 65536))) 0 = b * 65536 := by
    rcases Int.le_total 0 a with h | h
    · exact ⟨a, .inl rfl, by omega⟩
    · exact ⟨-a, .inr rfl, by omega⟩
  obtain ⟨b, hb, e1⟩ := k1
  obtain ⟨c, hc, e2⟩ := k2
  unfold Iv.sqr
  simp only [show (pt a).lo = a * 65536 from rfl, show (pt a).hi = a * 65536 from rfl, e1, e2, key b hb, key c hc, pt_right ha, and_self, if_true]
  exact of_mk (by omega)
theorem pt_times {a k : Int} (ha : -16384 ≤ a ∧ a ≤ 16384) (hk : -16384 ≤ k ∧ k ≤ 16384) (h : -16384 ≤ k * a ∧ k * a ≤ 16384) : (pt a).times k = pt (k * a) := by
  unfold Iv.times
  rw [if_pos ⟨pt_right ha, numIn_iff.2 (by omega)⟩]
  simp only [pt, Int.min_self, Int.max_self, ← Int.mul_assoc]
  exact of_mk (by omega)
theorem isqrt_exact {m : Int} (h : 0 ≤ m) (h' : m ≤ 8388608) : isqrt (m * m) = m := by
  have hm : m * m ≤ 8388608 * 8388608 := Int.mul_le_mul h' h' h (by omega)
  have h0 : 0 ≤ m * m := Int.mul_nonneg h h
  obtain ⟨a, b, c⟩ := isqrt_spec (n := m * m) h0 (by omega)
  have := isqrt_le (n := m * m) h0 (by omega) h (Int.le_refl _)
  rcases Int.lt_or_le (isqrt (m * m)) m with hl | hl
  · have : (isqrt (m * m) + 1) * (isqrt (m * m) + 1) ≤ m * m := Int.mul_le_mul (by omega) (by omega) (by omega) h
    omega
  · omega
theorem pt_root {a : Int} (ha : 0 ≤ a ∧ a ≤ 100) : (pt (a * a)).root = pt a := by
  have h := prod_bd (a := a) (b := a) (A := 100) (B := 100) (by omega) (by omega) (by omega) (by omega)
  have h0 : 0 ≤ a * a := Int.mul_nonneg ha.1 ha.1
  have e : a * a * 65536 * 65536 = (a * 65536) * (a * 65536) := by rw [Int.mul_assoc a 65536, Int.mul_left_comm 65536 a, ← Int.mul_assoc a a, Int.mul_assoc (a * a)]
  have r : ∀ up, numRoot (a * a * 65536) up = (a * 65536, true) := by
    intro up
    unfold numRoot
    have n1 : numIn (a * a * 65536) = true := numIn_iff.2 (by omega)
    rw [if_neg (by rw [n1]; simp; omega), e, isqrt_exact (by omega) (by omega), if_neg (by omega)]
  unfold Iv.root
  rw [if_pos ⟨pt_right (by omega), by simp only [pt]; omega⟩]
  simp only [pt, r]
  exact of_mk (by omega)

theorem div_ends {a b : Int} (ha : 0 ≤ a ∧ a ≤ 100) (hb : 1 ≤ b ∧ b ≤ 100) : ∃ q p : Int, numDiv (a * 65536) (b * 65536) false = (q, true) ∧ numDiv (a * 65536) (b * 65536) true = (p, true) ∧
    q * b ≤ a * 65536 ∧ a * 65536 ≤ p * b ∧ q ≤ p ∧ 0 ≤ q ∧ p ≤ 6553601 := by
  have hfl : fl (a * 65536 * 65536) (b * 65536) = (a * 65536) / b := by
    unfold fl
    rw [if_neg (by omega), Int.mul_ediv_mul_of_pos_left _ _ (by omega)]
  have e := Int.emod_add_mul_ediv (a * 65536) b
  have l1 := Int.emod_nonneg (a * 65536) (show b ≠ 0 by omega)
  have l2 := Int.emod_lt_of_pos (a * 65536) (show 0 < b by omega)
  have h0 : 0 ≤ (a * 65536) / b := Int.ediv_nonneg (by omega) (by omega)
  have h1 : (a * 65536) / b ≤ a * 65536 := Int.ediv_le_self _ (by omega)
  generalize hq : (a * 65536) / b = q at *
  have hc : b * q = q * b := Int.mul_comm _ _
  have hne : (b * 65536 ≠ 0) := by omega
  have hn : numIn (a * 65536) = true ∧ numIn (b * 65536) = true := ⟨numIn_iff.2 (by omega), numIn_iff.2 (by omega)⟩
  have hnq : numIn q = true := numIn_iff.2 (by omega)
  have hnq1 : numIn (q + 1) = true := numIn_iff.2 (by omega)
  have hr : (q + 1) * b = q * b + b := by rw [Int.add_mul]; omega
  have hm : q * (b * 65536) = q * b * 65536 := by rw [Int.mul_assoc]
  by_cases hx : q * b = a * 65536
  · refine ⟨q, q, ?_, ?_, by omega, by omega, by omega, h0, by omega⟩
    · unfold numDiv; rw [if_pos ⟨hn, hne⟩]; unfold rnd; simp [hfl, hnq]
    · unfold numDiv; rw [if_pos ⟨hn, hne⟩]; unfold rnd
      have : ¬ (q * (b * 65536) ≠ a * 65536 * 65536) := by rw [hm]; omega
      simp [hfl, hnq, this]
  · refine ⟨q, q + 1, ?_, ?_, by omega, by omega, by omega, h0, by omega⟩
    · unfold numDiv; rw [if_pos ⟨hn, hne⟩]; unfold rnd; simp [hfl, hnq]
    · unfold numDiv; rw [if_pos ⟨hn, hne⟩]; unfold rnd
      have : (q * (b * 65536) ≠ a * 65536 * 65536) := by rw [hm]; omega
      simp only [hfl, true_and, if_pos this, hnq1, if_true]
theorem pt_div {a b : Int} (ha : 0 ≤ a ∧ a ≤ 100) (hb : 1 ≤ b ∧ b ≤ 100) : ∃ q p : Int, (pt a).div (pt b) = ⟨q, p, false⟩ ∧ q * b ≤ a * 65536 ∧ a * 65536 ≤ p * b ∧ q ≤ p ∧ 0 ≤ q ∧ p ≤ 6553601 := by
  obtain ⟨q, p, h1, h2, h3⟩ := div_ends ha hb
  refine ⟨q, p, ?_, h3⟩
  have hh : Iv.has (pt b) 0 = false := by
    have : decide ((pt b).lo ≤ 0) = false := decide_eq_false (by simp only [pt]; omega)
    simp [Iv.has, this]
  unfold Iv.div
  rw [if_pos ⟨both_mk (pt_right (by omega)) (pt_right (by omega)), hh⟩]
  simp only [ends, pt, h1, h2, and_self, if_true, Int.min_self, Int.max_self]
  exact of_mk (by omega)
theorem mul0 {b : Iv} (hb : b.right = true) : Iv.mul (pt 0) b = pt 0 := by
  obtain ⟨lo, hi, no⟩ := b
  have h := right_iff.1 hb
  simp only at h
  obtain ⟨rfl, h1, h2, h3⟩ := h
  rw [mul_mk (by omega) (by omega) (by omega) (by omega)]
  simp [pt]

/-- A plane is met where it is. -/
theorem plane_hit {x y z u v w : Int} (hx : -20 ≤ x ∧ x ≤ 20) (hy : -20 ≤ y ∧ y ≤ 20) (hz : 1 ≤ z ∧ z ≤ 50) (hu : -4 ≤ u ∧ u ≤ 4) (hv : -4 ≤ v ∧ v ≤ 4) (hw : 1 ≤ w ∧ w ≤ 9) :
    ∃ q p : Int, (q * w ≤ z * 65536 ∧ z * 65536 ≤ p * w) ∧ (q ≤ p ∧ 0 ≤ q ∧ p ≤ 6553601) ∧
      hitFlat (planeAt (pt z)) ⟨⟨pt x, pt y, pt 0⟩, ⟨pt u, pt v, pt w⟩⟩ =
        (⟨q, p, false⟩, ⟨⟨x * 65536 + min (u * q) (u * p), x * 65536 + max (u * q) (u * p), false⟩, ⟨y * 65536 + min (v * q) (v * p), y * 65536 + max (v * q) (v * p), false⟩, ⟨-z * 65536 + w * q, -z * 65536 + w * p, false⟩⟩, 1) := by
  have uu := prod_bd (a := u) (b := u) (A := 4) (B := 4) (by omega) (by omega) (by omega) (by omega)
  have vv := prod_bd (a := v) (b := v) (A := 4) (B := 4) (by omega) (by omega) (by omega) (by omega)
  have ww := prod_bd (a := w) (b := w) (A := 9) (B := 9) (by omega) (by omega) (by omega) (by omega)
  have xx := prod_bd (a := x) (b := x) (A := 20) (B := 20) (by omega) (by omega) (by omega) (by omega)
  have yy := prod_bd (a := y) (b := y) (A := 20) (B := 20) (by omega) (by omega) (by omega) (by omega)
  have zz := prod_bd (a := -z) (b := -z) (A := 50) (B := 50) (by omega) (by omega) (by omega) (by omega)
  have xu := prod_bd (a := x) (b := u) (A := 20) (B := 4) (by omega) (by omega) (by omega) (by omega)
  have yv := prod_bd (a := y) (b := v) (A := 20) (B := 4) (by omega) (by omega) (by omega) (by omega)
  have zw := prod_bd (a := -z) (b := w) (A := 50) (B := 9) (by omega) (by omega) (by omega) (by omega)
  obtain ⟨q, p, h1, h2, h3, h4, h5, h6⟩ := pt_div (a := 2 * z) (b := 2 * w) (by omega) (by omega)
  have q2 : q * (2 * w) = 2 * (q * w) := by rw [Int.mul_left_comm]
  have p2 : p * (2 * w) = 2 * (p * w) := by rw [Int.mul_left_comm]
  refine ⟨q, p, ⟨by omega, by omega⟩, ⟨h4, h5, h6⟩, ?_⟩
  have e1 : (pt 0).sub (pt z) = pt (-z) := by rw [pt_sub (by omega) (by omega) (by omega)]; congr 1; omega
  have e2 : Iv.whole 1 = pt 1 := whole_pt (by omega)
  have a0 : ((pt 0).mul (((pt u).sqr.add (pt v).sqr).add ((pt 1).mul (pt w).sqr))) = pt 0 := by
    apply mul0
    rw [pt_sqr (by omega) (by omega), pt_sqr (by omega) (by omega), pt_sqr (by omega) (by omega), pt_add (by omega) (by omega) (by omega), pt_mul (by omega) (by omega) (by omega), pt_add (by omega) (by omega) (by omega)]
    exact pt_right (by omega)
  have b0 : (((pt 0).mul ((((pt x).mul (pt u)).add ((pt y).mul (pt v))).add ((pt 1).mul ((pt (-z)).mul (pt w))))).sub (pt w)) = pt (-w) := by
    rw [mul0]
    · rw [pt_sub (by omega) (by omega) (by omega)]; congr 1; omega
    · rw [pt_mul (by omega) (by omega) (by omega), pt_mul (by omega) (by omega) (by omega), pt_mul (by omega) (by omega) (by omega), pt_add (by omega) (by omega) (by omega), pt_mul (by omega) (by omega) (by omega), pt_add (by omega) (by omega) (by omega)]
      exact pt_right (by omega)
  have c0 : (((pt 0).mul (((pt x).sqr.add (pt y).sqr).add ((pt 1).mul (pt (-z)).sqr))).sub ((pt (-z)).times 2)) = pt (2 * z) := by
    rw [mul0]
    · rw [pt_times (by omega) (by omega) (by omega), pt_sub (by omega) (by omega) (by omega)]; congr 1; omega
    · rw [pt_sqr (by omega) (by omega), pt_sqr (by omega) (by omega), pt_sqr (by omega) (by omega), pt_add (by omega) (by omega) (by omega), pt_mul (by omega) (by omega) (by omega), pt_add (by omega) (by omega) (by omega)]
      exact pt_right (by omega)
  have d0 : ((pt (-w)).sqr.sub ((pt 0).mul (pt (2 * z)))) = pt (w * w) := by
    rw [mul0 (pt_right (by omega)), pt_sqr (by omega) (by rw [Int.neg_mul_neg]; omega), pt_sub (by rw [Int.neg_mul_neg]; omega) (by omega) (by rw [Int.neg_mul_neg]; omega), Int.neg_mul_neg]
    congr 1; omega
  have w0 : 1 ≤ w * w := Int.mul_le_mul (a := 1) (b := 1) hw.1 hw.1 (by omega) (by omega)
  have r0 : ((pt (w * w)).root.sub (pt (-w))) = pt (2 * w) := by
    rw [pt_root (by omega), pt_sub (by omega) (by omega) (by omega)]; congr 1; omega
  have n0 : near (pt 0) (pt (-w)) (pt (2 * z)) = (⟨q, p, false⟩, 1) := by
    unfold near
    simp only [d0, r0, h1]
    rw [if_neg (by simp [pt]), if_neg (by simp only [pt]; omega), if_neg (by simp only [pt]; omega), if_neg (by simp)]
  have mulA : ∀ k, -9 ≤ k ∧ k ≤ 9 → Iv.mul (pt k) ⟨q, p, false⟩ = ⟨min (k * q) (k * p), max (k * q) (k * p), false⟩ ∧ (-58982409 ≤ k * q ∧ k * q ≤ 58982409) ∧ (-58982409 ≤ k * p ∧ k * p ≤ 58982409) := by
    intro k hk
    have k1 := prod_bd (a := k) (b := q) (A := 9) (B := 6553601) (by omega) (by omega) (by omega) (by omega)
    have k2 := prod_bd (a := k) (b := p) (A := 9) (B := 6553601) (by omega) (by omega) (by omega) (by omega)
    exact ⟨mul_mk (by omega) (by omega) (by omega) (by omega), by omega, by omega⟩
  obtain ⟨mu, mu1, mu2⟩ := mulA u (by omega)
  obtain ⟨mv, mv1, mv2⟩ := mulA v (by omega)
  obtain ⟨mw, mw1, mw2⟩ := mulA w (by omega)
  have hwq : w * q ≤ w * p := Int.mul_le_mul_of_nonneg_left h4 (by omega)
  have addA : ∀ (c lo hi : Int), -50 ≤ c ∧ c ≤ 50 → -58982409 ≤ lo ∧ lo ≤ hi ∧ hi ≤ 58982409 → (pt c).add ⟨lo, hi, false⟩ = ⟨c * 65536 + lo, c * 65536 + hi, false⟩ := by
    intro c lo hi hc hl
    unfold Iv.add
    rw [if_pos (both_mk (pt_right (by omega)) (right_mk (by omega)))]
    exact of_mk (by simp only [pt]; omega)
  have al : along ⟨⟨pt x, pt y, pt (-z)⟩, ⟨pt u, pt v, pt w⟩⟩ ⟨q, p, false⟩ = ⟨⟨x * 65536 + min (u * q) (u * p), x * 65536 + max (u * q) (u * p), false⟩, ⟨y * 65536 + min (v * q) (v * p), y * 65536 + max (v * q) (v * p), false⟩, ⟨-z * 65536 + w * q, -z * 65536 + w * p, false⟩⟩ := by
    simp only [along, V.add, V.scale, mu, mv, mw]
    rw [addA _ _ _ (by omega) (by omega), addA _ _ _ (by omega) (by omega), addA _ _ _ (by omega) (by omega)]
    have m1 : min (w * q) (w * p) = w * q := by omega
    have m2 : max (w * q) (w * p) = w * p := by omega
    rw [m1, m2]
  unfold hitFlat
  simp only [planeAt, Ray.back, point0, e1, e2, hitRound, a0, b0, c0, n0]
  unfold hitEnd
  rw [if_neg (by simp)]
  simp only [al]
  rw [if_pos]
  simp only [V.right, Bool.and_eq_true]
  exact ⟨right_mk (by omega), right_mk (by omega), right_mk (by omega)⟩
end Go.Proofs.Ytapbnhnofcbkdaa
