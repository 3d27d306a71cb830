/-
  Quotients in intervals: what a call of an interval that has a quotient has; in plain Lean.
-/
import Derived.Test.YtapbnhnofcbkdaaLess2
import Derived.Test.YtapbnhnofcbkdaaPlane
namespace Go.Proofs.Ytapbnhnofcbkdaa
open Go
set_option linter.unusedVariables false
set_option linter.unusedSimpArgs false

/-- The interval has n / d steps, if it is one. -/
def Cr (a : Iv) (n d : Int) : Prop := 0 < d ∧ (a.right = true → a.lo * d ≤ n ∧ n ≤ a.hi * d)
theorem mulR {a b c : Int} (hc : 0 ≤ c) (h : a ≤ b) : a * c ≤ b * c := Int.mul_le_mul_of_nonneg_right h hc
theorem mulL {a b c : Int} (hc : 0 ≤ c) (h : a ≤ b) : c * a ≤ c * b := Int.mul_le_mul_of_nonneg_left h hc
theorem swap3 (a b c : Int) : a * b * c = a * c * b := by rw [Int.mul_assoc, Int.mul_comm b c, ← Int.mul_assoc]
theorem swap4 (a b c d : Int) : a * b * (c * d) = a * c * (b * d) := by rw [Int.mul_assoc, ← Int.mul_assoc b, Int.mul_comm b c, Int.mul_assoc c, ← Int.mul_assoc a]
theorem cr_congr {a : Iv} {n d n' d' : Int} (h : Cr a n d) (hd : 0 < d') (e : n * d' = n' * d) : Cr a n' d' := by
  obtain ⟨h0, h1⟩ := h
  refine ⟨hd, fun hr => ?_⟩
  obtain ⟨k1, k2⟩ := h1 hr
  constructor
  · refine Int.le_of_mul_le_mul_right (a := d) ?_ h0
    rw [← e, swap3]
    exact mulR (by omega) k1
  · refine Int.le_of_mul_le_mul_right (a := d) ?_ h0
    rw [← e, swap3]
    exact mulR (by omega) k2
theorem cr_point (n : Int) : Cr (Iv.point n) n 1 := ⟨by decide, fun h => by
  have := (of_right h).2
  unfold Iv.point
  rw [this]
  simp only
  omega⟩
theorem cr_whole (k : Int) : Cr (Iv.whole k) (k * 65536) 1 := by
  unfold Iv.whole
  split
  · exact cr_point _
  · exact ⟨by decide, fun h => by cases h⟩
theorem cr_add {a b : Iv} {n d m e : Int} (ha : Cr a n d) (hb : Cr b m e) : Cr (a.add b) (n * e + m * d) (d * e) := by
  refine ⟨Int.mul_pos ha.1 hb.1, fun h => ?_⟩
  obtain ⟨r1, r2⟩ := add_right h
  obtain ⟨a1, a2⟩ := ha.2 r1
  obtain ⟨b1, b2⟩ := hb.2 r2
  have hd := ha.1
  have he := hb.1
  unfold Iv.add at h ⊢
  rw [if_pos (both_mk r1 r2)] at h ⊢
  rw [(of_right h).2]
  simp only
  have x1 := mulR (c := e) (by omega) a1
  have x2 := mulR (c := e) (by omega) a2
  have y1 := mulR (c := d) (by omega) b1
  have y2 := mulR (c := d) (by omega) b2
  rw [Int.add_mul, Int.add_mul, ← Int.mul_assoc, ← Int.mul_assoc, ← Int.mul_assoc, ← Int.mul_assoc, swap3 b.lo d e, swap3 b.hi d e]
  omega
theorem cr_neg {a : Iv} {n d : Int} (ha : Cr a n d) : Cr a.neg (-n) d := by
  refine ⟨ha.1, fun h => ?_⟩
  unfold Iv.neg at h ⊢
  split at h
  · rename_i hr
    rw [if_pos hr, (of_right h).2]
    obtain ⟨a1, a2⟩ := ha.2 hr
    simp only [Int.neg_mul]
    omega
  · cases h
theorem cr_sub {a b : Iv} {n d m e : Int} (ha : Cr a n d) (hb : Cr b m e) : Cr (a.sub b) (n * e - m * d) (d * e) := by
  have := cr_add ha (cr_neg hb)
  rw [Int.neg_mul] at this
  exact this
theorem cr_times {a : Iv} {n d : Int} (ha : Cr a n d) {k : Int} (hk : 0 ≤ k) : Cr (a.times k) (k * n) d := by
  refine ⟨ha.1, fun h => ?_⟩
  obtain ⟨r1, r2⟩ := times_right h
  obtain ⟨a1, a2⟩ := ha.2 r1
  unfold Iv.times at h ⊢
  rw [if_pos ⟨r1, r2⟩] at h ⊢
  rw [(of_right h).2]
  simp only
  have b := right_bd r1
  have hle : k * a.lo ≤ k * a.hi := mulL hk (by omega)
  rw [Int.min_eq_left hle, Int.max_eq_right hle, Int.mul_assoc, Int.mul_assoc]
  exact ⟨mulL hk a1, mulL hk a2⟩
theorem cr_mul {a b : Iv} {n d m e : Int} (ha : Cr a n d) (hb : Cr b m e) : Cr (a.mul b) (n * m) (d * e * 65536) := by
  have hd := ha.1
  have he := hb.1
  have hde := Int.mul_pos hd he
  refine ⟨by omega, fun h => ?_⟩
  obtain ⟨r1, r2⟩ := mul_right h
  have k1 := ha.2 r1
  have k2 := hb.2 r2
  rw [mul_eq r1 r2] at h ⊢
  rw [(of_right h).2]
  simp only
  obtain ⟨p1, p2, p3, p4⟩ := min4_le (a.lo * b.lo) (a.lo * b.hi) (a.hi * b.lo) (a.hi * b.hi)
  obtain ⟨q1, q2, q3, q4⟩ := le_max4 (a.lo * b.lo) (a.lo * b.hi) (a.hi * b.lo) (a.hi * b.hi)
  generalize min4 (a.lo * b.lo) (a.lo * b.hi) (a.hi * b.lo) (a.hi * b.hi) = mn at *
  generalize max4 (a.lo * b.lo) (a.lo * b.hi) (a.hi * b.lo) (a.hi * b.hi) = mx at *
  have s : ∀ x y : Int, x * d * (y * e) = x * y * (d * e) := fun x y => swap4 x d y e
  have lo : mn * (d * e) ≤ n * m := by
    refine box_le k1 k2 ?_ ?_ ?_ ?_ <;> rw [s] <;> exact mulR (by omega) (by assumption)
  have hi : n * m ≤ mx * (d * e) := by
    refine box_ge k1 k2 ?_ ?_ ?_ ?_ <;> rw [s] <;> exact mulR (by omega) (by assumption)
  have f := mulR (c := d * e) (by omega) (fl_le mn (b := 65536) (by decide))
  have c := mulR (c := d * e) (by omega) ((cl_le_iff (a := mx) (b := 65536) (by decide)).1 (Int.le_refl _))
  rw [swap3 (fl mn 65536), Int.mul_assoc] at f
  rw [swap3 (cl mx 65536), Int.mul_assoc] at c
  exact ⟨Int.le_trans f lo, Int.le_trans hi c⟩
theorem cr_div {a b : Iv} {n d m e : Int} (ha : Cr a n d) (hb : Cr b m e) (hm : 0 < m) : Cr (a.div b) (n * e * 65536) (d * m) := by
  have hd := ha.1
  have he := hb.1
  refine ⟨Int.mul_pos hd hm, fun h => ?_⟩
  obtain ⟨r1, r2, r3⟩ := div_right h
  have k1 := ha.2 r1
  have k2 := hb.2 r2
  have hz := has0 r2 r3
  have hbp : 0 < b.lo := by
    rcases hz with z | z
    · exact z
    · exfalso
      have := Int.mul_neg_of_neg_of_pos z he
      omega
  have b2 := right_bd r2
  have hbh : 0 < b.hi := by omega
  rw [div_eq r1 r2 r3] at h ⊢
  rw [(of_right h).2]
  simp only
  obtain ⟨p1, p2, p3, p4⟩ := min4_le (fl (a.lo * 65536) b.lo) (fl (a.lo * 65536) b.hi) (fl (a.hi * 65536) b.lo) (fl (a.hi * 65536) b.hi)
  obtain ⟨q1, q2, q3, q4⟩ := le_max4 (cl (a.lo * 65536) b.lo) (cl (a.lo * 65536) b.hi) (cl (a.hi * 65536) b.lo) (cl (a.hi * 65536) b.hi)
  generalize min4 (fl (a.lo * 65536) b.lo) (fl (a.lo * 65536) b.hi) (fl (a.hi * 65536) b.lo) (fl (a.hi * 65536) b.hi) = mn at *
  generalize max4 (cl (a.lo * 65536) b.lo) (cl (a.lo * 65536) b.hi) (cl (a.hi * 65536) b.lo) (cl (a.hi * 65536) b.hi) = mx at *
  have l1 := mulR (c := e) (by omega) ((le_fl_iff hbp).1 p1)
  have l2 := mulR (c := e) (by omega) ((le_fl_iff hbh).1 p2)
  have u1 := mulR (c := e) (by omega) ((cl_le_iff hbp).1 q3)
  have u2 := mulR (c := e) (by omega) ((cl_le_iff hbh).1 q4)
  rw [Int.mul_assoc mn, Int.mul_comm mn] at l1 l2
  rw [Int.mul_assoc mx, Int.mul_comm mx] at u1 u2
  have lo : m * mn ≤ a.lo * 65536 * e := lin_ge k2.1 k2.2 l1 l2
  have hi : a.hi * 65536 * e ≤ m * mx := lin_le k2.1 k2.2 u1 u2
  have lo2 := mulR (c := d) (by omega) lo
  have hi2 := mulR (c := d) (by omega) hi
  have x1 := mulR (c := 65536 * e) (by omega) k1.1
  have x2 := mulR (c := 65536 * e) (by omega) k1.2
  have y1 : a.lo * 65536 * e * d = a.lo * d * (65536 * e) := by rw [Int.mul_assoc a.lo, swap3]
  have y2 : a.hi * 65536 * e * d = a.hi * d * (65536 * e) := by rw [Int.mul_assoc a.hi, swap3]
  have y3 : n * (65536 * e) = n * e * 65536 := by rw [Int.mul_comm 65536 e, Int.mul_assoc]
  have z1 : m * mn * d = mn * (d * m) := by rw [Int.mul_comm m mn, Int.mul_assoc, Int.mul_comm m d]
  have z2 : m * mx * d = mx * (d * m) := by rw [Int.mul_comm m mx, Int.mul_assoc, Int.mul_comm m d]
  omega
theorem sq_nonneg' (n : Int) : 0 ≤ n * n := by
  rcases Int.lt_or_le n 0 with c | c
  · have := Int.mul_pos_of_neg_of_neg c c; omega
  · exact Int.mul_nonneg c c
theorem cr_sqr {a : Iv} {n d : Int} (ha : Cr a n d) : Cr a.sqr (n * n) (d * d * 65536) := by
  have hd := ha.1
  have hdd := Int.mul_pos hd hd
  refine ⟨by omega, fun h => ?_⟩
  have r1 := sqr_right h
  have k := ha.2 r1
  rw [sqr_eq r1] at h ⊢
  rw [(of_right h).2]
  simp only
  have near : ivNear a * ivNear a * (d * d) ≤ n * n := by
    rw [swap4]
    unfold ivNear
    rcases Int.lt_or_le 0 a.lo with c | c
    · have : max (max a.lo (-a.hi)) 0 = a.lo := by have := right_bd r1; omega
      rw [this]
      have p := Int.mul_pos c hd
      exact Int.mul_le_mul k.1 k.1 (by omega) (by omega)
    · rcases Int.lt_or_le a.hi 0 with c2 | c2
      · have : max (max a.lo (-a.hi)) 0 = -a.hi := by omega
        rw [this]
        have p := Int.mul_neg_of_neg_of_pos c2 hd
        have : -a.hi * d * (-a.hi * d) ≤ -n * -n := Int.mul_le_mul (by rw [Int.neg_mul]; omega) (by rw [Int.neg_mul]; omega) (by rw [Int.neg_mul]; omega) (by omega)
        rw [Int.neg_mul_neg n n] at this
        exact this
      · have : max (max a.lo (-a.hi)) 0 = 0 := by omega
        rw [this]
        simp only [Int.zero_mul]
        exact sq_nonneg' n
  have far : n * n ≤ ivFar a * ivFar a * (d * d) := by
    rw [swap4]
    have f1 : a.hi * d ≤ ivFar a * d := mulR (by omega) (by unfold ivFar; omega)
    have f2 : -a.lo * d ≤ ivFar a * d := mulR (by omega) (by unfold ivFar; omega)
    rw [Int.neg_mul] at f2
    rcases Int.lt_or_le n 0 with c | c
    · have : -n * -n ≤ ivFar a * d * (ivFar a * d) := Int.mul_le_mul (by omega) (by omega) (by omega) (by omega)
      rw [Int.neg_mul_neg n n] at this
      exact this
    · exact Int.mul_le_mul (by omega) (by omega) (by omega) (by omega)
  have f := mulR (c := d * d) (by omega) (fl_le (ivNear a * ivNear a) (b := 65536) (by decide))
  have c := mulR (c := d * d) (by omega) ((cl_le_iff (a := ivFar a * ivFar a) (b := 65536) (by decide)).1 (Int.le_refl _))
  rw [swap3 (fl _ 65536), Int.mul_assoc (fl _ 65536)] at f
  rw [swap3 (cl _ 65536), Int.mul_assoc (cl _ 65536)] at c
  exact ⟨Int.le_trans f near, Int.le_trans far c⟩
theorem le_of_sq_le {a b : Int} (hb : 0 ≤ b) (h : a * a ≤ b * b) : a ≤ b := by
  rcases Int.lt_or_le b a with c | c
  · have : b * b < a * a := Int.lt_of_lt_of_le (Int.lt_of_le_of_lt (Int.mul_le_mul_of_nonneg_left (Int.le_of_lt c) hb) (Int.mul_lt_mul_of_pos_right c (by omega))) (Int.le_refl _)
    omega
  · exact c
theorem cr_root {a : Iv} {n d : Int} (hn : 0 ≤ n) (hd : 0 < d) (ha : Cr a (n * n) (d * d * 65536)) : Cr a.root n d := by
  refine ⟨hd, fun h => ?_⟩
  obtain ⟨r1, r0⟩ := root_right h
  have k := ha.2 r1
  have b := right_bd r1
  rw [root_eq r1 r0]
  simp only
  obtain ⟨i1, i2, i3⟩ := isqrt_spec (n := a.lo * 65536) (by omega) (by omega)
  obtain ⟨u1, u2, u3⟩ := usqrt_spec (n := a.hi * 65536) (by omega) (by omega)
  obtain ⟨j1, j2, j3⟩ := isqrt_spec (n := a.hi * 65536) (by omega) (by omega)
  have hdd := Int.mul_pos hd hd
  constructor
  · refine le_of_sq_le hn ?_
    rw [← swap4]
    have := mulR (c := d * d) (by omega) i2
    rw [swap3 a.lo, Int.mul_assoc a.lo] at this
    omega
  · refine le_of_sq_le (Int.mul_nonneg (by omega) (by omega)) ?_
    rw [← swap4]
    have := mulR (c := d * d) (by omega) u1
    rw [swap3 a.hi, Int.mul_assoc a.hi] at this
    omega
end Go.Proofs.Ytapbnhnofcbkdaa
