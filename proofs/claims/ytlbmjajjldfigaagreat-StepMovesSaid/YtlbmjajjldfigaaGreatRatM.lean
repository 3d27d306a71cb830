/-
  Numbers in intervals: what a call of an interval that has a number has; in plain Lean.
-/
import Derived.Test.YtlbmjajjldfigaaGreatLess2
namespace Go.Proofs.YtlbmjajjldfigaaGreat
open Go
set_option linter.unusedVariables false
set_option linter.unusedSimpArgs false

/-- The interval has the number x, if it is one. -/
def M (x : Rat) (a : Iv) : Prop := a.right = true → (a.lo : Rat) ≤ 65536 * x ∧ 65536 * x ≤ (a.hi : Rat)
theorem ri_le {a b : Int} (h : a ≤ b) : (a : Rat) ≤ (b : Rat) := Rat.intCast_le_intCast.2 h
theorem ir_le {a b : Int} (h : (a : Rat) ≤ (b : Rat)) : a ≤ b := Rat.intCast_le_intCast.1 h
theorem rmulR {a b c : Rat} (hc : 0 ≤ c) (h : a ≤ b) : a * c ≤ b * c := Rat.mul_le_mul_of_nonneg_right h hc
theorem rmulL {a b c : Rat} (hc : 0 ≤ c) (h : a ≤ b) : c * a ≤ c * b := Rat.mul_le_mul_of_nonneg_left h hc
theorem rsq_nonneg (x : Rat) : 0 ≤ x * x := by
  rcases Rat.le_total (a := 0) (b := x) with h | h
  · exact Rat.mul_nonneg h h
  · have := Rat.mul_nonneg (a := -x) (b := -x) (by grind) (by grind)
    grind
theorem m_of {x : Rat} {lo hi : Int} (h1 : (lo : Rat) ≤ 65536 * x) (h2 : 65536 * x ≤ (hi : Rat)) : M x (Iv.of lo hi) := fun h => by
  rw [(of_right h).2]; exact ⟨h1, h2⟩
theorem m_point (n : Int) : M ((n : Rat) / 65536) (Iv.point n) := m_of (by grind) (by grind)
theorem m_whole (k : Int) : M (k : Rat) (Iv.whole k) := by
  unfold Iv.whole
  split
  · refine m_of ?_ ?_ <;> rw [Rat.intCast_mul] <;> grind
  · exact fun h => by cases h
theorem m_add {x y : Rat} {a b : Iv} (ha : M x a) (hb : M y b) : M (x + y) (a.add b) := fun h => by
  obtain ⟨r1, r2⟩ := add_right h
  obtain ⟨a1, a2⟩ := ha r1
  obtain ⟨b1, b2⟩ := hb r2
  unfold Iv.add at h ⊢
  rw [if_pos (by simp [Iv.both, r1, r2])] at h ⊢
  rw [(of_right h).2]
  simp only [Rat.intCast_add]
  grind
theorem m_neg {x : Rat} {a : Iv} (ha : M x a) : M (-x) a.neg := fun h => by
  rw [neg_right] at h
  obtain ⟨a1, a2⟩ := ha h
  rw [neg_right_eq h]
  simp only [Rat.intCast_neg]
  grind
theorem m_sub {x y : Rat} {a b : Iv} (ha : M x a) (hb : M y b) : M (x - y) (a.sub b) := by
  rw [Rat.sub_eq_add_neg]; exact m_add ha (m_neg hb)
theorem m_times {x : Rat} {a : Iv} (ha : M x a) (k : Int) : M (x * k) (a.times k) := fun h => by
  obtain ⟨r1, r2⟩ := times_right h
  obtain ⟨a1, a2⟩ := ha r1
  unfold Iv.times at h ⊢
  rw [if_pos ⟨r1, r2⟩] at h ⊢
  rw [(of_right h).2]
  simp only
  have l1 : ((min (k * a.lo) (k * a.hi) : Int) : Rat) ≤ (k : Rat) * a.lo := by rw [← Rat.intCast_mul]; exact ri_le (by omega)
  have l2 : ((min (k * a.lo) (k * a.hi) : Int) : Rat) ≤ (k : Rat) * a.hi := by rw [← Rat.intCast_mul]; exact ri_le (by omega)
  have u1 : (k : Rat) * a.lo ≤ ((max (k * a.lo) (k * a.hi) : Int) : Rat) := by rw [← Rat.intCast_mul]; exact ri_le (by omega)
  have u2 : (k : Rat) * a.hi ≤ ((max (k * a.lo) (k * a.hi) : Int) : Rat) := by rw [← Rat.intCast_mul]; exact ri_le (by omega)
  generalize ((min (k * a.lo) (k * a.hi) : Int) : Rat) = m at *
  generalize ((max (k * a.lo) (k * a.hi) : Int) : Rat) = q at *
  generalize (k : Rat) = k at *
  rcases Rat.le_total (a := 0) (b := k) with h | h
  · have := rmulR h a1
    have := rmulR h a2
    grind
  · have := rmulR (c := -k) (by grind) a1
    have := rmulR (c := -k) (by grind) a2
    grind
/-! Products -/
theorem rlin_le {x lo hi y m : Rat} (h1 : lo ≤ x) (h2 : x ≤ hi) (k1 : m ≤ lo * y) (k2 : m ≤ hi * y) : m ≤ x * y := by
  rcases Rat.le_total (a := 0) (b := y) with h | h
  · exact Rat.le_trans k1 (rmulR h h1)
  · have := rmulR (c := -y) (by grind) h2
    grind
theorem rlin_ge {x lo hi y m : Rat} (h1 : lo ≤ x) (h2 : x ≤ hi) (k1 : lo * y ≤ m) (k2 : hi * y ≤ m) : x * y ≤ m := by
  rcases Rat.le_total (a := 0) (b := y) with h | h
  · exact Rat.le_trans (rmulR h h2) k2
  · have := rmulR (c := -y) (by grind) h1
    grind
theorem rbox_le {x y a b c d m : Rat} (hx : a ≤ x ∧ x ≤ b) (hy : c ≤ y ∧ y ≤ d) (h1 : m ≤ a * c) (h2 : m ≤ a * d) (h3 : m ≤ b * c) (h4 : m ≤ b * d) : m ≤ x * y := by
  refine rlin_le hx.1 hx.2 ?_ ?_
  · rw [Rat.mul_comm]; exact rlin_le hy.1 hy.2 (by rw [Rat.mul_comm]; exact h1) (by rw [Rat.mul_comm]; exact h2)
  · rw [Rat.mul_comm]; exact rlin_le hy.1 hy.2 (by rw [Rat.mul_comm]; exact h3) (by rw [Rat.mul_comm]; exact h4)
theorem rbox_ge {x y a b c d m : Rat} (hx : a ≤ x ∧ x ≤ b) (hy : c ≤ y ∧ y ≤ d) (h1 : a * c ≤ m) (h2 : a * d ≤ m) (h3 : b * c ≤ m) (h4 : b * d ≤ m) : x * y ≤ m := by
  refine rlin_ge hx.1 hx.2 ?_ ?_
  · rw [Rat.mul_comm]; exact rlin_ge hy.1 hy.2 (by rw [Rat.mul_comm]; exact h1) (by rw [Rat.mul_comm]; exact h2)
  · rw [Rat.mul_comm]; exact rlin_ge hy.1 hy.2 (by rw [Rat.mul_comm]; exact h3) (by rw [Rat.mul_comm]; exact h4)
theorem rfl_le (a : Int) : (fl a 65536 : Rat) * 65536 ≤ (a : Rat) := by
  have := ri_le (fl_le a (b := 65536) (by decide))
  rw [Rat.intCast_mul] at this
  exact this
theorem rle_cl (a : Int) : (a : Rat) ≤ (cl a 65536 : Rat) * 65536 := by
  have := ri_le ((cl_le_iff (a := a) (b := 65536) (by decide)).1 (Int.le_refl _))
  rw [Rat.intCast_mul] at this
  exact this
theorem m_mul {x y : Rat} {a b : Iv} (ha : M x a) (hb : M y b) : M (x * y) (a.mul b) := fun h => by
  obtain ⟨r1, r2⟩ := mul_right h
  have a1 := ha r1
  have b1 := hb r2
  rw [mul_eq r1 r2] at h ⊢
  rw [(of_right h).2]
  simp only
  obtain ⟨p1, p2, p3, p4⟩ := min4_le (a.lo * b.lo) (a.lo * b.hi) (a.hi * b.lo) (a.hi * b.hi)
  obtain ⟨q1, q2, q3, q4⟩ := le_max4 (a.lo * b.lo) (a.lo * b.hi) (a.hi * b.lo) (a.hi * b.hi)
  generalize min4 (a.lo * b.lo) (a.lo * b.hi) (a.hi * b.lo) (a.hi * b.hi) = mn at *
  generalize max4 (a.lo * b.lo) (a.lo * b.hi) (a.hi * b.lo) (a.hi * b.hi) = mx at *
  have p1 := ri_le p1; have p2 := ri_le p2; have p3 := ri_le p3; have p4 := ri_le p4
  have q1 := ri_le q1; have q2 := ri_le q2; have q3 := ri_le q3; have q4 := ri_le q4
  rw [Rat.intCast_mul] at p1 p2 p3 p4 q1 q2 q3 q4
  have l := rbox_le a1 b1 p1 p2 p3 p4
  have u := rbox_ge a1 b1 q1 q2 q3 q4
  have f := rfl_le mn
  have c := rle_cl mx
  grind
theorem m_sqr {x : Rat} {a : Iv} (ha : M x a) : M (x * x) a.sqr := fun h => by
  have r1 := sqr_right h
  obtain ⟨k1, k2⟩ := ha r1
  rw [sqr_eq r1] at h ⊢
  rw [(of_right h).2]
  simp only
  have near : (ivNear a : Rat) * ivNear a ≤ 65536 * x * (65536 * x) := by
    unfold ivNear
    rcases Int.lt_or_le 0 a.lo with c | c
    · have e : max (max a.lo (-a.hi)) 0 = a.lo := by have := right_bd r1; omega
      rw [e]
      have c' := ri_le (Int.le_of_lt c)
      have h0 : (0 : Rat) ≤ a.lo := c'
      have := rmulR h0 k1
      have := rmulL (c := 65536 * x) (by grind) k1
      grind
    · rcases Int.lt_or_le a.hi 0 with c2 | c2
      · have e : max (max a.lo (-a.hi)) 0 = -a.hi := by omega
        rw [e, Rat.intCast_neg]
        have c' := ri_le (Int.le_of_lt c2)
        have h0 : (a.hi : Rat) ≤ 0 := c'
        have := rmulR (c := -(a.hi : Rat)) (by grind) k2
        have := rmulR (c := -(65536 * x)) (by grind) k2
        grind
      · have e : max (max a.lo (-a.hi)) 0 = 0 := by omega
        rw [e]
        have := rsq_nonneg (65536 * x)
        grind
  have far : 65536 * x * (65536 * x) ≤ (ivFar a : Rat) * ivFar a := by
    have f1 : (a.hi : Rat) ≤ ivFar a := ri_le (by unfold ivFar; omega)
    have f2 : ((-a.lo : Int) : Rat) ≤ ivFar a := ri_le (by unfold ivFar; omega)
    rw [Rat.intCast_neg] at f2
    have u1 : 65536 * x ≤ (ivFar a : Rat) := Rat.le_trans k2 f1
    have u2 : -(65536 * x) ≤ (ivFar a : Rat) := by grind
    have := Rat.mul_nonneg (a := (ivFar a : Rat) - 65536 * x) (b := (ivFar a : Rat) + 65536 * x) (by grind) (by grind)
    grind
  have f := rfl_le (ivNear a * ivNear a)
  have c := rle_cl (ivFar a * ivFar a)
  rw [Rat.intCast_mul] at f c
  grind
/-! Quotients -/
theorem m_div {x y : Rat} {a b : Iv} (ha : M x a) (hb : M y b) : M (x / y) (a.div b) := fun h => by
  obtain ⟨r1, r2, r3⟩ := div_right h
  have a1 := ha r1
  have b1 := hb r2
  have hz := has0 r2 r3
  have b2 := right_bd r2
  rw [div_eq r1 r2 r3] at h ⊢
  rw [(of_right h).2]
  simp only
  obtain ⟨p1, p2, p3, p4⟩ := min4_le (fl (a.lo * 65536) b.lo) (fl (a.lo * 65536) b.hi) (fl (a.hi * 65536) b.lo) (fl (a.hi * 65536) b.hi)
  obtain ⟨q1, q2, q3, q4⟩ := le_max4 (cl (a.lo * 65536) b.lo) (cl (a.lo * 65536) b.hi) (cl (a.hi * 65536) b.lo) (cl (a.hi * 65536) b.hi)
  generalize min4 (fl (a.lo * 65536) b.lo) (fl (a.lo * 65536) b.hi) (fl (a.hi * 65536) b.lo) (fl (a.hi * 65536) b.hi) = p at *
  generalize max4 (cl (a.lo * 65536) b.lo) (cl (a.lo * 65536) b.hi) (cl (a.hi * 65536) b.lo) (cl (a.hi * 65536) b.hi) = q at *
  rcases hz with hz | hz
  · have hlo : (0 : Rat) < b.lo := Rat.intCast_pos.2 hz
    have hy : 0 < y := by grind
    rw [le_fl_iff (by omega)] at p1 p2 p3 p4
    rw [cl_le_iff (by omega)] at q1 q2 q3 q4
    have p1 := ri_le p1; have p2 := ri_le p2
    have q3 := ri_le q3; have q4 := ri_le q4
    simp only [Rat.intCast_mul] at p1 p2 q3 q4
    have l := rlin_ge (y := (p : Rat)) b1.1 b1.2 (m := (a.lo : Rat) * 65536) (by grind) (by grind)
    have u := rlin_le (y := (q : Rat)) b1.1 b1.2 (m := (a.hi : Rat) * 65536) (by grind) (by grind)
    have e : x / y * y = x := Rat.div_mul_cancel (by grind)
    generalize x / y = w at *
    constructor
    · refine Rat.le_of_mul_le_mul_right (c := 65536 * y) ?_ (by grind)
      grind
    · refine Rat.le_of_mul_le_mul_right (c := 65536 * y) ?_ (by grind)
      grind
  · have hlo : (b.hi : Rat) < 0 := Rat.intCast_neg_iff.2 hz
    have hy : y < 0 := by grind
    rw [le_fl_iff' (by omega)] at p1 p2 p3 p4
    rw [cl_le_iff' (by omega)] at q1 q2 q3 q4
    have p3 := ri_le p3; have p4 := ri_le p4
    have q1 := ri_le q1; have q2 := ri_le q2
    simp only [Rat.intCast_mul] at p3 p4 q1 q2
    have l := rlin_le (y := (p : Rat)) b1.1 b1.2 (m := (a.hi : Rat) * 65536) (by grind) (by grind)
    have u := rlin_ge (y := (q : Rat)) b1.1 b1.2 (m := (a.lo : Rat) * 65536) (by grind) (by grind)
    have e : x / y * y = x := Rat.div_mul_cancel (by grind)
    generalize x / y = w at *
    constructor
    · refine Rat.le_of_mul_le_mul_right (c := -(65536 * y)) ?_ (by grind)
      grind
    · refine Rat.le_of_mul_le_mul_right (c := -(65536 * y)) ?_ (by grind)
      grind
/-! Roots -/
def isq : Nat → Nat
  | 0 => 0
  | n + 1 => if (isq n + 1) * (isq n + 1) ≤ n + 1 then isq n + 1 else isq n
theorem isq_spec : ∀ n, isq n * isq n ≤ n ∧ n < (isq n + 1) * (isq n + 1)
  | 0 => by decide
  | n + 1 => by
    obtain ⟨h1, h2⟩ := isq_spec n
    unfold isq
    split
    · rename_i h
      refine ⟨h, ?_⟩
      have : (isq n + 1 + 1) * (isq n + 1 + 1) = (isq n + 1) * (isq n + 1) + 2 * (isq n + 1) + 1 := by grind
      omega
    · omega
theorem le_isq {n m : Nat} (h : m * m ≤ n) : m ≤ isq n := by
  rcases Nat.lt_or_ge (isq n) m with c | c
  · have := (isq_spec n).2
    have := Nat.mul_le_mul (show isq n + 1 ≤ m by omega) (show isq n + 1 ≤ m by omega)
    omega
  · exact c
/-- A root of x, from below, to so many parts of a step. -/
def rsq (N : Nat) (x : Rat) : Rat := (isq ((x * (65536 * N * (65536 * N))).floor.toNat) : Rat) / (65536 * N)
theorem rsq_spec {N : Nat} (hN : 0 < N) {x : Rat} (hx : 0 ≤ x) : 0 ≤ rsq N x ∧ rsq N x * rsq N x ≤ x ∧ x < (rsq N x + 1 / (65536 * N)) * (rsq N x + 1 / (65536 * N)) ∧
    ∀ k : Nat, (k : Rat) * k ≤ 65536 * 65536 * x → (k : Rat) ≤ 65536 * rsq N x := by
  have hN' : (0 : Rat) < N := Rat.natCast_pos.2 hN
  have hD : (0 : Rat) < 65536 * N := by grind
  have hDD : (0 : Rat) < 65536 * N * (65536 * N) := Rat.mul_pos hD hD
  have hX : 0 ≤ x * (65536 * N * (65536 * N)) := Rat.mul_nonneg hx (Rat.le_of_lt hDD)
  have f0 : (0 : Int) ≤ (x * (65536 * N * (65536 * N))).floor := Rat.le_floor_iff.2 hX
  have f1 := Rat.floor_le (x * (65536 * N * (65536 * N)))
  have f2 := Rat.lt_floor_add_one (x * (65536 * N * (65536 * N)))
  rw [Rat.intCast_add] at f2
  obtain ⟨s1, s2⟩ := isq_spec (x * (65536 * N * (65536 * N))).floor.toNat
  have key : ∀ m : Nat, (m : Rat) * m ≤ x * (65536 * N * (65536 * N)) → m ≤ isq (x * (65536 * N * (65536 * N))).floor.toNat := by
    intro m hm
    refine le_isq ?_
    have : ((m * m : Nat) : Int) ≤ (x * (65536 * N * (65536 * N))).floor := Rat.le_floor_iff.2 (by rw [Rat.intCast_natCast, Rat.natCast_mul]; exact hm)
    omega
  have e : (((x * (65536 * N * (65536 * N))).floor.toNat : Nat) : Rat) = ((x * (65536 * N * (65536 * N))).floor : Rat) := by
    rw [← Rat.intCast_natCast, Int.toNat_of_nonneg f0]
  have t1 : ((isq (x * (65536 * N * (65536 * N))).floor.toNat : Nat) : Rat) * (isq (x * (65536 * N * (65536 * N))).floor.toNat : Nat) ≤ x * (65536 * N * (65536 * N)) := by
    refine Rat.le_trans ?_ f1
    rw [← e, ← Rat.natCast_mul]
    exact Rat.natCast_le_natCast.2 s1
  have t2 : x * (65536 * N * (65536 * N)) < ((isq (x * (65536 * N * (65536 * N))).floor.toNat : Nat) + 1 : Rat) * ((isq (x * (65536 * N * (65536 * N))).floor.toNat : Nat) + 1 : Rat) := by
    have s3 : (((x * (65536 * N * (65536 * N))).floor.toNat + 1 : Nat) : Rat) ≤ (((isq (x * (65536 * N * (65536 * N))).floor.toNat + 1) * (isq (x * (65536 * N * (65536 * N))).floor.toNat + 1) : Nat) : Rat) := Rat.natCast_le_natCast.2 s2
    rw [Rat.natCast_mul, Rat.natCast_add, Rat.natCast_add, e] at s3
    grind
  unfold rsq
  have key' := fun m hm => Rat.natCast_le_natCast.2 (key m hm)
  generalize isq (x * (65536 * N * (65536 * N))).floor.toNat = k at *
  have hk : (0 : Rat) ≤ k := Rat.natCast_nonneg
  have hne : (65536 * (N : Rat)) ≠ 0 := by grind
  have d : (k : Rat) / (65536 * N) * (65536 * N) = k := Rat.div_mul_cancel hne
  have d1 : (1 : Rat) / (65536 * N) * (65536 * N) = 1 := Rat.div_mul_cancel hne
  generalize (k : Rat) / (65536 * N) = s at *
  generalize (1 : Rat) / (65536 * N) = o at *
  generalize hDe : 65536 * (N : Rat) = D at *
  refine ⟨?_, ?_, ?_, ?_⟩
  · refine Rat.le_of_mul_le_mul_right (c := D) ?_ hD
    grind
  · refine Rat.le_of_mul_le_mul_right (c := D * D) ?_ hDD
    have : s * s * (D * D) = k * k := by rw [← d]; grind
    rw [this]
    exact t1
  · refine Rat.lt_of_mul_lt_mul_right (c := D * D) ?_ (Rat.le_of_lt hDD)
    have : (s + o) * (s + o) * (D * D) = (k + 1) * (k + 1) := by rw [← d, ← d1]; grind
    rw [this]
    exact t2
  · intro m hm
    have h1 := rmulR (c := (N : Rat) * N) (Rat.mul_nonneg (Rat.le_of_lt hN') (Rat.le_of_lt hN')) hm
    have h2 := key' (m * N) (by rw [Rat.natCast_mul, ← hDe]; grind)
    rw [Rat.natCast_mul] at h2
    refine Rat.le_of_mul_le_mul_right (c := (N : Rat)) ?_ hN'
    have : 65536 * s * N = s * D := by rw [← hDe]; grind
    rw [this, d]
    exact h2
theorem rle_of_sq {a b : Rat} (hb : 0 ≤ b) (h : a * a ≤ b * b) : a ≤ b := by
  rcases Rat.le_total (a := a) (b := b) with c | c
  · exact c
  · rcases Classical.em (a = b) with e | e
    · exact e ▸ Rat.le_refl
    · have c' := Rat.lt_of_le_of_ne c (fun h => e h.symm)
      have h1 := Rat.mul_lt_mul_of_pos_right c' (show 0 < a by grind)
      have h2 := rmulL hb c
      grind
theorem m_root {N : Nat} (hN : 0 < N) {x : Rat} {a : Iv} (ha : M x a) : M (rsq N x) a.root := fun h => by
  obtain ⟨r1, r0⟩ := root_right h
  obtain ⟨k1, k2⟩ := ha r1
  have b := right_bd r1
  have hx : 0 ≤ x := by
    have : (0 : Rat) ≤ a.lo := ri_le r0
    grind
  obtain ⟨s0, s1, s2, s3⟩ := rsq_spec hN hx
  rw [root_eq r1 r0]
  simp only
  obtain ⟨i1, i2, i3⟩ := isqrt_spec (n := a.lo * 65536) (by omega) (by omega)
  obtain ⟨u1, u2, u3⟩ := usqrt_spec (n := a.hi * 65536) (by omega) (by omega)
  obtain ⟨j1, j2, j3⟩ := isqrt_spec (n := a.hi * 65536) (by omega) (by omega)
  constructor
  · have i2' := ri_le i2
    rw [Rat.intCast_mul, Rat.intCast_mul] at i2'
    have e : (((isqrt (a.lo * 65536)).toNat : Nat) : Rat) = ((isqrt (a.lo * 65536) : Int) : Rat) := by
      rw [← Rat.intCast_natCast, Int.toNat_of_nonneg i1]
    have := s3 (isqrt (a.lo * 65536)).toNat (by rw [e]; grind)
    rw [e] at this
    exact this
  · have u1' := ri_le u1
    rw [Rat.intCast_mul, Rat.intCast_mul] at u1'
    refine rle_of_sq ?_ ?_
    · exact ri_le (a := 0) (by omega)
    · grind
theorem rsq_err {N : Nat} (hN : 0 < N) {x : Rat} (hx : 0 ≤ x) (hb : x ≤ 1000000000) : 0 ≤ x - rsq N x * rsq N x ∧ x - rsq N x * rsq N x ≤ 1 / N := by
  obtain ⟨s0, s1, s2, s3⟩ := rsq_spec hN hx
  have hN' : (1 : Rat) ≤ N := Rat.natCast_le_natCast.2 (show 1 ≤ N from hN)
  have hs : rsq N x ≤ 31623 := rle_of_sq (by grind) (Rat.le_trans s1 (Rat.le_trans hb (by grind)))
  refine ⟨by grind, ?_⟩
  have d1 : (1 : Rat) / (65536 * N) * (65536 * N) = 1 := Rat.div_mul_cancel (by grind)
  have d2 : (1 : Rat) / N * N = 1 := Rat.div_mul_cancel (by grind)
  generalize (1 : Rat) / (65536 * N) = o at *
  generalize (1 : Rat) / N = p at *
  generalize rsq N x = s at *
  have hp : p = 65536 * o := by
    have : (p - 65536 * o) * N = 0 := by grind
    rcases Rat.mul_eq_zero.1 this with h | h
    · grind
    · grind
  have ho : 0 < o := by
    rcases Rat.le_total (a := o) (b := 0) with h | h
    · have := Rat.mul_nonneg (a := -o) (b := 65536 * (N : Rat)) (by grind) (by grind)
      grind
    · rcases Classical.em (o = 0) with e | e
      · grind
      · exact Rat.lt_of_le_of_ne h (fun h => e h.symm)
  have ho1 : o ≤ 1 := by
    have := Rat.mul_nonneg (a := o) (b := 65536 * (N : Rat) - 1) (by grind) (by grind)
    grind
  have h1 := rmulL (c := o) (by grind) hs
  have h2 := rmulL (c := o) (by grind) ho1
  grind
end Go.Proofs.YtlbmjajjldfigaaGreat
