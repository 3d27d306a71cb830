/-
  What lies in what: each call of less lies in the call of more; in plain Lean.
-/
import Derived.Test.YtlbmjajjldfigaaGreatSym
namespace Go.Proofs.YtlbmjajjldfigaaGreat
open Go
set_option linter.unusedVariables false
set_option linter.unusedSimpArgs false

theorem fl_le (a : Int) {b : Int} (hb : 0 < b) : fl a b * b ≤ a := by
  unfold fl
  rw [if_neg (by omega)]
  have h1 := Int.emod_add_mul_ediv a b
  have h2 := Int.emod_nonneg a (show b ≠ 0 by omega)
  rw [Int.mul_comm] at h1
  omega
theorem lt_fl (a : Int) {b : Int} (hb : 0 < b) : a < (fl a b + 1) * b := by
  unfold fl
  rw [if_neg (by omega)]
  have h1 := Int.emod_add_mul_ediv a b
  have h2 := Int.emod_lt_of_pos a hb
  rw [Int.add_mul, Int.one_mul]
  rw [Int.mul_comm] at h1
  omega
theorem le_fl_iff {q a b : Int} (hb : 0 < b) : q ≤ fl a b ↔ q * b ≤ a := by
  constructor
  · intro h
    exact Int.le_trans (Int.mul_le_mul_of_nonneg_right h (by omega)) (fl_le a hb)
  · intro h
    rcases Int.lt_or_le (fl a b) q with hl | hl
    · have := Int.mul_le_mul_of_nonneg_right (show fl a b + 1 ≤ q by omega) (show 0 ≤ b by omega)
      have := lt_fl a hb
      omega
    · exact hl
theorem fl_neg_neg (a b : Int) : fl (-a) (-b) = fl a b := by
  by_cases hb : b = 0
  · subst hb; simp [fl]
  · unfold fl
    by_cases h : b < 0
    · rw [if_neg (by omega), if_pos h]
    · rw [if_pos (by omega), if_neg h]; simp
theorem le_fl_iff' {q a b : Int} (hb : b < 0) : q ≤ fl a b ↔ a ≤ q * b := by
  rw [← fl_neg_neg, le_fl_iff (by omega), Int.mul_neg]; omega
theorem cl_fl (a b : Int) (hb : b ≠ 0) : cl a b = -(fl (-a) b) := by
  have := fl_neg (-a) b hb
  rw [Int.neg_neg] at this
  have h2 := cl_neg a b hb
  have h3 := fl_neg a b hb
  omega
theorem cl_le_iff {q a b : Int} (hb : 0 < b) : cl a b ≤ q ↔ a ≤ q * b := by
  rw [cl_fl a b (by omega)]
  have := le_fl_iff (q := -q) (a := -a) hb
  rw [Int.neg_mul] at this
  omega
theorem cl_le_iff' {q a b : Int} (hb : b < 0) : cl a b ≤ q ↔ q * b ≤ a := by
  rw [cl_fl a b (by omega)]
  have := le_fl_iff' (q := -q) (a := -a) hb
  rw [Int.neg_mul] at this
  omega
theorem fl_le_cl (a b : Int) : fl a b ≤ cl a b := by unfold cl; split <;> omega
theorem cl_le_fl (a b : Int) : cl a b ≤ fl a b + 1 := by unfold cl; split <;> omega
theorem fl_mono {a a' : Int} {b : Int} (hb : 0 < b) (h : a ≤ a') : fl a b ≤ fl a' b := (le_fl_iff hb).2 (Int.le_trans (fl_le a hb) h)
theorem cl_mono {a a' : Int} {b : Int} (hb : 0 < b) (h : a ≤ a') : cl a b ≤ cl a' b := (cl_le_iff hb).2 (Int.le_trans h ((cl_le_iff hb).1 (Int.le_refl _)))

/-- One in another one, that is right. -/
def Sub (a b : Iv) : Prop := b.right = true → a.right = true ∧ b.lo ≤ a.lo ∧ a.hi ≤ b.hi
theorem sub_inside {a b : Iv} (h : Sub a b) (hb : b.right = true) : a.inside b = true := by
  obtain ⟨h1, h2, h3⟩ := h hb
  simp [Iv.inside, Iv.both, h1, hb, h2, h3]
theorem inside_sub {a b : Iv} (h : a.inside b = true) : Sub a b := by
  simp [Iv.inside, Iv.both] at h
  exact fun _ => ⟨h.1.1, h.2.1, h.2.2⟩
theorem Sub.refl (a : Iv) : Sub a a := fun h => ⟨h, Int.le_refl _, Int.le_refl _⟩
theorem Sub.trans {a b c : Iv} (h : Sub a b) (k : Sub b c) : Sub a c := fun hc => by
  obtain ⟨k1, k2, k3⟩ := k hc
  obtain ⟨h1, h2, h3⟩ := h k1
  exact ⟨h1, by omega, by omega⟩
theorem sub_none (a : Iv) : Sub a Iv.none := fun h => by cases h
theorem of_right {a b : Int} (h : (Iv.of a b).right = true) : (-1073741824 ≤ a ∧ a ≤ b ∧ b ≤ 1073741824) ∧ Iv.of a b = ⟨a, b, false⟩ := by
  unfold Iv.of at h ⊢
  split
  · rename_i hr
    have := right_bd hr
    exact ⟨⟨this.2.1, this.2.2.2.2.2, this.2.2.2.2.1⟩, rfl⟩
  · rename_i hr; rw [if_neg hr] at h; cases h
theorem of_sub {a b a' b' : Int} (h1 : a' ≤ a) (h2 : a ≤ b) (h3 : b ≤ b') : Sub (Iv.of a b) (Iv.of a' b') := fun h => by
  obtain ⟨hb, e⟩ := of_right h
  have e2 : Iv.of a b = ⟨a, b, false⟩ := of_eq ⟨⟨numIn_iff.2 (by omega), numIn_iff.2 (by omega)⟩, h2⟩
  rw [e, e2]
  exact ⟨right_iff.2 ⟨rfl, by dsimp only; omega, h2, by dsimp only; omega⟩, h1, h3⟩
theorem add_right {a b : Iv} (h : (a.add b).right = true) : a.right = true ∧ b.right = true := by
  unfold Iv.add at h
  split at h
  · rename_i hb; simpa [Iv.both] using hb
  · cases h
theorem mul_right {a b : Iv} (h : (a.mul b).right = true) : a.right = true ∧ b.right = true := by
  unfold Iv.mul at h
  split at h
  · rename_i hb; simpa [Iv.both] using hb
  · cases h
theorem div_right {a b : Iv} (h : (a.div b).right = true) : a.right = true ∧ b.right = true ∧ b.has 0 = false := by
  unfold Iv.div at h
  split at h
  · rename_i hb; obtain ⟨h1, h2⟩ := hb; simp [Iv.both] at h1; exact ⟨h1.1, h1.2, h2⟩
  · cases h
theorem add_sub {a a' b b' : Iv} (ha : Sub a a') (hb : Sub b b') : Sub (a.add b) (a'.add b') := fun h => by
  obtain ⟨r1, r2⟩ := add_right h
  obtain ⟨a1, a2, a3⟩ := ha r1
  obtain ⟨b1, b2, b3⟩ := hb r2
  have := right_bd a1
  have := right_bd b1
  have e1 : a.add b = Iv.of (a.lo + b.lo) (a.hi + b.hi) := by simp [Iv.add, Iv.both, a1, b1]
  have e2 : a'.add b' = Iv.of (a'.lo + b'.lo) (a'.hi + b'.hi) := by simp [Iv.add, Iv.both, r1, r2]
  rw [e2] at h ⊢
  rw [e1]
  exact of_sub (by omega) (by omega) (by omega) h
theorem neg_sub {a a' : Iv} (ha : Sub a a') : Sub a.neg a'.neg := fun h => by
  rw [neg_right] at h
  obtain ⟨a1, a2, a3⟩ := ha h
  rw [neg_right, neg_right_eq a1, neg_right_eq h]
  exact ⟨a1, by dsimp only; omega, by dsimp only; omega⟩
theorem sub_sub {a a' b b' : Iv} (ha : Sub a a') (hb : Sub b b') : Sub (a.sub b) (a'.sub b') := add_sub ha (neg_sub hb)

/-! Products -/
def min4 (a b c d : Int) : Int := min (min a b) (min c d)
def max4 (a b c d : Int) : Int := max (max a b) (max c d)
theorem fl_min (a b : Int) {k : Int} (hk : 0 < k) : fl (min a b) k = min (fl a k) (fl b k) := by
  rcases Int.le_total a b with h | h
  · have := fl_mono hk h; rw [Int.min_eq_left h, Int.min_eq_left this]
  · have := fl_mono hk h; rw [Int.min_eq_right h, Int.min_eq_right this]
theorem cl_max (a b : Int) {k : Int} (hk : 0 < k) : cl (max a b) k = max (cl a k) (cl b k) := by
  rcases Int.le_total a b with h | h
  · have := cl_mono hk h; rw [Int.max_eq_right h, Int.max_eq_right this]
  · have := cl_mono hk h; rw [Int.max_eq_left h, Int.max_eq_left this]
theorem toldN_snd (n : Int) : (toldN n).2 = numIn n := by unfold toldN; split <;> simp_all
theorem toldN_fst {n : Int} (h : numIn n = true) : (toldN n).1 = n := by unfold toldN; rw [if_pos h]
theorem of_none {a b : Int} (h : ¬ (-1073741824 ≤ a ∧ a ≤ b ∧ b ≤ 1073741824)) : Iv.of a b = Iv.none := by
  unfold Iv.of
  rw [if_neg]
  intro hr
  have := right_bd hr
  exact h ⟨this.2.1, this.2.2.2.2.2, this.2.2.2.2.1⟩
theorem ends_eq {f : Int → Int → Bool → Int × Bool} {L H : Int → Int → Int} (a b : Iv) (hlh : ∀ x y, L x y ≤ H x y)
    (hf : ∀ x y, (x = a.lo ∨ x = a.hi) → (y = b.lo ∨ y = b.hi) → f x y false = toldN (L x y) ∧ f x y true = toldN (H x y)) :
    ends f a b = Iv.of (min4 (L a.lo b.lo) (L a.lo b.hi) (L a.hi b.lo) (L a.hi b.hi)) (max4 (H a.lo b.lo) (H a.lo b.hi) (H a.hi b.lo) (H a.hi b.hi)) := by
  obtain ⟨p0, q0⟩ := hf a.lo b.lo (.inl rfl) (.inl rfl)
  obtain ⟨p1, q1⟩ := hf a.lo b.hi (.inl rfl) (.inr rfl)
  obtain ⟨p2, q2⟩ := hf a.hi b.lo (.inr rfl) (.inl rfl)
  obtain ⟨p3, q3⟩ := hf a.hi b.hi (.inr rfl) (.inr rfl)
  have l0 := hlh a.lo b.lo
  have l1 := hlh a.lo b.hi
  have l2 := hlh a.hi b.lo
  have l3 := hlh a.hi b.hi
  unfold ends
  rw [p0, q0, p1, q1, p2, q2, p3, q3]
  simp only [toldN_snd]
  split
  · rename_i h
    obtain ⟨⟨h1, h2⟩, ⟨h3, h4⟩, ⟨h5, h6⟩, h7, h8⟩ := h
    rw [toldN_fst h1, toldN_fst h2, toldN_fst h3, toldN_fst h4, toldN_fst h5, toldN_fst h6, toldN_fst h7, toldN_fst h8]
    rfl
  · rename_i h
    rw [of_none]
    intro hb
    apply h
    simp only [numIn_iff, min4, max4] at *
    omega
theorem mul_eq {a b : Iv} (ha : a.right = true) (hb : b.right = true) :
    a.mul b = Iv.of (fl (min4 (a.lo * b.lo) (a.lo * b.hi) (a.hi * b.lo) (a.hi * b.hi)) 65536) (cl (max4 (a.lo * b.lo) (a.lo * b.hi) (a.hi * b.lo) (a.hi * b.hi)) 65536) := by
  have b1 := right_bd ha
  have b2 := right_bd hb
  unfold Iv.mul Iv.both
  rw [ha, hb]
  simp only [Bool.and_self, if_true]
  rw [ends_eq (L := fun x y => fl (x * y) 65536) (H := fun x y => cl (x * y) 65536) a b (fun x y => fl_le_cl _ _)]
  · simp only [min4, max4]
    rw [fl_min _ _ (by decide), fl_min _ _ (by decide), fl_min _ _ (by decide), cl_max _ _ (by decide), cl_max _ _ (by decide), cl_max _ _ (by decide)]
  · intro x y hx hy
    have n1 : numIn x = true := numIn_iff.2 (by rcases hx with rfl | rfl <;> omega)
    have n2 : numIn y = true := numIn_iff.2 (by rcases hy with rfl | rfl <;> omega)
    unfold numMul
    rw [n1, n2, if_pos ⟨rfl, rfl⟩, if_pos ⟨rfl, rfl⟩, rnd_eq, rnd_eq]
    exact ⟨rfl, rfl⟩
/-- A product lies between those of the ends. -/
theorem lin_le {x lo hi y m : Int} (h1 : lo ≤ x) (h2 : x ≤ hi) (k1 : m ≤ lo * y) (k2 : m ≤ hi * y) : m ≤ x * y := by
  rcases Int.le_total 0 y with h | h
  · exact Int.le_trans k1 (Int.mul_le_mul_of_nonneg_right h1 h)
  · exact Int.le_trans k2 (Int.mul_le_mul_of_nonpos_right h2 h)
theorem lin_ge {x lo hi y m : Int} (h1 : lo ≤ x) (h2 : x ≤ hi) (k1 : lo * y ≤ m) (k2 : hi * y ≤ m) : x * y ≤ m := by
  rcases Int.le_total 0 y with h | h
  · exact Int.le_trans (Int.mul_le_mul_of_nonneg_right h2 h) k2
  · exact Int.le_trans (Int.mul_le_mul_of_nonpos_right h1 h) k1
theorem box_le {x y a b c d m : Int} (hx : a ≤ x ∧ x ≤ b) (hy : c ≤ y ∧ y ≤ d) (h1 : m ≤ a * c) (h2 : m ≤ a * d) (h3 : m ≤ b * c) (h4 : m ≤ b * d) : m ≤ x * y := by
  refine lin_le hx.1 hx.2 ?_ ?_
  · rw [Int.mul_comm]; exact lin_le hy.1 hy.2 (by rw [Int.mul_comm]; exact h1) (by rw [Int.mul_comm]; exact h2)
  · rw [Int.mul_comm]; exact lin_le hy.1 hy.2 (by rw [Int.mul_comm]; exact h3) (by rw [Int.mul_comm]; exact h4)
theorem box_ge {x y a b c d m : Int} (hx : a ≤ x ∧ x ≤ b) (hy : c ≤ y ∧ y ≤ d) (h1 : a * c ≤ m) (h2 : a * d ≤ m) (h3 : b * c ≤ m) (h4 : b * d ≤ m) : x * y ≤ m := by
  refine lin_ge hx.1 hx.2 ?_ ?_
  · rw [Int.mul_comm]; exact lin_ge hy.1 hy.2 (by rw [Int.mul_comm]; exact h1) (by rw [Int.mul_comm]; exact h2)
  · rw [Int.mul_comm]; exact lin_ge hy.1 hy.2 (by rw [Int.mul_comm]; exact h3) (by rw [Int.mul_comm]; exact h4)
theorem min4_le (a b c d : Int) : min4 a b c d ≤ a ∧ min4 a b c d ≤ b ∧ min4 a b c d ≤ c ∧ min4 a b c d ≤ d := by unfold min4; omega
theorem le_max4 (a b c d : Int) : a ≤ max4 a b c d ∧ b ≤ max4 a b c d ∧ c ≤ max4 a b c d ∧ d ≤ max4 a b c d := by unfold max4; omega
theorem le_min4 {m a b c d : Int} (h1 : m ≤ a) (h2 : m ≤ b) (h3 : m ≤ c) (h4 : m ≤ d) : m ≤ min4 a b c d := by unfold min4; omega
theorem max4_le {m a b c d : Int} (h1 : a ≤ m) (h2 : b ≤ m) (h3 : c ≤ m) (h4 : d ≤ m) : max4 a b c d ≤ m := by unfold max4; omega
theorem mul_sub {a a' b b' : Iv} (ha : Sub a a') (hb : Sub b b') : Sub (a.mul b) (a'.mul b') := fun h => by
  obtain ⟨r1, r2⟩ := mul_right h
  obtain ⟨a1, a2, a3⟩ := ha r1
  obtain ⟨b1, b2, b3⟩ := hb r2
  have ba := right_bd a1
  have bb := right_bd b1
  rw [mul_eq r1 r2] at h ⊢
  rw [mul_eq a1 b1]
  have m := min4_le (a'.lo * b'.lo) (a'.lo * b'.hi) (a'.hi * b'.lo) (a'.hi * b'.hi)
  have M := le_max4 (a'.lo * b'.lo) (a'.lo * b'.hi) (a'.hi * b'.lo) (a'.hi * b'.hi)
  have low : ∀ x y, a'.lo ≤ x ∧ x ≤ a'.hi → b'.lo ≤ y ∧ y ≤ b'.hi → min4 (a'.lo * b'.lo) (a'.lo * b'.hi) (a'.hi * b'.lo) (a'.hi * b'.hi) ≤ x * y := fun x y hx hy => box_le hx hy m.1 m.2.1 m.2.2.1 m.2.2.2
  have upp : ∀ x y, a'.lo ≤ x ∧ x ≤ a'.hi → b'.lo ≤ y ∧ y ≤ b'.hi → x * y ≤ max4 (a'.lo * b'.lo) (a'.lo * b'.hi) (a'.hi * b'.lo) (a'.hi * b'.hi) := fun x y hx hy => box_ge hx hy M.1 M.2.1 M.2.2.1 M.2.2.2
  refine of_sub ?_ ?_ ?_ h
  · exact fl_mono (by decide) (le_min4 (low _ _ (by omega) (by omega)) (low _ _ (by omega) (by omega)) (low _ _ (by omega) (by omega)) (low _ _ (by omega) (by omega)))
  · refine Int.le_trans (fl_mono (by decide) ?_) (fl_le_cl _ _)
    exact Int.le_trans (min4_le _ _ _ _).1 (le_max4 _ _ _ _).1
  · exact cl_mono (by decide) (max4_le (upp _ _ (by omega) (by omega)) (upp _ _ (by omega) (by omega)) (upp _ _ (by omega) (by omega)) (upp _ _ (by omega) (by omega)))

/-! Quotients -/
theorem has0 {b : Iv} (hb : b.right = true) (h : b.has 0 = false) : 0 < b.lo ∨ b.hi < 0 := by
  simp [Iv.has, hb] at h; omega
theorem div_eq {a b : Iv} (ha : a.right = true) (hb : b.right = true) (h0 : b.has 0 = false) :
    a.div b = Iv.of (min4 (fl (a.lo * 65536) b.lo) (fl (a.lo * 65536) b.hi) (fl (a.hi * 65536) b.lo) (fl (a.hi * 65536) b.hi)) (max4 (cl (a.lo * 65536) b.lo) (cl (a.lo * 65536) b.hi) (cl (a.hi * 65536) b.lo) (cl (a.hi * 65536) b.hi)) := by
  have b1 := right_bd ha
  have b2 := right_bd hb
  have hz := has0 hb h0
  unfold Iv.div Iv.both
  rw [ha, hb, h0]
  simp only [Bool.and_self, and_self, if_true]
  refine ends_eq (L := fun x y => fl (x * 65536) y) (H := fun x y => cl (x * 65536) y) a b (fun x y => fl_le_cl _ _) ?_
  intro x y hx hy
  have n1 : numIn x = true := numIn_iff.2 (by rcases hx with rfl | rfl <;> omega)
  have n2 : numIn y = true := numIn_iff.2 (by rcases hy with rfl | rfl <;> omega)
  have n3 : y ≠ 0 := by rcases hy with rfl | rfl <;> omega
  unfold numDiv
  rw [n1, n2, if_pos ⟨⟨rfl, rfl⟩, n3⟩, if_pos ⟨⟨rfl, rfl⟩, n3⟩, rnd_eq, rnd_eq]
  exact ⟨rfl, rfl⟩
theorem div_sub {a a' b b' : Iv} (ha : Sub a a') (hb : Sub b b') : Sub (a.div b) (a'.div b') := fun h => by
  obtain ⟨r1, r2, r3⟩ := div_right h
  obtain ⟨a1, a2, a3⟩ := ha r1
  obtain ⟨b1, b2, b3⟩ := hb r2
  have ba := right_bd a1
  have bb := right_bd b1
  have hz := has0 r2 r3
  have hz2 : b.has 0 = false := by simp [Iv.has, b1]; omega
  rw [div_eq r1 r2 r3] at h ⊢
  rw [div_eq a1 b1 hz2]
  have m := min4_le (fl (a'.lo * 65536) b'.lo) (fl (a'.lo * 65536) b'.hi) (fl (a'.hi * 65536) b'.lo) (fl (a'.hi * 65536) b'.hi)
  have M := le_max4 (cl (a'.lo * 65536) b'.lo) (cl (a'.lo * 65536) b'.hi) (cl (a'.hi * 65536) b'.lo) (cl (a'.hi * 65536) b'.hi)
  generalize min4 (fl (a'.lo * 65536) b'.lo) (fl (a'.lo * 65536) b'.hi) (fl (a'.hi * 65536) b'.lo) (fl (a'.hi * 65536) b'.hi) = p at *
  generalize max4 (cl (a'.lo * 65536) b'.lo) (cl (a'.lo * 65536) b'.hi) (cl (a'.hi * 65536) b'.lo) (cl (a'.hi * 65536) b'.hi) = q at *
  have low : ∀ x y, a'.lo ≤ x ∧ x ≤ a'.hi → b'.lo ≤ y ∧ y ≤ b'.hi → p ≤ fl (x * 65536) y := by
    intro x y hx hy
    rcases hz with hz | hz
    · rw [le_fl_iff (by omega)] at m ⊢
      rw [le_fl_iff (by omega), le_fl_iff (by omega), le_fl_iff (by omega)] at m
      have := lin_ge (y := p) hy.1 hy.2 (m := a'.lo * 65536) (by rw [Int.mul_comm b'.lo]; exact m.1) (by rw [Int.mul_comm b'.hi]; exact m.2.1)
      rw [Int.mul_comm y] at this
      omega
    · rw [le_fl_iff' (by omega)] at m ⊢
      rw [le_fl_iff' (by omega), le_fl_iff' (by omega), le_fl_iff' (by omega)] at m
      have := lin_le (y := p) hy.1 hy.2 (m := a'.hi * 65536) (by rw [Int.mul_comm b'.lo]; exact m.2.2.1) (by rw [Int.mul_comm b'.hi]; exact m.2.2.2)
      rw [Int.mul_comm y] at this
      omega
  have upp : ∀ x y, a'.lo ≤ x ∧ x ≤ a'.hi → b'.lo ≤ y ∧ y ≤ b'.hi → cl (x * 65536) y ≤ q := by
    intro x y hx hy
    rcases hz with hz | hz
    · rw [cl_le_iff (by omega)] at M ⊢
      rw [cl_le_iff (by omega), cl_le_iff (by omega), cl_le_iff (by omega)] at M
      have := lin_le (y := q) hy.1 hy.2 (m := a'.hi * 65536) (by rw [Int.mul_comm b'.lo]; exact M.2.2.1) (by rw [Int.mul_comm b'.hi]; exact M.2.2.2)
      rw [Int.mul_comm y] at this
      omega
    · rw [cl_le_iff' (by omega)] at M ⊢
      rw [cl_le_iff' (by omega), cl_le_iff' (by omega), cl_le_iff' (by omega)] at M
      have := lin_ge (y := q) hy.1 hy.2 (m := a'.lo * 65536) (by rw [Int.mul_comm b'.lo]; exact M.1) (by rw [Int.mul_comm b'.hi]; exact M.2.1)
      rw [Int.mul_comm y] at this
      omega
  refine of_sub ?_ ?_ ?_ h
  · exact le_min4 (low _ _ (by omega) (by omega)) (low _ _ (by omega) (by omega)) (low _ _ (by omega) (by omega)) (low _ _ (by omega) (by omega))
  · exact Int.le_trans (min4_le _ _ _ _).1 (Int.le_trans (fl_le_cl _ _) (le_max4 _ _ _ _).1)
  · exact max4_le (upp _ _ (by omega) (by omega)) (upp _ _ (by omega) (by omega)) (upp _ _ (by omega) (by omega)) (upp _ _ (by omega) (by omega))

/-! Squares, roots, multiples -/
theorem numMul_eq {a b : Int} (ha : numIn a = true) (hb : numIn b = true) (up : Bool) : numMul a b up = toldN (if up = true then cl (a * b) 65536 else fl (a * b) 65536) := by
  unfold numMul; rw [ha, hb, if_pos ⟨rfl, rfl⟩, rnd_eq]
def ivFar (a : Iv) : Int := max (-a.lo) a.hi
def ivNear (a : Iv) : Int := max (max a.lo (-a.hi)) 0
theorem sqr_eq {a : Iv} (ha : a.right = true) : a.sqr = Iv.of (fl (ivNear a * ivNear a) 65536) (cl (ivFar a * ivFar a) 65536) := by
  have b := right_bd ha
  have n1 : numIn (ivFar a) = true := numIn_iff.2 (by unfold ivFar; omega)
  have n2 : numIn (ivNear a) = true := numIn_iff.2 (by unfold ivNear; omega)
  have hnf : 0 ≤ ivNear a ∧ ivNear a ≤ ivFar a := by unfold ivNear ivFar; omega
  have hsq : ivNear a * ivNear a ≤ ivFar a * ivFar a := Int.mul_le_mul hnf.2 hnf.2 hnf.1 (by omega)
  have hs0 : 0 ≤ ivNear a * ivNear a := Int.mul_nonneg hnf.1 hnf.1
  have h0 : 0 ≤ fl (ivNear a * ivNear a) 65536 := (le_fl_iff (by decide)).2 (by omega)
  have hle : fl (ivNear a * ivNear a) 65536 ≤ cl (ivFar a * ivFar a) 65536 := Int.le_trans (fl_mono (by decide) hsq) (fl_le_cl _ _)
  have e1 := numMul_eq n1 n1 true
  have e2 := numMul_eq n2 n2 false
  unfold ivFar at e1
  unfold ivNear at e2
  unfold Iv.sqr
  rw [e1, e2]
  simp only [if_true, Bool.false_eq_true, if_false, toldN_snd]
  by_cases h : numIn (cl (max (-a.lo) a.hi * max (-a.lo) a.hi) 65536) = true
  · rw [if_pos ⟨ha, h⟩, toldN_fst h]
    have h' := numIn_iff.1 h
    rw [toldN_fst (numIn_iff.2 (by unfold ivNear ivFar at *; omega))]
    rfl
  · rw [if_neg (fun c => h c.2), of_none]
    intro hb
    exact h (numIn_iff.2 (by unfold ivNear ivFar at *; omega))
theorem sqr_right {a : Iv} (h : a.sqr.right = true) : a.right = true := by
  unfold Iv.sqr at h
  split at h
  · rename_i hh; exact hh.1
  · cases h
theorem sqr_sub {a a' : Iv} (ha : Sub a a') : Sub a.sqr a'.sqr := fun h => by
  have r1 := sqr_right h
  obtain ⟨a1, a2, a3⟩ := ha r1
  have b := right_bd a1
  rw [sqr_eq r1] at h ⊢
  rw [sqr_eq a1]
  have n0 : 0 ≤ ivNear a' ∧ ivNear a' ≤ ivNear a ∧ ivNear a ≤ ivFar a ∧ ivFar a ≤ ivFar a' := by unfold ivNear ivFar; omega
  refine of_sub ?_ ?_ ?_ h
  · exact fl_mono (by decide) (Int.mul_le_mul n0.2.1 n0.2.1 n0.1 (by omega))
  · exact Int.le_trans (fl_mono (by decide) (Int.mul_le_mul n0.2.2.1 n0.2.2.1 (by omega) (by omega))) (fl_le_cl _ _)
  · exact cl_mono (by decide) (Int.mul_le_mul n0.2.2.2 n0.2.2.2 (by omega) (by omega))
theorem isqrt_mono {n m : Int} (h : 0 ≤ n) (hm : m < 1125899906842624) (hnm : n ≤ m) : isqrt n ≤ isqrt m := by
  obtain ⟨a1, a2, a3⟩ := isqrt_spec (n := n) h (by omega)
  obtain ⟨b1, b2, b3⟩ := isqrt_spec (n := m) (by omega) hm
  rcases Int.lt_or_le (isqrt m) (isqrt n) with hl | hl
  · have : (isqrt m + 1) * (isqrt m + 1) ≤ isqrt n * isqrt n := Int.mul_le_mul (by omega) (by omega) (by omega) a1
    omega
  · exact hl
/-- The whole root, rounded up. -/
def usqrt (n : Int) : Int := if isqrt n * isqrt n < n then isqrt n + 1 else isqrt n
theorem usqrt_spec {n : Int} (h : 0 ≤ n) (h' : n < 1125899906842624) : n ≤ usqrt n * usqrt n ∧ isqrt n ≤ usqrt n ∧ usqrt n ≤ isqrt n + 1 := by
  obtain ⟨a1, a2, a3⟩ := isqrt_spec h h'
  unfold usqrt
  split <;> omega
theorem usqrt_mono {n m : Int} (h : 0 ≤ n) (hm : m < 1125899906842624) (hnm : n ≤ m) : usqrt n ≤ usqrt m := by
  obtain ⟨a1, a2, a3⟩ := isqrt_spec (n := n) h (by omega)
  have hi := isqrt_mono h hm hnm
  have um := usqrt_spec (n := m) (by omega) hm
  unfold usqrt
  split
  · rename_i hn
    rcases Int.lt_or_le (usqrt m) (isqrt n + 1) with hl | hl
    · have e : usqrt m ≤ isqrt n := by omega
      have : usqrt m * usqrt m ≤ isqrt n * isqrt n := Int.mul_le_mul e e (by have := (isqrt_spec (n := m) (by omega) hm).1; omega) a1
      omega
    · exact hl
  · exact Int.le_trans hi um.2.1
theorem root_eq {a : Iv} (ha : a.right = true) (h0 : 0 ≤ a.lo) : a.root = ⟨isqrt (a.lo * 65536), usqrt (a.hi * 65536), false⟩ := by
  have b := right_bd ha
  have e1 : numRoot a.lo false = (isqrt (a.lo * 65536), true) := by
    unfold numRoot
    rw [if_neg (by simp [numIn_iff]; omega), if_neg (by simp)]
  have e2 : numRoot a.hi true = (usqrt (a.hi * 65536), true) := by
    unfold numRoot usqrt
    rw [if_neg (by simp [numIn_iff]; omega)]
    by_cases c : isqrt (a.hi * 65536) * isqrt (a.hi * 65536) < a.hi * 65536
    · rw [if_pos ⟨rfl, c⟩, if_pos c]
    · rw [if_neg (fun d => c d.2), if_neg c]
  obtain ⟨a1, a2, a3⟩ := isqrt_spec (n := a.lo * 65536) (by omega) (by omega)
  have hm := isqrt_mono (n := a.lo * 65536) (m := a.hi * 65536) (by omega) (by omega) (by omega)
  have hu := usqrt_spec (n := a.hi * 65536) (by omega) (by omega)
  have hb : isqrt (a.hi * 65536) ≤ 8388608 := isqrt_le (by omega) (by omega) (by decide) (by omega)
  unfold Iv.root
  rw [if_pos ⟨ha, h0⟩, e1, e2]
  exact of_eq ⟨⟨numIn_iff.2 (by dsimp only; omega), numIn_iff.2 (by dsimp only; omega)⟩, by dsimp only; omega⟩
theorem root_right {a : Iv} (h : a.root.right = true) : a.right = true ∧ 0 ≤ a.lo := by
  unfold Iv.root at h
  split at h
  · rename_i hh; exact hh
  · cases h
theorem root_sub {a a' : Iv} (ha : Sub a a') : Sub a.root a'.root := fun h => by
  obtain ⟨r1, r2⟩ := root_right h
  obtain ⟨a1, a2, a3⟩ := ha r1
  have b := right_bd a1
  have b' := right_bd r1
  rw [root_eq r1 r2] at h ⊢
  rw [root_eq a1 (by omega)]
  have h1 := isqrt_mono (n := a'.lo * 65536) (m := a.lo * 65536) (by omega) (by omega) (by omega)
  have h2 := usqrt_mono (n := a.hi * 65536) (m := a'.hi * 65536) (by omega) (by omega) (by omega)
  have h3 := isqrt_mono (n := a.lo * 65536) (m := a.hi * 65536) (by omega) (by omega) (by omega)
  have h4 := usqrt_spec (n := a.hi * 65536) (by omega) (by omega)
  have hb := right_bd h
  dsimp only at hb
  refine ⟨right_iff.2 ⟨rfl, by dsimp only; omega, by dsimp only; omega, by dsimp only; omega⟩, h1, h2⟩
theorem times_right {a : Iv} {k : Int} (h : (a.times k).right = true) : a.right = true ∧ numIn k = true := by
  unfold Iv.times at h
  split at h
  · rename_i hh; exact hh
  · cases h
theorem times_sub {a a' : Iv} (ha : Sub a a') (k : Int) : Sub (a.times k) (a'.times k) := fun h => by
  obtain ⟨r1, r2⟩ := times_right h
  obtain ⟨a1, a2, a3⟩ := ha r1
  have b := right_bd a1
  have e1 : a.times k = Iv.of (min (k * a.lo) (k * a.hi)) (max (k * a.lo) (k * a.hi)) := by unfold Iv.times; rw [if_pos ⟨a1, r2⟩]
  have e2 : a'.times k = Iv.of (min (k * a'.lo) (k * a'.hi)) (max (k * a'.lo) (k * a'.hi)) := by unfold Iv.times; rw [if_pos ⟨r1, r2⟩]
  rw [e2] at h ⊢
  rw [e1]
  have l1 := lin_le (x := a.lo) (lo := a'.lo) (hi := a'.hi) (y := k) (m := min (k * a'.lo) (k * a'.hi)) (by omega) (by omega) (by rw [Int.mul_comm a'.lo]; omega) (by rw [Int.mul_comm a'.hi]; omega)
  have l2 := lin_le (x := a.hi) (lo := a'.lo) (hi := a'.hi) (y := k) (m := min (k * a'.lo) (k * a'.hi)) (by omega) (by omega) (by rw [Int.mul_comm a'.lo]; omega) (by rw [Int.mul_comm a'.hi]; omega)
  have g1 := lin_ge (x := a.lo) (lo := a'.lo) (hi := a'.hi) (y := k) (m := max (k * a'.lo) (k * a'.hi)) (by omega) (by omega) (by rw [Int.mul_comm a'.lo]; omega) (by rw [Int.mul_comm a'.hi]; omega)
  have g2 := lin_ge (x := a.hi) (lo := a'.lo) (hi := a'.hi) (y := k) (m := max (k * a'.lo) (k * a'.hi)) (by omega) (by omega) (by rw [Int.mul_comm a'.lo]; omega) (by rw [Int.mul_comm a'.hi]; omega)
  rw [Int.mul_comm a.lo] at l1 g1
  rw [Int.mul_comm a.hi] at l2 g2
  refine of_sub ?_ ?_ ?_ h <;> omega
end Go.Proofs.YtlbmjajjldfigaaGreat
