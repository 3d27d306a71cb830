/-
  Whole numbers as floats: what sums, products, tests of them come to; in plain Lean.
-/
import Derived.Test.YthgpgnijbajlgaaEvDefs
namespace Go.Proofs.Ythgpgnijbajlgaa
open Go Ev
set_option linter.unusedVariables false
set_option linter.unusedSimpArgs false
set_option exponentiation.threshold 2000

/-- A signed whole number's word. -/
def wordOf (s : Bool) (v : Nat) : Nat := Ieee.double.word s (if v = 0 then 0 else (v.log2 + 1022) * 4503599627370496 + v * 2 ^ (52 - v.log2))
def sg (s : Bool) (v : Nat) : Int := if s = true then -(v : Int) else (v : Int)

theorem log2_mul (v k : Nat) (h : v ≠ 0) : (v * 2 ^ k).log2 = v.log2 + k := by
  have hp : 0 < 2 ^ k := Nat.two_pow_pos k
  have h1 := Nat.log2_self_le h
  have h2 := Nat.lt_log2_self (n := v)
  have hne : v * 2 ^ k ≠ 0 := Nat.mul_ne_zero h (by omega)
  apply Nat.le_antisymm
  · have : (v * 2 ^ k).log2 < v.log2 + k + 1 := (Nat.log2_lt hne).2 (by
      rw [show v.log2 + k + 1 = (v.log2 + 1) + k by omega, Nat.pow_add]
      exact Nat.mul_lt_mul_of_pos_right h2 hp)
    omega
  · exact (Nat.le_log2 hne).2 (by rw [Nat.pow_add]; exact Nat.mul_le_mul_right _ h1)
theorem cut_zero (w : Ieee.Toward) (s : Bool) (n : Nat) (h : w = .even ∨ w = .zero) : w.cut s n 0 = n := by
  unfold Ieee.Toward.cut
  have e : (1 <<< min 0 (n.log2 + 2) : Nat) = 1 := by rw [Nat.zero_min]; rfl
  rcases h with rfl | rfl <;> simp [e, Nat.mod_one]
theorem cut_exact (w : Ieee.Toward) (s : Bool) (n d : Nat) (h : w = .even ∨ w = .zero) (hd : d ≤ (n * 2 ^ d).log2 + 2 ∨ n = 0) : w.cut s (n * 2 ^ d) d = n := by
  rcases Nat.eq_zero_or_pos n with h0 | h0
  · subst h0
    rw [Nat.zero_mul]
    unfold Ieee.Toward.cut
    have hp : 0 < (1 <<< min d (Nat.log2 0 + 2) : Nat) := by rw [Nat.shiftLeft_eq, Nat.one_mul]; exact Nat.two_pow_pos _
    rcases h with rfl | rfl
    · simp <;> omega
    · simp
  · have hd' : d ≤ (n * 2 ^ d).log2 + 2 := hd.resolve_right (by omega)
    unfold Ieee.Toward.cut
    have e : (1 <<< min d ((n * 2 ^ d).log2 + 2) : Nat) = 2 ^ d := by rw [Nat.min_eq_left hd', Nat.shiftLeft_eq, Nat.one_mul]
    have hp : 0 < 2 ^ d := Nat.two_pow_pos d
    rw [e]
    rcases h with rfl | rfl
    · simp [Nat.mul_mod_left, Nat.mul_div_cancel _ hp] <;> omega
    · simp [Nat.mul_div_cancel _ hp]
theorem nearest_exact (s : Bool) (v k : Nat) (hv : v < 9007199254740992) : Ieee.double.nearest s (v * 2 ^ k) (-(k : Int)) = wordOf s v := by
  rcases Nat.eq_zero_or_pos v with h0 | h0
  · subst h0
    unfold Ieee.Format.nearest wordOf
    simp
  have hp : 0 < 2 ^ k := Nat.two_pow_pos k
  have hne : v * 2 ^ k ≠ 0 := Nat.mul_ne_zero (by omega) (by omega)
  have hL : v.log2 < 53 := (Nat.log2_lt (by omega)).2 hv
  have hl := log2_mul v k (by omega)
  unfold Ieee.Format.nearest
  rw [if_neg hne, hl]
  have elast : max (-(k : Int) + ((v.log2 + k : Nat) : Int) - (Ieee.double.fractionBits : Int)) Ieee.double.leastPlace = (v.log2 : Int) - 52 := by
    have e1 : (Ieee.double.fractionBits : Int) = 52 := rfl
    have e2 : Ieee.double.leastPlace = -1074 := by decide
    rw [e1, e2]; omega
  simp only [elast]
  have ekept : Ieee.Toward.even.cut s ((v * 2 ^ k) <<< (-(k : Int) - ((v.log2 : Int) - 52)).toNat) ((v.log2 : Int) - 52 - -(k : Int)).toNat = v * 2 ^ (52 - v.log2) := by
    rcases Nat.le_total (k + v.log2) 52 with h | h
    · have e1 : (-(k : Int) - ((v.log2 : Int) - 52)).toNat = 52 - v.log2 - k := by omega
      have e2 : ((v.log2 : Int) - 52 - -(k : Int)).toNat = 0 := by omega
      rw [e1, e2, cut_zero _ _ _ (.inl rfl), Nat.shiftLeft_eq, Nat.mul_assoc, ← Nat.pow_add]
      congr 2; omega
    · have e1 : (-(k : Int) - ((v.log2 : Int) - 52)).toNat = 0 := by omega
      have e2 : ((v.log2 : Int) - 52 - -(k : Int)).toNat = k - (52 - v.log2) := by omega
      have e3 : v * 2 ^ k = (v * 2 ^ (52 - v.log2)) * 2 ^ (k - (52 - v.log2)) := by rw [Nat.mul_assoc, ← Nat.pow_add]; congr 2; omega
      rw [e1, e2, Nat.shiftLeft_zero, e3, cut_exact _ _ _ _ (.inl rfl) (.inl (by rw [← e3, hl]; omega))]
  rw [ekept]
  have h1 := Nat.lt_log2_self (n := v)
  have hub : v * 2 ^ (52 - v.log2) < 9007199254740992 := by
    have : v * 2 ^ (52 - v.log2) < 2 ^ (v.log2 + 1) * 2 ^ (52 - v.log2) := Nat.mul_lt_mul_of_pos_right h1 (Nat.two_pow_pos _)
    rw [← Nat.pow_add, show v.log2 + 1 + (52 - v.log2) = 53 by omega] at this
    exact this
  have e4 : ((v.log2 : Int) - 52 - Ieee.double.leastPlace).toNat = v.log2 + 1022 := by
    have e2 : Ieee.double.leastPlace = -1074 := by decide
    rw [e2]; omega
  have e5 : Ieee.double.binade = 4503599627370496 := by decide
  have e6 : Ieee.double.infRung = 2047 * 4503599627370496 := by decide
  unfold wordOf
  rw [if_neg (by omega), e4, e5, e6, Nat.min_eq_left (by omega)]

theorem fInt_eq (n : Int) (h : n.natAbs < 9007199254740992) : fInt n = wordOf (decide (n < 0)) n.natAbs := by
  have := nearest_exact (decide (n < 0)) n.natAbs 0 h
  rw [Nat.pow_zero, Nat.mul_one] at this
  exact this
theorem read_exact (s : Bool) (v : Nat) (hv : v < 9007199254740992) : ∃ j : Nat, Ieee.double.read (wordOf s v) = .number s (v * 2 ^ j) (-(j : Int)) ∧ (v ≠ 0 → j ≤ 52) := by
  have e1 : Ieee.double.signWeight = 9223372036854775808 := by decide
  have e5 : Ieee.double.binade = 4503599627370496 := by decide
  have e6 : Ieee.double.infRung = 2047 * 4503599627370496 := by decide
  have e2 : Ieee.double.leastPlace = -1074 := by decide
  have key : ∀ r : Nat, r < 9223372036854775808 → (Ieee.double.word s r / 9223372036854775808 % 2 == 1) = s ∧ Ieee.double.word s r % 9223372036854775808 = r := by
    intro r hr
    unfold Ieee.Format.word
    rw [e1]
    cases s
    · simp only [Bool.false_eq_true, if_false]
      have : r / 9223372036854775808 = 0 := Nat.div_eq_of_lt hr
      rw [this]; exact ⟨rfl, Nat.mod_eq_of_lt hr⟩
    · simp only [if_true]
      have : (9223372036854775808 + r) / 9223372036854775808 = 1 := by omega
      rw [this]; exact ⟨rfl, by omega⟩
  rcases Nat.eq_zero_or_pos v with h0 | h0
  · subst h0
    refine ⟨1074, ?_, fun h => absurd rfl h⟩
    unfold wordOf Ieee.Format.read
    rw [if_pos rfl, e1, (key 0 (by decide)).1, (key 0 (by decide)).2, e5, e2]
    simp
  have hL : v.log2 < 53 := (Nat.log2_lt (by omega)).2 hv
  have h1 := Nat.lt_log2_self (n := v)
  have h2 := Nat.log2_self_le (n := v) (by omega)
  have hub : v * 2 ^ (52 - v.log2) < 9007199254740992 := by
    have : v * 2 ^ (52 - v.log2) < 2 ^ (v.log2 + 1) * 2 ^ (52 - v.log2) := Nat.mul_lt_mul_of_pos_right h1 (Nat.two_pow_pos _)
    rw [← Nat.pow_add, show v.log2 + 1 + (52 - v.log2) = 53 by omega] at this
    exact this
  have hlb : 4503599627370496 ≤ v * 2 ^ (52 - v.log2) := by
    have : 2 ^ v.log2 * 2 ^ (52 - v.log2) ≤ v * 2 ^ (52 - v.log2) := Nat.mul_le_mul_right _ h2
    rw [← Nat.pow_add, show v.log2 + (52 - v.log2) = 52 by omega] at this
    exact this
  refine ⟨52 - v.log2, ?_, fun _ => by omega⟩
  obtain ⟨m, hm⟩ : ∃ m, m = v * 2 ^ (52 - v.log2) := ⟨_, rfl⟩
  have hw : (if v = 0 then 0 else (v.log2 + 1022) * 4503599627370496 + v * 2 ^ (52 - v.log2)) = (v.log2 + 1022) * 4503599627370496 + m := by rw [if_neg (by omega), hm]
  rw [← hm] at hub hlb ⊢
  unfold wordOf Ieee.Format.read
  rw [hw, e1, (key _ (by omega)).1, (key _ (by omega)).2, e5, e6, e2]
  have hr : ¬ (v.log2 + 1022) * 4503599627370496 + m < 4503599627370496 := by omega
  have hi : (v.log2 + 1022) * 4503599627370496 + m < 2047 * 4503599627370496 := by omega
  rw [if_neg hr, if_pos hi]
  have d1 : ((v.log2 + 1022) * 4503599627370496 + m) % 4503599627370496 = m - 4503599627370496 := by omega
  have d2 : ((v.log2 + 1022) * 4503599627370496 + m) / 4503599627370496 = v.log2 + 1023 := by omega
  rw [d1, d2, show 4503599627370496 + (m - 4503599627370496) = m by omega, show (-1074 : Int) + ((v.log2 + 1023 - 1 : Nat) : Int) = -((52 - v.log2 : Nat) : Int) by omega]

theorem signed_sg (s : Bool) (v j k : Nat) : Ieee.signed s (v * 2 ^ j) k = sg s v * 2 ^ (j + k) := by
  have e : (v * 2 ^ j) <<< k = v * 2 ^ (j + k) := by rw [Nat.shiftLeft_eq, Nat.mul_assoc, ← Nat.pow_add]
  unfold Ieee.signed sg
  rw [e]
  cases s
  · simp
  · simp [Int.neg_mul]
/-- The sign of a sum. -/
def sumSg (s : Bool) (v : Nat) (t : Bool) (u : Nat) : Bool := if sg s v + sg t u = 0 then s && t else decide (sg s v + sg t u < 0)
theorem sum_exact (s t : Bool) (v u i j : Nat) : ∃ K : Nat, Ieee.Datum.sum (.number s (v * 2 ^ i) (-(i : Int))) (.number t (u * 2 ^ j) (-(j : Int))) = some (.number (sumSg s v t u) ((sg s v + sg t u).natAbs * 2 ^ K) (-(K : Int))) := by
  refine ⟨max i j, ?_⟩
  have hb : min (-(i : Int)) (-(j : Int)) = -((max i j : Nat) : Int) := by omega
  unfold Ieee.Datum.sum
  simp only [hb]
  have e1 : (-(i : Int) - -((max i j : Nat) : Int)).toNat = max i j - i := by omega
  have e2 : (-(j : Int) - -((max i j : Nat) : Int)).toNat = max i j - j := by omega
  rw [e1, e2, signed_sg, signed_sg, show i + (max i j - i) = max i j by omega, show j + (max i j - j) = max i j by omega, ← Int.add_mul]
  have hp : (0 : Int) < 2 ^ (max i j) := Int.pow_pos (by decide)
  unfold sumSg
  have z : (sg s v + sg t u) * 2 ^ (max i j) = 0 ↔ sg s v + sg t u = 0 := by
    constructor
    · intro h; rcases Int.mul_eq_zero.1 h with h | h
      · exact h
      · omega
    · intro h; rw [h, Int.zero_mul]
  have n : (sg s v + sg t u) * 2 ^ (max i j) < 0 ↔ sg s v + sg t u < 0 := by
    constructor
    · intro h
      rcases Int.lt_or_le (sg s v + sg t u) 0 with h' | h'
      · exact h'
      · have := Int.mul_nonneg h' (by omega : (0 : Int) ≤ 2 ^ (max i j)); omega
    · intro h; exact Int.mul_neg_of_neg_of_pos h hp
  congr 2
  · by_cases h : sg s v + sg t u = 0
    · rw [if_pos (z.2 h), if_pos h]
    · rw [if_neg (fun h' => h (z.1 h')), if_neg h]
      exact decide_eq_decide.2 n
  · rw [Int.natAbs_mul, Int.natAbs_pow]; rfl

theorem add_word {s t : Bool} {v u : Nat} (hv : v < 9007199254740992) (hu : u < 9007199254740992) (hs : (sg s v + sg t u).natAbs < 9007199254740992) : floatBits .add .f64 (wordOf s v) (wordOf t u) = some (wordOf (sumSg s v t u) (sg s v + sg t u).natAbs) := by
  obtain ⟨i, hi, _⟩ := read_exact s v hv
  obtain ⟨j, hj, _⟩ := read_exact t u hu
  obtain ⟨K, hK⟩ := sum_exact s t v u i j
  show ((Ieee.double.read (wordOf s v)).sum (Ieee.double.read (wordOf t u))).map Ieee.double.write = _
  rw [hi, hj, hK]
  simp only [Option.map_some]
  congr 1
  exact nearest_exact _ _ K hs
theorem sub_word {s t : Bool} {v u : Nat} (hv : v < 9007199254740992) (hu : u < 9007199254740992) (hs : (sg s v + sg (!t) u).natAbs < 9007199254740992) : floatBits .sub .f64 (wordOf s v) (wordOf t u) = some (wordOf (sumSg s v (!t) u) (sg s v + sg (!t) u).natAbs) := by
  obtain ⟨i, hi, _⟩ := read_exact s v hv
  obtain ⟨j, hj, _⟩ := read_exact t u hu
  obtain ⟨K, hK⟩ := sum_exact s (!t) v u i j
  show ((Ieee.double.read (wordOf s v)).sum (Ieee.double.read (wordOf t u)).opposite).map Ieee.double.write = _
  rw [hi, hj]
  simp only [Ieee.Datum.opposite]
  rw [hK]
  simp only [Option.map_some]
  congr 1
  exact nearest_exact _ _ K hs
theorem mul_word {s t : Bool} {v u : Nat} (hv : v < 9007199254740992) (hu : u < 9007199254740992) (hs : v * u < 9007199254740992) : floatBits .mul .f64 (wordOf s v) (wordOf t u) = some (wordOf (s ^^ t) (v * u)) := by
  obtain ⟨i, hi, _⟩ := read_exact s v hv
  obtain ⟨j, hj, _⟩ := read_exact t u hu
  show ((Ieee.double.read (wordOf s v)).product (Ieee.double.read (wordOf t u))).map Ieee.double.write = _
  rw [hi, hj]
  simp only [Ieee.Datum.product, Option.map_some]
  congr 1
  rw [show v * 2 ^ i * (u * 2 ^ j) = v * u * 2 ^ (i + j) by rw [Nat.pow_add, Nat.mul_mul_mul_comm], show -(i : Int) + -(j : Int) = -((i + j : Nat) : Int) by omega]
  exact nearest_exact _ _ (i + j) hs
theorem ord_word {s t : Bool} {v u : Nat} (hv : v < 9007199254740992) (hu : u < 9007199254740992) : fOrd (wordOf s v) (wordOf t u) = some (compare (sg s v) (sg t u)) := by
  obtain ⟨i, hi, _⟩ := read_exact s v hv
  obtain ⟨j, hj, _⟩ := read_exact t u hu
  show (Ieee.double.read (wordOf s v)).order (Ieee.double.read (wordOf t u)) = _
  rw [hi, hj]
  have hb : min (-(i : Int)) (-(j : Int)) = -((max i j : Nat) : Int) := by omega
  unfold Ieee.Datum.order
  simp only [hb]
  have e1 : (-(i : Int) - -((max i j : Nat) : Int)).toNat = max i j - i := by omega
  have e2 : (-(j : Int) - -((max i j : Nat) : Int)).toNat = max i j - j := by omega
  rw [e1, e2, signed_sg, signed_sg, show i + (max i j - i) = max i j by omega, show j + (max i j - j) = max i j by omega]
  have hp : (0 : Int) < 2 ^ (max i j) := Int.pow_pos (by decide)
  generalize (2 : Int) ^ (max i j) = p at *
  congr 1
  have lt : ∀ a b : Int, a * p < b * p ↔ a < b := by
    intro a b
    constructor
    · intro h
      rcases Int.lt_or_le a b with h' | h'
      · exact h'
      · have := Int.mul_le_mul_of_nonneg_right h' (by omega : (0 : Int) ≤ p); omega
    · intro h; exact Int.mul_lt_mul_of_pos_right h hp
  rcases Int.lt_trichotomy (sg s v) (sg t u) with h | h | h
  · rw [Int.compare_eq_lt.2 h, Int.compare_eq_lt.2 ((lt _ _).2 h)]
  · rw [h]; rw [Int.compare_eq_eq.2 rfl, Int.compare_eq_eq.2 rfl]
  · rw [Int.compare_eq_gt.2 h, Int.compare_eq_gt.2 ((lt _ _).2 h)]
theorem integral_word {s : Bool} {v : Nat} (hv : v < 9007199254740992) : ∃ m e, FloatKind.f64.decode (wordOf s v) = .number s m e ∧ (Ieee.Datum.integral .zero (.number s m e)) = .number s v 0 := by
  obtain ⟨j, hj, h52⟩ := read_exact s v hv
  refine ⟨_, _, hj, ?_⟩
  show Ieee.Datum.number s (Ieee.Toward.zero.cut s ((v * 2 ^ j) <<< (-(j : Int)).toNat) (- -(j : Int)).toNat) 0 = _
  have e1 : (-(j : Int)).toNat = 0 := by omega
  have e2 : (- -(j : Int)).toNat = j := by omega
  rw [e1, e2, Nat.shiftLeft_zero, cut_exact _ _ _ _ (.inr rfl)]
  rcases Nat.eq_zero_or_pos v with h0 | h0
  · exact .inr h0
  · left; rw [log2_mul _ _ (by omega)]; omega
theorem to_word {s : Bool} {v : Nat} (hv : v < 9007199254740992) : fTo (wordOf s v) = some (sg s v) := by
  obtain ⟨m, e, h1, h2⟩ := integral_word (s := s) hv
  have h3 : (FloatKind.f64.decode (wordOf s v)).toInt .zero = some (sg s v) := by
    rw [h1]
    unfold Ieee.Datum.toInt
    rw [h2]
    have := signed_sg s v 0 0
    simpa using this
  unfold fTo floatToIntVal
  rw [h3]
  have : IntKind.i64.min ≤ sg s v ∧ sg s v ≤ IntKind.i64.max := by
    have e1 : IntKind.i64.min = -9223372036854775808 := by decide
    have e2 : IntKind.i64.max = 9223372036854775807 := by decide
    rw [e1, e2]
    unfold sg; split <;> omega
  simp only [this, and_self, if_true]
theorem trunc_word {s : Bool} {v : Nat} (hv : v < 9007199254740992) : fTrunc (wordOf s v) = some (wordOf s v) := by
  obtain ⟨m, e, h1, h2⟩ := integral_word (s := s) hv
  unfold fTrunc
  rw [h1]
  simp only [h2]
  congr 1
  have := nearest_exact s v 0 hv
  rw [Nat.pow_zero, Nat.mul_one] at this
  exact this
theorem neg_word {s : Bool} {v : Nat} (hv : v < 9007199254740992) : Op.negFloat .f64 (wordOf s v) = wordOf (!s) v := by
  have e1 : Ieee.double.signWeight = 9223372036854775808 := by decide
  have hr : (if v = 0 then 0 else (v.log2 + 1022) * 4503599627370496 + v * 2 ^ (52 - v.log2)) < 2 ^ 63 := by
    split
    · decide
    · have hL : v.log2 < 53 := (Nat.log2_lt (by omega)).2 hv
      have h1 := Nat.lt_log2_self (n := v)
      have : v * 2 ^ (52 - v.log2) < 2 ^ (v.log2 + 1) * 2 ^ (52 - v.log2) := Nat.mul_lt_mul_of_pos_right h1 (Nat.two_pow_pos _)
      rw [← Nat.pow_add, show v.log2 + 1 + (52 - v.log2) = 53 by omega] at this
      omega
  show (wordOf s v) ^^^ 2 ^ 63 = wordOf (!s) v
  unfold wordOf Ieee.Format.word
  rw [e1]
  generalize (if v = 0 then 0 else (v.log2 + 1022) * 4503599627370496 + v * 2 ^ (52 - v.log2)) = r at *
  have key : r ^^^ 2 ^ 63 = 9223372036854775808 + r := by
    have h2 := Nat.two_pow_add_eq_or_of_lt hr 1
    rw [Nat.mul_one] at h2
    rw [show (9223372036854775808 : Nat) + r = 2 ^ 63 + r from rfl, h2]
    apply Nat.eq_of_testBit_eq
    intro i
    rw [Nat.testBit_xor, Nat.testBit_or]
    by_cases h : i = 63
    · subst h; rw [Nat.testBit_lt_two_pow hr]; simp
    · have h3 : Nat.testBit (2 ^ 63) i = false := by rw [Nat.testBit_two_pow]; exact decide_eq_false (Ne.symm h)
      rw [h3]; simp
  cases s
  · simpa using key
  · simp only [if_true, Bool.not_true, Bool.false_eq_true, if_false]
    rw [← key, Nat.xor_assoc, Nat.xor_self, Nat.xor_zero]
end Go.Proofs.Ythgpgnijbajlgaa
