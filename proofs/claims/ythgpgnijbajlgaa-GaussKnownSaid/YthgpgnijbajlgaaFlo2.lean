/-
  Floats that are whole numbers: which they are, and their arithmetic; in plain Lean.
-/
import Derived.Test.YthgpgnijbajlgaaFlo
namespace Go.Proofs.Ythgpgnijbajlgaa
open Go Ev
set_option linter.unusedVariables false
set_option linter.unusedSimpArgs false
set_option exponentiation.threshold 2000

abbrev rd (b : Nat) : Ieee.Datum := Ieee.double.read b
/-- A word that stands for a whole number (a zero may have a sign). -/
def FI (b : Nat) (n : Int) : Prop := ∃ s v, v < 9007199254740992 ∧ rd b = rd (wordOf s v) ∧ sg s v = n
theorem FI_word (s : Bool) (v : Nat) (h : v < 9007199254740992) : FI (wordOf s v) (sg s v) := ⟨s, v, h, rfl, rfl⟩
theorem FI_int {n : Int} (h : n.natAbs < 9007199254740992) : FI (fInt n) n := by
  refine ⟨decide (n < 0), n.natAbs, h, by rw [fInt_eq n h], ?_⟩
  unfold sg
  by_cases c : n < 0
  · simp [c]; omega
  · simp [c]; omega
theorem sg_abs (s : Bool) (v : Nat) : (sg s v).natAbs = v := by unfold sg; cases s <;> simp
theorem sg_not (s : Bool) (v : Nat) : sg (!s) v = -(sg s v) := by unfold sg; cases s <;> simp
theorem sg_xor (s t : Bool) (v u : Nat) : sg (s ^^ t) (v * u) = sg s v * sg t u := by
  unfold sg; cases s <;> cases t <;> simp [Int.mul_neg, Int.neg_mul]
theorem sg_sum (s t : Bool) (v u : Nat) : sg (sumSg s v t u) (sg s v + sg t u).natAbs = sg s v + sg t u := by
  unfold sumSg
  generalize sg s v + sg t u = n
  by_cases h : n = 0
  · subst h; rw [if_pos rfl]; unfold sg; cases (s && t) <;> rfl
  · rw [if_neg h]
    unfold sg
    by_cases c : n < 0
    · simp [c]; omega
    · simp [c]; omega
theorem fb_congr {op : BinOp} {a a' b b' : Nat} (ha : rd a = rd a') (hb : rd b = rd b') : floatBits op .f64 a b = floatBits op .f64 a' b' := by
  have e1 : FloatKind.f64.format = Ieee.double := rfl
  unfold floatBits
  rw [e1]
  unfold Ieee.Format.add Ieee.Format.sub Ieee.Format.mul Ieee.Format.div
  unfold rd at ha hb
  rw [ha, hb]
theorem add_FI {a b : Nat} {m n : Int} (ha : FI a m) (hb : FI b n) (h : (m + n).natAbs < 9007199254740992) : ∃ c, floatBits .add .f64 a b = some c ∧ FI c (m + n) := by
  obtain ⟨s, v, hv, e1, rfl⟩ := ha
  obtain ⟨t, u, hu, e2, rfl⟩ := hb
  rw [fb_congr e1 e2, add_word hv hu h]
  exact ⟨_, rfl, _, _, h, rfl, sg_sum s t v u⟩
theorem sub_FI {a b : Nat} {m n : Int} (ha : FI a m) (hb : FI b n) (h : (m - n).natAbs < 9007199254740992) : ∃ c, floatBits .sub .f64 a b = some c ∧ FI c (m - n) := by
  obtain ⟨s, v, hv, e1, rfl⟩ := ha
  obtain ⟨t, u, hu, e2, rfl⟩ := hb
  have e : sg s v - sg t u = sg s v + sg (!t) u := by rw [sg_not]; omega
  rw [e] at h
  rw [fb_congr e1 e2, sub_word hv hu h, e]
  exact ⟨_, rfl, _, _, h, rfl, sg_sum s (!t) v u⟩
theorem mul_FI {a b : Nat} {m n : Int} (ha : FI a m) (hb : FI b n) (h : (m * n).natAbs < 9007199254740992) : ∃ c, floatBits .mul .f64 a b = some c ∧ FI c (m * n) := by
  obtain ⟨s, v, hv, e1, rfl⟩ := ha
  obtain ⟨t, u, hu, e2, rfl⟩ := hb
  rw [Int.natAbs_mul, sg_abs, sg_abs] at h
  rw [fb_congr e1 e2, mul_word hv hu h]
  exact ⟨_, rfl, _, _, h, rfl, sg_xor s t v u⟩
theorem ord_FI {a b : Nat} {m n : Int} (ha : FI a m) (hb : FI b n) : fOrd a b = some (compare m n) := by
  obtain ⟨s, v, hv, e1, rfl⟩ := ha
  obtain ⟨t, u, hu, e2, rfl⟩ := hb
  rw [← ord_word hv hu]
  show (rd a).order (rd b) = (rd _).order (rd _)
  rw [e1, e2]
theorem eq_FI {a b : Nat} {m n : Int} (ha : FI a m) (hb : FI b n) : fEq a b = (m == n) := by
  have := ord_FI ha hb
  show (fOrd a b == some .eq) = _
  rw [this]
  rcases Int.lt_trichotomy m n with h | h | h
  · rw [Int.compare_eq_lt.2 h]; simp; omega
  · subst h; rw [Int.compare_eq_eq.2 rfl]; simp
  · rw [Int.compare_eq_gt.2 h]; simp; omega
theorem to_FI {a : Nat} {m : Int} (ha : FI a m) : fTo a = some m := by
  obtain ⟨s, v, hv, e1, rfl⟩ := ha
  rw [← to_word hv]
  unfold fTo floatToIntVal
  show (match (rd a).toInt .zero with | some n => _ | none => _) = (match (rd _).toInt .zero with | some n => _ | none => _)
  rw [e1]
theorem neg_FI {s : Bool} {v : Nat} (hv : v < 9007199254740992) : FI (Op.negFloat .f64 (wordOf s v)) (-(sg s v)) := by
  rw [neg_word hv, ← sg_not]
  exact FI_word _ _ hv
theorem FI_neg_int {n : Int} (h : n.natAbs < 9007199254740992) : FI (Op.negFloat .f64 (fInt n)) (-n) := by
  rw [fInt_eq n h]
  have := neg_FI (s := decide (n < 0)) h
  have e : sg (decide (n < 0)) n.natAbs = n := by
    unfold sg
    by_cases c : n < 0
    · simp [c]; omega
    · simp [c]; omega
  rwa [e] at this
theorem FI_bd {a : Nat} {m : Int} (ha : FI a m) : m.natAbs < 9007199254740992 := by
  obtain ⟨s, v, hv, e1, rfl⟩ := ha
  rw [sg_abs]; exact hv
theorem FI_inj {a : Nat} {m n : Int} (ha : FI a m) (hb : FI a n) : m = n := by
  have h1 := to_FI ha
  rw [to_FI hb] at h1
  exact (Option.some.inj h1).symm

/-! Numbers that are whole, and small -/
def negFar : Nat := 13920626448202203136
def posFar : Nat := 4697254411347427328
def fGe (a b : Nat) : Bool := fOrd a b == some .gt || fOrd a b == some .eq
def fLe (a b : Nat) : Bool := fOrd a b == some .lt || fOrd a b == some .eq
def fPart (b : Nat) : Bool := fGe b negFar && (fLe b posFar && (match fTrunc b with | some c => fEq b c | none => false))
theorem FI_negFar : FI negFar (-1048576) := ⟨true, 1048576, by decide, by decide +kernel, by decide⟩
theorem FI_posFar : FI posFar 1048576 := ⟨false, 1048576, by decide, by decide +kernel, by decide⟩
theorem trunc_FI {a : Nat} {m : Int} (ha : FI a m) : ∃ c, fTrunc a = some c ∧ FI c m := by
  obtain ⟨s, v, hv, e1, rfl⟩ := ha
  refine ⟨_, ?_, FI_word s v hv⟩
  rw [← trunc_word hv]
  unfold fTrunc
  show (match rd a with | .nan _ _ => _ | .infinity _ => _ | .number _ _ _ => _) = (match rd _ with | .nan _ _ => _ | .infinity _ => _ | .number _ _ _ => _)
  rw [e1]
theorem part_FI {a : Nat} {m : Int} (ha : FI a m) : fPart a = decide (-1048576 ≤ m ∧ m ≤ 1048576) := by
  obtain ⟨c, h1, h2⟩ := trunc_FI ha
  unfold fPart fGe fLe
  rw [h1, ord_FI ha FI_negFar, ord_FI ha FI_posFar]
  simp only [eq_FI ha h2]
  have a1 : ((some (compare m (-1048576)) == some Ordering.gt) || (some (compare m (-1048576)) == some Ordering.eq)) = decide (-1048576 ≤ m) := by
    rcases Int.lt_trichotomy m (-1048576) with h | h | h
    · rw [Int.compare_eq_lt.2 h]; simp; omega
    · subst h; rfl
    · rw [Int.compare_eq_gt.2 h]; simp; omega
  have a2 : ((some (compare m 1048576) == some Ordering.lt) || (some (compare m 1048576) == some Ordering.eq)) = decide (m ≤ 1048576) := by
    rcases Int.lt_trichotomy m 1048576 with h | h | h
    · rw [Int.compare_eq_lt.2 h]; simp; omega
    · subst h; rfl
    · rw [Int.compare_eq_gt.2 h]; simp; omega
  rw [a1, a2]
  by_cases h1 : -1048576 ≤ m <;> by_cases h2 : m ≤ 1048576 <;> simp [h1, h2]
/-- The data of a complex number that is a place of whole numbers. -/
def CI (z : Cx) (p : Pair) : Prop := FI z.1 p.x ∧ FI z.2 p.y
end Go.Proofs.Ythgpgnijbajlgaa
