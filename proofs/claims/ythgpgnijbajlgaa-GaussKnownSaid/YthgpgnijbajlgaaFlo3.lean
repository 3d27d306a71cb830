/-
  A number that is said to be whole is one; places of whole numbers; in plain Lean.
-/
import Derived.Test.YthgpgnijbajlgaaFlo2
namespace Go.Proofs.Ythgpgnijbajlgaa
open Go Ev
set_option linter.unusedVariables false
set_option linter.unusedSimpArgs false
set_option exponentiation.threshold 2000

theorem read_pos (s : Bool) (v : Nat) (h0 : 0 < v) (hv : v < 9007199254740992) : rd (wordOf s v) = .number s (v * 2 ^ (52 - v.log2)) (-((52 - v.log2 : Nat) : Int)) := by
  obtain ⟨j, hj, h52⟩ := read_exact s v hv
  -- the shift is told by the size
  have hL : v.log2 < 53 := (Nat.log2_lt (by omega)).2 hv
  have h1 := Nat.lt_log2_self (n := v)
  have h2 := Nat.log2_self_le (n := v) (by omega)
  have e1 : Ieee.double.signWeight = 9223372036854775808 := by decide
  have e5 : Ieee.double.binade = 4503599627370496 := by decide
  have e6 : Ieee.double.infRung = 2047 * 4503599627370496 := by decide
  have e2 : Ieee.double.leastPlace = -1074 := by decide
  have hsz : ∀ (b m : Nat) (e : Int), rd b = .number s m e → m ≠ 0 → (e = -1074 ∧ m < 4503599627370496) ∨ (4503599627370496 ≤ m ∧ m < 9007199254740992) := by
    intro b m e h hm
    unfold rd Ieee.Format.read at h
    rw [e1, e5, e6, e2] at h
    simp only at h
    split at h
    · cases h; exact .inl ⟨rfl, by omega⟩
    · split at h
      · cases h; right; omega
      · split at h <;> cases h
  have hne : v * 2 ^ j ≠ 0 := Nat.mul_ne_zero (by omega) (by have := Nat.two_pow_pos j; omega)
  rcases hsz _ _ _ hj hne with ⟨h, _⟩ | ⟨ha, hb⟩
  · exfalso
    have := h52 (by omega)
    omega
  · have hl := log2_mul v j (by omega)
    have l1 : (v * 2 ^ j).log2 < 53 := (Nat.log2_lt hne).2 hb
    have l2 : 52 ≤ (v * 2 ^ j).log2 := (Nat.le_log2 hne).2 ha
    have : j = 52 - v.log2 := by omega
    subst this
    exact hj
theorem fOrd_rd (a b : Nat) : fOrd a b = (rd a).order (rd b) := rfl
theorem part_spec {b : Nat} (h : fPart b = true) : ∃ n, FI b n ∧ -1048576 ≤ n ∧ n ≤ 1048576 := by
  have key : ∃ n, FI b n := by
    unfold fPart at h
    simp only [Bool.and_eq_true] at h
    obtain ⟨hge, hle, htr⟩ := h
    have rF : rd posFar = .number false 4503599627370496 (-32) := by decide +kernel
    have rN : rd negFar = .number true 4503599627370496 (-32) := by decide +kernel
    unfold fGe at hge
    unfold fLe at hle
    rw [fOrd_rd, rN] at hge
    rw [fOrd_rd, rF] at hle
    unfold fTrunc at htr
    have e1 : Ieee.double.signWeight = 9223372036854775808 := by decide
    have e5 : Ieee.double.binade = 4503599627370496 := by decide
    have e6 : Ieee.double.infRung = 2047 * 4503599627370496 := by decide
    have e2 : Ieee.double.leastPlace = -1074 := by decide
    cases hb : rd b with
    | nan s t => rw [hb] at hge; simp [Ieee.Datum.order] at hge
    | infinity s => rw [hb] at hge hle; cases s <;> simp [Ieee.Datum.order] at hge hle
    | number s m e =>
      rw [hb] at hge hle
      have hd : FloatKind.f64.decode b = .number s m e := hb
      rw [hd] at htr
      simp only at htr
      -- zero
      rcases Nat.eq_zero_or_pos m with hm | hm
      · subst hm
        have he : e = -1074 := by
          unfold rd Ieee.Format.read at hb
          rw [e1, e5, e6, e2] at hb
          simp only at hb
          split at hb
          · injection hb with _ _ h3; exact h3.symm
          · split at hb
            · injection hb with _ h2 _; omega
            · split at hb <;> cases hb
        subst he
        refine ⟨sg s 0, s, 0, by decide, ?_, rfl⟩
        rw [hb]
        cases s <;> decide +kernel
      have hform : (e = -1074 ∧ m < 4503599627370496) ∨ (4503599627370496 ≤ m ∧ m < 9007199254740992) := by
        unfold rd Ieee.Format.read at hb
        rw [e1, e5, e6, e2] at hb
        simp only at hb
        split at hb
        · cases hb; exact .inl ⟨rfl, by omega⟩
        · split at hb
          · cases hb; right; omega
          · split at hb <;> cases hb
      -- not above the bound
      have he : e ≤ -32 := by
        rcases Int.lt_or_le (-32) e with hlt | hle'
        · exfalso
          have hm2 : 4503599627370496 ≤ m := by rcases hform with ⟨h1, _⟩ | h1 <;> omega
          have hb1 : min e (-32 : Int) = -32 := by omega
          unfold Ieee.Datum.order at hge hle
          simp only [hb1] at hge hle
          obtain ⟨d, hd⟩ : ∃ d : Nat, (e - -32).toNat = d + 1 := ⟨(e - -32).toNat - 1, by omega⟩
          have hz : (-32 - -32 : Int).toNat = 0 := rfl
          rw [hd, hz] at hge hle
          have hbig : 9007199254740992 ≤ m <<< (d + 1) := by
            rw [Nat.shiftLeft_eq, Nat.pow_succ, ← Nat.mul_assoc]
            have : 1 ≤ 2 ^ d := Nat.one_le_two_pow
            have : 4503599627370496 * 1 ≤ m * 2 ^ d := Nat.mul_le_mul hm2 this
            omega
          unfold Ieee.signed at hge hle
          cases s
          · simp only [Bool.false_eq_true, if_false, Nat.shiftLeft_zero] at hle
            rw [Int.compare_eq_gt.2 (by omega)] at hle
            simp at hle
          · simp only [if_true, Nat.shiftLeft_zero] at hge
            rw [Int.compare_eq_lt.2 (by omega)] at hge
            simp at hge
        · exact hle'
      obtain ⟨j, rfl⟩ : ∃ j : Nat, e = -(j : Int) := ⟨(-e).toNat, by omega⟩
      -- cut to a whole one
      obtain ⟨v, hv⟩ : ∃ v, v = Ieee.Toward.zero.cut s m j := ⟨_, rfl⟩
      have hint : Ieee.Datum.integral .zero (.number s m (-(j : Int))) = .number s v 0 := by
        show Ieee.Datum.number s (Ieee.Toward.zero.cut s (m <<< (-(j : Int)).toNat) (- -(j : Int)).toNat) 0 = _
        have a1 : (-(j : Int)).toNat = 0 := by omega
        have a2 : (- -(j : Int)).toNat = j := by omega
        rw [a1, a2, Nat.shiftLeft_zero, ← hv]
      have hgap : v = m / (1 <<< min j (m.log2 + 2)) := by
        rw [hv]; unfold Ieee.Toward.cut; simp
      have hmL : m.log2 < 53 := (Nat.log2_lt (by omega)).2 (by rcases hform with h1 | h1 <;> omega)
      have hvb : v < 9007199254740992 := by
        rw [hgap]
        refine Nat.lt_of_le_of_lt (Nat.div_le_self _ _) ?_
        rcases hform with h1 | h1 <;> omega
      rw [hint] at htr
      have hw : FloatKind.f64.encode (Ieee.Datum.number s v 0) = wordOf s v := by
        have := nearest_exact s v 0 hvb
        rw [Nat.pow_zero, Nat.mul_one] at this
        exact this
      rw [hw] at htr
      have hord : (rd b).order (rd (wordOf s v)) = some .eq := by
        have : (fOrd b (wordOf s v) == some Ordering.eq) = true := htr
        have := eq_of_beq this
        rw [fOrd_rd] at this
        exact this
      obtain ⟨i, hi, _⟩ := read_exact s v hvb
      rw [hb] at hord
      rw [show rd (wordOf s v) = .number s (v * 2 ^ i) (-(i : Int)) from hi] at hord
      unfold Ieee.Datum.order at hord
      have hbm : min (-(j : Int)) (-(i : Int)) = -((max j i : Nat) : Int) := by omega
      simp only [hbm] at hord
      have b1 : (-(j : Int) - -((max j i : Nat) : Int)).toNat = max j i - j := by omega
      have b2 : (-(i : Int) - -((max j i : Nat) : Int)).toNat = max j i - i := by omega
      rw [b1, b2, signed_sg] at hord
      have hs1 := signed_sg s m 0 (max j i - j)
      rw [Nat.pow_zero, Nat.mul_one, Nat.zero_add] at hs1
      rw [hs1, show i + (max j i - i) = max j i by omega] at hord
      have heq := Int.compare_eq_eq.1 (Option.some.inj hord)
      have hnat : m * 2 ^ (max j i - j) = v * 2 ^ (max j i) := by
        have := congrArg Int.natAbs heq
        rw [Int.natAbs_mul, Int.natAbs_mul, sg_abs, sg_abs, Int.natAbs_pow, Int.natAbs_pow] at this
        exact this
      have hmv : m = v * 2 ^ j := by
        have e3 : v * 2 ^ (max j i) = (v * 2 ^ j) * 2 ^ (max j i - j) := by rw [Nat.mul_assoc, ← Nat.pow_add]; congr 2; omega
        rw [e3] at hnat
        exact Nat.eq_of_mul_eq_mul_right (Nat.two_pow_pos _) hnat
      have hv0 : 0 < v := by
        rcases Nat.eq_zero_or_pos v with h0 | h0
        · subst h0; rw [Nat.zero_mul] at hmv; omega
        · exact h0
      refine ⟨sg s v, s, v, hvb, ?_, rfl⟩
      rw [hb, read_pos s v hv0 hvb]
      have hl := log2_mul v j (by omega)
      rw [← hmv] at hl
      have hj : j = 52 - v.log2 := by
        rcases hform with ⟨h1, h2⟩ | ⟨h1, h2⟩
        · exfalso
          have : j ≤ m.log2 := by omega
          omega
        · have l2 : 52 ≤ m.log2 := (Nat.le_log2 (by omega)).2 h1
          omega
      rw [hmv, hj]
  obtain ⟨n, hn⟩ := key
  have := part_FI hn
  rw [h] at this
  have := of_decide_eq_true this.symm
  exact ⟨n, hn, this⟩

/-! Places -/
def fV (b : Nat) : Int := (fTo b).getD 0
theorem fV_FI {b : Nat} {n : Int} (h : FI b n) : fV b = n := by unfold fV; rw [to_FI h]; rfl
def cWhole (z : Cx) : Bool := fPart z.1 && fPart z.2
def cxOf (p : Pair) : Cx := (fInt p.x, fInt p.y)
def pzOf (z : Cx) : Pair := ⟨fV z.1, fV z.2⟩
def Pair.small (p : Pair) (B : Int) : Prop := (-B ≤ p.x ∧ p.x ≤ B) ∧ (-B ≤ p.y ∧ p.y ≤ B)
instance (p : Pair) (B : Int) : Decidable (p.small B) := by unfold Pair.small; infer_instance
theorem CI_of {p : Pair} (h : p.small 4503599627370496) : CI (cxOf p) p := ⟨FI_int (by have := h.1; omega), FI_int (by have := h.2; omega)⟩
theorem cV_CI {z : Cx} {p : Pair} (h : CI z p) : pzOf z = p := by unfold pzOf; rw [fV_FI h.1, fV_FI h.2]
theorem whole_spec {z : Cx} (h : cWhole z = true) : ∃ p, CI z p ∧ p.small 1048576 := by
  simp only [cWhole, Bool.and_eq_true] at h
  obtain ⟨x, h1, h2⟩ := part_spec h.1
  obtain ⟨y, h3, h4⟩ := part_spec h.2
  exact ⟨⟨x, y⟩, ⟨h1, h3⟩, h2, h4⟩
theorem whole_CI {z : Cx} {p : Pair} (h : CI z p) : cWhole z = decide (p.small 1048576 : Prop) := by
  unfold cWhole
  rw [part_FI h.1, part_FI h.2]
  unfold Pair.small
  by_cases h1 : -1048576 ≤ p.x ∧ p.x ≤ 1048576 <;> by_cases h2 : -1048576 ≤ p.y ∧ p.y ≤ 1048576 <;> simp [h1, h2]
end Go.Proofs.Ythgpgnijbajlgaa
