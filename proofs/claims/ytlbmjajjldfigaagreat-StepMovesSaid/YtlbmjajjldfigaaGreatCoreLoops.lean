/-
  What the loops of the numbers do, round by round.
-/
import Derived.Test.YtlbmjajjldfigaaGreatCore
import Derived.Test.YtlbmjajjldfigaaGreatEvLoop
namespace Go.Proofs.YtlbmjajjldfigaaGreat
open Go

def flOk (a b : Int) : Bool := decide (-4611686018427387904 ≤ a) && (decide (a ≤ 4611686018427387904) && (decide (-4611686018427387904 ≤ b) && decide (b ≤ 4611686018427387904)))
def rnOk (a b : Int) (_ : Bool) : Bool := flOk a b && (b != 0)
theorem tdiv_bd {a b : Int} (h1 : -4611686018427387904 ≤ a) (h2 : a ≤ 4611686018427387904) : -4611686018427387904 ≤ a.tdiv b ∧ a.tdiv b ≤ 4611686018427387904 := by
  have := Int.natAbs_tdiv_le_natAbs a b
  omega
theorem fl_mul (a b : Int) (hb : b ≠ 0) : fl a b * b ≠ a ↔ a.tmod b ≠ 0 := by
  have e := Int.tmod_add_mul_tdiv a b
  rw [fl_tdiv a b hb]
  have hc : a.tdiv b * b = b * a.tdiv b := Int.mul_comm _ _
  split
  · rename_i h
    have : (a.tdiv b - 1) * b = b * a.tdiv b - b := by rw [Int.sub_mul, hc]; omega
    have hlt : a.tmod b ≠ -b := by
      intro he
      have := Int.natAbs_tmod a b
      have h3 : a.natAbs % b.natAbs < b.natAbs := Nat.mod_lt _ (by omega)
      rw [he] at this; simp at this; omega
    constructor
    · intro _; exact h.1
    · intro _ h2; omega
  · rw [hc]; constructor <;> intro h h2 <;> omega
theorem mul_bd (a b : Int) (h1 : numIn a = true) (h2 : numIn b = true) : -1152921504606846976 ≤ a * b ∧ a * b ≤ 1152921504606846976 := by
  have := numIn_iff.1 h1
  have := numIn_iff.1 h2
  have e := Int.natAbs_mul a b
  have : a.natAbs * b.natAbs ≤ 1073741824 * 1073741824 := Nat.mul_le_mul (by omega) (by omega)
  omega

/-- One bit of a root. -/
def rootBit (r b : Int) : Int := IntKind.i64.wrap (BitVec.ofInt 64 r ||| BitVec.ofInt 64 (IntKind.i64.wrap (1 * 2 ^ (min b.toNat 64)))).toNat
def rootStep : (Bool × Int × Int × Int × Unit) × Unit → Option (((Bool × Int × Int × Int × Unit) × Unit) ⊕ ((Bool × Int × Int × Unit) × Unit))
  | ((up, n, r, b, _), _) =>
    if 0 ≤ b then
      if IntKind.i64.wrap (rootBit r b * rootBit r b) ≤ n then some (.inl ((up, n, rootBit r b, IntKind.i64.wrap (b - 1), ()), ())) else some (.inl ((up, n, r, IntKind.i64.wrap (b - 1), ()), ()))
    else some (.inr ((up, n, r, ()), ()))
def rootRun : (Bool × Int × Int × Int × Unit) × Unit → Option ((Bool × Int × Int × Unit) × Unit)
  | ((up, n, r, b, _), _) => if (r = 0 ∧ b = 24) ∧ (0 ≤ n ∧ n ≤ 140737488355328) then some ((up, n, isqrt n, ()), ()) else none

theorem rootBit_eq (k q : Nat) (hk : k ≤ 24) (hq : 2 ^ (k + 1) * q < 2 ^ 25) : rootBit (2 ^ (k + 1) * q : Nat) (k : Int) = ((2 ^ (k + 1) * q : Nat) : Int) + 2 ^ k := by
  have hp : (2 : Nat) ^ k ≤ 2 ^ 24 := Nat.pow_le_pow_right (by omega) hk
  have h1 : IntKind.i64.wrap (1 * 2 ^ (min ((k : Int).toNat) 64)) = ((2 ^ k : Nat) : Int) := by
    have : min ((k : Int).toNat) 64 = k := by simp; omega
    rw [this, Int.one_mul]
    have e : ((2 : Int) ^ k) = ((2 ^ k : Nat) : Int) := by simp
    rw [e]
    generalize 2 ^ k = p at hp
    rw [IntWalk.i64_in _ (by omega)]
  unfold rootBit
  rw [h1]
  have e1 : (BitVec.ofInt 64 ((2 ^ (k + 1) * q : Nat) : Int)).toNat = 2 ^ (k + 1) * q := by
    simp only [BitVec.ofInt_natCast, BitVec.toNat_ofNat]
    exact Nat.mod_eq_of_lt (by omega)
  have e2 : (BitVec.ofInt 64 ((2 ^ k : Nat) : Int)).toNat = 2 ^ k := by
    simp only [BitVec.ofInt_natCast, BitVec.toNat_ofNat]
    exact Nat.mod_eq_of_lt (by omega)
  rw [BitVec.toNat_or, e1, e2, ← Nat.two_pow_add_eq_or_of_lt (by rw [Nat.pow_succ]; have := Nat.two_pow_pos k; omega) q]
  rw [IntWalk.i64_in _ (by omega)]
  simp

theorem rootGo_bd : ∀ (k : Nat) (n r : Int), 0 ≤ r → 0 ≤ rootGo k n r
  | 0, _, r, h => h
  | k + 1, n, r, h => by
    unfold rootGo
    have : (0 : Int) ≤ 2 ^ k := Int.le_of_lt (Int.pow_pos (by omega))
    split
    · exact rootGo_bd k n _ (by omega)
    · exact rootGo_bd k n r h

theorem root_iter (up : Bool) (n : Int) (hn : 0 ≤ n ∧ n ≤ 140737488355328) : ∀ (k q : Nat), k ≤ 25 → 2 ^ k * q + 2 ^ k ≤ 2 ^ 25 →
    Ev.iter rootStep (k + 1) ((up, n, ((2 ^ k * q : Nat) : Int), (k : Int) - 1, ()), ()) = some ((up, n, rootGo k n ((2 ^ k * q : Nat) : Int), ()), ())
  | 0, q, _, _ => by simp [Ev.iter, rootStep, rootGo]
  | k + 1, q, hk, hq => by
    have hp : (0 : Nat) < 2 ^ k := Nat.two_pow_pos k
    have hpk : (2 : Nat) ^ (k + 1) = 2 * 2 ^ k := by rw [Nat.pow_succ]; omega
    have hb := rootBit_eq k q (by omega) (by omega)
    have hbd : ((2 ^ (k + 1) * q : Nat) : Int) + 2 ^ k ≤ 33554432 ∧ 0 ≤ ((2 ^ (k + 1) * q : Nat) : Int) + 2 ^ k := by
      have : ((2 : Int) ^ k) = ((2 ^ k : Nat) : Int) := by simp
      rw [this]
      constructor <;> omega
    have hsq : (((2 ^ (k + 1) * q : Nat) : Int) + 2 ^ k) * (((2 ^ (k + 1) * q : Nat) : Int) + 2 ^ k) ≤ 33554432 * 33554432 ∧ 0 ≤ (((2 ^ (k + 1) * q : Nat) : Int) + 2 ^ k) * (((2 ^ (k + 1) * q : Nat) : Int) + 2 ^ k) :=
      ⟨Int.mul_le_mul hbd.1 hbd.1 hbd.2 (by omega), Int.mul_nonneg hbd.2 hbd.2⟩
    have e1 : ((k + 1 : Nat) : Int) - 1 = (k : Int) := by omega
    rw [e1]
    have e3 : IntKind.i64.wrap ((k : Int) - 1) = (k : Int) - 1 := IntWalk.i64_in _ (by omega)
    rw [Ev.iter]
    simp only [rootStep, hb, e3, show (0 : Int) ≤ (k : Int) from by omega, if_true]
    rw [IntWalk.i64_in _ (by omega)]
    rw [rootGo]
    by_cases hle : (((2 ^ (k + 1) * q : Nat) : Int) + 2 ^ k) * (((2 ^ (k + 1) * q : Nat) : Int) + 2 ^ k) ≤ n
    · simp only [hle, if_true]
      have e2 : ((2 ^ (k + 1) * q : Nat) : Int) + 2 ^ k = ((2 ^ k * (2 * q + 1) : Nat) : Int) := by
        rw [hpk]; simp [Nat.mul_add]; rw [Int.mul_assoc, Int.mul_left_comm]
      rw [e2]
      exact root_iter up n hn k (2 * q + 1) (by omega) (by rw [Nat.mul_add, Nat.mul_left_comm, Nat.mul_one, ← Nat.mul_assoc, ← hpk]; omega)
    · simp only [hle, if_false]
      have e2 : ((2 ^ (k + 1) * q : Nat) : Int) = ((2 ^ k * (2 * q) : Nat) : Int) := by
        rw [hpk]; congr 1; rw [Nat.mul_assoc, Nat.mul_left_comm]
      rw [e2]
      exact root_iter up n hn k (2 * q) (by omega) (by rw [Nat.mul_left_comm, ← Nat.mul_assoc, ← hpk]; omega)

theorem rootRun_ok : ∀ x y, rootRun x = some y → ∃ k, Ev.iter rootStep k x = some y := by
  rintro ⟨⟨up, n, r, b, _⟩, _⟩ y h
  simp only [rootRun] at h
  split at h
  · rename_i hh
    obtain ⟨⟨rfl, rfl⟩, hn⟩ := hh
    simp at h; subst h
    exact ⟨26, root_iter up n hn 25 0 (by omega) (by omega)⟩
  · cases h
end Go.Proofs.YtlbmjajjldfigaaGreat
