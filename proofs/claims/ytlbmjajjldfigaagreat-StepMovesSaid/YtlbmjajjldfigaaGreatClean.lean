/-
  The program's data and what its calls answer, in plain Lean.
-/
import Derived.WalkKit
namespace Go.Proofs.YtlbmjajjldfigaaGreat
open Go

structure Iv where
  lo : Int
  hi : Int
  no : Bool
  deriving DecidableEq
structure V where
  x : Iv
  y : Iv
  z : Iv
  deriving DecidableEq
structure Ray where
  o : V
  d : V
  deriving DecidableEq
structure Surf where
  stop : Bool
  bent : Bool
  curve : Iv
  conic : Iv
  a4 : Iv
  a6 : Iv
  at_ : Iv
  open2 : Iv
  ratio : Iv
  deriving DecidableEq

structure Dec where
  c : Int
  scale : Int
  deriving DecidableEq
structure Face where
  stop : Bool
  radius : Dec
  aperture : Dec
  thick : Dec
  conic : Dec
  a4 : Dec
  a6 : Dec
  glass : ByteArray
structure Glass where
  name : ByteArray
  b0 : Dec
  b1 : Dec
  b2 : Dec
  c0 : Dec
  c1 : Dec
  c2 : Dec
structure RawFace where
  kind : Int
  r : Int
  a : Int
  t : Int
  g : Int
  k : Int
  deriving DecidableEq
structure RawRay where
  x : Int
  y : Int
  u : Int
  w : Int
  wide : Int
  lean : Int
  deriving DecidableEq
structure Pair where
  x : Int
  y : Int
  deriving DecidableEq

def numIn (n : Int) : Bool := decide (-1073741824 ≤ n) && decide (n ≤ 1073741824)
def Iv.right (a : Iv) : Bool := !a.no && (numIn a.lo && (numIn a.hi && decide (a.lo ≤ a.hi)))
def Iv.none : Iv := ⟨0, 0, true⟩
def Iv.of (lo hi : Int) : Iv := if Iv.right ⟨lo, hi, false⟩ = true then ⟨lo, hi, false⟩ else Iv.none

def told (yes no : Bool) : Int := if yes = true then 1 else if no = true then 2 else 0
def less (a b : Iv) : Int := if a.right = true ∧ b.right = true then told (decide (a.hi < b.lo)) (decide (b.hi ≤ a.lo)) else 0
def notAbove (a b : Iv) : Int := if a.right = true ∧ b.right = true then told (decide (a.hi ≤ b.lo)) (decide (b.hi < a.lo)) else 0
def tNot (a : Int) : Int := told (a == 2) (a == 1)
def tAnd (a b : Int) : Int := told (a == 1 && b == 1) (a == 2 || b == 2)
def tOr (a b : Int) : Int := told (a == 1 || b == 1) (a == 2 && b == 2)

/-- As an int64 holds it. -/
def w64 (n : Int) : Int := IntKind.i64.wrap n
theorem w64_of {n : Int} (h1 : -9223372036854775808 ≤ n) (h2 : n ≤ 9223372036854775807) : w64 n = n := IntWalk.i64_in n (by omega)

/-- Any number as one of 0 to m - 1. -/
def pick (n m : Int) : Int := n % m
def pickOk (_ m : Int) : Bool := decide (0 < m) && decide (m ≤ 4611686018427387904)
theorem pick_bd (n : Int) {m : Int} (h : 0 < m) : 0 ≤ pick n m ∧ pick n m < m := ⟨Int.emod_nonneg _ (by omega), Int.emod_lt_of_pos _ h⟩
theorem tmod_pick (n : Int) {m : Int} (h : 0 < m) : (n.tmod m < 0 → n.tmod m + m = pick n m) ∧ (0 ≤ n.tmod m → n.tmod m = pick n m) ∧ -m < n.tmod m ∧ n.tmod m < m := by
  unfold pick
  rcases Int.lt_or_le n 0 with hn | hn
  · obtain ⟨k, rfl⟩ : ∃ k, n = -k := ⟨-n, by omega⟩
    have hk : 0 ≤ k := by omega
    rw [Int.neg_tmod, Int.tmod_eq_emod_of_nonneg hk]
    have h1 := Int.emod_nonneg k (show m ≠ 0 by omega)
    have h2 := Int.emod_lt_of_pos k h
    have h3 := Int.emod_add_mul_ediv k m
    refine ⟨fun hlt => ?_, fun hge => ?_, by omega, by omega⟩
    · have := ((Int.ediv_emod_unique (a := -k) (r := -(k % m) + m) (q := -(k / m) - 1) h).2 ⟨by rw [Int.mul_sub, Int.mul_neg]; omega, by omega, by omega⟩).2
      exact this.symm
    · have := ((Int.ediv_emod_unique (a := -k) (r := -(k % m)) (q := -(k / m)) h).2 ⟨by rw [Int.mul_neg]; omega, by omega, by omega⟩).2
      exact this.symm
  · rw [Int.tmod_eq_emod_of_nonneg hn]
    have h1 := Int.emod_nonneg n (show m ≠ 0 by omega)
    have h2 := Int.emod_lt_of_pos n h
    exact ⟨fun hlt => by omega, fun _ => rfl, by omega, h2⟩

/-- A quotient of numbers as they come. -/
def dv (n k : Int) : Int := w64 (n.tdiv k)
theorem dv_eq (n k : Int) : IntKind.i64.wrap (n.tdiv k) = dv n k := rfl
def within (n low high : Int) : Int := max low (min high n)
def wide (x w : Int) : Iv := ⟨within x (-1073741824) 1073741824, min 1073741824 (w64 (within x (-1073741824) 1073741824 + w)), false⟩
def tame (n w : Int) : Iv := wide (pick n 2621440 - 1310720) (pick w 3000)
def inIv (a : Iv) (x y : Int) : Iv :=
  if a.right = true then ⟨a.lo + pick x (a.hi - a.lo + 1), a.lo + pick x (a.hi - a.lo + 1) + pick y (a.hi - (a.lo + pick x (a.hi - a.lo + 1)) + 1), false⟩ else a
def num (n : Int) : Int :=
  if pick n 9 = 0 then n
  else if pick n 9 = 1 then (pick (dv n 9) 201 - 100) * 65536
  else if pick n 9 = 2 then pick (dv n 9) 9 - 4
  else if pick n 9 = 3 then pick (dv n 9) 2147483657 - 1073741824 - 4
  else pick (dv n 9) 2621440 - 1310720
def rawIv (n w : Int) : Iv :=
  if pick w 12 = 0 then ⟨num n, num (dv w 12), false⟩
  else if pick w 12 = 1 then ⟨num n, num n, pick (dv w 12) 5 == 4⟩
  else if pick w 12 = 2 then ⟨num n, num n, false⟩
  else if pick w 12 = 3 then ⟨num n, num n, false⟩
  else wide (num n) (pick (dv w 12) 9000)
theorem right_bd {a : Iv} (h : a.right = true) : a.no = false ∧ -1073741824 ≤ a.lo ∧ a.lo ≤ 1073741824 ∧ -1073741824 ≤ a.hi ∧ a.hi ≤ 1073741824 ∧ a.lo ≤ a.hi := by
  simp [Iv.right, numIn] at h
  obtain ⟨h1, ⟨h2, h3⟩, ⟨h4, h5⟩, h6⟩ := h
  exact ⟨h1, h2, h3, h4, h5, h6⟩
end Go.Proofs.YtlbmjajjldfigaaGreat
