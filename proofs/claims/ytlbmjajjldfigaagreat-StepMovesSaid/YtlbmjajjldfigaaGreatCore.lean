/-
  Numbers in steps, intervals, places and ways, in plain Lean.
-/
import Derived.Test.YtlbmjajjldfigaaGreatClean
namespace Go.Proofs.YtlbmjajjldfigaaGreat
open Go

/-- A quotient, floored; 0 of nothing. -/
def fl (a b : Int) : Int := if b < 0 then (-a) / (-b) else a / b

theorem fl_tdiv (a b : Int) (hb : b ≠ 0) : fl a b = if a.tmod b ≠ 0 ∧ (decide (a < 0)) ≠ (decide (b < 0)) then a.tdiv b - 1 else a.tdiv b := by
  have pos : ∀ a b : Int, 0 < b → a / b = if a.tmod b ≠ 0 ∧ a < 0 then a.tdiv b - 1 else a.tdiv b := by
    intro a b hb
    rcases Int.lt_or_le a 0 with ha | ha
    · obtain ⟨k, rfl⟩ : ∃ k, a = -k := ⟨-a, by omega⟩
      have hk : 0 ≤ k := by omega
      rw [Int.neg_tmod, Int.tmod_eq_emod_of_nonneg hk, Int.neg_tdiv, Int.tdiv_eq_ediv_of_nonneg hk]
      have h1 := Int.emod_nonneg k (show b ≠ 0 by omega)
      have h2 := Int.emod_lt_of_pos k hb
      have h3 := Int.emod_add_mul_ediv k b
      by_cases h0 : k % b = 0
      · rw [if_neg (by omega)]
        exact ((Int.ediv_emod_unique (a := -k) (r := 0) (q := -(k / b)) hb).2 ⟨by rw [Int.mul_neg]; omega, by omega, by omega⟩).1
      · rw [if_pos (by omega)]
        exact ((Int.ediv_emod_unique (a := -k) (r := -(k % b) + b) (q := -(k / b) - 1) hb).2 ⟨by rw [Int.mul_sub, Int.mul_neg]; omega, by omega, by omega⟩).1
    · rw [Int.tdiv_eq_ediv_of_nonneg ha, if_neg (by omega)]
  unfold fl
  rcases Int.lt_or_le b 0 with h | h
  · rw [if_pos h, pos (-a) (-b) (by omega)]
    have e1 : (-a).tmod (-b) = -(a.tmod b) := by rw [Int.tmod_neg, Int.neg_tmod]
    have e2 : (-a).tdiv (-b) = a.tdiv b := by rw [Int.tdiv_neg, Int.neg_tdiv, Int.neg_neg]
    rw [e1, e2]
    by_cases h0 : a.tmod b = 0
    · rw [if_neg (by omega), if_neg (by simp [h0])]
    · have ha : a ≠ 0 := by rintro rfl; simp at h0
      by_cases h1 : a < 0
      · rw [if_neg (by omega), if_neg (by simp [h, h1])]
      · rw [if_pos (by omega), if_pos (by simp [h, h1, h0])]
  · rw [if_neg (by omega), pos a b (by omega)]
    have : decide (b < 0) = false := by simp; omega
    rw [this]
    by_cases h1 : a < 0 <;> simp [h1]

/-- A quotient of two whole numbers, rounded, within bounds. -/
def rnd (a b : Int) (up : Bool) : Int × Bool :=
  if numIn (if up = true ∧ fl a b * b ≠ a then fl a b + 1 else fl a b) = true then (if up = true ∧ fl a b * b ≠ a then fl a b + 1 else fl a b, true) else (0, false)
def numMul (a b : Int) (up : Bool) : Int × Bool := if numIn a = true ∧ numIn b = true then rnd (a * b) 65536 up else (0, false)
def numDiv (a b : Int) (up : Bool) : Int × Bool := if (numIn a = true ∧ numIn b = true) ∧ b ≠ 0 then rnd (a * 65536) b up else (0, false)

/-- The whole root, bit by bit. -/
def rootGo : Nat → Int → Int → Int
  | 0, _, r => r
  | k + 1, n, r => if (r + 2 ^ k) * (r + 2 ^ k) ≤ n then rootGo k n (r + 2 ^ k) else rootGo k n r
def isqrt (n : Int) : Int := rootGo 25 n 0
theorem rootGo_spec : ∀ (k : Nat) (n r : Int), 0 ≤ r → r * r ≤ n → n < (r + 2 ^ k) * (r + 2 ^ k) → 0 ≤ rootGo k n r ∧ rootGo k n r * rootGo k n r ≤ n ∧ n < (rootGo k n r + 1) * (rootGo k n r + 1)
  | 0, n, r, h0, h1, h2 => ⟨h0, h1, by simpa [rootGo] using h2⟩
  | k + 1, n, r, h0, h1, h2 => by
    have hp : (0 : Int) < 2 ^ k := Int.pow_pos (by omega)
    have e : r + 2 ^ (k + 1) = (r + 2 ^ k) + 2 ^ k := by rw [Int.pow_succ]; omega
    unfold rootGo
    split
    · rename_i h
      exact rootGo_spec k n _ (by omega) h (by rw [← e]; exact h2)
    · rename_i h
      exact rootGo_spec k n r h0 h1 (by omega)
theorem isqrt_spec {n : Int} (h : 0 ≤ n) (h' : n < 1125899906842624) : 0 ≤ isqrt n ∧ isqrt n * isqrt n ≤ n ∧ n < (isqrt n + 1) * (isqrt n + 1) :=
  rootGo_spec 25 n 0 (by omega) (by omega) (by simpa using h')
theorem isqrt_le {n m : Int} (h : 0 ≤ n) (h' : n < 1125899906842624) (hm : 0 ≤ m) (hn : n ≤ m * m) : isqrt n ≤ m := by
  obtain ⟨h1, h2, h3⟩ := isqrt_spec h h'
  rcases Int.lt_or_le m (isqrt n) with hl | hl
  · have : (m + 1) * (m + 1) ≤ isqrt n * isqrt n := Int.mul_le_mul (by omega) (by omega) (by omega) h1
    have : (m + 1) * (m + 1) = m * m + 2 * m + 1 := by rw [Int.add_mul, Int.mul_add]; omega
    omega
  · exact hl
def numRoot (a : Int) (up : Bool) : Int × Bool :=
  if a < 0 ∨ numIn a = false then (0, false)
  else if up = true ∧ isqrt (a * 65536) * isqrt (a * 65536) < a * 65536 then (isqrt (a * 65536) + 1, true) else (isqrt (a * 65536), true)

def Iv.point (n : Int) : Iv := Iv.of n n
def Iv.whole (n : Int) : Iv := if numIn n = true then Iv.point (n * 65536) else Iv.none
def Iv.both (a b : Iv) : Bool := a.right && b.right
def Iv.add (a b : Iv) : Iv := if Iv.both a b = true then Iv.of (a.lo + b.lo) (a.hi + b.hi) else Iv.none
def Iv.neg (a : Iv) : Iv := if a.right = true then Iv.of (-a.hi) (-a.lo) else Iv.none
def Iv.sub (a b : Iv) : Iv := Iv.add a (Iv.neg b)
/-- Of a call on all ends. -/
def ends (f : Int → Int → Bool → Int × Bool) (a b : Iv) : Iv :=
  if ((f a.lo b.lo false).2 = true ∧ (f a.lo b.lo true).2 = true) ∧ ((f a.lo b.hi false).2 = true ∧ (f a.lo b.hi true).2 = true) ∧ ((f a.hi b.lo false).2 = true ∧ (f a.hi b.lo true).2 = true) ∧ ((f a.hi b.hi false).2 = true ∧ (f a.hi b.hi true).2 = true) then
    Iv.of (min (min (f a.lo b.lo false).1 (f a.lo b.hi false).1) (min (f a.hi b.lo false).1 (f a.hi b.hi false).1)) (max (max (f a.lo b.lo true).1 (f a.lo b.hi true).1) (max (f a.hi b.lo true).1 (f a.hi b.hi true).1))
  else Iv.none
def Iv.mul (a b : Iv) : Iv := if Iv.both a b = true then ends numMul a b else Iv.none
def Iv.times (a : Iv) (k : Int) : Iv := if a.right = true ∧ numIn k = true then Iv.of (min (k * a.lo) (k * a.hi)) (max (k * a.lo) (k * a.hi)) else Iv.none
def Iv.sqr (a : Iv) : Iv :=
  if a.right = true ∧ (numMul (max (-a.lo) a.hi) (max (-a.lo) a.hi) true).2 = true then
    Iv.of (numMul (max (max a.lo (-a.hi)) 0) (max (max a.lo (-a.hi)) 0) false).1 (numMul (max (-a.lo) a.hi) (max (-a.lo) a.hi) true).1
  else Iv.none
def Iv.has (a : Iv) (n : Int) : Bool := a.right && (decide (a.lo ≤ n) && decide (n ≤ a.hi))
def Iv.div (a b : Iv) : Iv := if Iv.both a b = true ∧ Iv.has b 0 = false then ends numDiv a b else Iv.none
def Iv.root (a : Iv) : Iv := if a.right = true ∧ 0 ≤ a.lo then Iv.of (numRoot a.lo false).1 (numRoot a.hi true).1 else Iv.none
def Iv.hull (a b : Iv) : Iv := if Iv.both a b = true then Iv.of (min a.lo b.lo) (max a.hi b.hi) else Iv.none
def Iv.meet (a b : Iv) : Iv := if Iv.both a b = true then Iv.of (max a.lo b.lo) (min a.hi b.hi) else Iv.none
def Iv.mid (a : Iv) : Int := if a.right = true then (a.lo + a.hi) / 2 else 0
def Iv.inside (a b : Iv) : Bool := Iv.both a b && (decide (b.lo ≤ a.lo) && decide (a.hi ≤ b.hi))
def Iv.split (a : Iv) : Iv × Iv := if a.right = true then (Iv.of a.lo (Iv.mid a), Iv.of (Iv.mid a) a.hi) else (Iv.none, Iv.none)

theorem numIn_iff {n : Int} : numIn n = true ↔ -1073741824 ≤ n ∧ n ≤ 1073741824 := by simp [numIn]
theorem right_iff {a : Iv} : a.right = true ↔ a.no = false ∧ -1073741824 ≤ a.lo ∧ a.lo ≤ a.hi ∧ a.hi ≤ 1073741824 := by
  simp [Iv.right, numIn]; intro; omega

theorem of_eq {lo hi : Int} (h : (numIn lo = true ∧ numIn hi = true) ∧ lo ≤ hi) : Iv.of lo hi = ⟨lo, hi, false⟩ := by
  have := numIn_iff.1 h.1.1
  have := numIn_iff.1 h.1.2
  unfold Iv.of
  rw [if_pos (right_iff.2 ⟨rfl, by dsimp only; omega, h.2, by dsimp only; omega⟩)]
theorem rnd_le {a b : Int} (h0 : (rnd a b false).2 = true) (h1 : (rnd a b true).2 = true) : (numIn (rnd a b false).1 = true ∧ numIn (rnd a b true).1 = true) ∧ (rnd a b false).1 ≤ (rnd a b true).1 := by
  unfold rnd at *
  simp only [Bool.false_eq_true, false_and, if_false, true_and] at *
  generalize fl a b = q at *
  by_cases hq : q * b ≠ a
  · grind
  · grind
theorem numMul_le (a b : Int) (h0 : (numMul a b false).2 = true) (h1 : (numMul a b true).2 = true) : (numIn (numMul a b false).1 = true ∧ numIn (numMul a b true).1 = true) ∧ (numMul a b false).1 ≤ (numMul a b true).1 := by
  unfold numMul at *
  split at h0
  · rename_i e
    rw [if_pos e] at h1
    simp only [if_pos e]
    exact rnd_le h0 h1
  · cases h0
theorem numDiv_le (a b : Int) (h0 : (numDiv a b false).2 = true) (h1 : (numDiv a b true).2 = true) : (numIn (numDiv a b false).1 = true ∧ numIn (numDiv a b true).1 = true) ∧ (numDiv a b false).1 ≤ (numDiv a b true).1 := by
  unfold numDiv at *
  split at h0
  · rename_i e
    rw [if_pos e] at h1
    simp only [if_pos e]
    exact rnd_le h0 h1
  · cases h0
theorem of_of {p q a b : Int} (h : (numIn p = true ∧ numIn q = true) ∧ p ≤ q) (h' : (numIn a = true ∧ numIn b = true) ∧ a ≤ b) :
    Iv.of (min p a) (max q b) = ⟨min p a, max q b, false⟩ ∧ ((numIn (min p a) = true ∧ numIn (max q b) = true) ∧ min p a ≤ max q b) := by
  have k : (numIn (min p a) = true ∧ numIn (max q b) = true) ∧ min p a ≤ max q b := by
    have := numIn_iff.1 h.1.1; have := numIn_iff.1 h.1.2; have := numIn_iff.1 h'.1.1; have := numIn_iff.1 h'.1.2
    have := h.2; have := h'.2
    exact ⟨⟨numIn_iff.2 (by omega), numIn_iff.2 (by omega)⟩, by omega⟩
  exact ⟨of_eq k, k⟩
/-- Ends as they come, one by one. -/
theorem ends_chain {f : Int → Int → Bool → Int × Bool} (hf : ∀ a b, (f a b false).2 = true → (f a b true).2 = true → (numIn (f a b false).1 = true ∧ numIn (f a b true).1 = true) ∧ (f a b false).1 ≤ (f a b true).1) (a b : Iv) :
    (if (!(f a.lo b.lo false).2) = true then some Iv.none else if (!(f a.lo b.lo true).2) = true then some Iv.none else
     if (!(f a.lo b.hi false).2) = true then some Iv.none else if (!(f a.lo b.hi true).2) = true then some Iv.none else
     if (!(f a.hi b.lo false).2) = true then some Iv.none else if (!(f a.hi b.lo true).2) = true then some Iv.none else
     if (!(f a.hi b.hi false).2) = true then some Iv.none else if (!(f a.hi b.hi true).2) = true then some Iv.none else
      some (Iv.of (min (Iv.of (min (Iv.of (min (Iv.of (min (Iv.of (f a.lo b.lo false).1 (f a.lo b.lo true).1).lo (f a.lo b.lo false).1) (max (Iv.of (f a.lo b.lo false).1 (f a.lo b.lo true).1).hi (f a.lo b.lo true).1)).lo (f a.lo b.hi false).1)
        (max (Iv.of (min (Iv.of (f a.lo b.lo false).1 (f a.lo b.lo true).1).lo (f a.lo b.lo false).1) (max (Iv.of (f a.lo b.lo false).1 (f a.lo b.lo true).1).hi (f a.lo b.lo true).1)).hi (f a.lo b.hi true).1)).lo (f a.hi b.lo false).1)
        (max (Iv.of (min (Iv.of (min (Iv.of (f a.lo b.lo false).1 (f a.lo b.lo true).1).lo (f a.lo b.lo false).1) (max (Iv.of (f a.lo b.lo false).1 (f a.lo b.lo true).1).hi (f a.lo b.lo true).1)).lo (f a.lo b.hi false).1)
        (max (Iv.of (min (Iv.of (f a.lo b.lo false).1 (f a.lo b.lo true).1).lo (f a.lo b.lo false).1) (max (Iv.of (f a.lo b.lo false).1 (f a.lo b.lo true).1).hi (f a.lo b.lo true).1)).hi (f a.lo b.hi true).1)).hi (f a.hi b.lo true).1)).lo (f a.hi b.hi false).1)
        (max (Iv.of (min (Iv.of (min (Iv.of (min (Iv.of (f a.lo b.lo false).1 (f a.lo b.lo true).1).lo (f a.lo b.lo false).1) (max (Iv.of (f a.lo b.lo false).1 (f a.lo b.lo true).1).hi (f a.lo b.lo true).1)).lo (f a.lo b.hi false).1)
        (max (Iv.of (min (Iv.of (f a.lo b.lo false).1 (f a.lo b.lo true).1).lo (f a.lo b.lo false).1) (max (Iv.of (f a.lo b.lo false).1 (f a.lo b.lo true).1).hi (f a.lo b.lo true).1)).hi (f a.lo b.hi true).1)).lo (f a.hi b.lo false).1)
        (max (Iv.of (min (Iv.of (min (Iv.of (f a.lo b.lo false).1 (f a.lo b.lo true).1).lo (f a.lo b.lo false).1) (max (Iv.of (f a.lo b.lo false).1 (f a.lo b.lo true).1).hi (f a.lo b.lo true).1)).lo (f a.lo b.hi false).1)
        (max (Iv.of (min (Iv.of (f a.lo b.lo false).1 (f a.lo b.lo true).1).lo (f a.lo b.lo false).1) (max (Iv.of (f a.lo b.lo false).1 (f a.lo b.lo true).1).hi (f a.lo b.lo true).1)).hi (f a.lo b.hi true).1)).hi (f a.hi b.lo true).1)).hi (f a.hi b.hi true).1))) = some (ends f a b) := by
  have h0 := hf a.lo b.lo
  have h1 := hf a.lo b.hi
  have h2 := hf a.hi b.lo
  have h3 := hf a.hi b.hi
  unfold ends
  generalize f a.lo b.lo false = p0 at *
  generalize f a.lo b.lo true = q0 at *
  generalize f a.lo b.hi false = p1 at *
  generalize f a.lo b.hi true = q1 at *
  generalize f a.hi b.lo false = p2 at *
  generalize f a.hi b.lo true = q2 at *
  generalize f a.hi b.hi false = p3 at *
  generalize f a.hi b.hi true = q3 at *
  obtain ⟨p0, c0⟩ := p0
  obtain ⟨q0, d0⟩ := q0
  obtain ⟨p1, c1⟩ := p1
  obtain ⟨q1, d1⟩ := q1
  obtain ⟨p2, c2⟩ := p2
  obtain ⟨q2, d2⟩ := q2
  obtain ⟨p3, c3⟩ := p3
  obtain ⟨q3, d3⟩ := q3
  cases c0
  · simp
  cases d0
  · simp
  cases c1
  · simp
  cases d1
  · simp
  cases c2
  · simp
  cases d2
  · simp
  cases c3
  · simp
  cases d3
  · simp
  have h0 := h0 rfl rfl
  have h1 := h1 rfl rfl
  have h2 := h2 rfl rfl
  have h3 := h3 rfl rfl
  dsimp only at *
  simp only [Bool.not_true, Bool.false_eq_true, if_false, and_self, if_true]
  obtain ⟨e0, k0⟩ := of_of h0 h0
  obtain ⟨e1, k1⟩ := of_of k0 h1
  obtain ⟨e2, k2⟩ := of_of k1 h2
  obtain ⟨e3, k3⟩ := of_of k2 h3
  rw [of_eq h0]
  dsimp only
  rw [e0]
  dsimp only
  rw [e1]
  dsimp only
  rw [e2]
  dsimp only
  congr 2
  · omega
  · omega

/-! ### Places and ways -/
def V.right (a : V) : Bool := a.x.right && (a.y.right && a.z.right)
def V.add (a b : V) : V := ⟨a.x.add b.x, a.y.add b.y, a.z.add b.z⟩
def V.sub (a b : V) : V := ⟨a.x.sub b.x, a.y.sub b.y, a.z.sub b.z⟩
def V.scale (a : V) (k : Iv) : V := ⟨a.x.mul k, a.y.mul k, a.z.mul k⟩
def V.dot (a b : V) : Iv := ((a.x.mul b.x).add (a.y.mul b.y)).add (a.z.mul b.z)
def V.len2 (a : V) : Iv := (a.x.sqr.add a.y.sqr).add a.z.sqr
def V.unit (a : V) : V := ⟨a.x.div a.len2.root, a.y.div a.len2.root, a.z.div a.len2.root⟩
def along (r : Ray) (t : Iv) : V := r.o.add (r.d.scale t)
def V.hull (a b : V) : V := ⟨a.x.hull b.x, a.y.hull b.y, a.z.hull b.z⟩
def V.inside (a b : V) : Bool := a.x.inside b.x && (a.y.inside b.y && a.z.inside b.z)
def V.quarter (a : V) : V := ⟨a.y.neg, a.x, a.z⟩
def V.mirror (a : V) : V := ⟨a.x, a.y.neg, a.z⟩
def V.none : V := ⟨Iv.none, Iv.none, Iv.none⟩
def Ray.none : Ray := ⟨V.none, V.none⟩

/-! ### Faces -/
def near (a b c : Iv) : Iv × Int :=
  if (b.sqr.sub (a.mul c)).no = true then (Iv.none, 0)
  else if (b.sqr.sub (a.mul c)).hi < 0 then (Iv.none, 2)
  else if (b.sqr.sub (a.mul c)).lo < 0 then (Iv.none, 0)
  else if (c.div ((b.sqr.sub (a.mul c)).root.sub b)).no = true then (Iv.none, 0)
  else (c.div ((b.sqr.sub (a.mul c)).root.sub b), 1)
def hitRound (s : Surf) (o d : V) : Iv × Int :=
  near (s.curve.mul ((d.x.sqr.add d.y.sqr).add (s.conic.mul d.z.sqr)))
    ((s.curve.mul (((o.x.mul d.x).add (o.y.mul d.y)).add (s.conic.mul (o.z.mul d.z)))).sub d.z)
    ((s.curve.mul ((o.x.sqr.add o.y.sqr).add (s.conic.mul o.z.sqr))).sub (o.z.times 2))
def sagRound (s : Surf) (r2 : Iv) : Iv × Iv :=
  ((s.curve.mul r2).div ((Iv.point 65536).add ((Iv.point 65536).sub ((s.conic.mul s.curve.sqr).mul r2)).root),
    s.curve.div (((Iv.point 65536).sub ((s.conic.mul s.curve.sqr).mul r2)).root.times 2))
def bend (d n : V) (ratio : Iv) : V × Int :=
  if (d.dot n).no = true ∨ (d.dot n).lo ≤ 0 then (V.none, 0)
  else if ((Iv.point 65536).sub (ratio.sqr.mul ((Iv.point 65536).sub (d.dot n).sqr))).no = true then (V.none, 0)
  else if ((Iv.point 65536).sub (ratio.sqr.mul ((Iv.point 65536).sub (d.dot n).sqr))).hi < 0 then (V.none, 2)
  else if ((Iv.point 65536).sub (ratio.sqr.mul ((Iv.point 65536).sub (d.dot n).sqr))).lo < 0 then (V.none, 0)
  else if ((d.scale ratio).add (n.scale (((Iv.point 65536).sub (ratio.sqr.mul ((Iv.point 65536).sub (d.dot n).sqr))).root.sub (ratio.mul (d.dot n))))).right = true
    then ((d.scale ratio).add (n.scale (((Iv.point 65536).sub (ratio.sqr.mul ((Iv.point 65536).sub (d.dot n).sqr))).root.sub (ratio.mul (d.dot n)))), 1)
  else (V.none, 0)

def Ray.back (r : Ray) (z : Iv) : Ray := ⟨⟨r.o.x, r.o.y, r.o.z.sub z⟩, r.d⟩
/-- Where a ray that is reckoned from a face's vertex is, at a time that was told. -/
def hitEnd (r : Ray) (h : Iv × Int) : Iv × V × Int :=
  if h.2 ≠ 1 then (Iv.none, V.none, h.2)
  else if (along r h.1).right = true then (h.1, along r h.1, 1) else (Iv.none, V.none, 0)
def hitFlat (s : Surf) (r : Ray) : Iv × V × Int := hitEnd (r.back s.at_) (hitRound s (r.back s.at_).o r.d)
def planeAt (z : Iv) : Surf := ⟨false, false, Iv.point 0, Iv.whole 1, Iv.point 0, Iv.point 0, z, Iv.whole 100, Iv.whole 1⟩
def axisAt (h : Iv) : Ray := ⟨⟨h, Iv.point 0, Iv.point 0⟩, ⟨Iv.point 0, Iv.point 0, Iv.whole 1⟩⟩

/-! ### Through faces -/
def lost (is : Int) : Ray × Int := (Ray.none, if is = 2 then 2 else 3)
def normalFlat (s : Surf) (p : V) : V := V.unit ⟨(s.curve.mul p.x).neg, (s.curve.mul p.y).neg, (Iv.point 65536).sub (s.curve.mul (s.conic.mul p.z))⟩
/-- Through a face, when it is told where it is met and what is across it. -/
def stepEnd (s : Surf) (d : V) (h : Iv × V × Int) (n : V) : Ray × Int :=
  if h.2.2 ≠ 1 then lost h.2.2
  else if notAbove (h.2.1.x.sqr.add h.2.1.y.sqr) s.open2 ≠ 1 then lost (notAbove (h.2.1.x.sqr.add h.2.1.y.sqr) s.open2)
  else if (h.2.1.z.add s.at_).no = true then lost 0
  else if s.stop = true then (⟨⟨h.2.1.x, h.2.1.y, h.2.1.z.add s.at_⟩, d⟩, 1)
  else if (bend d n s.ratio).2 ≠ 1 then lost (bend d n s.ratio).2
  else (⟨⟨h.2.1.x, h.2.1.y, h.2.1.z.add s.at_⟩, (bend d n s.ratio).1⟩, 1)
def stepFlat (s : Surf) (r : Ray) : Ray × Int := stepEnd s r.d (hitFlat s r) (normalFlat s (hitFlat s r).2.1)
def planeOf (z ratio o : Iv) : Surf := ⟨false, false, Iv.point 0, Iv.whole 1, Iv.point 0, Iv.point 0, z, o, ratio⟩
end Go.Proofs.YtlbmjajjldfigaaGreat
