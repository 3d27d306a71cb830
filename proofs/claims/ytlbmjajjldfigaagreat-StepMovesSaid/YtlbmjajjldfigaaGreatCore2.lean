/-
  What the document's numbers and intervals come to; sums of powers; zeros by Newton's rounds; in plain Lean.
-/
import Derived.Test.YtlbmjajjldfigaaGreatCoreLoops
namespace Go.Proofs.YtlbmjajjldfigaaGreat
open Go

theorem wr {n : Int} (h : -9223372036854775808 ≤ n ∧ n ≤ 9223372036854775807) : IntKind.i64.wrap n = n := IntWalk.i64_in n (by omega)
theorem tmod_sign {a b : Int} (h : a.tmod b ≠ 0) : decide (a.tmod b < 0) = decide (a < 0) := by
  rcases Int.lt_or_le a 0 with ha | ha
  · have : 0 ≤ (-a).tmod b := Int.tmod_nonneg b (by omega)
    rw [Int.neg_tmod] at this
    have : a.tmod b < 0 := by omega
    simp [this, ha]
  · have : 0 ≤ a.tmod b := Int.tmod_nonneg b ha
    have h1 : ¬ a.tmod b < 0 := by omega
    have h2 : ¬ a < 0 := by omega
    simp [h1, h2]
def cl (a b : Int) : Int := if fl a b * b ≠ a then fl a b + 1 else fl a b
def toldN (n : Int) : Int × Bool := if numIn n = true then (n, true) else (0, false)

theorem fl_bd {a b : Int} (h : flOk a b = true) : -4611686018427387905 ≤ fl a b ∧ fl a b ≤ 4611686018427387904 := by
  simp [flOk] at h
  by_cases hb : b = 0
  · subst hb; simp [fl]
  · rw [fl_tdiv a b hb]
    have := tdiv_bd (a := a) (b := b) (by omega) (by omega)
    split <;> omega
def clOk (a b : Int) : Bool := decide (-2305843009213693952 ≤ a) && (decide (a ≤ 2305843009213693952) && (decide (-2305843009213693952 ≤ b) && decide (b ≤ 2305843009213693952)))
theorem clOk_fl {a b : Int} (h : clOk a b = true) : flOk a b = true := by simp [clOk] at h; simp [flOk]; omega
theorem fl_mul_bd {a b : Int} (h : clOk a b = true) : -9223372036854775808 ≤ fl a b * b ∧ fl a b * b ≤ 9223372036854775807 := by
  by_cases hb : b = 0
  · subst hb; simp
  · have h' := h
    simp [clOk] at h'
    have e := Int.tmod_add_mul_tdiv a b
    have h3 := Int.natAbs_tmod a b
    have h4 : a.natAbs % b.natAbs < b.natAbs := Nat.mod_lt _ (by omega)
    have h5 : a.natAbs % b.natAbs ≤ a.natAbs := Nat.mod_le _ _
    rw [fl_tdiv a b hb]
    have hc : a.tdiv b * b = b * a.tdiv b := Int.mul_comm _ _
    split
    · rw [Int.sub_mul, hc]; omega
    · rw [hc]; omega

/-! A root, bit by bit -/
def rootPow (b : Int) : Int := IntKind.i64.wrap (1 * 2 ^ (min (IntKind.u64.wrap b).toNat 64))
def rootStep2 : (Bool × Int × Int × Int × Unit) × Unit → Option (((Bool × Int × Int × Int × Unit) × Unit) ⊕ ((Bool × Int × Int × Unit) × Unit))
  | ((up, n, r, b, _), _) =>
    if 0 ≤ b then
      if 0 ≤ IntKind.u64.wrap b then
        if IntKind.i64.wrap (IntKind.i64.wrap (r + rootPow b) * IntKind.i64.wrap (r + rootPow b)) ≤ n then some (.inl ((up, n, IntKind.i64.wrap (r + rootPow b), IntKind.i64.wrap (b - 1), ()), ()))
        else some (.inl ((up, n, r, IntKind.i64.wrap (b - 1), ()), ()))
      else none
    else some (.inr ((up, n, r, ()), ()))
def rootRun2 : (Bool × Int × Int × Int × Unit) × Unit → Option ((Bool × Int × Int × Unit) × Unit)
  | ((up, n, r, b, _), _) => if (r = 0 ∧ b = 23) ∧ (0 ≤ n ∧ n ≤ 140737488355328) then some ((up, n, isqrt n, ()), ()) else none
theorem rootPow_eq : ∀ k : Nat, k < 25 → 0 ≤ IntKind.u64.wrap (k : Int) ∧ rootPow (k : Int) = 2 ^ k := by decide +kernel
theorem root_iter2 (up : Bool) (n : Int) : ∀ (k : Nat) (r : Int), k ≤ 24 → 0 ≤ r → r + 2 ^ k ≤ 33554432 →
    Ev.iter rootStep2 (k + 1) ((up, n, r, (k : Int) - 1, ()), ()) = some ((up, n, rootGo k n r, ()), ())
  | 0, r, _, _, _ => by simp [Ev.iter, rootStep2, rootGo]
  | k + 1, r, hk, h0, hr => by
    obtain ⟨hu, hp⟩ := rootPow_eq k (by omega)
    have hpos : (0 : Int) < 2 ^ k := Int.pow_pos (by omega)
    have hpk : (2 : Int) ^ (k + 1) = 2 * 2 ^ k := by rw [Int.pow_succ]; omega
    have e1 : ((k + 1 : Nat) : Int) - 1 = (k : Int) := by omega
    have e3 : IntKind.i64.wrap ((k : Int) - 1) = (k : Int) - 1 := wr (by omega)
    have e4 : IntKind.i64.wrap (r + 2 ^ k) = r + 2 ^ k := wr (by omega)
    have hsq : (r + 2 ^ k) * (r + 2 ^ k) ≤ 33554432 * 33554432 := Int.mul_le_mul (by omega) (by omega) (by omega) (by omega)
    have hsq0 : 0 ≤ (r + 2 ^ k) * (r + 2 ^ k) := Int.mul_nonneg (by omega) (by omega)
    have e5 : IntKind.i64.wrap ((r + 2 ^ k) * (r + 2 ^ k)) = (r + 2 ^ k) * (r + 2 ^ k) := wr (by omega)
    rw [e1, Ev.iter]
    simp only [rootStep2, hu, hp, e3, e4, e5, show (0 : Int) ≤ (k : Int) from by omega, if_true]
    rw [rootGo]
    by_cases hle : (r + 2 ^ k) * (r + 2 ^ k) ≤ n
    · simp only [hle, if_true]
      exact root_iter2 up n k _ (by omega) (by omega) (by omega)
    · simp only [hle, if_false]
      exact root_iter2 up n k r (by omega) h0 (by omega)
theorem rootRun2_ok : ∀ x y, rootRun2 x = some y → ∃ k, Ev.iter rootStep2 k x = some y := by
  rintro ⟨⟨up, n, r, b, _⟩, _⟩ y h
  simp only [rootRun2] at h
  split at h
  · rename_i hh
    obtain ⟨⟨rfl, rfl⟩, hn⟩ := hh
    simp at h; subst h
    refine ⟨25, ?_⟩
    have := root_iter2 up n 24 0 (by omega) (by omega) (by omega)
    rw [show ((24 : Nat) : Int) - 1 = 23 by omega] at this
    rw [this]
    have : isqrt n = rootGo 24 n 0 := by
      unfold isqrt
      rw [rootGo]
      have : ¬ ((0 + 2 ^ 24) * (0 + 2 ^ 24) ≤ n) := by
        have : ((0 : Int) + 2 ^ 24) * (0 + 2 ^ 24) = 281474976710656 := by decide
        omega
      rw [if_neg this]
    rw [this]
  · cases h

theorem sub_eq (a b : Iv) : Iv.sub a b = if Iv.both a b = true then Iv.of (a.lo - b.hi) (a.hi - b.lo) else Iv.none := by
  unfold Iv.sub Iv.add Iv.neg Iv.both
  cases hb : b.right
  · simp [Iv.none, Iv.right]
  · have b1 := right_bd hb
    have e : Iv.of (-b.hi) (-b.lo) = ⟨-b.hi, -b.lo, false⟩ := of_eq ⟨⟨numIn_iff.2 (by omega), numIn_iff.2 (by omega)⟩, by omega⟩
    have hr : (⟨-b.hi, -b.lo, false⟩ : Iv).right = true := right_iff.2 ⟨rfl, by dsimp only; omega, by dsimp only; omega, by dsimp only; omega⟩
    simp only [if_true, e, hr, Bool.and_true, Int.sub_eq_add_neg]
theorem of_no (lo hi : Int) : (!(Iv.of lo hi).right) = (Iv.of lo hi).no := by
  unfold Iv.of
  split
  · rename_i h; rw [h]; rfl
  · rfl
theorem no_none : (!Iv.none.right) = Iv.none.no := rfl
theorem no_sub (a b : Iv) : (!(Iv.sub a b).right) = (Iv.sub a b).no := by
  rw [sub_eq]; split
  · exact of_no _ _
  · rfl
theorem no_ends (f : Int → Int → Bool → Int × Bool) (a b : Iv) : (!(ends f a b).right) = (ends f a b).no := by
  unfold ends; split
  · exact of_no _ _
  · rfl
theorem no_div (a b : Iv) : (!(Iv.div a b).right) = (Iv.div a b).no := by
  unfold Iv.div; split
  · exact no_ends _ _ _
  · rfl
theorem no_mul (a b : Iv) : (!(Iv.mul a b).right) = (Iv.mul a b).no := by
  unfold Iv.mul; split
  · exact no_ends _ _ _
  · rfl
theorem no_add (a b : Iv) : (!(Iv.add a b).right) = (Iv.add a b).no := by
  unfold Iv.add; split
  · exact of_no _ _
  · rfl
theorem no_meet (a b : Iv) : (!(Iv.meet a b).right) = (Iv.meet a b).no := by
  unfold Iv.meet; split
  · exact of_no _ _
  · rfl
/-! Ends, one after the other -/
def endsF (div : Bool) : Int → Int → Bool → Int × Bool := if div = true then numDiv else numMul
def endsX (a : Iv) (k : Int) : Int := if k.tmod 2 = 1 then a.hi else a.lo
def endsY (b : Iv) (k : Int) : Int := if IntKind.i64.wrap (k.tdiv 2) = 1 then b.hi else b.lo
def endsStep : (Bool × Int × Int × Int × Unit) × (Iv × Iv × Iv × Unit) → Option (((Bool × Int × Int × Int × Unit) × (Iv × Iv × Iv × Unit)) ⊕ (((Int × Int × Unit) × (Iv × Unit)) ⊕ (Unit × (Iv × Unit))))
  | ((div, lo, hi, k, _), (a, b, res, _)) =>
    if k < 4 then
      if (endsF div (endsX a k) (endsY b k) false).2 = true ∧ (endsF div (endsX a k) (endsY b k) true).2 = true then
        some (.inl ((div, (if k = 0 ∨ (endsF div (endsX a k) (endsY b k) false).1 < lo then (endsF div (endsX a k) (endsY b k) false).1 else lo), (if k = 0 ∨ hi < (endsF div (endsX a k) (endsY b k) true).1 then (endsF div (endsX a k) (endsY b k) true).1 else hi), IntKind.i64.wrap (k + 1), ()), (a, b, res, ())))
      else some (.inr (.inr ((), (Iv.none, ()))))
    else some (.inr (.inl ((lo, hi, ()), (res, ()))))
def endsRun : (Bool × Int × Int × Int × Unit) × (Iv × Iv × Iv × Unit) → Option (((Int × Int × Unit) × (Iv × Unit)) ⊕ (Unit × (Iv × Unit)))
  | ((div, _, _, k, _), (a, b, res, _)) => if k = 0 then
      (let f := endsF div
       if ((f a.lo b.lo false).2 = true ∧ (f a.lo b.lo true).2 = true) ∧ ((f a.lo b.hi false).2 = true ∧ (f a.lo b.hi true).2 = true) ∧ ((f a.hi b.lo false).2 = true ∧ (f a.hi b.lo true).2 = true) ∧ ((f a.hi b.hi false).2 = true ∧ (f a.hi b.hi true).2 = true) then
         some (.inl ((min (min (f a.lo b.lo false).1 (f a.lo b.hi false).1) (min (f a.hi b.lo false).1 (f a.hi b.hi false).1), max (max (f a.lo b.lo true).1 (f a.lo b.hi true).1) (max (f a.hi b.lo true).1 (f a.hi b.hi true).1), ()), (res, ())))
       else some (.inr ((), (Iv.none, ()))))
    else none
theorem ends_go {n : Nat} {div : Bool} {lo hi k : Int} {a b res : Iv} (hk : k < 4) {lo' hi' k' p q : Int} {x y : Int} (hx : endsX a k = x) (hy : endsY b k = y)
    (hp : (endsF div x y false).1 = p) (hq : (endsF div x y true).1 = q) (hl : (if k = 0 ∨ p < lo then p else lo) = lo') (hh : (if k = 0 ∨ hi < q then q else hi) = hi') (hw : IntKind.i64.wrap (k + 1) = k') :
    Ev.iter endsStep (n + 1) ((div, lo, hi, k, ()), (a, b, res, ())) =
      if (endsF div x y false).2 = true ∧ (endsF div x y true).2 = true then Ev.iter endsStep n ((div, lo', hi', k', ()), (a, b, res, ())) else some (.inr ((), (Iv.none, ()))) := by
  subst hx hy hp hq hl hh hw
  rw [Ev.iter]
  simp only [endsStep, if_pos hk]
  by_cases h : (endsF div (endsX a k) (endsY b k) false).2 = true ∧ (endsF div (endsX a k) (endsY b k) true).2 = true
  · rw [if_pos h, if_pos h]
  · rw [if_neg h, if_neg h]
theorem endsRun_ok : ∀ x y, endsRun x = some y → ∃ k, Ev.iter endsStep k x = some y := by
  rintro ⟨⟨div, lo, hi, k, _⟩, ⟨a, b, res, _⟩⟩ y h
  simp only [endsRun] at h
  split at h
  case isFalse => cases h
  rename_i hk
  subst hk
  refine ⟨5, ?_⟩
  rw [← h]
  rw [ends_go (by decide) (x := a.lo) (y := b.lo) rfl rfl rfl rfl (if_pos (.inl rfl)) (if_pos (.inl rfl)) (k' := 1) rfl,
    ends_go (by decide) (x := a.hi) (y := b.lo) rfl rfl rfl rfl rfl rfl (k' := 2) rfl,
    ends_go (by decide) (x := a.lo) (y := b.hi) rfl rfl rfl rfl rfl rfl (k' := 3) rfl,
    ends_go (by decide) (x := a.hi) (y := b.hi) rfl rfl rfl rfl rfl rfl (k' := 4) rfl]
  have hlast : ∀ lo hi : Int, Ev.iter endsStep 1 ((div, lo, hi, 4, ()), (a, b, res, ())) = some (.inl ((lo, hi, ()), (res, ()))) := fun lo hi => rfl
  rw [hlast]
  generalize endsF div = f
  generalize f a.lo b.lo false = p0
  generalize f a.lo b.lo true = q0
  generalize f a.lo b.hi false = p1
  generalize f a.lo b.hi true = q1
  generalize f a.hi b.lo false = p2
  generalize f a.hi b.lo true = q2
  generalize f a.hi b.hi false = p3
  generalize f a.hi b.hi true = q3
  by_cases c0 : p0.2 = true ∧ q0.2 = true
  case neg => simp [c0]
  by_cases c2 : p2.2 = true ∧ q2.2 = true
  case neg => simp [c0, c2]
  by_cases c1 : p1.2 = true ∧ q1.2 = true
  case neg => simp [c0, c1, c2]
  by_cases c3 : p3.2 = true ∧ q3.2 = true
  case neg => simp [c0, c1, c2, c3]
  simp only [c0, c1, c2, c3, and_self, if_true]
  have e1 : ∀ p lo : Int, (if (1 : Int) = 0 ∨ p < lo then p else lo) = min p lo := fun p lo => by split <;> omega
  have e2 : ∀ p lo : Int, (if (2 : Int) = 0 ∨ p < lo then p else lo) = min p lo := fun p lo => by split <;> omega
  have e3 : ∀ p lo : Int, (if (3 : Int) = 0 ∨ p < lo then p else lo) = min p lo := fun p lo => by split <;> omega
  have f1 : ∀ p lo : Int, (if (1 : Int) = 0 ∨ lo < p then p else lo) = max p lo := fun p lo => by split <;> omega
  have f2 : ∀ p lo : Int, (if (2 : Int) = 0 ∨ lo < p then p else lo) = max p lo := fun p lo => by split <;> omega
  have f3 : ∀ p lo : Int, (if (3 : Int) = 0 ∨ lo < p then p else lo) = max p lo := fun p lo => by split <;> omega
  simp only [e1, e2, e3, f1, f2, f3]
  congr 4
  · omega
  · congr 1; omega
def endsD (a b : Iv) (div : Bool) : Iv := if div = true then ends numDiv a b else ends numMul a b
def Iv.zero : Iv := ⟨0, 0, false⟩

/-! Sums of powers -/
def atI (l : List Iv) (k : Nat) : Iv := l[k]?.getD Iv.none
def hornerD (l : List Iv) (x : Iv) : Nat → Iv → Iv
  | 0, s => s
  | k + 1, s => hornerD l x k ((s.mul x).add (atI l k))
def horner (l : List Iv) (x : Iv) : Iv :=
  if l.length = 0 then Iv.point 0
  else if (hornerD l x (l.length - 1) (atI l (l.length - 1))).right = true then hornerD l x (l.length - 1) (atI l (l.length - 1)) else Iv.none
def slope (l : List Iv) : List Iv := (List.range' 1 (l.length - 1)).map fun (k : Nat) => (atI l k).times (k : Int)

theorem get_atI {l : List Iv} {k : Nat} (h : k < l.length) : l[k]? = some (atI l k) := by simp [atI, h]
theorem lenOk_iff {α : Type} {l : List α} : Ev.lenOk l = true ↔ l.length ≤ 1048576 := by simp [Ev.lenOk]

/-- One round of a sum of powers, from the last to the first. -/
def hornStep : (Int × Unit) × (List Iv × Iv × Iv × Iv × Unit) → Option (((Int × Unit) × (List Iv × Iv × Iv × Iv × Unit)) ⊕ (Unit × (Iv × Iv × Unit)))
  | ((i, _), (l, x, res, s, _)) =>
    if 0 ≤ i then
      if 0 ≤ i ∧ i < (l.length : Int) then
        match l[i.toNat]? with
        | some a => some (.inl ((IntKind.i64.wrap (i - 1), ()), (l, x, res, (s.mul x).add a, ())))
        | none => none
      else none
    else some (.inr ((), (res, s, ())))
def hornRun : (Int × Unit) × (List Iv × Iv × Iv × Iv × Unit) → Option (Unit × (Iv × Iv × Unit))
  | ((i, _), (l, x, res, s, _)) => if -1 ≤ i ∧ i < (l.length : Int) ∧ l.length ≤ 1048576 then some ((), (res, hornerD l x (i + 1).toNat s, ())) else none
theorem hornRun_ok : ∀ x y, hornRun x = some y → ∃ k, Ev.iter hornStep k x = some y := by
  refine Ev.iter_of (fun x => (x.1.1 + 1).toNat) ?_
  rintro ⟨⟨i, _⟩, ⟨l, x, res, s, _⟩⟩ y h
  simp only [hornRun] at h
  split at h
  · rename_i hh
    simp at h; subst h
    by_cases h0 : 0 ≤ i
    · have hw : IntKind.i64.wrap (i - 1) = i - 1 := wr (by omega)
      have hl : i.toNat < l.length := by omega
      right
      refine ⟨((i - 1, ()), (l, x, res, (s.mul x).add (atI l i.toNat), ())), ?_, by simp only; omega, ?_⟩
      · simp only [hornStep, get_atI hl, hw, h0, hh.2.1, if_true, and_self]
      · simp only [hornRun]
        rw [if_pos (by omega)]
        have e : (i + 1).toNat = i.toNat + 1 := by omega
        have e2 : (i - 1 + 1).toNat = i.toNat := by omega
        rw [e, e2, hornerD]
    · left
      have e : i = -1 := by omega
      subst e
      simp [hornStep, hornerD]
  · cases h

/-- A sum's slope, term by term. -/
def slopeStep : (Int × Unit) × (List Iv × List Iv × Unit) → Option (((Int × Unit) × (List Iv × List Iv × Unit)) ⊕ (Unit × (List Iv × Unit)))
  | ((k, _), (l, o, _)) =>
    if k < (l.length : Int) then
      if 0 ≤ k ∧ k < (l.length : Int) then
        match l[k.toNat]? with
        | some a => if Ev.lenOk (o ++ [a.times k]) = true then some (.inl ((IntKind.i64.wrap (k + 1), ()), (l, o ++ [a.times k], ()))) else none
        | none => none
      else none
    else some (.inr ((), (o, ())))
def slopeRun : (Int × Unit) × (List Iv × List Iv × Unit) → Option (Unit × (List Iv × Unit))
  | ((k, _), (l, o, _)) => if 1 ≤ k ∧ (k = 1 ∨ k ≤ (l.length : Int)) ∧ l.length ≤ 1048576 ∧ (o.length : Int) = k - 1 then
      some ((), (o ++ (List.range' k.toNat (l.length - k.toNat)).map fun (k : Nat) => (atI l k).times (k : Int), ())) else none
theorem slopeRun_ok : ∀ x y, slopeRun x = some y → ∃ k, Ev.iter slopeStep k x = some y := by
  refine Ev.iter_of (fun x => x.2.1.length + 1 - x.1.1.toNat) ?_
  rintro ⟨⟨k, _⟩, ⟨l, o, _⟩⟩ y h
  simp only [slopeRun] at h
  split at h
  · rename_i hh
    simp at h; subst h
    by_cases h0 : k < (l.length : Int)
    · have hw : IntKind.i64.wrap (k + 1) = k + 1 := wr (by omega)
      have hl : k.toNat < l.length := by omega
      have hok : Ev.lenOk (o ++ [(atI l k.toNat).times k]) = true := lenOk_iff.2 (by simp; omega)
      right
      refine ⟨((k + 1, ()), (l, o ++ [(atI l k.toNat).times k], ())), ?_, by simp only; omega, ?_⟩
      · simp only [slopeStep, get_atI hl, hw, h0, if_true, and_true, hok]
        rw [if_pos (by omega)]
      · simp only [slopeRun]
        rw [if_pos (by simp; omega)]
        have e : (k + 1).toNat = k.toNat + 1 := by omega
        have e2 : l.length - k.toNat = (l.length - (k.toNat + 1)) + 1 := by omega
        have e3 : ((k.toNat : Nat) : Int) = k := by omega
        rw [e, e2, List.range'_succ, List.map_cons, List.append_assoc, e3]
        rfl
    · left
      have e : l.length - k.toNat = 0 := by omega
      simp [slopeStep, h0, e]
  · cases h

/-! Zeros, by Newton's rounds -/
def without (F : Iv → Iv × Iv) (t : Iv) : Bool := (F t).1.right && !(F t).1.has 0
def nextN (F : Iv → Iv × Iv) (t : Iv) : Iv := (Iv.point t.mid).sub ((F (Iv.point t.mid)).1.div (F t).2)
/-- A round: it goes on, or it is told. -/
def solveRound (F : Iv → Iv × Iv) (t : Iv) (sure : Bool) : (Iv × Bool) ⊕ (Iv × Int) :=
  if (nextN F t).no = true then
    if without F t.split.1 = true then .inl (t.split.2, sure)
    else if without F t.split.2 = true then .inl (t.split.1, sure)
    else .inr (Iv.none, 0)
  else if (t.meet (nextN F t)).no = true then .inr (Iv.none, 2)
  else if t.meet (nextN F t) = t then .inr (if (sure || (decide (t.lo < (nextN F t).lo) && decide ((nextN F t).hi < t.hi))) = true then (t, 1) else (Iv.none, 0))
  else .inl (t.meet (nextN F t), sure || (decide (t.lo < (nextN F t).lo) && decide ((nextN F t).hi < t.hi)))
def solveGo (F : Iv → Iv × Iv) : Nat → Iv → Bool → Iv × Int
  | 0, t, sure => if sure = true then (t, 1) else (Iv.none, 0)
  | k + 1, t, sure => match solveRound F t sure with
    | .inl x => solveGo F k x.1 x.2
    | .inr r => r
def rounds (most : Int) : Nat := (max 0 (min most 40)).toNat
def solve (F : Iv → Iv × Iv) (t : Iv) (most : Int) : Iv × Int := if t.right = true then solveGo F (rounds most) t false else (Iv.none, 0)
end Go.Proofs.YtlbmjajjldfigaaGreat
