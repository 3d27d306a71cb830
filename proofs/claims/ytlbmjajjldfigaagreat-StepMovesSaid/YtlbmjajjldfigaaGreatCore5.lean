/-
  Decimals, words, glasses: what the document's chapters 8 to 11 come to; in plain Lean.
-/
import Derived.Test.YtlbmjajjldfigaaGreatCore4
namespace Go.Proofs.YtlbmjajjldfigaaGreat
open Go

abbrev Str := ByteArray
/-- Rounds of a loop whose every state leads on, or out. -/
theorem iter_total {X Y : Type} {step : X → Option (X ⊕ Y)} (inv : X → Prop) (post : Y → Prop) (m : X → Nat)
    (h : ∀ x, inv x → (∃ y, step x = some (.inr y) ∧ post y) ∨ ∃ x', step x = some (.inl x') ∧ inv x' ∧ m x' < m x) : ∀ x, inv x → ∃ y, Ev.iter step (m x + 1) x = some y ∧ post y := by
  have key : ∀ n x, inv x → m x ≤ n → ∃ y, Ev.iter step (n + 1) x = some y ∧ post y := by
    intro n
    induction n with
    | zero =>
      intro x hx hm
      rcases h x hx with ⟨y, h1, h2⟩ | ⟨x', h1, h2, h3⟩
      · exact ⟨y, by simp [Ev.iter, h1], h2⟩
      · omega
    | succ n ih =>
      intro x hx hm
      rcases h x hx with ⟨y, h1, h2⟩ | ⟨x', h1, h2, h3⟩
      · exact ⟨y, by rw [Ev.iter, h1], h2⟩
      · obtain ⟨y, h4, h5⟩ := ih x' h2 (by omega)
        exact ⟨y, by rw [Ev.iter, h1]; exact h4, h5⟩
  exact fun x hx => key _ x hx (Nat.le_refl _)
/-- What a loop comes to, by so many rounds. -/
def runBy {X Y : Type} (step : X → Option (X ⊕ Y)) (m : X → Nat) (x : X) : Option Y := Ev.iter step (m x + 1) x
theorem runBy_ok {X Y : Type} (step : X → Option (X ⊕ Y)) (m : X → Nat) : ∀ x y, runBy step m x = some y → ∃ k, Ev.iter step k x = some y := fun _ _ h => ⟨_, h⟩

theorem mul_abs {a b A B : Int} (ha : -A ≤ a ∧ a ≤ A) (hb : 0 ≤ b ∧ b ≤ B) : -(A * B) ≤ a * b ∧ a * b ≤ A * B := by
  have hA : 0 ≤ A := by omega
  have h1 := Int.mul_le_mul_of_nonneg_right ha.2 hb.1
  have h2 := Int.mul_le_mul_of_nonneg_left hb.2 hA
  have h3 := Int.mul_le_mul_of_nonneg_right ha.1 hb.1
  rw [Int.neg_mul] at h3
  omega

/-! Decimals -/
def decStep : Unit × (Dec × Dec × Unit) → Option ((Unit × (Dec × Dec × Unit)) ⊕ (Unit × (Dec × Dec × Unit)))
  | (_, (d, r, _)) => if 0 < d.scale ∧ d.c.tmod 10 = 0 then some (.inl ((), (⟨IntKind.i64.wrap (d.c.tdiv 10), IntKind.i64.wrap (d.scale - 1)⟩, r, ()))) else some (.inr ((), (d, r, ())))
def decM (x : Unit × (Dec × Dec × Unit)) : Nat := x.2.1.scale.toNat
def decOf (c scale : Int) : Dec := match runBy decStep decM ((), (⟨c, scale⟩, ⟨0, 0⟩, ())) with | some y => y.2.1 | none => ⟨c, scale⟩
theorem dec_total (d : Dec) (h : d.scale ≤ 1000) : ∃ y, runBy decStep decM ((), (d, ⟨0, 0⟩, ())) = some y ∧ True := by
  refine iter_total (step := decStep) (fun x => x.2.1.scale ≤ 1000) _ decM ?_ ((), (d, ⟨0, 0⟩, ())) h
  rintro ⟨_, d, r, _⟩ hd
  dsimp only at hd
  simp only [decStep]
  split
  · rename_i hh
    have hw : IntKind.i64.wrap (d.scale - 1) = d.scale - 1 := wr (by omega)
    right
    refine ⟨_, rfl, ?_, ?_⟩
    · dsimp only; omega
    · simp only [decM, hw]; omega
  · exact .inl ⟨_, rfl, trivial⟩
def scaleOk (_ scale : Int) : Bool := decide (scale ≤ 1000)

/-! Powers of ten -/
def tenStep : (Int × Int × Unit) × Unit → Option (((Int × Int × Unit) × Unit) ⊕ ((Int × Unit) × Unit))
  | ((k, n, _), _) => if 0 < k then some (.inl ((IntKind.i64.wrap (k - 1), IntKind.i64.wrap (10 * n), ()), ())) else some (.inr ((n, ()), ()))
def tenM (x : (Int × Int × Unit) × Unit) : Nat := x.1.1.toNat
def ten (k : Int) : Int := 10 ^ k.toNat
def tenOk (k : Int) : Bool := decide (0 ≤ k ∧ k ≤ 6)
theorem ten_run (k : Int) (h : tenOk k = true) : runBy tenStep tenM ((k, 1, ()), ()) = some ((ten k, ()), ()) := by
  have : k = 0 ∨ k = 1 ∨ k = 2 ∨ k = 3 ∨ k = 4 ∨ k = 5 ∨ k = 6 := by simp [tenOk] at h; omega
  rcases this with rfl | rfl | rfl | rfl | rfl | rfl | rfl <;> decide +kernel
theorem ten_bd {k : Int} (h : tenOk k = true) : 1 ≤ ten k ∧ ten k ≤ 1000000 := by
  have : k = 0 ∨ k = 1 ∨ k = 2 ∨ k = 3 ∨ k = 4 ∨ k = 5 ∨ k = 6 := by simp [tenOk] at h; omega
  rcases this with rfl | rfl | rfl | rfl | rfl | rfl | rfl <;> decide +kernel
def rightDec (d : Dec) : Bool := decide (-100000000000 ≤ d.c) && (decide (d.c ≤ 100000000000) && (decide (0 ≤ d.scale) && (decide (d.scale ≤ 6) && (d.scale == 0 || d.c.tmod 10 != 0))))
theorem rightDec_bd {d : Dec} (h : rightDec d = true) : (-100000000000 ≤ d.c ∧ d.c ≤ 100000000000) ∧ tenOk d.scale = true := by
  simp [rightDec] at h
  simp [tenOk]; omega
def decIv (d : Dec) : Iv := if rightDec d = true then Iv.of (fl (d.c * 65536) (ten d.scale)) (cl (d.c * 65536) (ten d.scale)) else Iv.none
def decLess (a b : Dec) : Bool := rightDec a && (rightDec b && decide (a.c * ten (6 - a.scale) < b.c * ten (6 - b.scale)))

/-! Digits -/
def oneDigit (n : Int) : Str := strOfNums [IntKind.u8.wrap (IntKind.i64.wrap (48 + n))]
def dig : Nat → Int → Str
  | 0, n => oneDigit n
  | k + 1, n => if n < 10 then oneDigit n else dig k (n.tdiv 10) ++ oneDigit (n.tmod 10)
theorem oneDigit_size (n : Int) : (oneDigit n).size = 1 := by simp [oneDigit, strOfNums_size]
theorem dig_size : ∀ (k : Nat) (n : Int), (dig k n).size ≤ k + 1
  | 0, n => by rw [dig, oneDigit_size]; omega
  | k + 1, n => by
    rw [dig]; split
    · rw [oneDigit_size]; omega
    · have := dig_size k (n.tdiv 10)
      rw [ByteArray.size_append, oneDigit_size]; omega
def digOk' (k : Nat) (n : Int) : Prop := 0 ≤ n ∧ n < 10 ^ (k + 1)
theorem dig_pos : ∀ (k : Nat) (n : Int), 1 ≤ (dig k n).size
  | 0, n => by rw [dig, oneDigit_size]; omega
  | k + 1, n => by
    rw [dig]; split
    · rw [oneDigit_size]; omega
    · rw [ByteArray.size_append, oneDigit_size]; omega
theorem strOk_of {a b : Str} (ha : a.size ≤ 1000) (hb : b.size ≤ 1000) : Ev.strOk a b = true := decide_eq_true (by omega)
theorem dig_rec {k : Nat} {n : Int} (h : digOk' (k + 1) n) (h1 : ¬ n < 10) : digOk' k (n.tdiv 10) := by
  obtain ⟨h2, h3⟩ := h
  have e : n.tdiv 10 = n / 10 := Int.tdiv_eq_ediv_of_nonneg h2
  rw [digOk', e]
  have hp : (10 : Int) ^ (k + 1 + 1) = 10 ^ (k + 1) * 10 := Int.pow_succ ..
  rw [hp] at h3
  omega
def digOk (k : Nat) (n : Int) : Bool := decide (0 ≤ n ∧ n < 10 ^ (k + 1))
def sMinus : Str := ⟨#[45]⟩
def sDot : Str := ⟨#[46]⟩
def sAir : Str := ⟨#[97, 105, 114]⟩
def printDec (d : Dec) : Str :=
  if rightDec d = true then
    if 99999 < (max d.c (-d.c)).tdiv (ten d.scale) then ⟨#[]⟩
    else
      (fun s : Str => if 0 < d.scale then s ++ sDot ++ (dig 6 ((max d.c (-d.c)).tmod (ten d.scale) + ten d.scale)).extract 1 (dig 6 ((max d.c (-d.c)).tmod (ten d.scale) + ten d.scale)).size else s)
        (if d.c < 0 then sMinus ++ dig 6 ((max d.c (-d.c)).tdiv (ten d.scale)) else dig 6 ((max d.c (-d.c)).tdiv (ten d.scale)))
  else ⟨#[]⟩
theorem digOk_iff {k : Nat} {n : Int} : digOk k n = true ↔ digOk' k n := by simp [digOk, digOk']
def printable (d : Dec) : Bool := !(Ev.strEq (printDec d) ⟨#[]⟩)

theorem digOk6 {n : Int} (h0 : 0 ≤ n) (h : n < 10000000) : digOk 6 n = true := digOk_iff.2 ⟨h0, by omega⟩
theorem digit_of {n : Int} : strOfNums [IntKind.u8.wrap (IntKind.i64.wrap (48 + n))] = oneDigit n := rfl
def decZero (d : Dec) : Bool := d.c == 0 && d.scale == 0
def decSize (d : Dec) : Dec := ⟨max d.c (-d.c), d.scale⟩

/-! Words -/
def letter (c : Int) : Bool := (decide (97 ≤ c) && decide (c ≤ 122)) || (decide (65 ≤ c) && decide (c ≤ 90))
def digit (c : Int) : Bool := decide (48 ≤ c) && decide (c ≤ 57)
def inWord (c : Int) : Bool := letter c || (digit c || (c == 45 || c == 95))
def wordStep : (Str × Int × Unit) × Unit → Option (((Str × Int × Unit) × Unit) ⊕ ((Unit × Unit) ⊕ ((Bool × Unit) × Unit)))
  | ((s, i, _), _) =>
    if i < (s.size : Int) then
      if 0 ≤ i then
        match s[i.toNat]? with
        | some c => if inWord (c.toNat : Int) = true then some (.inl ((s, IntKind.i64.wrap (i + 1), ()), ())) else some (.inr (.inr ((false, ()), ())))
        | none => none
      else none
    else some (.inr (.inl ((), ())))
def wordM (x : (Str × Int × Unit) × Unit) : Nat := (x.1.1.size : Int).toNat - x.1.2.1.toNat
theorem str_get {s : Str} {i : Nat} (h : i < s.size) : ∃ c, s[i]? = some c := ⟨_, ByteArray.getElem?_lt' s i h⟩
theorem word_total (s : Str) (h : s.size ≤ 1048576) : ∃ y, runBy wordStep wordM ((s, 0, ()), ()) = some y ∧ True := by
  refine iter_total (step := wordStep) (fun x => x.1.1.size ≤ 1048576 ∧ 0 ≤ x.1.2.1 ∧ x.1.2.1 ≤ (x.1.1.size : Int)) _ wordM ?_ ((s, 0, ()), ()) ⟨h, by simp, by simp⟩
  rintro ⟨⟨s, i, _⟩, _⟩ ⟨h1, h2, h3⟩
  dsimp only at h1 h2 h3
  simp only [wordStep]
  by_cases hi : i < (s.size : Int)
  · obtain ⟨c, hc⟩ := str_get (s := s) (i := i.toNat) (by omega)
    have hw : IntKind.i64.wrap (i + 1) = i + 1 := wr (by omega)
    rw [if_pos hi, if_pos h2, hc, hw]
    dsimp only
    split
    · exact .inr ⟨_, rfl, ⟨h1, by dsimp only; omega, by dsimp only; omega⟩, by simp only [wordM]; omega⟩
    · exact .inl ⟨_, rfl, trivial⟩
  · rw [if_neg hi]; exact .inl ⟨_, rfl, trivial⟩
def isWord (s : Str) : Bool :=
  if s.size = 0 then false
  else if 20 < (s.size : Int) then false
  else match s[(0 : Nat)]? with
    | some c => if letter (c.toNat : Int) = true then (match runBy wordStep wordM ((s, 0, ()), ()) with | some (.inl _) => true | some (.inr y) => y.1.1 | none => false) else false
    | none => false

/-! Glasses -/
def Glass.nil : Glass := ⟨⟨#[]⟩, ⟨0, 0⟩, ⟨0, 0⟩, ⟨0, 0⟩, ⟨0, 0⟩, ⟨0, 0⟩, ⟨0, 0⟩⟩
def findStep : (Str × Int × Unit) × (List Glass × Glass × Unit) → Option (((Str × Int × Unit) × (List Glass × Glass × Unit)) ⊕ ((Unit × (Glass × Unit)) ⊕ ((Bool × Unit) × (Glass × Unit))))
  | ((s, i, _), (l, r, _)) =>
    if i < (l.length : Int) then
      if 0 ≤ i ∧ i < (l.length : Int) then
        match l[i.toNat]? with
        | some g => if Ev.strEq g.name s = true then some (.inr (.inr ((true, ()), (g, ())))) else some (.inl ((s, IntKind.i64.wrap (i + 1), ()), (l, r, ())))
        | none => none
      else none
    else some (.inr (.inl ((), (r, ()))))
def findM (x : (Str × Int × Unit) × (List Glass × Glass × Unit)) : Nat := (x.2.1.length : Int).toNat - x.1.2.1.toNat
theorem find_total (s : Str) (l : List Glass) (r : Glass) (h : l.length ≤ 1048576) : ∃ y, runBy findStep findM ((s, 0, ()), (l, r, ())) = some y ∧ True := by
  refine iter_total (step := findStep) (fun x => x.2.1.length ≤ 1048576 ∧ 0 ≤ x.1.2.1 ∧ x.1.2.1 ≤ (x.2.1.length : Int)) _ findM ?_ ((s, 0, ()), (l, r, ())) ⟨h, by simp, by simp⟩
  rintro ⟨⟨s, i, _⟩, ⟨l, r, _⟩⟩ ⟨h1, h2, h3⟩
  dsimp only at h1 h2 h3
  simp only [findStep]
  by_cases hi : i < (l.length : Int)
  · have hg : l[i.toNat]? = some (l[i.toNat]'(by omega)) := List.getElem?_eq_getElem (by omega)
    have hw : IntKind.i64.wrap (i + 1) = i + 1 := wr (by omega)
    rw [if_pos hi, if_pos ⟨h2, hi⟩, hg, hw]
    dsimp only
    split
    · exact .inl ⟨_, rfl, trivial⟩
    · exact .inr ⟨_, rfl, ⟨h1, by dsimp only; omega, by dsimp only; omega⟩, by simp only [findM]; omega⟩
  · rw [if_neg hi]; exact .inl ⟨_, rfl, trivial⟩
def findGlass (l : List Glass) (s : Str) : Glass × Bool :=
  match runBy findStep findM ((s, 0, ()), (l, Glass.nil, ())) with
  | some (.inr y) => (y.2.1, y.1.1)
  | _ => (Glass.nil, false)
def index (g : Glass) (w : Iv) : Iv :=
  if Ev.strEq g.name sAir = true then Iv.point 65536
  else (((((Iv.point 65536).add (((decIv g.b0).mul w.sqr).div (w.sqr.sub (decIv g.c0)))).add (((decIv g.b1).mul w.sqr).div (w.sqr.sub (decIv g.c1)))).add (((decIv g.b2).mul w.sqr).div (w.sqr.sub (decIv g.c2))))).root
def lineAt (k : Int) : Iv := if k = 0 then decIv ⟨5876, 4⟩ else if k = 1 then decIv ⟨4861, 4⟩ else if k = 2 then decIv ⟨6563, 4⟩ else Iv.none
end Go.Proofs.YtlbmjajjldfigaaGreat
