/-
  Zeros by Newton's rounds, as loops; bent faces; in plain Lean.
-/
import Derived.Test.YtlbmjajjldfigaaGreatCore2
namespace Go.Proofs.YtlbmjajjldfigaaGreat
open Go

def ivEq (a b : Iv) : Bool := a.lo == b.lo && (a.hi == b.hi && a.no == b.no)
theorem ivEq_iff {a b : Iv} : ivEq a b = true ↔ a = b := by
  obtain ⟨a1, a2, a3⟩ := a; obtain ⟨b1, b2, b3⟩ := b
  simp [ivEq]
def ltB (a b : Int) : Bool := decide (a < b)
def solveSure (F : Iv → Iv × Iv) (t : Iv) (sure : Bool) : Bool := sure || (ltB t.lo (nextN F t).lo && ltB (nextN F t).hi t.hi)

section
variable {C : Type}
abbrev SolveX (C : Type) := (Bool × Int × Unit) × (Iv × Iv × Iv × Iv × Iv × Iv × Iv × Iv × Iv × C)
abbrev SolveY := ((Bool × Unit) × (Iv × Iv × Unit)) ⊕ (((Int × Unit) × (Iv × Unit)) ⊕ (Unit × (Iv × Unit)))
def solveStep (q : C → Bool) (F : C → Iv → Iv × Iv) : SolveX C → Option (SolveX C ⊕ SolveY)
  | ((sure, k, _), (t, res, _, _, u, a, b, _, _, c)) =>
    if 0 < k then
      if q c = true then
        if (nextN (F c) t).no = true then
          if without (F c) t.split.1 = true then some (.inl ((sure, IntKind.i64.wrap (k - 1), ()), (t.split.2, res, nextN (F c) t, Iv.point t.mid, u, t.split.1, t.split.2, (F c (Iv.point t.mid)).1, (F c t).2, c)))
          else if without (F c) t.split.2 = true then some (.inl ((sure, IntKind.i64.wrap (k - 1), ()), (t.split.1, res, nextN (F c) t, Iv.point t.mid, u, t.split.1, t.split.2, (F c (Iv.point t.mid)).1, (F c t).2, c)))
          else some (.inr (.inr (.inr ((), (res, ())))))
        else if (t.meet (nextN (F c) t)).no = true then some (.inr (.inr (.inl ((2, ()), (Iv.none, ())))))
        else if ivEq (t.meet (nextN (F c) t)) t = true then some (.inr (.inl ((solveSure (F c) t sure, ()), (t, res, ()))))
        else some (.inl ((solveSure (F c) t sure, IntKind.i64.wrap (k - 1), ()), (t.meet (nextN (F c) t), res, nextN (F c) t, Iv.point t.mid, t.meet (nextN (F c) t), a, b, (F c (Iv.point t.mid)).1, (F c t).2, c)))
      else none
    else some (.inr (.inl ((sure, ()), (t, res, ()))))

def solveOut (F : Iv → Iv × Iv) (res : Iv) : Nat → Iv → Bool → SolveY
  | 0, t, sure => .inl ((sure, ()), (t, res, ()))
  | k + 1, t, sure =>
    if (nextN F t).no = true then
      if without F t.split.1 = true then solveOut F res k t.split.2 sure
      else if without F t.split.2 = true then solveOut F res k t.split.1 sure
      else .inr (.inr ((), (res, ())))
    else if (t.meet (nextN F t)).no = true then .inr (.inl ((2, ()), (Iv.none, ())))
    else if ivEq (t.meet (nextN F t)) t = true then .inl ((solveSure F t sure, ()), (t, res, ()))
    else solveOut F res k (t.meet (nextN F t)) (solveSure F t sure)
def solveRun (q : C → Bool) (F : C → Iv → Iv × Iv) : SolveX C → Option SolveY
  | ((sure, k, _), (t, res, _, _, _, _, _, _, _, c)) => if q c = true ∧ 0 ≤ k ∧ k ≤ 40 then some (solveOut (F c) res k.toNat t sure) else none
theorem solveRun_ok (q : C → Bool) (F : C → Iv → Iv × Iv) : ∀ x y, solveRun q F x = some y → ∃ k, Ev.iter (solveStep q F) k x = some y := by
  refine Ev.iter_of (fun x => x.1.2.1.toNat) ?_
  rintro ⟨⟨sure, k, _⟩, ⟨t, res, n, m, u, a, b, v, s, c⟩⟩ y h
  simp only [solveRun] at h
  split at h
  case isFalse => cases h
  rename_i hh
  simp at h; subst h
  obtain ⟨hq, h0, h1⟩ := hh
  by_cases hk : 0 < k
  · have hw : IntKind.i64.wrap (k - 1) = k - 1 := wr (by omega)
    have e : k.toNat = (k - 1).toNat + 1 := by omega
    have run : ∀ (t' : Iv) (sure' : Bool) (n m u a b v s : Iv), solveRun q F ((sure', k - 1, ()), (t', res, n, m, u, a, b, v, s, c)) = some (solveOut (F c) res (k - 1).toNat t' sure') := by
      intros
      simp only [solveRun]
      rw [if_pos ⟨hq, by omega, by omega⟩]
    rw [e]
    simp only [solveStep, if_pos hk, hq, if_true, hw, solveOut]
    by_cases c1 : (nextN (F c) t).no = true
    · simp only [if_pos c1]
      by_cases c2 : without (F c) t.split.1 = true
      · simp only [if_pos c2]
        exact .inr ⟨_, rfl, by simp only; omega, run _ _ _ _ _ _ _ _ _⟩
      · simp only [if_neg c2]
        by_cases c3 : without (F c) t.split.2 = true
        · simp only [if_pos c3]
          exact .inr ⟨_, rfl, by simp only; omega, run _ _ _ _ _ _ _ _ _⟩
        · simp only [if_neg c3]
          exact .inl trivial
    · simp only [if_neg c1]
      by_cases c2 : (t.meet (nextN (F c) t)).no = true
      · simp only [if_pos c2]; exact .inl trivial
      · simp only [if_neg c2]
        by_cases c3 : ivEq (t.meet (nextN (F c) t)) t = true
        · simp only [if_pos c3]; exact .inl trivial
        · simp only [if_neg c3]
          exact .inr ⟨_, rfl, by simp only; omega, run _ _ _ _ _ _ _ _ _⟩
  · have e : k.toNat = 0 := by omega
    rw [e]
    simp only [solveStep, if_neg hk, solveOut]
    exact .inl trivial
end

/-- What follows the rounds. -/
def solveEnd : SolveY → Iv × Int
  | .inl ((sure, _), (t, _, _)) => if sure = true then (t, 1) else (Iv.none, 0)
  | .inr (.inl ((is, _), (r, _))) => (r, is)
  | .inr (.inr _) => (Iv.none, 0)
theorem solveEnd_out (F : Iv → Iv × Iv) (res : Iv) : ∀ (k : Nat) (t : Iv) (sure : Bool), solveEnd (solveOut F res k t sure) = solveGo F k t sure
  | 0, t, sure => rfl
  | k + 1, t, sure => by
    simp only [solveOut, solveGo, solveRound]
    by_cases c1 : (nextN F t).no = true
    · simp only [if_pos c1]
      by_cases c2 : without F t.split.1 = true
      · simp only [if_pos c2]; exact solveEnd_out F res k _ _
      · simp only [if_neg c2]
        by_cases c3 : without F t.split.2 = true
        · simp only [if_pos c3]; exact solveEnd_out F res k _ _
        · simp only [if_neg c3]; rfl
    · simp only [if_neg c1]
      by_cases c2 : (t.meet (nextN F t)).no = true
      · simp only [if_pos c2]; rfl
      · simp only [if_neg c2]
        by_cases c3 : ivEq (t.meet (nextN F t)) t = true
        · rw [if_pos c3, if_pos (ivEq_iff.1 c3)]; rfl
        · rw [if_neg c3, if_neg (fun h => c3 (ivEq_iff.2 h))]
          exact solveEnd_out F res k _ _

/-! Bent faces -/
def sagBent (s : Surf) (r2 : Iv) : Iv × Iv :=
  ((sagRound s r2).1.add (horner [Iv.point 0, Iv.point 0, s.a4, s.a6] (r2.div (Iv.whole 1000))),
   (sagRound s r2).2.add ((horner (slope [Iv.point 0, Iv.point 0, s.a4, s.a6]) (r2.div (Iv.whole 1000))).div (Iv.whole 1000)))
def sagPre (s : Surf) (r2 : Iv) : Iv × Iv := if s.bent = true then sagBent s r2 else sagRound s r2
def sagOf (s : Surf) (r2 : Iv) : Iv × Iv := if (sagPre s r2).1.no = true ∨ (sagPre s r2).2.no = true then (Iv.none, Iv.none) else sagPre s r2
def faceAt (s : Surf) (r : Ray) (t : Iv) : Iv × Iv :=
  ((along r t).z.sub (sagOf s ((along r t).x.sqr.add (along r t).y.sqr)).1,
   r.d.z.sub ((sagOf s ((along r t).x.sqr.add (along r t).y.sqr)).2.mul ((((along r t).x.mul r.d.x).add ((along r t).y.mul r.d.y)).times 2)))
def polyAt (l : List Iv) (t : Iv) : Iv × Iv := (horner l t, horner (slope l) t)
def fnAt (l : List Iv) (face : Bool) (s : Surf) (r : Ray) (t : Iv) : Iv × Iv := if face = true then faceAt s r t else polyAt l t

/-! The law's functions -/
def noSolve : Iv × Int := (Iv.none, 0)
def lineF (t : Iv) : Iv × Iv := (t.sub (Iv.whole 1), Iv.whole 1)
def squareF (t : Iv) : Iv × Iv := (t.sqr.sub (Iv.whole 2), t.times 2)
def aboveF (t : Iv) : Iv × Iv := (t.sqr.add (Iv.whole 2), t.times 2)

/-! The document's rounds -/
abbrev FnX := (Bool × Int × Int × Unit) × (Iv × Iv × (Bool × Surf × Ray) × List Iv × Unit)
abbrev FnY := ((Bool × Unit) × (Iv × Iv × Unit)) ⊕ ((Int × Unit) × (Iv × Unit))
def fnStep : FnX → Option (FnX ⊕ FnY)
  | ((yes, k, most, _), (t, res, f, l, _)) =>
    if k < most then
      if Ev.lenOk l = true then
        if (nextN (fnAt l f.1 f.2.1 f.2.2) t).no = true then
          if without (fnAt l f.1 f.2.1 f.2.2) t.split.1 = true then some (.inl ((yes, IntKind.i64.wrap (k + 1), most, ()), (t.split.2, res, f, l, ())))
          else if without (fnAt l f.1 f.2.1 f.2.2) t.split.2 = true then some (.inl ((yes, IntKind.i64.wrap (k + 1), most, ()), (t.split.1, res, f, l, ())))
          else some (.inr (.inr ((0, ()), (Iv.none, ()))))
        else if (t.meet (nextN (fnAt l f.1 f.2.1 f.2.2) t)).no = true then some (.inr (.inr ((2, ()), (Iv.none, ()))))
        else if ivEq (t.meet (nextN (fnAt l f.1 f.2.1 f.2.2) t)) t = true then some (.inr (.inl ((solveSure (fnAt l f.1 f.2.1 f.2.2) t yes, ()), (t, res, ()))))
        else some (.inl ((solveSure (fnAt l f.1 f.2.1 f.2.2) t yes, IntKind.i64.wrap (k + 1), most, ()), (t.meet (nextN (fnAt l f.1 f.2.1 f.2.2) t), res, f, l, ())))
      else none
    else some (.inr (.inl ((yes, ()), (t, res, ()))))
def fnY : SolveY → FnY
  | .inl x => .inl x
  | .inr (.inl x) => .inr x
  | .inr (.inr _) => .inr ((0, ()), (Iv.none, ()))
def fnRun : FnX → Option FnY
  | ((yes, k, most, _), (t, res, f, l, _)) => if Ev.lenOk l = true ∧ 0 ≤ k ∧ k ≤ most ∧ most ≤ 40 then some (fnY (solveOut (fnAt l f.1 f.2.1 f.2.2) res (most - k).toNat t yes)) else none
theorem fnRun_ok : ∀ x y, fnRun x = some y → ∃ k, Ev.iter fnStep k x = some y := by
  refine Ev.iter_of (fun x => (x.1.2.2.1 - x.1.2.1).toNat) ?_
  rintro ⟨⟨yes, k, most, _⟩, ⟨t, res, f, l, _⟩⟩ y h
  simp only [fnRun] at h
  split at h
  case isFalse => cases h
  rename_i hh
  simp at h; subst h
  obtain ⟨hq, h0, h1, h2⟩ := hh
  by_cases hk : k < most
  · have hw : IntKind.i64.wrap (k + 1) = k + 1 := wr (by omega)
    have e : (most - k).toNat = (most - (k + 1)).toNat + 1 := by omega
    have run : ∀ (t' : Iv) (yes' : Bool), fnRun ((yes', k + 1, most, ()), (t', res, f, l, ())) = some (fnY (solveOut (fnAt l f.1 f.2.1 f.2.2) res (most - (k + 1)).toNat t' yes')) := by
      intros
      simp only [fnRun]
      rw [if_pos ⟨hq, by omega, by omega, h2⟩]
    rw [e]
    simp only [fnStep, if_pos hk, hq, if_true, hw, solveOut]
    generalize fnAt l f.1 f.2.1 f.2.2 = F at *
    by_cases c1 : (nextN F t).no = true
    · simp only [if_pos c1]
      by_cases c2 : without F t.split.1 = true
      · simp only [if_pos c2]
        exact .inr ⟨_, rfl, by simp only; omega, run _ _⟩
      · simp only [if_neg c2]
        by_cases c3 : without F t.split.2 = true
        · simp only [if_pos c3]
          exact .inr ⟨_, rfl, by simp only; omega, run _ _⟩
        · simp only [if_neg c3]
          exact .inl rfl
    · simp only [if_neg c1]
      by_cases c2 : (t.meet (nextN F t)).no = true
      · simp only [if_pos c2]; exact .inl rfl
      · simp only [if_neg c2]
        by_cases c3 : ivEq (t.meet (nextN F t)) t = true
        · simp only [if_pos c3]; exact .inl rfl
        · simp only [if_neg c3]
          exact .inr ⟨_, rfl, by simp only; omega, run _ _⟩
  · have e : (most - k).toNat = 0 := by omega
    rw [e]
    simp only [fnStep, if_neg hk, solveOut]
    exact .inl rfl

/-! Numbers as intervals, two by two -/
def atN (l : List Int) (k : Nat) : Int := l[k]?.getD 0
theorem get_atN {l : List Int} {k : Nat} (h : k < l.length) : l[k]? = some (atN l k) := by simp [atN, h]
def powOne (a b : Int) : Iv := wide (pick a 393216 - 196608) (pick b 12)
/-- k pairs are left at most, the next is the n-th. -/
def powGo (l : List Int) : Nat → Nat → List Iv
  | 0, _ => []
  | k + 1, n => if 2 * n + 1 < l.length then powOne (atN l (2 * n)) (atN l (2 * n + 1)) :: powGo l k (n + 1) else []
def powersOf (l : List Int) : List Iv := powGo l 5 0
theorem powGo_len (l : List Int) : ∀ k n, (powGo l k n).length ≤ k
  | 0, n => by simp [powGo]
  | k + 1, n => by
    rw [powGo]; split
    · have := powGo_len l k (n + 1); simp; omega
    · simp
def powStep : (Int × Unit) × (List Int × List Iv × Unit) → Option (((Int × Unit) × (List Int × List Iv × Unit)) ⊕ (Unit × (List Iv × Unit)))
  | ((i, _), (l, o, _)) =>
    if IntKind.i64.wrap (i + 1) < (l.length : Int) ∧ i < 10 then
      if 0 ≤ i ∧ i < (l.length : Int) then
        match l[i.toNat]? with
        | some a =>
          if 0 ≤ IntKind.i64.wrap (i + 1) ∧ IntKind.i64.wrap (i + 1) < (l.length : Int) then
            match l[(IntKind.i64.wrap (i + 1)).toNat]? with
            | some b => if Ev.lenOk (o ++ [powOne a b]) = true then some (.inl ((IntKind.i64.wrap (i + 2), ()), (l, o ++ [powOne a b], ()))) else none
            | none => none
          else none
        | none => none
      else none
    else some (.inr ((), (o, ())))
def powRun : (Int × Unit) × (List Int × List Iv × Unit) → Option (Unit × (List Iv × Unit))
  | ((i, _), (l, o, _)) => if (0 ≤ i ∧ i ≤ 10) ∧ (i = 2 * (o.length : Int)) then some ((), (o ++ powGo l ((10 - i) / 2).toNat (i / 2).toNat, ())) else none
theorem powRun_ok : ∀ x y, powRun x = some y → ∃ k, Ev.iter powStep k x = some y := by
  refine Ev.iter_of (fun x => (10 - x.1.1).toNat) ?_
  rintro ⟨⟨i, _⟩, ⟨l, o, _⟩⟩ y h
  simp only [powRun] at h
  split at h
  case isFalse => cases h
  rename_i hh
  simp at h; subst h
  obtain ⟨⟨h0, h1⟩, h2⟩ := hh
  have w1 : IntKind.i64.wrap (i + 1) = i + 1 := wr (by omega)
  have w2 : IntKind.i64.wrap (i + 2) = i + 2 := wr (by omega)
  have ei : i.toNat = 2 * o.length := by omega
  have ej : (i + 1).toNat = 2 * o.length + 1 := by omega
  have en : (i / 2).toNat = o.length := by omega
  by_cases hc : i + 1 < (l.length : Int) ∧ i < 10
  · right
    have hk : ((10 - i) / 2).toNat = ((10 - (i + 2)) / 2).toNat + 1 := by omega
    have hok : Ev.lenOk (o ++ [powOne (atN l (2 * o.length)) (atN l (2 * o.length + 1))]) = true := lenOk_iff.2 (by simp; omega)
    refine ⟨((i + 2, ()), (l, o ++ [powOne (atN l (2 * o.length)) (atN l (2 * o.length + 1))], ())), ?_, by simp only; omega, ?_⟩
    · simp only [powStep, w1, w2]
      rw [if_pos hc, if_pos (by omega), ei, get_atN (by omega)]
      dsimp only
      rw [if_pos (by omega), ej, get_atN (by omega)]
      dsimp only
      rw [if_pos hok]
    · simp only [powRun]
      rw [if_pos (by simp; omega), hk, en, powGo, if_pos (by omega)]
      have : ((i + 2) / 2).toNat = o.length + 1 := by omega
      rw [this, List.append_assoc]
      rfl
  · left
    have hnil : powGo l ((10 - i) / 2).toNat (i / 2).toNat = [] := by
      rw [en]
      cases hk : ((10 - i) / 2).toNat with
      | zero => rfl
      | succ k => rw [powGo, if_neg (by omega)]
    simp only [powStep, w1]
    rw [if_neg hc, hnil, List.append_nil]
end Go.Proofs.YtlbmjajjldfigaaGreat
