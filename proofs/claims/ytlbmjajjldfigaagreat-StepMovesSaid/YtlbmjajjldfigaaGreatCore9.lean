/-
  Planes of air; loops over raw rays; in plain Lean.
-/
import Derived.Test.YtlbmjajjldfigaaGreatCore8
namespace Go.Proofs.YtlbmjajjldfigaaGreat
open Go

def airPlane (stop : Bool) (z : Int) : Surf := ⟨stop, false, Iv.point 0, Iv.point 65536, Iv.point 0, Iv.point 0, Iv.point z, Iv.whole 100, Iv.point 65536⟩
def airNext (z v : Int) : Int := IntKind.i64.wrap (IntKind.i64.wrap (z + 1) + pick (dv v 2) 327680)
abbrev StraightX := (Int × Int × Unit) × (List Int × Iv × Iv × List Surf × List Surf × Unit)
def straightStep : StraightX → Option (StraightX ⊕ (Unit × (Iv × Iv × List Surf × List Surf × Unit)))
  | ((i, z, _), (l, o, o2, s, s2, _)) =>
    if i < (l.length : Int) ∧ i < 4 then
      if 0 ≤ i then
        match l[i.toNat]? with
        | some v => if Ev.lenOk (s ++ [airPlane (pick v 2 == 0) z]) = true then some (.inl ((IntKind.i64.wrap (i + 1), airNext z v, ()), (l, o, o2, s ++ [airPlane (pick v 2 == 0) z], s2, ()))) else none
        | none => none
      else none
    else some (.inr ((), (o, o2, s, s2, ())))
def straightM (x : StraightX) : Nat := 4 - x.1.1.toNat
theorem straight_total (l : List Int) (o o2 : Iv) : ∃ y, runBy straightStep straightM ((0, 655360, ()), (l, o, o2, [], [], ())) = some y ∧ (y.2.1 = o ∧ y.2.2.2.1.length ≤ 4) := by
  refine iter_total (step := straightStep) (fun x => x.2.1 = l ∧ x.2.2.1 = o ∧ 0 ≤ x.1.1 ∧ x.1.1 ≤ 4 ∧ (x.2.2.2.2.1.length : Int) = x.1.1) _ straightM ?_ ((0, 655360, ()), (l, o, o2, [], [], ())) ⟨rfl, rfl, by dsimp only; omega, by dsimp only; omega, rfl⟩
  rintro ⟨⟨i, z, _⟩, ⟨l', o', o2, s, s2, _⟩⟩ ⟨h0, h1, h2, h3, h4⟩
  dsimp only at h0 h1 h2 h3 h4
  subst h0; subst h1
  simp only [straightStep]
  by_cases hi : i < (l'.length : Int) ∧ i < 4
  · have hge : l'[i.toNat]? = some (l'[i.toNat]'(by omega)) := List.getElem?_eq_getElem (by omega)
    have hw : IntKind.i64.wrap (i + 1) = i + 1 := wr (by omega)
    rw [if_pos hi, if_pos h2, hge, hw]
    dsimp only
    rw [if_pos (lenOk_iff.2 (by simp; omega))]
    exact .inr ⟨_, rfl, ⟨rfl, rfl, by dsimp only; omega, by dsimp only; omega, by simp; omega⟩, by simp only [straightM]; omega⟩
  · rw [if_neg hi]; exact .inl ⟨_, rfl, rfl, by dsimp only; omega⟩
def straightOf (l : List Int) : SysV := match runBy straightStep straightM ((0, 655360, ()), (l, Iv.whole 8, ⟨0, 0, false⟩, [], [], ())) with | some y => (y.2.1, y.2.2.2.1) | none => (⟨0, 0, false⟩, [])
theorem straight_len (l : List Int) : (straightOf l).2.length ≤ 4 := by
  obtain ⟨y, hy, _, h⟩ := straight_total l (Iv.whole 8) ⟨0, 0, false⟩
  simp only [straightOf, hy]; exact h

/-! Loops over rays -/
section
variable {A B : Type}
def raysStep (ok : A → B → Bool) : (Int × A) × (List RawRay × B) → Option (((Int × A) × (List RawRay × B)) ⊕ ((Unit × Unit) ⊕ ((Bool × Unit) × Unit)))
  | ((i, a), (l, b)) =>
    if i < (l.length : Int) ∧ i < 4 then
      if 0 ≤ i then
        match l[i.toNat]? with
        | some _ => if ok a b = true then some (.inl ((IntKind.i64.wrap (i + 1), a), (l, b))) else none
        | none => none
      else none
    else some (.inr (.inl ((), ())))
def raysM (x : (Int × A) × (List RawRay × B)) : Nat := 4 - x.1.1.toNat
theorem rays_run {ok : A → B → Bool} {a : A} {b : B} (l : List RawRay) (h : ok a b = true) : runBy (raysStep ok) raysM ((0, a), (l, b)) = some (.inl ((), ())) := by
  obtain ⟨y, hy, hp⟩ := iter_total (step := raysStep ok) (fun x => x.1.2 = a ∧ x.2.2 = b ∧ x.2.1 = l ∧ 0 ≤ x.1.1 ∧ x.1.1 ≤ 4) (fun y => y = .inl ((), ())) raysM (by
    rintro ⟨⟨i, a'⟩, ⟨l', b'⟩⟩ ⟨h0, h1, h2, h3, h4⟩
    dsimp only at h0 h1 h2 h3 h4
    subst h0; subst h1; subst h2
    simp only [raysStep]
    by_cases hi : i < (l'.length : Int) ∧ i < 4
    · have hge : l'[i.toNat]? = some (l'[i.toNat]'(by omega)) := List.getElem?_eq_getElem (by omega)
      have hw : IntKind.i64.wrap (i + 1) = i + 1 := wr (by omega)
      rw [if_pos hi, if_pos h3, hge, hw]
      dsimp only
      rw [if_pos h]
      exact .inr ⟨_, rfl, ⟨rfl, rfl, rfl, by dsimp only; omega, by dsimp only; omega⟩, by simp only [raysM]; omega⟩
    · rw [if_neg hi]; exact .inl ⟨_, rfl, rfl⟩) ((0, a), (l, b)) ⟨rfl, rfl, rfl, by dsimp only; omega, by dsimp only; omega⟩
  rw [← hp]; exact hy
end
def tellsOk : Unit → Iv × Iv × List Surf × Unit → Bool := fun _ b => Ev.lenOk b.2.2.1
end Go.Proofs.YtlbmjajjldfigaaGreat
