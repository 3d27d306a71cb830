/-
  Loops over faces, whatever else the state holds; in plain Lean.
-/
import Derived.Test.YtlbmjajjldfigaaGreatCore9
namespace Go.Proofs.YtlbmjajjldfigaaGreat
open Go
set_option linter.unusedVariables false
set_option linter.unusedSimpArgs false
section
variable {A S Y R F : Type}
def eachStep (L : S → List F) (bad : A → S → F → Bool) (out : A → S → Y) (no : R) : (Int × Int × A) × S → Option (((Int × Int × A) × S) ⊕ (Y ⊕ R))
  | ((i, n, a), s) =>
    if i < n then
      if 0 ≤ i ∧ i < ((L s).length : Int) then
        match (L s)[i.toNat]? with
        | some f => if bad a s f = true then some (.inr (.inr no)) else some (.inl ((IntKind.i64.wrap (i + 1), n, a), s))
        | none => none
      else none
    else some (.inr (.inl (out a s)))
def eachM (L : S → List F) (x : (Int × Int × A) × S) : Nat := ((L x.2).length : Int).toNat - x.1.1.toNat
theorem each_run {L : S → List F} {bad : A → S → F → Bool} {out : A → S → Y} {no : R} {a : A} {s : S} (hl : (L s).length ≤ 1048576) (hb : ∀ f ∈ L s, bad a s f = false) :
    runBy (eachStep L bad out no) (eachM L) ((0, ((L s).length : Int), a), s) = some (.inl (out a s)) := by
  obtain ⟨y, hy, hp⟩ := iter_total (step := eachStep L bad out no) (fun x => x.1.2.1 = ((L s).length : Int) ∧ x.1.2.2 = a ∧ x.2 = s ∧ 0 ≤ x.1.1 ∧ x.1.1 ≤ ((L s).length : Int)) (fun y => y = .inl (out a s)) (eachM L) (by
    rintro ⟨⟨i, n, a'⟩, s'⟩ ⟨h0, h1, h2, h4, h5⟩
    dsimp only at h0 h1 h2 h4 h5
    subst h0; subst h1; subst h2
    simp only [eachStep]
    by_cases hi : i < ((L s').length : Int)
    · have hge : (L s')[i.toNat]? = some ((L s')[i.toNat]'(by omega)) := List.getElem?_eq_getElem (by omega)
      have hw : IntKind.i64.wrap (i + 1) = i + 1 := wr (by omega)
      rw [if_pos hi, if_pos ⟨h4, hi⟩, hge, hw]
      dsimp only
      rw [hb _ (List.getElem_mem _)]
      exact .inr ⟨_, rfl, ⟨rfl, rfl, rfl, by dsimp only; omega, by dsimp only; omega⟩, by simp only [eachM]; omega⟩
    · rw [if_neg hi]; exact .inl ⟨_, rfl, rfl⟩) ((0, ((L s).length : Int), a), s) ⟨rfl, rfl, rfl, by simp, by simp⟩
  rw [← hp]; exact hy
end
end Go.Proofs.YtlbmjajjldfigaaGreat
