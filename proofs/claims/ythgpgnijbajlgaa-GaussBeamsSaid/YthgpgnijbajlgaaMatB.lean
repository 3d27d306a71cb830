/-
  Matrices out of raw numbers; in plain Lean.
-/
import Derived.Test.YthgpgnijbajlgaaMat
namespace Go.Proofs.Ythgpgnijbajlgaa
open Go Ev
set_option linter.unusedVariables false
set_option linter.unusedSimpArgs false

def ent (v : Int) : Int := if v.tmod 29 = 28 then v else IntKind.i64.wrap (pick v 13 - 6)
abbrev QX := (Int × Unit) × (List Int × List Quad × Iv × Card × Card × List Surf × Unit)
abbrev QY := Unit × (List Quad × Card × Card × Unit)
def qoutStep : QX → Option (QX ⊕ QY)
  | ((i, _), (l, m, o, c, d, s, _)) =>
    if 0 ≤ i ∧ i ≤ 1000 then
      if i + 3 < (l.length : Int) ∧ i < 24 then
        match l[i.toNat]?, l[(i + 1).toNat]?, l[(i + 2).toNat]?, l[(i + 3).toNat]? with
        | some v0, some v1, some v2, some v3 =>
          if Ev.lenOk (m ++ [(ent v0, ent v1, ent v2, ent v3)]) = true then some (.inl ((i + 4, ()), (l, m ++ [(ent v0, ent v1, ent v2, ent v3)], o, c, d, s, ()))) else none
        | _, _, _, _ => none
      else some (.inr ((), (m, c, d, ())))
    else none
def qoutM (_ : QX) : Nat := 10
theorem qout_iter (l : List Int) (o : Iv) (c d : Card) (s : List Surf) : ∀ (k : Nat) (i : Int) (m : List Quad) (j : Nat), 0 ≤ i → i ≤ 27 → 24 ≤ i + 4 * k → m.length + k ≤ 100 → k ≤ j →
    ∃ m', Ev.iter qoutStep (j + 1) ((i, ()), (l, m, o, c, d, s, ())) = some ((), (m', c, d, ())) ∧ m'.length ≤ 100
  | 0, i, m, j, h0, h1, h2, h3, _ => by
    rw [Ev.iter]
    simp only [qoutStep, if_pos (show 0 ≤ i ∧ i ≤ 1000 by omega), if_neg (show ¬ (i + 3 < (l.length : Int) ∧ i < 24) by omega)]
    exact ⟨m, rfl, by omega⟩
  | k + 1, i, m, j, h0, h1, h2, h3, hj => by
    obtain ⟨j', rfl⟩ : ∃ j', j = j' + 1 := ⟨j - 1, by omega⟩
    rw [Ev.iter]
    by_cases hc : i + 3 < (l.length : Int) ∧ i < 24
    · obtain ⟨v0, g0⟩ : ∃ v, l[i.toNat]? = some v := ⟨_, List.getElem?_eq_getElem (by omega)⟩
      obtain ⟨v1, g1⟩ : ∃ v, l[(i + 1).toNat]? = some v := ⟨_, List.getElem?_eq_getElem (by omega)⟩
      obtain ⟨v2, g2⟩ : ∃ v, l[(i + 2).toNat]? = some v := ⟨_, List.getElem?_eq_getElem (by omega)⟩
      obtain ⟨v3, g3⟩ : ∃ v, l[(i + 3).toNat]? = some v := ⟨_, List.getElem?_eq_getElem (by omega)⟩
      have hl : Ev.lenOk (m ++ [(ent v0, ent v1, ent v2, ent v3)]) = true := lenOk_iff.2 (by simp; omega)
      simp only [qoutStep, if_pos (show 0 ≤ i ∧ i ≤ 1000 by omega), if_pos hc, g0, g1, g2, g3, if_pos hl]
      exact qout_iter l o c d s k (i + 4) _ j' (by omega) (by omega) (by omega) (by simp; omega) (by omega)
    · simp only [qoutStep, if_pos (show 0 ≤ i ∧ i ≤ 1000 by omega), if_neg hc]
      exact ⟨m, rfl, by omega⟩
theorem qout_run (l : List Int) (o : Iv) (c d : Card) (s : List Surf) : ∃ m', runBy qoutStep qoutM ((0, ()), (l, [], o, c, d, s, ())) = some ((), (m', c, d, ())) ∧ m'.length ≤ 100 :=
  qout_iter l o c d s 6 0 [] 10 (by decide) (by decide) (by decide) (by decide) (by decide)
end Go.Proofs.Ythgpgnijbajlgaa
