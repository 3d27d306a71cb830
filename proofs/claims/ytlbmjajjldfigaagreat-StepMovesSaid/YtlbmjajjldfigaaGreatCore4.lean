/-
  A sum's slope as the program goes through it; in plain Lean.
-/
import Derived.Test.YtlbmjajjldfigaaGreatCore3
namespace Go.Proofs.YtlbmjajjldfigaaGreat
open Go

def slopeGo (l : List Iv) : Nat → Nat → List Iv
  | 0, _ => []
  | m + 1, k => if k = 0 then slopeGo l m 1 else (atI l k).times (k : Int) :: slopeGo l m (k + 1)
theorem slopeGo_eq (l : List Iv) : ∀ m k, k ≠ 0 → slopeGo l m k = (List.range' k m).map fun (k : Nat) => (atI l k).times (k : Int)
  | 0, _, _ => rfl
  | m + 1, k, h => by rw [slopeGo, if_neg h, slopeGo_eq l m (k + 1) (by omega), List.range'_succ]; rfl
theorem slope_go (l : List Iv) : slopeGo l l.length 0 = slope l := by
  cases h : l.length with
  | zero => simp [slopeGo, slope, h]
  | succ n => rw [slopeGo, if_pos rfl, slopeGo_eq l n 1 (by omega), slope, h]; rfl
def slope2Step : (Int × Int × Unit) × (List Iv × List Iv × Unit) → Option (((Int × Int × Unit) × (List Iv × List Iv × Unit)) ⊕ (Unit × (List Iv × Unit)))
  | ((k, n, _), (l, o, _)) =>
    if k < n then
      if 0 ≤ k ∧ k < (l.length : Int) then
        match l[k.toNat]? with
        | some a => if 0 < k then
            (if Ev.lenOk (o ++ [a.times k]) = true then some (.inl ((IntKind.i64.wrap (k + 1), n, ()), (l, o ++ [a.times k], ()))) else none)
          else some (.inl ((IntKind.i64.wrap (k + 1), n, ()), (l, o, ())))
        | none => none
      else none
    else some (.inr ((), (o, ())))
def slope2Run : (Int × Int × Unit) × (List Iv × List Iv × Unit) → Option (Unit × (List Iv × Unit))
  | ((k, n, _), (l, o, _)) => if (0 ≤ k ∧ k ≤ n ∧ n = (l.length : Int)) ∧ l.length ≤ 1048576 ∧ (o.length : Int) ≤ k then some ((), (o ++ slopeGo l (n - k).toNat k.toNat, ())) else none
theorem slope2Run_ok : ∀ x y, slope2Run x = some y → ∃ k, Ev.iter slope2Step k x = some y := by
  refine Ev.iter_of (fun x => (x.1.2.1 - x.1.1).toNat) ?_
  rintro ⟨⟨k, n, _⟩, ⟨l, o, _⟩⟩ y h
  simp only [slope2Run] at h
  split at h
  case isFalse => cases h
  rename_i hh
  simp at h; subst h
  obtain ⟨⟨h0, h1, rfl⟩, h2, h3⟩ := hh
  by_cases hk : k < (l.length : Int)
  · have hw : IntKind.i64.wrap (k + 1) = k + 1 := wr (by omega)
    have hl : k.toNat < l.length := by omega
    have e : ((l.length : Int) - k).toNat = ((l.length : Int) - (k + 1)).toNat + 1 := by omega
    right
    by_cases hp : 0 < k
    · have hok : Ev.lenOk (o ++ [(atI l k.toNat).times k]) = true := lenOk_iff.2 (by simp; omega)
      refine ⟨((k + 1, (l.length : Int), ()), (l, o ++ [(atI l k.toNat).times k], ())), ?_, by simp only; omega, ?_⟩
      · simp only [slope2Step, if_pos hk, if_pos (And.intro h0 hk), get_atI hl, if_pos hp, if_pos hok, hw]
      · simp only [slope2Run]
        have e2 : (k + 1).toNat = k.toNat + 1 := by omega
        have e3 : ((k.toNat : Nat) : Int) = k := by omega
        rw [if_pos (by simp; omega), e, slopeGo, if_neg (by omega : ¬ k.toNat = 0), e2, e3, List.append_assoc]
        rfl
    · have e0 : k = 0 := by omega
      subst e0
      refine ⟨((0 + 1, (l.length : Int), ()), (l, o, ())), ?_, by simp only; omega, ?_⟩
      · simp only [slope2Step, if_pos hk, if_pos (And.intro h0 hk), get_atI hl, if_neg hp, hw]
      · simp only [slope2Run]
        rw [if_pos (by simp; omega), e, slopeGo, if_pos (by simp)]
        rfl
  · left
    have e : ((l.length : Int) - k).toNat = 0 := by omega
    simp only [slope2Step, if_neg hk, e, slopeGo, List.append_nil]

/-! Faces that may be bent -/
def bentT (t : Iv) : Iv := Iv.of (IntKind.i64.wrap (t.lo - 65536)) (IntKind.i64.wrap (t.hi + 65536))
def hitBent (s : Surf) (r : Ray) (t : Iv) : Iv × Int := if (solve (faceAt s r) (bentT t) 20).2 = 1 then ((solve (faceAt s r) (bentT t) 20).1, 1) else (Iv.none, 0)
def hitAt (s : Surf) (r : Ray) : Iv × Int := if s.bent = true ∧ (hitRound s r.o r.d).2 = 1 then hitBent s r (hitRound s r.o r.d).1 else hitRound s r.o r.d
def hitOf (s : Surf) (r : Ray) : Iv × V × Int := hitEnd (r.back s.at_) (hitAt s (r.back s.at_))
def normalBent (s : Surf) (p : V) : V := V.unit ⟨(((sagOf s (p.x.sqr.add p.y.sqr)).2.mul p.x).times 2).neg, (((sagOf s (p.x.sqr.add p.y.sqr)).2.mul p.y).times 2).neg, Iv.point 65536⟩
def normalOf (s : Surf) (p : V) : V := if s.bent = true then normalBent s p else normalFlat s p
def stepOf (s : Surf) (r : Ray) : Ray × Int := stepEnd s r.d (hitOf s r) (normalOf s (hitOf s r).2.1)
theorem hitOf_flat {s : Surf} (h : s.bent = false) (r : Ray) : hitOf s r = hitFlat s r := by simp [hitOf, hitAt, hitFlat, h, Ray.back]
end Go.Proofs.YtlbmjajjldfigaaGreat
