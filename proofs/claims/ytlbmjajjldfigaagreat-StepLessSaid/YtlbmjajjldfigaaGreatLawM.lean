/-
  What the laws about smaller rays ask of each face; in plain Lean.
-/
import Derived.Test.YtlbmjajjldfigaaGreatStepM
import Derived.Test.YtlbmjajjldfigaaGreatLaws2
namespace Go.Proofs.YtlbmjajjldfigaaGreat
open Go
set_option linter.unusedVariables false
set_option linter.unusedSimpArgs false
def inV (a : V) (x y : Int) : V := ⟨inIv a.x x y, inIv a.y (dv x 3) (dv y 5), inIv a.z (dv x 7) (dv y 11)⟩
def inRay (r : Ray) (x y : Int) : Ray := ⟨inV r.o x y, inV r.d (dv x 13) (dv y 17)⟩
theorem inIv_sub (a : Iv) (x y : Int) : Sub (inIv a x y) a := fun h => by
  have b := right_bd h
  unfold inIv
  rw [if_pos h]
  have p1 := pick_bd x (m := a.hi - a.lo + 1) (by omega)
  have p2 := pick_bd y (m := a.hi - (a.lo + pick x (a.hi - a.lo + 1)) + 1) (by omega)
  exact ⟨right_iff.2 ⟨rfl, by dsimp only; omega, by dsimp only; omega, by dsimp only; omega⟩, by dsimp only; omega, by dsimp only; omega⟩
theorem inV_sub (a : V) (x y : Int) : SubV (inV a x y) a := ⟨inIv_sub _ _ _, inIv_sub _ _ _, inIv_sub _ _ _⟩
theorem inRay_sub (r : Ray) (x y : Int) : SubR (inRay r x y) r := ⟨inV_sub _ _ _, inV_sub _ _ _⟩

def hlBad (_ : Unit) (s : List Surf × Ray × Ray × Unit) (f : Surf) : Bool :=
  if ((hitOf f s.2.1).2.2 == 1 && (hitOf f s.2.2.1).2.2 == 2) || ((hitOf f s.2.1).2.2 == 2 && (hitOf f s.2.2.1).2.2 == 1) then true
  else if f.bent = true then (hitOf f s.2.1).2.2 == 1 && ((hitOf f s.2.2.1).2.2 == 1 && !((hitOf f s.2.1).1.meet (hitOf f s.2.2.1).1).right)
  else ((hitOf f s.2.1).2.2 != 0 && ((hitOf f s.2.2.1).2.2 != (hitOf f s.2.1).2.2)) || ((hitOf f s.2.1).2.2 == 1 && (!((hitOf f s.2.2.1).1.inside (hitOf f s.2.1).1) || !((hitOf f s.2.2.1).2.1.inside (hitOf f s.2.1).2.1)))
theorem hl_good {f : Surf} {r q : Ray} {l : List Surf} (h : SubR q r) : hlBad () (l, r, q, ()) f = false := by
  obtain ⟨k1, k2⟩ := hit_kinds f h
  unfold hlBad
  dsimp only
  rw [if_neg (by simp only [Bool.or_eq_true, Bool.and_eq_true, beq_iff_eq]; rintro (⟨a, b⟩ | ⟨a, b⟩); exact k1 a b; exact k2 a b)]
  by_cases hb : f.bent = true
  · rw [if_pos hb]
    by_cases c1 : (hitOf f r).2.2 = 1
    · by_cases c2 : (hitOf f q).2.2 = 1
      · obtain ⟨m1, m2, m3⟩ := hit_meet hb h c1 c2
        have := (meet_right m1 m2 m3).2
        simp [this]
      · simp [c2]
    · simp [c1]
  · rw [if_neg hb]
    have hs := hitOf_sub (by simpa using hb) h
    have kr := hitOf_kind f r
    have e1 : ((hitOf f r).2.2 != 0 && ((hitOf f q).2.2 != (hitOf f r).2.2)) = false := by
      rcases kr with e | e | e
      · simp [e]
      · simp [e, (hs.1 e).1]
      · simp [e, hs.2 e]
    rw [e1, Bool.false_or]
    by_cases c1 : (hitOf f r).2.2 = 1
    · obtain ⟨_, s2, s3, s4, s5⟩ := hs.1 c1
      simp [sub_inside s4 s2, subV_inside s5 s3]
    · simp [c1]
def slBad (_ : Unit) (s : List Surf × Ray × Ray × Unit) (f : Surf) : Bool :=
  if decide ((stepOf f s.2.1).2 < 1) || (decide ((stepOf f s.2.1).2 > 3) || (((stepOf f s.2.1).2 == 1 && (stepOf f s.2.2.1).2 == 2) || ((stepOf f s.2.1).2 == 2 && (stepOf f s.2.2.1).2 == 1))) then true
  else if (stepOf f s.2.1).2 != 1 && !(rE (stepOf f s.2.1).1 Ray.none) then true
  else !f.bent && ((stepOf f s.2.1).2 != 3 && (((stepOf f s.2.2.1).2 != (stepOf f s.2.1).2) || ((stepOf f s.2.1).2 == 1 && (!((stepOf f s.2.2.1).1.o.inside (stepOf f s.2.1).1.o) || !((stepOf f s.2.2.1).1.d.inside (stepOf f s.2.1).1.d)))))
theorem stepOf_kind (s : Surf) (r : Ray) : ((stepOf s r).2 = 1 ∨ (stepOf s r).2 = 2 ∨ (stepOf s r).2 = 3) ∧ ((stepOf s r).2 ≠ 1 → (stepOf s r).1 = Ray.none) ∧ ((stepOf s r).2 = 1 → ¬ s.stop = true → (stepOf s r).1.d.right = true) := by
  have hl : ∀ is, ((lost is).2 = 1 ∨ (lost is).2 = 2 ∨ (lost is).2 = 3) ∧ ((lost is).2 ≠ 1 → (lost is).1 = Ray.none) ∧ ((lost is).2 = 1 → ¬ s.stop = true → (lost is).1.d.right = true) := by
    intro is
    refine ⟨.inr (lost_kind is), fun _ => rfl, fun h => absurd h (lost1 is)⟩
  unfold stepOf stepEnd
  split
  · exact hl _
  · split
    · exact hl _
    · split
      · exact hl _
      · split
        · rename_i h
          exact ⟨.inl rfl, fun h => absurd rfl h, fun _ h' => absurd h h'⟩
        · split
          · exact hl _
          · rename_i h
            exact ⟨.inl rfl, fun h => absurd rfl h, fun _ _ => bend_right (Classical.not_not.1 h)⟩
theorem sl_good {f : Surf} {r q : Ray} {l : List Surf} (h : SubR q r) (hr : r.d.right = true) : slBad () (l, r, q, ()) f = false := by
  obtain ⟨k1, k2⟩ := step_kinds f h
  obtain ⟨kr, kn, kd⟩ := stepOf_kind f r
  unfold slBad
  dsimp only
  have e1 : decide ((stepOf f r).2 < 1) = false := decide_eq_false (by omega)
  have e2 : decide ((stepOf f r).2 > 3) = false := decide_eq_false (by omega)
  rw [e1, e2, Bool.false_or, Bool.false_or]
  rw [if_neg (by simp only [Bool.or_eq_true, Bool.and_eq_true, beq_iff_eq]; rintro (⟨a, b⟩ | ⟨a, b⟩); exact k1 a b; exact k2 a b)]
  have e3 : ((stepOf f r).2 != 1 && !(rE (stepOf f r).1 Ray.none)) = false := by
    by_cases c : (stepOf f r).2 = 1
    · simp [c]
    · rw [kn c, rE_self]; simp
  rw [e3]
  simp only [Bool.false_eq_true, if_false]
  by_cases hb : f.bent = true
  · simp [hb]
  · have hs := stepOf_sub (by simpa using hb) h
    rcases kr with e | e | e
    · obtain ⟨s1, s2, s3⟩ := hs.1 e
      have hd : (stepOf f r).1.d.right = true := by
        by_cases c : f.stop = true
        · obtain ⟨_, h2, _⟩ := step_on hr e
          exact h2
        · exact kd e c
      simp [e, s1, subV_inside s3.1 s2, subV_inside s3.2 hd]
    · simp [e, hs.2.1 e]
    · simp [e]
def hoBad (_ : Unit) (s : List Surf × Ray × Unit) (f : Surf) : Bool :=
  if (hitOf f s.2.1).2.2 != 1 then !(ivE (hitOf f s.2.1).1 Iv.none) || (hitOf f s.2.1).2.1.right
  else (sagOf f ((hitOf f s.2.1).2.1.x.sqr.add (hitOf f s.2.1).2.1.y.sqr)).1.right && ((f.bent || (((Iv.whole 1).sub (f.curve.mul (f.conic.mul (hitOf f s.2.1).2.1.z))).right && decide (0 < ((Iv.whole 1).sub (f.curve.mul (f.conic.mul (hitOf f s.2.1).2.1.z))).lo))) &&
    !((sagOf f ((hitOf f s.2.1).2.1.x.sqr.add (hitOf f s.2.1).2.1.y.sqr)).1.meet (hitOf f s.2.1).2.1.z).right)
theorem hit_none {s : Surf} {r : Ray} (h : (hitOf s r).2.2 ≠ 1) : (hitOf s r).1 = Iv.none ∧ (hitOf s r).2.1 = V.none := by
  rw [hitOf_cases] at h ⊢
  generalize hitRound s (r.back s.at_).o (r.back s.at_).d = R at *
  generalize solve (faceAt s (r.back s.at_)) (bentT R.1) 20 = S at *
  unfold hitCases at h ⊢
  split at h
  · rename_i c0
    rw [if_pos c0]
    split at h
    · rename_i c1
      rw [if_pos c1]
      split at h
      · rename_i c2
        rw [if_pos c2]
        split at h
        · exact absurd rfl h
        · rename_i c3
          rw [if_neg c3]
          exact ⟨rfl, rfl⟩
      · rename_i c2
        rw [if_neg c2]
        exact ⟨rfl, rfl⟩
    · rename_i c1
      rw [if_neg c1]
      exact ⟨rfl, rfl⟩
  · rename_i c0
    rw [if_neg c0]
    split at h
    · rename_i c1
      rw [if_pos c1]
      split at h
      · exact absurd rfl h
      · rename_i c3
        rw [if_neg c3]
        exact ⟨rfl, rfl⟩
    · rename_i c1
      rw [if_neg c1]
      exact ⟨rfl, rfl⟩
theorem ho_good {f : Surf} {r : Ray} {l : List Surf} : hoBad () (l, r, ()) f = false := by
  unfold hoBad
  dsimp only
  by_cases c : (hitOf f r).2.2 = 1
  · rw [c]
    simp only [bne_self_eq_false, Bool.false_eq_true, if_false]
    by_cases hz : (sagOf f ((hitOf f r).2.1.x.sqr.add (hitOf f r).2.1.y.sqr)).1.right = true
    · by_cases hf : (f.bent = true ∨ (((Iv.whole 1).sub (f.curve.mul (f.conic.mul (hitOf f r).2.1.z))).right = true ∧ 0 < ((Iv.whole 1).sub (f.curve.mul (f.conic.mul (hitOf f r).2.1.z))).lo))
      · rw [hit_on c hz hf]; simp
      · have : (f.bent || (((Iv.whole 1).sub (f.curve.mul (f.conic.mul (hitOf f r).2.1.z))).right && decide (0 < ((Iv.whole 1).sub (f.curve.mul (f.conic.mul (hitOf f r).2.1.z))).lo))) = false := by
          rw [← Bool.not_eq_true]
          simpa using hf
        rw [this]; simp
    · simp only [Bool.not_eq_true] at hz
      rw [hz]; simp
  · obtain ⟨h1, h2⟩ := hit_none c
    rw [if_pos (by simpa using c), h1, h2, ivE_self]
    rfl
end Go.Proofs.YtlbmjajjldfigaaGreat
