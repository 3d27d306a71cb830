/-
  Smaller rays through bent faces: what goes through is not blocked of less; in plain Lean.
-/
import Derived.Test.YtlbmjajjldfigaaGreatHitM
namespace Go.Proofs.YtlbmjajjldfigaaGreat
open Go
set_option linter.unusedVariables false
set_option linter.unusedSimpArgs false

theorem sub_iff {a b : Iv} (h : Sub a b) : Sub (if a.right = true then a else Iv.none) (if b.right = true then b else Iv.none) := by
  intro hb
  by_cases c : b.right = true
  · rw [if_pos c] at hb ⊢
    rw [if_pos (h c).1]
    exact h c
  · rw [if_neg c] at hb; cases hb
theorem sagRound_sub (s : Surf) {a b : Iv} (h : Sub a b) : Sub (sagRound s a).1 (sagRound s b).1 ∧ Sub (sagRound s a).2 (sagRound s b).2 := by
  have hr := root_sub (sub_sub (Sub.refl (Iv.point 65536)) (mul_sub (Sub.refl (s.conic.mul s.curve.sqr)) h))
  exact ⟨div_sub (mul_sub (Sub.refl _) h) (add_sub (Sub.refl _) hr), div_sub (Sub.refl _) (times_sub hr 2)⟩
theorem sagBent_sub (s : Surf) {a b : Iv} (h : Sub a b) : Sub (sagBent s a).1 (sagBent s b).1 ∧ Sub (sagBent s a).2 (sagBent s b).2 := by
  obtain ⟨r1, r2⟩ := sagRound_sub s h
  have hu := div_sub h (Sub.refl (Iv.whole 1000))
  unfold sagBent
  rw [slope4, horner4, horner4, horner3, horner3]
  constructor
  · exact add_sub r1 (sub_iff (add_sub (mul_sub (add_sub (mul_sub (add_sub (mul_sub (Sub.refl _) hu) (Sub.refl _)) hu) (Sub.refl _)) hu) (Sub.refl _)))
  · exact add_sub r2 (div_sub (sub_iff (add_sub (mul_sub (add_sub (mul_sub (Sub.refl _) hu) (Sub.refl _)) hu) (Sub.refl _))) (Sub.refl _))
theorem sagRound_clean (s : Surf) (a : Iv) : (sagRound s a).1.clean ∧ (sagRound s a).2.clean := ⟨div_clean _ _, div_clean _ _⟩
theorem sagPre_clean (s : Surf) (a : Iv) : (sagPre s a).1.clean ∧ (sagPre s a).2.clean := by
  unfold sagPre
  split
  · exact ⟨add_clean _ _, add_clean _ _⟩
  · exact sagRound_clean s a
theorem sagPre_sub (s : Surf) {a b : Iv} (h : Sub a b) : Sub (sagPre s a).1 (sagPre s b).1 ∧ Sub (sagPre s a).2 (sagPre s b).2 := by
  unfold sagPre
  split
  · exact sagBent_sub s h
  · exact sagRound_sub s h
theorem sagOf_sub (s : Surf) {a b : Iv} (h : Sub a b) : Sub (sagOf s a).1 (sagOf s b).1 ∧ Sub (sagOf s a).2 (sagOf s b).2 := by
  obtain ⟨h1, h2⟩ := sagPre_sub s h
  obtain ⟨k1, k2⟩ := sagPre_clean s b
  unfold sagOf
  by_cases c : (sagPre s b).1.no = true ∨ (sagPre s b).2.no = true
  · rw [if_pos c]
    exact ⟨(fun h => by cases h), (fun h => by cases h)⟩
  · rw [if_neg c]
    have r1 := clean_right k1 (by rcases hh : (sagPre s b).1.no with _ | _; rfl; exact absurd (.inl hh) c)
    have r2 := clean_right k2 (by rcases hh : (sagPre s b).2.no with _ | _; rfl; exact absurd (.inr hh) c)
    have c' : ¬ ((sagPre s a).1.no = true ∨ (sagPre s a).2.no = true) := by
      rw [(right_bd (h1 r1).1).1, (right_bd (h2 r2).1).1]; simp
    rw [if_neg c']
    exact ⟨h1, h2⟩
theorem normalOf_sub (s : Surf) {p p' : V} (h : SubV p p') : SubV (normalOf s p) (normalOf s p') := by
  unfold normalOf
  split
  · have hs := (sagOf_sub s (add_sub (sqr_sub h.1) (sqr_sub h.2.1))).2
    exact unit_sub ⟨neg_sub (times_sub (mul_sub hs h.1) 2), neg_sub (times_sub (mul_sub hs h.2.1) 2), Sub.refl _⟩
  · exact normalFlat_sub s h
theorem lost2 {is : Int} (h : (lost is).2 = 2) : is = 2 := by
  unfold lost at h
  dsimp only at h
  split at h
  · assumption
  · cases h
theorem lost1 (is : Int) : (lost is).2 ≠ 1 := by
  unfold lost
  dsimp only
  split <;> decide
/-- What becomes of a ray is through where it meets, or what its meeting tells. -/
theorem stepOf_one {s : Surf} {r : Ray} (h : (stepOf s r).2 = 1) : (hitOf s r).2.2 = 1 := by
  unfold stepOf stepEnd at h
  by_cases c : (hitOf s r).2.2 = 1
  · exact c
  · rw [if_pos c] at h
    exact absurd h (lost1 _)
theorem stepOf_two {s : Surf} {r : Ray} (h : (stepOf s r).2 = 2) : (hitOf s r).2.2 = 1 ∨ (hitOf s r).2.2 = 2 := by
  unfold stepOf stepEnd at h
  by_cases c : (hitOf s r).2.2 = 1
  · exact .inl c
  · rw [if_pos c] at h
    exact .inr (lost2 h)
theorem point_in {n : Int} {a : Iv} (ha : a.right = true) (h1 : a.lo ≤ n) (h2 : n ≤ a.hi) : Sub (Iv.point n) a := fun _ => by
  have b := right_bd ha
  have e : Iv.point n = ⟨n, n, false⟩ := of_eq ⟨⟨numIn_iff.2 (by omega), numIn_iff.2 (by omega)⟩, by omega⟩
  rw [e]
  exact ⟨right_iff.2 ⟨rfl, by dsimp only; omega, by dsimp only; omega, by dsimp only; omega⟩, h1, h2⟩
/-- What becomes of a ray that two rays have, by a time that both have. -/
theorem step_common {s : Surf} {q r c : Ray} {n : Int} (hc : SubR c r) (hr : (hitOf s r).2.2 = 1) (hal : (hitOf s r).2.1 = along (r.back s.at_) (hitOf s r).1) (hv : (along (r.back s.at_) (hitOf s r).1).right = true) (hrr : (hitOf s r).1.right = true) (h1 : (hitOf s r).1.lo ≤ n) (h2 : n ≤ (hitOf s r).1.hi) :
    StepSub (stepEnd s c.d (Iv.point n, along (c.back s.at_) (Iv.point n), 1) (normalOf s (along (c.back s.at_) (Iv.point n)))) (stepOf s r) := by
  have hp := point_in hrr h1 h2
  have ha := along_sub (back_subR hc s.at_) hp
  rw [← hal] at ha hv
  unfold stepOf
  refine stepEnd_sub s hc.2 ⟨fun _ => ⟨rfl, hrr, hv, hp, ha⟩, fun h => ?_⟩ (fun _ => normalOf_sub s ha) (hitOf_kind s r)
  omega
/-- What is Through is not Blocked of less, nor what is Blocked Through. -/
theorem step_kinds (s : Surf) {q r : Ray} (hs : SubR q r) : ((stepOf s r).2 = 1 → (stepOf s q).2 ≠ 2) ∧ ((stepOf s r).2 = 2 → (stepOf s q).2 ≠ 1) := by
  by_cases hb : s.bent = true
  · obtain ⟨k1, k2⟩ := hit_kinds s hs
    have both : (hitOf s r).2.2 = 1 → (hitOf s q).2.2 = 1 → ((stepOf s r).2 = 1 → (stepOf s q).2 ≠ 2) ∧ ((stepOf s r).2 = 2 → (stepOf s q).2 ≠ 1) := by
      intro hr hq
      obtain ⟨m1, m2, m3, m4⟩ := hit_meet hb hs hr hq
      obtain ⟨_, _, r3, r4⟩ := hit_bent hb hr
      obtain ⟨_, _, q3, q4⟩ := hit_bent hb hq
      have b1 := right_bd m1
      have b2 := right_bd m2
      have s1 := step_common (q := q) (n := max (hitOf s r).1.lo (hitOf s q).1.lo) hs hr r3 r4 m1 (by omega) (by omega)
      have s2 := step_common (q := q) (n := max (hitOf s r).1.lo (hitOf s q).1.lo) (SubR.refl q) hq q3 q4 m2 (by omega) (by omega)
      generalize stepEnd s q.d (Iv.point (max (hitOf s r).1.lo (hitOf s q).1.lo), along (q.back s.at_) (Iv.point (max (hitOf s r).1.lo (hitOf s q).1.lo)), 1) (normalOf s (along (q.back s.at_) (Iv.point (max (hitOf s r).1.lo (hitOf s q).1.lo)))) = X at *
      constructor
      · intro h h'
        have := (s1.1 h).1
        have := s2.2.1 h'
        omega
      · intro h h'
        have := s1.2.1 h
        have := (s2.1 h').1
        omega
    constructor
    · intro h h'
      have hr := stepOf_one h
      rcases stepOf_two h' with hq | hq
      · exact (both hr hq).1 h h'
      · exact k1 hr hq
    · intro h h'
      have hq := stepOf_one h'
      rcases stepOf_two h with hr | hr
      · exact (both hr hq).2 h h'
      · exact k2 hr hq
  · have h := stepOf_sub (by simpa using hb) hs
    constructor
    · intro h1 h2
      have := (h.1 h1).1
      omega
    · intro h1 h2
      have := h.2.1 h1
      omega
end Go.Proofs.YtlbmjajjldfigaaGreat
