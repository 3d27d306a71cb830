/-
  Smaller rays meet, bend, go within what larger ones do, through faces that are not bent; in plain Lean.
-/
import Derived.Test.YtlbmjajjldfigaaGreatLess
namespace Go.Proofs.YtlbmjajjldfigaaGreat
open Go
set_option linter.unusedVariables false
set_option linter.unusedSimpArgs false

def SubV (a b : V) : Prop := Sub a.x b.x ∧ Sub a.y b.y ∧ Sub a.z b.z
def SubR (a b : Ray) : Prop := SubV a.o b.o ∧ SubV a.d b.d
theorem SubV.refl (a : V) : SubV a a := ⟨Sub.refl _, Sub.refl _, Sub.refl _⟩
theorem SubR.refl (a : Ray) : SubR a a := ⟨SubV.refl _, SubV.refl _⟩
theorem vadd_sub {a a' b b' : V} (ha : SubV a a') (hb : SubV b b') : SubV (a.add b) (a'.add b') := ⟨add_sub ha.1 hb.1, add_sub ha.2.1 hb.2.1, add_sub ha.2.2 hb.2.2⟩
theorem scale_sub {a a' : V} {k k' : Iv} (ha : SubV a a') (hk : Sub k k') : SubV (a.scale k) (a'.scale k') := ⟨mul_sub ha.1 hk, mul_sub ha.2.1 hk, mul_sub ha.2.2 hk⟩
theorem dot_sub {a a' b b' : V} (ha : SubV a a') (hb : SubV b b') : Sub (a.dot b) (a'.dot b') := add_sub (add_sub (mul_sub ha.1 hb.1) (mul_sub ha.2.1 hb.2.1)) (mul_sub ha.2.2 hb.2.2)
theorem len2_sub {a a' : V} (ha : SubV a a') : Sub a.len2 a'.len2 := add_sub (add_sub (sqr_sub ha.1) (sqr_sub ha.2.1)) (sqr_sub ha.2.2)
theorem unit_sub {a a' : V} (ha : SubV a a') : SubV a.unit a'.unit :=
  ⟨div_sub ha.1 (root_sub (len2_sub ha)), div_sub ha.2.1 (root_sub (len2_sub ha)), div_sub ha.2.2 (root_sub (len2_sub ha))⟩
theorem along_sub {r q : Ray} {t u : Iv} (h : SubR r q) (ht : Sub t u) : SubV (along r t) (along q u) := vadd_sub h.1 (scale_sub h.2 ht)
theorem vright_iff {a : V} : a.right = true ↔ a.x.right = true ∧ a.y.right = true ∧ a.z.right = true := by simp [V.right]
theorem subV_right {a b : V} (h : SubV a b) (hb : b.right = true) : a.right = true := by
  obtain ⟨h1, h2, h3⟩ := vright_iff.1 hb
  exact vright_iff.2 ⟨(h.1 h1).1, (h.2.1 h2).1, (h.2.2 h3).1⟩
theorem subV_inside {a b : V} (h : SubV a b) (hb : b.right = true) : a.inside b = true := by
  obtain ⟨h1, h2, h3⟩ := vright_iff.1 hb
  simp [V.inside, sub_inside h.1 h1, sub_inside h.2.1 h2, sub_inside h.2.2 h3]
theorem no_right' {a : Iv} (h : a.clean) : a.no = !a.right := by
  rcases h with h | rfl
  · rw [h, (right_bd h).1]; rfl
  · rfl
theorem clean_right {a : Iv} (h : a.clean) (hn : a.no = false) : a.right = true := by
  have := no_right' h
  rw [hn] at this
  simpa using this.symm

theorem near_sub {a a' b b' c c' : Iv} (ha : Sub a a') (hb : Sub b b') (hc : Sub c c') :
    ((near a' b' c').2 = 1 → (near a b c).2 = 1 ∧ (near a' b' c').1.right = true ∧ Sub (near a b c).1 (near a' b' c').1) ∧ ((near a' b' c').2 = 2 → (near a b c).2 = 2) := by
  have hD : Sub (b.sqr.sub (a.mul c)) (b'.sqr.sub (a'.mul c')) := sub_sub (sqr_sub hb) (mul_sub ha hc)
  have hq : Sub (c.div ((b.sqr.sub (a.mul c)).root.sub b)) (c'.div ((b'.sqr.sub (a'.mul c')).root.sub b')) := div_sub hc (sub_sub (root_sub hD) hb)
  have k1 : (b'.sqr.sub (a'.mul c')).clean := sub_clean _ _
  have k2 : (b.sqr.sub (a.mul c)).clean := sub_clean _ _
  have k3 : (c'.div ((b'.sqr.sub (a'.mul c')).root.sub b')).clean := div_clean _ _
  have k4 : (c.div ((b.sqr.sub (a.mul c)).root.sub b)).clean := div_clean _ _
  unfold near
  generalize b'.sqr.sub (a'.mul c') = D' at *
  generalize b.sqr.sub (a.mul c) = D at *
  generalize c'.div (D'.root.sub b') = t' at *
  generalize c.div (D.root.sub b) = t at *
  by_cases n1 : D'.no = true
  · simp [n1]
  simp only [Bool.not_eq_true] at n1
  have r1 := clean_right k1 n1
  obtain ⟨d1, d2, d3⟩ := hD r1
  have n2 := (right_bd d1).1
  have bd := right_bd d1
  simp only [n1, n2, Bool.false_eq_true, if_false]
  by_cases c1 : D'.hi < 0
  · have c2 : D.hi < 0 := by omega
    simp [c1, c2]
  by_cases c3 : D'.lo < 0
  · simp [c1, c3]
  have c2 : ¬ D.hi < 0 := by omega
  have c4 : ¬ D.lo < 0 := by omega
  simp only [c1, c2, c3, c4, if_false]
  by_cases n3 : t'.no = true
  · simp [n3]
  simp only [Bool.not_eq_true] at n3
  have r3 := clean_right k3 n3
  have n4 := (right_bd (hq r3).1).1
  simp only [n3, n4, Bool.false_eq_true, if_false]
  exact ⟨fun _ => ⟨by trivial, r3, hq⟩, (fun h => by cases h)⟩
theorem hitRound_sub (s : Surf) {o o' d d' : V} (ho : SubV o o') (hd : SubV d d') :
    ((hitRound s o' d').2 = 1 → (hitRound s o d).2 = 1 ∧ (hitRound s o' d').1.right = true ∧ Sub (hitRound s o d).1 (hitRound s o' d').1) ∧ ((hitRound s o' d').2 = 2 → (hitRound s o d).2 = 2) := by
  unfold hitRound
  refine near_sub ?_ ?_ ?_
  · exact mul_sub (Sub.refl _) (add_sub (add_sub (sqr_sub hd.1) (sqr_sub hd.2.1)) (mul_sub (Sub.refl _) (sqr_sub hd.2.2)))
  · exact sub_sub (mul_sub (Sub.refl _) (add_sub (add_sub (mul_sub ho.1 hd.1) (mul_sub ho.2.1 hd.2.1)) (mul_sub (Sub.refl _) (mul_sub ho.2.2 hd.2.2)))) hd.2.2
  · exact sub_sub (mul_sub (Sub.refl _) (add_sub (add_sub (sqr_sub ho.1) (sqr_sub ho.2.1)) (mul_sub (Sub.refl _) (sqr_sub ho.2.2)))) (times_sub ho.2.2 2)
theorem back_subR {q r : Ray} (h : SubR q r) (w : Iv) : SubR (q.back w) (r.back w) := ⟨⟨h.1.1, h.1.2.1, sub_sub h.1.2.2 (Sub.refl _)⟩, h.2⟩
/-- What is told of a smaller ray. -/
def HitSub (q r : Iv × V × Int) : Prop := (r.2.2 = 1 → q.2.2 = 1 ∧ r.1.right = true ∧ r.2.1.right = true ∧ Sub q.1 r.1 ∧ SubV q.2.1 r.2.1) ∧ (r.2.2 = 2 → q.2.2 = 2)
theorem hitOf_sub {s : Surf} (hs : s.bent = false) {q r : Ray} (h : SubR q r) : HitSub (hitOf s q) (hitOf s r) := by
  rw [hitOf_flat hs, hitOf_flat hs]
  have hb := back_subR h s.at_
  obtain ⟨h1, h2⟩ := hitRound_sub s hb.1 h.2
  unfold hitFlat
  have e : (r.back s.at_).d = r.d := rfl
  generalize hitRound s (q.back s.at_).o q.d = u at *
  generalize hitRound s (r.back s.at_).o r.d = w at *
  unfold hitEnd HitSub
  by_cases c : w.2 = 1
  · obtain ⟨u1, w1, hs⟩ := h1 c
    have hal := along_sub hb hs
    rw [if_neg (not_not_intro c), if_neg (not_not_intro u1)]
    by_cases d : (along (r.back s.at_) w.1).right = true
    · rw [if_pos d, if_pos (subV_right hal d)]
      exact ⟨fun _ => ⟨rfl, w1, d, hs, hal⟩, (fun h => by cases h)⟩
    · rw [if_neg d]
      exact ⟨(fun h => by cases h), (fun h => by cases h)⟩
  · rw [if_pos c]
    refine ⟨fun h => absurd h c, fun h => ?_⟩
    have u2 := h2 h
    rw [if_pos (by omega)]
    exact u2
theorem notAbove_sub {a a' b : Iv} (ha : Sub a a') : (notAbove a' b = 1 → notAbove a b = 1) ∧ (notAbove a' b = 2 → notAbove a b = 2) := by
  unfold notAbove
  by_cases h : a'.right = true ∧ b.right = true
  · obtain ⟨a1, a2, a3⟩ := ha h.1
    have bd := right_bd a1
    rw [if_pos h, if_pos ⟨a1, h.2⟩]
    unfold told
    simp only [decide_eq_true_eq]
    by_cases c1 : a'.hi ≤ b.lo
    · rw [if_pos c1, if_pos (by omega)]; simp
    · rw [if_neg c1]
      by_cases c2 : b.hi < a'.lo
      · have := right_bd h.2
        rw [if_pos c2, if_neg (by omega), if_pos (by omega)]; simp
      · rw [if_neg c2]; simp
  · rw [if_neg h]; simp
theorem bend_sub {d d' n n' : V} (ratio : Iv) (hd : SubV d d') (hn : SubV n n') :
    ((bend d' n' ratio).2 = 1 → (bend d n ratio).2 = 1 ∧ (bend d' n' ratio).1.right = true ∧ SubV (bend d n ratio).1 (bend d' n' ratio).1) ∧ ((bend d' n' ratio).2 = 2 → (bend d n ratio).2 = 2) := by
  have hg := dot_sub hd hn
  have g1 : (d'.dot n').clean := add_clean _ _
  have hk : Sub ((Iv.point 65536).sub (ratio.sqr.mul ((Iv.point 65536).sub (d.dot n).sqr))) ((Iv.point 65536).sub (ratio.sqr.mul ((Iv.point 65536).sub (d'.dot n').sqr))) :=
    sub_sub (Sub.refl _) (mul_sub (Sub.refl _) (sub_sub (Sub.refl _) (sqr_sub hg)))
  have k1 : ((Iv.point 65536).sub (ratio.sqr.mul ((Iv.point 65536).sub (d'.dot n').sqr))).clean := sub_clean _ _
  have ho : SubV ((d.scale ratio).add (n.scale (((Iv.point 65536).sub (ratio.sqr.mul ((Iv.point 65536).sub (d.dot n).sqr))).root.sub (ratio.mul (d.dot n))))) ((d'.scale ratio).add (n'.scale (((Iv.point 65536).sub (ratio.sqr.mul ((Iv.point 65536).sub (d'.dot n').sqr))).root.sub (ratio.mul (d'.dot n'))))) :=
    vadd_sub (scale_sub hd (Sub.refl _)) (scale_sub hn (sub_sub (root_sub hk) (mul_sub (Sub.refl _) hg)))
  unfold bend
  generalize (d.scale ratio).add (n.scale (((Iv.point 65536).sub (ratio.sqr.mul ((Iv.point 65536).sub (d.dot n).sqr))).root.sub (ratio.mul (d.dot n)))) = o at *
  generalize (d'.scale ratio).add (n'.scale (((Iv.point 65536).sub (ratio.sqr.mul ((Iv.point 65536).sub (d'.dot n').sqr))).root.sub (ratio.mul (d'.dot n')))) = o' at *
  generalize (Iv.point 65536).sub (ratio.sqr.mul ((Iv.point 65536).sub (d.dot n).sqr)) = K at *
  generalize (Iv.point 65536).sub (ratio.sqr.mul ((Iv.point 65536).sub (d'.dot n').sqr)) = K' at *
  generalize d.dot n = g at *
  generalize d'.dot n' = g' at *
  by_cases c0 : g'.no = true ∨ g'.lo ≤ 0
  · simp [c0]
  have g2 : g'.no = false := by
    rcases hh : g'.no with _ | _
    · rfl
    · exact absurd (.inl hh) c0
  obtain ⟨q1, q2, q3⟩ := hg (clean_right g1 g2)
  have c0' : ¬ (g.no = true ∨ g.lo ≤ 0) := by
    rintro (h | h)
    · rw [(right_bd q1).1] at h; cases h
    · exact c0 (.inr (by omega))
  rw [if_neg c0, if_neg c0']
  by_cases n1 : K'.no = true
  · simp [n1]
  simp only [Bool.not_eq_true] at n1
  obtain ⟨d1, d2, d3⟩ := hk (clean_right k1 n1)
  have n2 := (right_bd d1).1
  have bd := right_bd d1
  simp only [n1, n2, Bool.false_eq_true, if_false]
  by_cases c1 : K'.hi < 0
  · have c2 : K.hi < 0 := by omega
    simp [c1, c2]
  by_cases c3 : K'.lo < 0
  · simp [c1, c3]
  have c2 : ¬ K.hi < 0 := by omega
  have c4 : ¬ K.lo < 0 := by omega
  simp only [c1, c2, c3, c4, if_false]
  by_cases r : o'.right = true
  · rw [if_pos r, if_pos (subV_right ho r)]
    exact ⟨fun _ => ⟨rfl, r, ho⟩, (fun h => by cases h)⟩
  · rw [if_neg r]
    exact ⟨(fun h => by cases h), (fun h => by cases h)⟩
theorem normalFlat_sub (s : Surf) {p p' : V} (h : SubV p p') : SubV (normalFlat s p) (normalFlat s p') :=
  unit_sub ⟨neg_sub (mul_sub (Sub.refl _) h.1), neg_sub (mul_sub (Sub.refl _) h.2.1), sub_sub (Sub.refl _) (mul_sub (Sub.refl _) (mul_sub (Sub.refl _) h.2.2))⟩
/-- What becomes of a smaller ray. -/
def StepSub (q r : Ray × Int) : Prop := (r.2 = 1 → q.2 = 1 ∧ r.1.o.right = true ∧ SubR q.1 r.1) ∧ (r.2 = 2 → q.2 = 2) ∧ (r.2 = 1 ∨ r.2 = 2 ∨ r.2 = 3)
theorem lost_kind (is : Int) : (lost is).2 = 2 ∨ (lost is).2 = 3 := by unfold lost; dsimp only; split <;> simp
theorem stepEnd_sub (s : Surf) {d d' : V} {q r : Iv × V × Int} {n n' : V} (hd : SubV d d') (h : HitSub q r) (hn : r.2.2 = 1 → SubV n n') (hr : r.2.2 = 0 ∨ r.2.2 = 1 ∨ r.2.2 = 2) :
    StepSub (stepEnd s d q n) (stepEnd s d' r n') := by
  have la : ∀ is, StepSub (stepEnd s d q n) (lost is) ↔ (is = 2 → (stepEnd s d q n).2 = 2) := by
    intro is
    unfold StepSub lost
    dsimp only
    by_cases c : is = 2
    · simp [c]
    · simp [c]
  have ls : ∀ is, (lost is).2 = if is = 2 then 2 else 3 := fun _ => rfl
  by_cases c1 : r.2.2 = 1
  case neg =>
    have : stepEnd s d' r n' = lost r.2.2 := by unfold stepEnd; rw [if_pos c1]
    rw [this, la]
    intro e
    have u := h.2 e
    unfold stepEnd
    rw [if_pos (by omega), ls, if_pos u]
  obtain ⟨u1, r1, r2, s1, s2⟩ := h.1 c1
  have hx := add_sub (sqr_sub s2.1) (sqr_sub s2.2.1)
  obtain ⟨a1, a2⟩ := notAbove_sub (b := s.open2) hx
  by_cases c2 : notAbove (r.2.1.x.sqr.add r.2.1.y.sqr) s.open2 = 1
  case neg =>
    have : stepEnd s d' r n' = lost (notAbove (r.2.1.x.sqr.add r.2.1.y.sqr) s.open2) := by unfold stepEnd; rw [if_neg (not_not_intro c1), if_pos c2]
    rw [this, la]
    intro e
    have u := a2 e
    unfold stepEnd
    rw [if_neg (not_not_intro u1), if_pos (by omega), ls, if_pos u]
  have b2 := a1 c2
  have hz := add_sub s2.2.2 (Sub.refl s.at_)
  by_cases c3 : (r.2.1.z.add s.at_).no = true
  · have : stepEnd s d' r n' = lost 0 := by unfold stepEnd; rw [if_neg (not_not_intro c1), if_neg (not_not_intro c2), if_pos c3]
    rw [this, la]
    intro e; cases e
  have rz := clean_right (add_clean _ _) (by simpa using c3)
  have b3 : ¬ (q.2.1.z.add s.at_).no = true := by rw [(right_bd (hz rz).1).1]; simp
  obtain ⟨v1, v2, v3⟩ := vright_iff.1 r2
  by_cases c4 : s.stop = true
  · have e1 : stepEnd s d' r n' = (⟨⟨r.2.1.x, r.2.1.y, r.2.1.z.add s.at_⟩, d'⟩, 1) := by unfold stepEnd; rw [if_neg (not_not_intro c1), if_neg (not_not_intro c2), if_neg c3, if_pos c4]
    have e2 : stepEnd s d q n = (⟨⟨q.2.1.x, q.2.1.y, q.2.1.z.add s.at_⟩, d⟩, 1) := by unfold stepEnd; rw [if_neg (not_not_intro u1), if_neg (not_not_intro b2), if_neg b3, if_pos c4]
    rw [e1, e2]
    exact ⟨fun _ => ⟨rfl, vright_iff.2 ⟨v1, v2, rz⟩, ⟨s2.1, s2.2.1, hz⟩, hd⟩, (fun h => by cases h), .inl rfl⟩
  obtain ⟨k1, k2⟩ := bend_sub s.ratio hd (hn c1)
  by_cases c5 : (bend d' n' s.ratio).2 = 1
  · obtain ⟨m1, m2, m3⟩ := k1 c5
    have e1 : stepEnd s d' r n' = (⟨⟨r.2.1.x, r.2.1.y, r.2.1.z.add s.at_⟩, (bend d' n' s.ratio).1⟩, 1) := by unfold stepEnd; rw [if_neg (not_not_intro c1), if_neg (not_not_intro c2), if_neg c3, if_neg c4, if_neg (not_not_intro c5)]
    have e2 : stepEnd s d q n = (⟨⟨q.2.1.x, q.2.1.y, q.2.1.z.add s.at_⟩, (bend d n s.ratio).1⟩, 1) := by unfold stepEnd; rw [if_neg (not_not_intro u1), if_neg (not_not_intro b2), if_neg b3, if_neg c4, if_neg (not_not_intro m1)]
    rw [e1, e2]
    exact ⟨fun _ => ⟨rfl, vright_iff.2 ⟨v1, v2, rz⟩, ⟨s2.1, s2.2.1, hz⟩, m3⟩, (fun h => by cases h), .inl rfl⟩
  · have : stepEnd s d' r n' = lost (bend d' n' s.ratio).2 := by unfold stepEnd; rw [if_neg (not_not_intro c1), if_neg (not_not_intro c2), if_neg c3, if_neg c4, if_pos c5]
    rw [this, la]
    intro e
    have u := k2 e
    unfold stepEnd
    rw [if_neg (not_not_intro u1), if_neg (not_not_intro b2), if_neg b3, if_neg c4, if_pos (by omega), ls, if_pos u]
theorem near_kind (a b c : Iv) : (near a b c).2 = 0 ∨ (near a b c).2 = 1 ∨ (near a b c).2 = 2 := by
  unfold near
  split
  · simp
  · split
    · simp
    · split
      · simp
      · split <;> simp
theorem hitOf_kind (s : Surf) (r : Ray) : (hitOf s r).2.2 = 0 ∨ (hitOf s r).2.2 = 1 ∨ (hitOf s r).2.2 = 2 := by
  rw [hitOf_cases]
  have h1 : (hitRound s (r.back s.at_).o (r.back s.at_).d).2 = 0 ∨ (hitRound s (r.back s.at_).o (r.back s.at_).d).2 = 1 ∨ (hitRound s (r.back s.at_).o (r.back s.at_).d).2 = 2 := near_kind _ _ _
  generalize hitRound s (r.back s.at_).o (r.back s.at_).d = R at *
  generalize solve (faceAt s (r.back s.at_)) (bentT R.1) 20 = S at *
  unfold hitCases
  split
  · split
    · split
      · split <;> simp
      · simp
    · exact h1
  · split
    · split <;> simp
    · exact h1
theorem stepOf_sub {s : Surf} (hs : s.bent = false) {q r : Ray} (h : SubR q r) : StepSub (stepOf s q) (stepOf s r) := by
  unfold stepOf
  have hh := hitOf_sub hs h
  refine stepEnd_sub s h.2 hh (fun e => ?_) (hitOf_kind s r)
  have e1 : ∀ p, normalOf s p = normalFlat s p := fun p => by unfold normalOf; rw [if_neg (by simp [hs])]
  rw [e1, e1]
  exact normalFlat_sub s (hh.1 e).2.2.2.2
end Go.Proofs.YtlbmjajjldfigaaGreat
