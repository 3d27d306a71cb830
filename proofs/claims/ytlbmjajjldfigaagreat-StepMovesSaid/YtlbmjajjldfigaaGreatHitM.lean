/-
  Where rays meet faces: the place is on the face; smaller rays meet what larger ones do; in plain Lean.
-/
import Derived.Test.YtlbmjajjldfigaaGreatFaceM
namespace Go.Proofs.YtlbmjajjldfigaaGreat
open Go
set_option linter.unusedVariables false
set_option linter.unusedSimpArgs false

theorem inv_nat {N : Nat} (hN : 0 < N) : (1 : Rat) / N * N = 1 ∧ 0 ≤ (1 : Rat) / N := by
  have hN' : (0 : Rat) < N := Rat.natCast_pos.2 hN
  have e : (1 : Rat) / N * N = 1 := Rat.div_mul_cancel (by grind)
  refine ⟨e, ?_⟩
  refine Rat.le_of_mul_le_mul_right (c := (N : Rat)) ?_ hN'
  rw [e]; grind
theorem inv_small {N : Nat} (hN : 0 < N) {c d : Rat} (hd : 0 < d) (h : c / d ≤ N) : c * (1 / (N : Rat)) ≤ d := by
  obtain ⟨i1, i2⟩ := inv_nat hN
  have e : c / d * d = c := Rat.div_mul_cancel (by grind)
  have h1 := rmulR (c := d) (by grind) h
  rw [e] at h1
  have h2 := rmulR i2 h1
  have : (N : Rat) * d * (1 / (N : Rat)) = 1 / (N : Rat) * N * d := by grind
  rw [this, i1] at h2
  grind
theorem small_end {n X : Rat} (hn : n * 1427247692705959881058285969449495136382746624 = 1) (h0 : 0 ≤ n)
    (h : X ≤ 65536 * (16384 * (65536 * (16384 * 16384 * (65536 * (65536 * (16384 * n))) + n)) + 65536 * (65536 * (16384 * n)))) : 65536 * X < 1 := by grind
/-- What the rounds tell lies where they began. -/
theorem go_sub (F : Iv → Iv × Iv) : ∀ (k : Nat) {t r : Iv} {sure : Bool}, t.right = true → solveGo F k t sure = (r, 1) → r.right = true ∧ t.lo ≤ r.lo ∧ r.hi ≤ t.hi
  | 0, t, r, sure, ht, h => by
    rw [solveGo] at h
    split at h
    · cases h; exact ⟨ht, Int.le_refl _, Int.le_refl _⟩
    · cases h
  | k + 1, t, r, sure, ht, h => by
    obtain ⟨_, m0, m1, m2⟩ := mid_in ht
    obtain ⟨_, sr1, sr2⟩ := split_in m0
    have b := right_bd ht
    have e1 : Iv.of t.lo t.mid = ⟨t.lo, t.mid, false⟩ := of_eq ⟨⟨numIn_iff.2 (by omega), numIn_iff.2 (by omega)⟩, by omega⟩
    have e2 : Iv.of t.mid t.hi = ⟨t.mid, t.hi, false⟩ := of_eq ⟨⟨numIn_iff.2 (by omega), numIn_iff.2 (by omega)⟩, by omega⟩
    have s1 : t.split.1 = ⟨t.lo, t.mid, false⟩ := by unfold Iv.split; rw [if_pos ht]; exact e1
    have s2 : t.split.2 = ⟨t.mid, t.hi, false⟩ := by unfold Iv.split; rw [if_pos ht]; exact e2
    have next : ∀ t' s', t'.right = true → t.lo ≤ t'.lo → t'.hi ≤ t.hi → solveGo F k t' s' = (r, 1) → r.right = true ∧ t.lo ≤ r.lo ∧ r.hi ≤ t.hi := by
      intro t' s' h1 h2 h3 h4
      obtain ⟨a1, a2, a3⟩ := go_sub F k h1 h4
      exact ⟨a1, by omega, by omega⟩
    rw [solveGo] at h
    unfold solveRound at h
    by_cases c : (nextN F t).no = true
    · rw [if_pos c] at h
      by_cases c1 : without F t.split.1 = true
      · rw [if_pos c1] at h
        exact next _ _ sr2 (by rw [s2]; exact m1) (by rw [s2]; exact Int.le_refl _) h
      · rw [if_neg c1] at h
        by_cases c2 : without F t.split.2 = true
        · rw [if_pos c2] at h
          exact next _ _ sr1 (by rw [s1]; exact Int.le_refl _) (by rw [s1]; exact m2) h
        · rw [if_neg c2] at h; cases h
    · rw [if_neg c] at h
      by_cases c1 : (t.meet (nextN F t)).no = true
      · rw [if_pos c1] at h; cases h
      · rw [if_neg c1] at h
        by_cases c2 : t.meet (nextN F t) = t
        · rw [if_pos c2] at h
          have : r = t := by
            dsimp only at h
            split at h
            · cases h; rfl
            · cases h
          rw [this]
          exact ⟨ht, Int.le_refl _, Int.le_refl _⟩
        · rw [if_neg c2] at h
          have mr := clean_right (meet_clean t (nextN F t)) (by simpa using c1)
          have mb : t.lo ≤ (t.meet (nextN F t)).lo ∧ (t.meet (nextN F t)).hi ≤ t.hi := by
            unfold Iv.meet at mr ⊢
            split at mr
            · rename_i hb
              rw [if_pos hb, (of_right mr).2]
              dsimp only
              omega
            · cases mr
          exact next _ _ mr mb.1 mb.2 h
def roundsP : Rat := 4294967296 ^ 20
theorem roundsP_pos : 1 ≤ roundsP := pow_ge1 20
theorem solve_go {F : Iv → Iv × Iv} {t : Iv} {r : Iv} (h : solve F t 20 = (r, 1)) : t.right = true ∧ solveGo F 20 t false = (r, 1) := by
  unfold solve at h
  split at h
  · rename_i ht; exact ⟨ht, h⟩
  · cases h
theorem bentT_sub {a b : Iv} (h : Sub a b) (hb : b.right = true) : Sub (bentT a) (bentT b) := by
  obtain ⟨a1, a2, a3⟩ := h hb
  have x := right_bd a1
  have y := right_bd hb
  unfold bentT
  rw [wr (by omega), wr (by omega), wr (by omega), wr (by omega)]
  exact of_sub (by omega) (by omega) (by omega)
/-- A ray meets a bent face: how. -/
theorem hit_bent {s : Surf} {r : Ray} (hb : s.bent = true) (h : (hitOf s r).2.2 = 1) :
    (hitRound s (r.back s.at_).o (r.back s.at_).d).2 = 1 ∧ solve (faceAt s (r.back s.at_)) (bentT (hitRound s (r.back s.at_).o (r.back s.at_).d).1) 20 = ((hitOf s r).1, 1) ∧
      (hitOf s r).2.1 = along (r.back s.at_) (hitOf s r).1 ∧ (along (r.back s.at_) (hitOf s r).1).right = true := by
  rw [hitOf_cases] at h ⊢
  generalize hitRound s (r.back s.at_).o (r.back s.at_).d = R at *
  generalize hS : solve (faceAt s (r.back s.at_)) (bentT R.1) 20 = S at *
  unfold hitCases at h ⊢
  simp only [hb, if_true] at h ⊢
  by_cases c1 : R.2 = 1
  · rw [if_pos c1] at h ⊢
    by_cases c2 : S.2 = 1
    · rw [if_pos c2] at h ⊢
      by_cases c3 : (along (r.back s.at_) S.1).right = true
      · rw [if_pos c3]
        exact ⟨c1, by rw [← c2], rfl, c3⟩
      · rw [if_neg c3] at h; cases h
    · rw [if_neg c2] at h; cases h
  · rw [if_neg c1] at h
    exact absurd h c1
theorem hit_flat {s : Surf} {r : Ray} (hb : ¬ s.bent = true) (h : (hitOf s r).2.2 = 1) :
    (hitRound s (r.back s.at_).o (r.back s.at_).d).2 = 1 ∧ (hitRound s (r.back s.at_).o (r.back s.at_).d).1 = (hitOf s r).1 ∧
      (hitOf s r).2.1 = along (r.back s.at_) (hitOf s r).1 ∧ (along (r.back s.at_) (hitOf s r).1).right = true := by
  rw [hitOf_cases] at h ⊢
  generalize hitRound s (r.back s.at_).o (r.back s.at_).d = R at *
  unfold hitCases at h ⊢
  rw [if_neg hb] at h ⊢
  by_cases c1 : R.2 = 1
  · rw [if_pos c1] at h ⊢
    by_cases c3 : (along (r.back s.at_) R.1).right = true
    · rw [if_pos c3]
      exact ⟨c1, rfl, rfl, c3⟩
    · rw [if_neg c3] at h; cases h
  · rw [if_neg c1] at h
    exact absurd h c1
/-- What is told of a bent face has a place that is nearly on it. -/
theorem bent_zero {s : Surf} {r : Ray} (hb : s.bent = true) {p : Par} (hp : ParIn p s r) {t a : Iv} (h : solve (faceAt s r) t 20 = (a, 1)) {d : Rat} (hd : 0 < d) (hd2 : 8589934592 * (d * roundsP) < 1) :
    ∀ N : Nat, 0 < N → 17592186044416 * (1 / (N : Rat)) ≤ d → ∃ z, In z a ∧ p.g N z ≤ d * roundsP ∧ -(d * roundsP) ≤ p.g N z := by
  intro N hN he
  obtain ⟨ht, hg⟩ := solve_go h
  exact sure_go (rep_face hN hb hp) 20 ht hd (by grind) hd2 hg
/-- Of a bent face both places meet. -/
theorem hit_meet {s : Surf} {q r : Ray} (hb : s.bent = true) (hs : SubR q r) (hr : (hitOf s r).2.2 = 1) (hq : (hitOf s q).2.2 = 1) :
    (hitOf s r).1.right = true ∧ (hitOf s q).1.right = true ∧ (hitOf s r).1.lo ≤ (hitOf s q).1.hi ∧ (hitOf s q).1.lo ≤ (hitOf s r).1.hi := by
  obtain ⟨r1, r2, r3, r4⟩ := hit_bent hb hr
  obtain ⟨q1, q2, q3, q4⟩ := hit_bent hb hq
  have hsub := back_subR hs s.at_
  obtain ⟨n1, n2⟩ := hitRound_sub s hsub.1 hsub.2
  obtain ⟨_, m1, m2⟩ := n1 r1
  have hbt := bentT_sub m2 m1
  have hp := low_in s (q.back s.at_)
  generalize Par.low s (q.back s.at_) = p at *
  generalize bentT (hitRound s (r.back s.at_).o (r.back s.at_).d).1 = T at *
  generalize bentT (hitRound s (q.back s.at_).o (q.back s.at_).d).1 = U at *
  generalize (hitOf s r).1 = a at *
  generalize (hitOf s q).1 = b at *
  obtain ⟨hT, gT⟩ := solve_go r2
  obtain ⟨hU, gU⟩ := solve_go q2
  have hP := roundsP_pos
  have hPP : (0 : Rat) < roundsP * roundsP := Rat.mul_pos (by grind) (by grind)
  have hPP1 : 1 ≤ roundsP * roundsP := by have := rmulL (c := roundsP) (by grind) hP; grind
  have dd : ∃ d : Rat, 0 < d ∧ 8589934592 * (d * roundsP * roundsP) < 1 := by
    refine ⟨1 / (8589934593 * (roundsP * roundsP)), ?_, ?_⟩
    · have e : (1 : Rat) / (8589934593 * (roundsP * roundsP)) * (8589934593 * (roundsP * roundsP)) = 1 := Rat.div_mul_cancel (by grind)
      refine Rat.lt_of_mul_lt_mul_right (c := 8589934593 * (roundsP * roundsP)) ?_ (by grind)
      rw [e]; grind
    · have e : (1 : Rat) / (8589934593 * (roundsP * roundsP)) * (8589934593 * (roundsP * roundsP)) = 1 := Rat.div_mul_cancel (by grind)
      generalize (1 : Rat) / (8589934593 * (roundsP * roundsP)) = d at *
      grind
  obtain ⟨d, d0, d1⟩ := dd
  have d2 : d ≤ d * roundsP := by have := rmulL (c := d) (by grind) hP; grind
  have d3 : d * roundsP ≤ d * roundsP * roundsP := by have := rmulL (c := d * roundsP) (by grind) hP; grind
  obtain ⟨N, hN, hq⟩ := arch (17592186044416 / d)
  obtain ⟨i1, i2⟩ := inv_nat hN
  have he : 17592186044416 * (1 / (N : Rat)) ≤ d := inv_small hN d0 hq
  obtain ⟨z, z1, z2, z3⟩ := bent_zero hb hp q2 d0 (by grind) N hN he
  obtain ⟨u1, u2, u3⟩ := go_sub _ 20 hU gU
  have zU : In z U := ⟨hU, Rat.le_trans (ri_le u2) z1.2.1, Rat.le_trans z1.2.2 (ri_le u3)⟩
  have zT : In z T := in_sub hbt hT zU
  obtain ⟨v, v1, v2, _⟩ := keep_go (rep_face hN hb (hp.sub hsub)) 20 zT z1 z2 z3 (by grind) (by show 8589934592 * (d * roundsP * roundsP) < 1; exact d1) gT
  have := meet_of v1 v2 (by grind) (by grind)
  exact ⟨v1.1, v2.1, this⟩
/-- Of a bent face: what is told for sure of one is not denied of the other. -/
theorem hit_kinds (s : Surf) {q r : Ray} (hs : SubR q r) : ((hitOf s r).2.2 = 1 → (hitOf s q).2.2 ≠ 2) ∧ ((hitOf s r).2.2 = 2 → (hitOf s q).2.2 ≠ 1) := by
  have hsub := back_subR hs s.at_
  obtain ⟨n1, n2⟩ := hitRound_sub s hsub.1 hsub.2
  rw [hitOf_cases, hitOf_cases]
  have e1 : (r.back s.at_).d = r.d := rfl
  generalize hitRound s (r.back s.at_).o (r.back s.at_).d = R at *
  generalize hitRound s (q.back s.at_).o (q.back s.at_).d = Q at *
  have kR : ∀ (b : Bool) (R S : Iv × Int) (x : Ray), ((hitCases b R S x).2.2 = 1 → R.2 = 1) ∧ ((hitCases b R S x).2.2 = 2 → R.2 = 2) ∧ (R.2 = 2 → (hitCases b R S x).2.2 = 2) := by
    intro b R S x
    unfold hitCases
    by_cases c : R.2 = 1
    · rw [if_pos c, if_pos c]
      refine ⟨fun _ => c, ?_, by omega⟩
      split
      · split
        · split <;> simp
        · simp
      · split <;> simp
    · rw [if_neg c, if_neg c]
      split <;> simp
  obtain ⟨a1, a2, a3⟩ := kR s.bent R (solve (faceAt s (r.back s.at_)) (bentT R.1) 20) (r.back s.at_)
  obtain ⟨b1, b2, b3⟩ := kR s.bent Q (solve (faceAt s (q.back s.at_)) (bentT Q.1) 20) (q.back s.at_)
  constructor
  · intro h h'
    have := (n1 (a1 h)).1
    have := b2 h'
    omega
  · intro h h'
    have := n2 (a2 h)
    have := b1 h'
    omega
theorem in_bd {x : Rat} {a : Iv} (hx : In x a) : x ≤ 16384 ∧ -16384 ≤ x := In.bd hx
theorem abs_mul {x y A B : Rat} (hx : x ≤ A ∧ -A ≤ x) (hy : y ≤ B ∧ -B ≤ y) : x * y ≤ A * B ∧ -(A * B) ≤ x * y := by
  have hA : 0 ≤ A := by grind
  have hB : 0 ≤ B := by grind
  have h1 := rmulR hB hx.1
  have h2 := rmulR hB hx.2
  have k1 := rmulL hA hy.1
  have k2 := rmulL hA hy.2
  constructor
  · refine rbox_ge ⟨hx.2, hx.1⟩ ⟨hy.2, hy.1⟩ ?_ ?_ ?_ ?_ <;> grind
  · refine rbox_le ⟨hx.2, hx.1⟩ ⟨hy.2, hy.1⟩ ?_ ?_ ?_ ?_ <;> grind
def bigN : Nat := 1427247692705959881058285969449495136382746624
/-- Where a ray meets a face that is not bent the face is. -/
theorem round_on {s : Surf} {r : Ray} (hb : ¬ s.bent = true) (hr : (hitRound s r.o r.d).2 = 1) (hal : (along r (hitRound s r.o r.d).1).right = true)
    (hz : (sagOf s ((along r (hitRound s r.o r.d).1).x.sqr.add (along r (hitRound s r.o r.d).1).y.sqr)).1.right = true)
    (hf : ((Iv.point 65536).sub (s.curve.mul (s.conic.mul (along r (hitRound s r.o r.d).1).z))).right = true)
    (hf0 : 0 < ((Iv.point 65536).sub (s.curve.mul (s.conic.mul (along r (hitRound s r.o r.d).1).z))).lo) :
    ∃ x y, In x (sagOf s ((along r (hitRound s r.o r.d).1).x.sqr.add (along r (hitRound s r.o r.d).1).y.sqr)).1 ∧ In y (along r (hitRound s r.o r.d).1).z ∧ 65536 * (x - y) < 1 ∧ 65536 * (y - x) < 1 := by
  have hp := low_in s r
  generalize Par.low s r = p at *
  have hN : 0 < bigN := by decide
  obtain ⟨i1, i2⟩ := inv_nat hN
  have mA := m_mul hp.c (m_add (m_add (m_sqr hp.dx) (m_sqr hp.dy)) (m_mul hp.k (m_sqr hp.dz)))
  have mB := m_sub (m_mul hp.c (m_add (m_add (m_mul hp.ox hp.dx) (m_mul hp.oy hp.dy)) (m_mul hp.k (m_mul hp.oz hp.dz)))) hp.dz
  have mC := m_sub (m_mul hp.c (m_add (m_add (m_sqr hp.ox) (m_sqr hp.oy)) (m_mul hp.k (m_sqr hp.oz)))) (m_times2 hp.oz)
  have hA : p.c * (p.dx * p.dx + p.dy * p.dy + p.k * (p.dz * p.dz)) = p.c * (p.dx * p.dx + p.dy * p.dy + p.k * (p.dz * p.dz)) := rfl
  unfold hitRound near at hr hal hz hf hf0 ⊢
  generalize s.curve.mul ((r.d.x.sqr.add r.d.y.sqr).add (s.conic.mul r.d.z.sqr)) = a at *
  generalize (s.curve.mul (((r.o.x.mul r.d.x).add (r.o.y.mul r.d.y)).add (s.conic.mul (r.o.z.mul r.d.z)))).sub r.d.z = b at *
  generalize (s.curve.mul ((r.o.x.sqr.add r.o.y.sqr).add (s.conic.mul r.o.z.sqr))).sub (r.o.z.times 2) = c at *
  have mD := m_sub (m_sqr mB) (m_mul mA mC)
  by_cases c1 : (b.sqr.sub (a.mul c)).no = true
  · simp [c1] at hr
  by_cases c2 : (b.sqr.sub (a.mul c)).hi < 0
  · simp [c1, c2] at hr
  by_cases c3 : (b.sqr.sub (a.mul c)).lo < 0
  · simp [c1, c2, c3] at hr
  by_cases c4 : (c.div ((b.sqr.sub (a.mul c)).root.sub b)).no = true
  · simp [c1, c2, c3, c4] at hr
  rw [if_neg c1, if_neg c2, if_neg c3, if_neg c4] at hal hz hf hf0 ⊢
  clear hr
  have rD := clean_right (sub_clean _ _) (by simpa using c1)
  have rT := clean_right (div_clean _ _) (by simpa using c4)
  have inD := mD.in rD
  have D0 : 0 ≤ (p.c * ((p.ox * p.dx + p.oy * p.dy) + p.k * (p.oz * p.dz)) - p.dz) * (p.c * ((p.ox * p.dx + p.oy * p.dy) + p.k * (p.oz * p.dz)) - p.dz) - p.c * (p.dx * p.dx + p.dy * p.dy + p.k * (p.dz * p.dz)) * (p.c * (p.ox * p.ox + p.oy * p.oy + p.k * (p.oz * p.oz)) - p.oz * 2) := by
    have : (0 : Rat) ≤ ((b.sqr.sub (a.mul c)).lo : Rat) := ri_le (show (0 : Int) ≤ _ by omega)
    have := inD.2.1
    grind
  have er := rsq_err hN D0 (by have := (in_bd inD).1; grind)
  have mS := m_root hN mD
  have mV := m_sub mS mB
  have mT := m_div mC mV
  obtain ⟨rC, rV, hV⟩ := div_right rT
  have bC := in_bd (mC.in rC)
  have v1 := inv_ge (mV.in rV) hV
  generalize hDe : (p.c * ((p.ox * p.dx + p.oy * p.dy) + p.k * (p.oz * p.dz)) - p.dz) * (p.c * ((p.ox * p.dx + p.oy * p.dy) + p.k * (p.oz * p.dz)) - p.dz) - p.c * (p.dx * p.dx + p.dy * p.dy + p.k * (p.dz * p.dz)) * (p.c * (p.ox * p.ox + p.oy * p.oy + p.k * (p.oz * p.oz)) - p.oz * 2) = D at *
  generalize rsq bigN D = S at *
  have tV : (p.c * (p.ox * p.ox + p.oy * p.oy + p.k * (p.oz * p.oz)) - p.oz * 2) / (S - (p.c * ((p.ox * p.dx + p.oy * p.dy) + p.k * (p.oz * p.dz)) - p.dz)) * (S - (p.c * ((p.ox * p.dx + p.oy * p.dy) + p.k * (p.oz * p.dz)) - p.dz)) = (p.c * (p.ox * p.ox + p.oy * p.oy + p.k * (p.oz * p.oz)) - p.oz * 2) := Rat.div_mul_cancel (by grind)
  generalize (p.c * (p.ox * p.ox + p.oy * p.oy + p.k * (p.oz * p.oz)) - p.oz * 2) / (S - (p.c * ((p.ox * p.dx + p.oy * p.dy) + p.k * (p.oz * p.dz)) - p.dz)) = t at *
  generalize c.div ((b.sqr.sub (a.mul c)).root.sub b) = T at *
  have eQ : p.c * (p.w t + p.k * (p.z t * p.z t)) - 2 * p.z t = p.c * (p.dx * p.dx + p.dy * p.dy + p.k * (p.dz * p.dz)) * (t * t) + 2 * (p.c * ((p.ox * p.dx + p.oy * p.dy) + p.k * (p.oz * p.dz)) - p.dz) * t + (p.c * (p.ox * p.ox + p.oy * p.oy + p.k * (p.oz * p.oz)) - p.oz * 2) := by
    unfold Par.w Par.x Par.y Par.z; grind
  generalize p.c * (p.dx * p.dx + p.dy * p.dy + p.k * (p.dz * p.dz)) = A at *
  generalize (p.c * ((p.ox * p.dx + p.oy * p.dy) + p.k * (p.oz * p.dz)) - p.dz) = B at *
  generalize (p.c * (p.ox * p.ox + p.oy * p.oy + p.k * (p.oz * p.oz)) - p.oz * 2) = C at *
  have hn : (1 : Rat) / bigN * 1427247692705959881058285969449495136382746624 = 1 := i1
  generalize (1 : Rat) / bigN = n at *
  -- the square sum at t
  have q2 : (A * (t * t) + 2 * B * t + C) * ((S - B) * (S - B)) = C * (S * S - D) := by
    have k1 : t * t * ((S - B) * (S - B)) = C * C := by rw [← tV]; grind
    have k2 : t * ((S - B) * (S - B)) = C * (S - B) := by
      have : t * ((S - B) * (S - B)) = t * (S - B) * (S - B) := by grind
      rw [this, tV]
    have : (A * (t * t) + 2 * B * t + C) * ((S - B) * (S - B)) = A * (t * t * ((S - B) * (S - B))) + 2 * B * (t * ((S - B) * (S - B))) + C * ((S - B) * (S - B)) := by grind
    rw [this, k1, k2, ← hDe]
    grind
  rw [← eQ] at q2
  obtain ⟨ax, ay, az⟩ := along_m hp mT
  obtain ⟨vx, vy, vz⟩ := vright_iff.1 hal
  have iz := az.in vz
  have bz := in_bd iz
  have mw := w_m hp mT
  have iS := (sagOf_m hN hp mw).in hz
  have eSag : p.sag bigN s.bent (p.w t) = p.c * p.w t / (1 + p.s bigN (p.w t)) := by
    unfold Par.sag Par.sagR; rw [if_neg hb]
  have mF := (m_sub m_one (m_mul hp.c (m_mul hp.k az))).in hf
  have hF1 : 1 ≤ 65536 * (1 - p.c * (p.k * p.z t)) := by
    have := ri_le (show (1 : Int) ≤ _ from hf0)
    have e1 : ((1 : Int) : Rat) = 1 := rfl
    have := mF.2.1
    grind
  have rcurve : s.curve.right = true ∧ s.conic.right = true := by
    have h1 := hf
    unfold Iv.sub at h1
    have := (add_right h1).2
    rw [neg_right] at this
    exact ⟨(mul_right this).1, (mul_right (mul_right this).2).1⟩
  have bc := in_bd (hp.c.in rcurve.1)
  have bk := in_bd (hp.k.in rcurve.2)
  have hroot : ((Iv.point 65536).sub ((s.conic.mul s.curve.sqr).mul ((along r T).x.sqr.add (along r T).y.sqr))).root.right = true := by
    have h1 := hz
    unfold sagOf sagPre at h1
    rw [if_neg hb] at h1
    split at h1
    · cases h1
    · exact (add_right (div_right h1).2.1).2
  obtain ⟨rq, rq0⟩ := root_right hroot
  have iq := (q_m hp mw).in rq
  have q0 : 0 ≤ p.q (p.w t) := by
    have : (0 : Rat) ≤ (((Iv.point 65536).sub ((s.conic.mul s.curve.sqr).mul ((along r T).x.sqr.add (along r T).y.sqr))).lo : Rat) := ri_le rq0
    have := iq.2.1
    grind
  have es := rsq_err hN q0 (by have := (in_bd iq).1; grind)
  have es0 := (rsq_spec hN q0).1
  refine ⟨_, _, iS, iz, ?_⟩
  rw [eSag]
  have hn' : (1 : Rat) / bigN * 1427247692705959881058285969449495136382746624 = 1 := (inv_nat hN).1
  have n0 : 0 ≤ (1 : Rat) / bigN := (inv_nat hN).2
  have hs' : p.s bigN (p.w t) = rsq bigN (p.q (p.w t)) := rfl
  rw [← hs'] at es es0
  have hq' : p.q (p.w t) = 1 - p.k * (p.c * p.c) * p.w t := rfl
  rw [hq'] at es
  have sg : p.c * p.w t / (1 + p.s bigN (p.w t)) * (1 + p.s bigN (p.w t)) = p.c * p.w t := Rat.div_mul_cancel (by grind)
  generalize p.c * p.w t / (1 + p.s bigN (p.w t)) = sag at *
  generalize p.s bigN (p.w t) = u at *
  generalize p.w t = w at *
  generalize p.z t = z at *
  have hn2 : (1 : Rat) / bigN = n := by
    have e1 : (1 : Rat) / bigN * 1427247692705959881058285969449495136382746624 = n * 1427247692705959881058285969449495136382746624 := by rw [hn', hn]
    grind
  rw [hn2] at es
  clear hn' hn2
  generalize p.c = c at *
  generalize p.k = k at *
  generalize hQ : c * (w + k * (z * z)) - 2 * z = Q at *
  -- how far it is from nothing
  have bQ : Q ≤ 65536 * (65536 * (16384 * n)) ∧ -Q ≤ 65536 * (65536 * (16384 * n)) := by
    have hx : Q * (S - B) * (S - B) ≤ 16384 * n ∧ -(16384 * n) ≤ Q * (S - B) * (S - B) := by
      have e : Q * (S - B) * (S - B) = C * (S * S - D) := by rw [← q2]; grind
      rw [e]
      exact abs_mul (x := C) (y := S * S - D) (A := 16384) (B := n) bC (by grind)
    have h1 := quot_bd v1 hx.1 hx.2
    exact quot_bd v1 h1.1 (by grind)
  have bkc := abs_mul bk bc
  have bkcQ := abs_mul bkc (y := Q) (B := 65536 * (65536 * (16384 * n))) (by grind)
  have eu : (u - (1 - c * (k * z))) * (u + (1 - c * (k * z))) = -(k * c * Q) - (1 - k * (c * c) * w - u * u) := by rw [← hQ]; grind
  have hug : 1 ≤ 65536 * (u + (1 - c * (k * z))) := by grind
  have bu := quot_bd (s := u + (1 - c * (k * z))) (w := u - (1 - c * (k * z))) (d := 16384 * 16384 * (65536 * (65536 * (16384 * n))) + n) (.inl hug) (by rw [eu]; grind) (by rw [eu]; grind)
  have ez : (sag - z) * (1 + u) = z * (1 - c * (k * z) - u) + Q := by rw [← hQ]; grind
  have bzz := abs_mul (x := z) (y := 1 - c * (k * z) - u) (A := 16384) (B := 65536 * (16384 * 16384 * (65536 * (65536 * (16384 * n))) + n)) bz (by grind)
  have bs := quot_bd (s := 1 + u) (w := sag - z) (d := 16384 * (65536 * (16384 * 16384 * (65536 * (65536 * (16384 * n))) + n)) + 65536 * (65536 * (16384 * n))) (.inl (by grind)) (by rw [ez]; grind) (by rw [ez]; grind)
  exact ⟨small_end hn i2 bs.1, small_end hn i2 (by grind)⟩
theorem sagOf_right {s : Surf} {a : Iv} (h : (sagOf s a).1.right = true) : ¬ ((sagPre s a).1.no = true ∨ (sagPre s a).2.no = true) := by
  intro c
  unfold sagOf at h
  rw [if_pos c] at h
  cases h
/-- Where a ray meets a face, ahead of its widest, the face is. -/
theorem hit_on {s : Surf} {r : Ray} (hr : (hitOf s r).2.2 = 1) (hz : (sagOf s ((hitOf s r).2.1.x.sqr.add (hitOf s r).2.1.y.sqr)).1.right = true)
    (hf : s.bent = true ∨ (((Iv.whole 1).sub (s.curve.mul (s.conic.mul (hitOf s r).2.1.z))).right = true ∧ 0 < ((Iv.whole 1).sub (s.curve.mul (s.conic.mul (hitOf s r).2.1.z))).lo)) :
    ((sagOf s ((hitOf s r).2.1.x.sqr.add (hitOf s r).2.1.y.sqr)).1.meet (hitOf s r).2.1.z).right = true := by
  have main : ∃ x y, In x (sagOf s ((hitOf s r).2.1.x.sqr.add (hitOf s r).2.1.y.sqr)).1 ∧ In y (hitOf s r).2.1.z ∧ 65536 * (x - y) < 1 ∧ 65536 * (y - x) < 1 := by
    by_cases hb : s.bent = true
    · obtain ⟨r1, r2, r3, r4⟩ := hit_bent hb hr
      have hp := low_in s (r.back s.at_)
      generalize Par.low s (r.back s.at_) = p at *
      rw [r3] at hz ⊢
      generalize (hitOf s r).1 = a at *
      have hP := roundsP_pos
      have dd : ∃ d : Rat, 0 < d ∧ 8589934592 * (d * roundsP) < 1 := by
        refine ⟨1 / (8589934593 * roundsP), ?_, ?_⟩
        · have e : (1 : Rat) / (8589934593 * roundsP) * (8589934593 * roundsP) = 1 := Rat.div_mul_cancel (by grind)
          refine Rat.lt_of_mul_lt_mul_right (c := 8589934593 * roundsP) ?_ (by grind)
          rw [e]; grind
        · have e : (1 : Rat) / (8589934593 * roundsP) * (8589934593 * roundsP) = 1 := Rat.div_mul_cancel (by grind)
          generalize (1 : Rat) / (8589934593 * roundsP) = d at *
          grind
      obtain ⟨d, d0, d1⟩ := dd
      obtain ⟨N, hN, hq⟩ := arch (17592186044416 / d)
      obtain ⟨i1, i2⟩ := inv_nat hN
      have he : 17592186044416 * (1 / (N : Rat)) ≤ d := inv_small hN d0 hq
      obtain ⟨z, z1, z2, z3⟩ := bent_zero hb hp r2 d0 (by grind) N hN he
      obtain ⟨vx, vy, vz⟩ := vright_iff.1 r4
      have g1 := (along_m hp z1.m).2.2.in vz
      have g2 := (sagOf_m hN hp (w_m hp z1.m)).in hz
      have eg : p.g N z = p.z z - p.sag N s.bent (p.w z) := by unfold Par.g Par.sag; rw [if_pos hb]
      exact ⟨_, _, g2, g1, by grind, by grind⟩
    · obtain ⟨r1, r2, r3, r4⟩ := hit_flat hb hr
      obtain ⟨f1, f2⟩ := hf.resolve_left hb
      rw [r3] at hz f1 f2 ⊢
      rw [← r2] at r4 hz f1 f2 ⊢
      have e1 : Iv.whole 1 = Iv.point 65536 := rfl
      rw [e1] at f1 f2
      exact round_on hb r1 r4 hz f1 f2
  obtain ⟨x, y, hx, hy, h1, h2⟩ := main
  exact (meet_right hx.1 hy.1 (meet_of hx hy h1 h2)).2
end Go.Proofs.YtlbmjajjldfigaaGreat
