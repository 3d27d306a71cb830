/-
  Planes of air, one behind the other: a ray's line goes through; in plain Lean.
-/
import Derived.Test.YtapbnhnofcbkdaaStrA
namespace Go.Proofs.Ytapbnhnofcbkdaa
open Go
set_option linter.unusedVariables false
set_option linter.unusedSimpArgs false

/-- When the plane is met. -/
theorem time_air {s : Surf} {Z' : Int} (hs : Air s Z') {o d : V} {A B D L X Y w : Int} (hD : 0 < D) (dx : Cr d.x A L) (dy : Cr d.y B L) (dz : Cr d.z (D * 4294967296) L)
    (ox : Cr o.x X D) (oy : Cr o.y Y D) (oz : Cr o.z (-w) 1) (hk : (hitRound s o d).2 = 1) : Cr (hitRound s o d).1 (w * 65536 * L) (D * 4294967296) := by
  have c0 : Cr s.curve 0 1 := by rw [hs.2.1]; exact cr_point 0
  have k1 : Cr s.conic 65536 1 := by rw [hs.2.2.1]; exact cr_point 65536
  have hG : 0 < D * 4294967296 := by omega
  have a0 : Cr (s.curve.mul ((d.x.sqr.add d.y.sqr).add (s.conic.mul d.z.sqr))) 0 1 := cr_zero_mul c0 (cr_add (cr_add (cr_sqr dx) (cr_sqr dy)) (cr_mul k1 (cr_sqr dz)))
  have b0 : Cr ((s.curve.mul (((o.x.mul d.x).add (o.y.mul d.y)).add (s.conic.mul (o.z.mul d.z)))).sub d.z) (-(D * 4294967296)) L :=
    cr_zero_sub (cr_zero_mul c0 (cr_add (cr_add (cr_mul ox dx) (cr_mul oy dy)) (cr_mul k1 (cr_mul oz dz)))) dz
  have e0 : Cr ((s.curve.mul ((o.x.sqr.add o.y.sqr).add (s.conic.mul o.z.sqr))).sub (o.z.times 2)) (-(2 * (-w))) 1 :=
    cr_zero_sub (cr_zero_mul c0 (cr_add (cr_add (cr_sqr ox) (cr_sqr oy)) (cr_mul k1 (cr_sqr oz)))) (cr_times oz (by decide))
  unfold hitRound at hk ⊢
  generalize s.curve.mul ((d.x.sqr.add d.y.sqr).add (s.conic.mul d.z.sqr)) = a at *
  generalize (s.curve.mul (((o.x.mul d.x).add (o.y.mul d.y)).add (s.conic.mul (o.z.mul d.z)))).sub d.z = b at *
  generalize (s.curve.mul ((o.x.sqr.add o.y.sqr).add (s.conic.mul o.z.sqr))).sub (o.z.times 2) = c at *
  generalize D * 4294967296 = G at *
  have disc : Cr (b.sqr.sub (a.mul c)) (G * G) (L * L * 65536) := by
    have := cr_sub_zero (cr_sqr b0) (cr_zero_mul a0 e0)
    rwa [Int.neg_mul_neg] at this
  have root := cr_root (Int.le_of_lt hG) dz.1 disc
  have two : Cr ((b.sqr.sub (a.mul c)).root.sub b) (2 * G) L := cr_congr (cr_sub root b0) dz.1 (by
    rw [Int.neg_mul, Int.sub_neg, ← Int.two_mul, Int.mul_assoc, Int.mul_assoc, Int.mul_assoc])
  have t := cr_div e0 two (by omega)
  have t' : Cr (c.div ((b.sqr.sub (a.mul c)).root.sub b)) (w * 65536 * L) G := cr_congr t hG (by
    rw [show -(2 * -w) = 2 * w by omega, Int.one_mul]
    ac_rfl)
  unfold near at hk ⊢
  split at hk
  · cases hk
  · split at hk
    · cases hk
    · split at hk
      · cases hk
      · split at hk
        · cases hk
        · rename_i h1 h2 h3 h4
          rw [if_neg h1, if_neg h2, if_neg h3, if_neg h4]
          exact t'
/-- Where a line is at a time. -/
theorem along_air {r : Ray} {p p2 D L X Y u w : Int} {t : Iv} (hD : 0 < D) (dx : Cr r.d.x (p * 4294967296) L) (dy : Cr r.d.y (p2 * 4294967296) L) (dz : Cr r.d.z (D * 4294967296) L)
    (ox : Cr r.o.x X D) (oy : Cr r.o.y Y D) (oz : Cr r.o.z u 1) (ht : Cr t (w * 65536 * L) (D * 4294967296)) :
    Cr (along r t).x (X + p * w) D ∧ Cr (along r t).y (Y + p2 * w) D ∧ Cr (along r t).z (u + w) 1 := by
  have key : ∀ {d : Iv} {p : Int}, Cr d (p * 4294967296) L → Cr (d.mul t) (p * w) D := fun {d p} h => cr_congr (cr_mul h ht) hD (by ac_rfl)
  have add : ∀ {o v : Iv} {X q : Int}, Cr o X D → Cr v q D → Cr (o.add v) (X + q) D := fun {o v X q} h1 h2 => cr_congr (cr_add h1 h2) hD (by rw [← Int.add_mul, Int.mul_assoc])
  refine ⟨add ox (key dx), add oy (key dy), ?_⟩
  have z1 : Cr (r.d.z.mul t) w 1 := cr_congr (key dz) (by decide) (by rw [Int.mul_one, Int.mul_comm])
  exact cr_congr (cr_add oz z1) (by decide) (by rw [Int.mul_one, Int.mul_one, Int.mul_one, Int.mul_one, Int.mul_one])
theorem hit_air {s : Surf} {Z' : Int} (hs : Air s Z') {r : Ray} {p p2 D L X Y Z : Int} (hD : 0 < D) (h : OnLine r p p2 D L X Y Z) (hk : (hitOf s r).2.2 = 1) :
    Cr (hitOf s r).2.1.x (X + p * (Z' - Z)) D ∧ Cr (hitOf s r).2.1.y (Y + p2 * (Z' - Z)) D ∧ Cr (hitOf s r).2.1.z 0 1 := by
  have oz : Cr (r.back s.at_).o.z (-(Z' - Z)) 1 := by
    rw [hs.2.2.2.2]
    exact cr_congr (cr_sub h.oz (cr_point Z')) (by decide) (by omega)
  rw [hitOf_flat hs.1] at hk ⊢
  unfold hitFlat hitEnd at hk ⊢
  split at hk
  · rename_i h1; exact absurd hk h1
  · rename_i h1
    have h1' : (hitRound s (r.back s.at_).o r.d).2 = 1 := by omega
    rw [if_neg h1]
    split at hk
    · rename_i h2
      rw [if_pos h2]
      have t := time_air hs hD h.dx h.dy h.dz (o := (r.back s.at_).o) h.ox h.oy oz h1'
      have := along_air (r := r.back s.at_) hD h.dx h.dy h.dz h.ox h.oy oz t
      refine ⟨this.1, this.2.1, ?_⟩
      have z := this.2.2
      rwa [Int.add_left_neg] at z
    · cases hk
theorem lost_ne (is : Int) : ¬ (lost is).2 = 1 := by
  rcases lost_kind is with h | h <;> rw [h] <;> decide
theorem step_air {s : Surf} {Z' : Int} (hs : Air s Z') {r : Ray} {p p2 D L X Y Z : Int} (hD : 0 < D) (h : OnLine r p p2 D L X Y Z) (hk : (stepOf s r).2 = 1) :
    OnLine (stepOf s r).1 p p2 D L (X + p * (Z' - Z)) (Y + p2 * (Z' - Z)) Z' := by
  unfold stepOf at hk ⊢
  have hn : normalOf s (hitOf s r).2.1 = normalFlat s (hitOf s r).2.1 := by unfold normalOf; rw [if_neg (by rw [hs.1]; decide)]
  have hr : Cr s.ratio 65536 1 := by rw [hs.2.2.2.1]; exact cr_point 65536
  have ha : Cr s.at_ Z' 1 := by rw [hs.2.2.2.2]; exact cr_point Z'
  unfold stepEnd at hk ⊢
  by_cases c1 : (hitOf s r).2.2 ≠ 1
  · rw [if_pos c1] at hk; exact absurd hk (lost_ne _)
  rw [if_neg c1] at hk ⊢
  obtain ⟨hx, hy, hz⟩ := hit_air hs hD h (by omega)
  have hz2 : Cr ((hitOf s r).2.1.z.add s.at_) Z' 1 := cr_zero_add hz ha
  split at hk
  · exact absurd hk (lost_ne _)
  · rename_i c2
    rw [if_neg c2]
    split at hk
    · exact absurd hk (lost_ne _)
    · rename_i c3
      rw [if_neg c3]
      split at hk
      · rename_i c4
        rw [if_pos c4]
        exact ⟨h.dx, h.dy, h.dz, hx, hy, hz2⟩
      · rename_i c4
        rw [if_neg c4]
        split at hk
        · exact absurd hk (lost_ne _)
        · rename_i c5
          rw [if_neg c5]
          rw [hn] at c5 ⊢
          obtain ⟨n1, n2, n3⟩ := normal_air hs hx hy hz
          obtain ⟨d1, d2, d3⟩ := bend_air (by omega) h.dx h.dy h.dz n1 n2 n3 hr (by omega)
          exact ⟨d1, d2, d3, hx, hy, hz2⟩
theorem trace_air {p p2 D L : Int} (hD : 0 < D) : ∀ (l : List Surf), (∀ s ∈ l, ∃ Z, Air s Z) → ∀ (i : Int) (r : Ray) (X Y Z : Int), OnLine r p p2 D L X Y Z → (traceGo l i r).1 = 1 →
    ∃ Z', OnLine (traceGo l i r).2.2 p p2 D L (X + p * (Z' - Z)) (Y + p2 * (Z' - Z)) Z'
  | [], _, i, r, X, Y, Z, h, _ => ⟨Z, by
    rw [Int.sub_self, Int.mul_zero, Int.mul_zero, Int.add_zero, Int.add_zero]
    exact h⟩
  | s :: l, hl, i, r, X, Y, Z, h, hk => by
    rw [traceGo] at hk ⊢
    by_cases c : (stepOf s r).2 ≠ 1
    · rw [if_pos c] at hk; exact absurd hk c
    · rw [if_neg c] at hk ⊢
      obtain ⟨Z1, h1⟩ := hl s (List.mem_cons_self ..)
      have h2 := step_air h1 hD h (by omega)
      obtain ⟨Z', h3⟩ := trace_air hD l (fun s' hs' => hl s' (List.mem_cons_of_mem _ hs')) (i + 1) _ _ _ _ h2 hk
      refine ⟨Z', ?_⟩
      have e : ∀ (V q : Int), V + q * (Z1 - Z) + q * (Z' - Z1) = V + q * (Z' - Z) := fun V q => by
        rw [Int.add_assoc, ← Int.mul_add]
        congr 2
        omega
      rw [e, e] at h3
      exact h3
theorem through_air {p p2 D L : Int} (hD : 0 < D) {l : List Surf} (hl : ∀ s ∈ l, ∃ Z, Air s Z) {r : Ray} {X Y : Int} (h : OnLine r p p2 D L X Y 0) (z : Int) :
    ((throughOf l r (Iv.whole z)).2.2 = 1 → (throughOf l r (Iv.whole z)).1.right = true ∧ (throughOf l r (Iv.whole z)).2.1.right = true ∧
      ((throughOf l r (Iv.whole z)).1.lo * D ≤ X + p * (z * 65536) ∧ X + p * (z * 65536) ≤ (throughOf l r (Iv.whole z)).1.hi * D) ∧
      ((throughOf l r (Iv.whole z)).2.1.lo * D ≤ Y + p2 * (z * 65536) ∧ Y + p2 * (z * 65536) ≤ (throughOf l r (Iv.whole z)).2.1.hi * D)) ∧
    (¬ (throughOf l r (Iv.whole z)).2.2 = 1 → (throughOf l r (Iv.whole z)).1 = Iv.none ∧ (throughOf l r (Iv.whole z)).2.1 = Iv.none) := by
  unfold throughOf
  by_cases c : (traceOf l r).1 = 1
  · rw [if_pos c]
    obtain ⟨Z', h1⟩ := trace_air hD l hl 0 r X Y 0 h c
    have h1' : OnLine (traceOf l r).2.2 p p2 D L (X + p * (Z' - 0)) (Y + p2 * (Z' - 0)) Z' := h1
    clear h1
    generalize (traceOf l r).2.2 = q at *
    have hw : Cr ((Iv.whole z).sub q.o.z) (z * 65536 - Z') 1 := cr_congr (cr_sub (cr_whole z) h1'.oz) (by decide) (by omega)
    have ht : Cr (((Iv.whole z).sub q.o.z).div q.d.z) ((z * 65536 - Z') * 65536 * L) (D * 4294967296) := cr_congr (cr_div hw h1'.dz (by omega)) (by omega) (by rw [Int.one_mul]; ac_rfl)
    obtain ⟨a1, a2, _⟩ := along_air (r := q) hD h1'.dx h1'.dy h1'.dz h1'.ox h1'.oy h1'.oz ht
    have e : ∀ (V q : Int), V + q * (Z' - 0) + q * (z * 65536 - Z') = V + q * (z * 65536) := fun V q => by
      rw [Int.add_assoc, ← Int.mul_add]
      congr 2
      omega
    rw [e] at a1 a2
    generalize along q (((Iv.whole z).sub q.o.z).div q.d.z) = P at *
    simp only
    by_cases hr : P.x.right = true ∧ P.y.right = true
    · rw [if_pos hr]
      exact ⟨fun _ => ⟨hr.1, hr.2, a1.2 hr.1, a2.2 hr.2⟩, fun hc => absurd rfl hc⟩
    · rw [if_neg hr]
      exact ⟨fun hc => (by cases hc), fun _ => ⟨rfl, rfl⟩⟩
  · rw [if_neg c]
    exact ⟨fun hc => absurd hc c, fun _ => ⟨rfl, rfl⟩⟩
theorem air_plane (b : Bool) (z : Int) : Air (airPlane b z) z := ⟨rfl, rfl, rfl, rfl, rfl⟩
theorem straight_air (l : List Int) : ∀ s ∈ (straightOf l).2, ∃ Z, Air s Z := by
  have tot : ∃ y, runBy straightStep straightM ((0, 655360, ()), (l, Iv.whole 8, ⟨0, 0, false⟩, [], [], ())) = some y ∧ (∀ s ∈ y.2.2.2.1, ∃ Z, Air s Z) := by
    refine iter_total (step := straightStep) (fun x => x.2.1 = l ∧ 0 ≤ x.1.1 ∧ x.1.1 ≤ 4 ∧ (x.2.2.2.2.1.length : Int) = x.1.1 ∧ ∀ s ∈ x.2.2.2.2.1, ∃ Z, Air s Z) _ straightM ?_ ((0, 655360, ()), (l, Iv.whole 8, ⟨0, 0, false⟩, [], [], ())) ⟨rfl, by dsimp only; omega, by dsimp only; omega, rfl, fun s hs => by cases hs⟩
    rintro ⟨⟨i, z, _⟩, ⟨l', o', o2, s, s2, _⟩⟩ ⟨h0, h2, h3, h4, h5⟩
    dsimp only at h0 h2 h3 h4 h5
    subst h0
    simp only [straightStep]
    by_cases hi : i < (l'.length : Int) ∧ i < 4
    · have hge : l'[i.toNat]? = some (l'[i.toNat]'(by omega)) := List.getElem?_eq_getElem (by omega)
      have hw : IntKind.i64.wrap (i + 1) = i + 1 := wr (by omega)
      rw [if_pos hi, if_pos h2, hge, hw]
      dsimp only
      rw [if_pos (lenOk_iff.2 (by simp; omega))]
      refine .inr ⟨_, rfl, ⟨rfl, by dsimp only; omega, by dsimp only; omega, by simp; omega, ?_⟩, by simp only [straightM]; omega⟩
      intro s' hs'
      rcases List.mem_append.1 hs' with hm | hm
      · exact h5 s' hm
      · rw [List.mem_singleton] at hm
        subst hm
        exact ⟨_, air_plane _ _⟩
    · rw [if_neg hi]
      exact .inl ⟨_, rfl, h5⟩
  obtain ⟨y, hy, h⟩ := tot
  simp only [straightOf, hy]
  exact h
end Go.Proofs.Ytapbnhnofcbkdaa
