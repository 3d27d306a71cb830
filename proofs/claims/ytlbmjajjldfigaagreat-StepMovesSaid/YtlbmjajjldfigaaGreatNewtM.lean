/-
  Newton's rounds keep each place where a function is nearly nothing, and have one where they are sure; in plain Lean.
-/
import Derived.Test.YtlbmjajjldfigaaGreatRatM
namespace Go.Proofs.YtlbmjajjldfigaaGreat
open Go
set_option linter.unusedVariables false
set_option linter.unusedSimpArgs false

/-- It is an interval, and has the number x. -/
def In (x : Rat) (a : Iv) : Prop := a.right = true ∧ (a.lo : Rat) ≤ 65536 * x ∧ 65536 * x ≤ (a.hi : Rat)
theorem In.m {x : Rat} {a : Iv} (h : In x a) : M x a := fun _ => h.2
theorem M.in {x : Rat} {a : Iv} (h : M x a) (r : a.right = true) : In x a := ⟨r, h r⟩
theorem in_sub {x : Rat} {a b : Iv} (h : Sub a b) (hb : b.right = true) (ha : In x a) : In x b := by
  obtain ⟨_, h2, h3⟩ := h hb
  exact ⟨hb, Rat.le_trans (ri_le h2) ha.2.1, Rat.le_trans ha.2.2 (ri_le h3)⟩
theorem m_sub' {x : Rat} {a b : Iv} (h : Sub a b) (ha : M x a) : M x b := fun hb => (in_sub h hb ((ha.in (h hb).1))).2
/-- Two with places less than a step from each other meet. -/
theorem meet_of {x y : Rat} {a b : Iv} (ha : In x a) (hb : In y b) (h1 : 65536 * (x - y) < 1) (h2 : 65536 * (y - x) < 1) : a.lo ≤ b.hi ∧ b.lo ≤ a.hi := by
  constructor
  · have : (a.lo : Rat) < ((b.hi + 1 : Int) : Rat) := by
      rw [Rat.intCast_add]
      have := ha.2.1; have := hb.2.2
      grind
    have := Rat.intCast_lt_intCast.1 this
    omega
  · have : (b.lo : Rat) < ((a.hi + 1 : Int) : Rat) := by
      rw [Rat.intCast_add]
      have := hb.2.1; have := ha.2.2
      grind
    have := Rat.intCast_lt_intCast.1 this
    omega
theorem meet_right {a b : Iv} (ha : a.right = true) (hb : b.right = true) (h : a.lo ≤ b.hi ∧ b.lo ≤ a.hi) : a.meet b = ⟨max a.lo b.lo, min a.hi b.hi, false⟩ ∧ (a.meet b).right = true := by
  have b1 := right_bd ha
  have b2 := right_bd hb
  have e : a.meet b = ⟨max a.lo b.lo, min a.hi b.hi, false⟩ := by
    unfold Iv.meet
    rw [if_pos (by simp [Iv.both, ha, hb])]
    exact of_eq ⟨⟨numIn_iff.2 (by omega), numIn_iff.2 (by omega)⟩, by omega⟩
  refine ⟨e, ?_⟩
  rw [e]
  exact right_iff.2 ⟨rfl, by dsimp only; omega, by dsimp only; omega, by dsimp only; omega⟩

/-- G is a function of numbers that F is of intervals, to within e. -/
structure Rep (F : Iv → Iv × Iv) (G : Rat → Rat) (e : Rat) : Prop where
  e0 : 0 ≤ e
  val : ∀ t x, In x t → (F t).1.right = true → In (G x) (F t).1
  slo : ∀ t x y, In x t → In y t → (F t).2.right = true → ∃ s, In s (F t).2 ∧ G x - G y ≤ s * (x - y) + e ∧ s * (x - y) ≤ G x - G y + e

theorem In.bd {s : Rat} {a : Iv} (h : In s a) : s ≤ 16384 ∧ -16384 ≤ s := by
  obtain ⟨r, h1, h2⟩ := h
  have b := right_bd r
  have : (a.hi : Rat) ≤ ((1073741824 : Int) : Rat) := ri_le (by omega)
  have : ((-1073741824 : Int) : Rat) ≤ (a.lo : Rat) := ri_le (by omega)
  have e1 : ((1073741824 : Int) : Rat) = 1073741824 := rfl
  have e2 : ((-1073741824 : Int) : Rat) = -1073741824 := rfl
  grind
/-- The middle of one. -/
theorem mid_in {t : Iv} (h : t.right = true) : In ((t.mid : Rat) / 65536) (Iv.point t.mid) ∧ In ((t.mid : Rat) / 65536) t ∧ t.lo ≤ t.mid ∧ t.mid ≤ t.hi := by
  have b := right_bd h
  have m : t.lo ≤ t.mid ∧ t.mid ≤ t.hi := by unfold Iv.mid; rw [if_pos h]; omega
  have e : Iv.point t.mid = ⟨t.mid, t.mid, false⟩ := of_eq ⟨⟨numIn_iff.2 (by omega), numIn_iff.2 (by omega)⟩, by omega⟩
  have r : (Iv.point t.mid).right = true := by rw [e]; exact right_iff.2 ⟨rfl, by dsimp only; omega, by dsimp only; omega, by dsimp only; omega⟩
  refine ⟨(m_point _).in r, ⟨h, ?_, ?_⟩, m⟩
  · have := ri_le m.1; grind
  · have := ri_le m.2; grind
theorem inv_ge {s : Rat} {a : Iv} (h : In s a) (h0 : a.has 0 = false) : (1 ≤ 65536 * s ∨ 65536 * s ≤ -1) := by
  rcases has0 h.1 h0 with c | c
  · left
    have := ri_le (show (1 : Int) ≤ a.lo by omega)
    have e1 : ((1 : Int) : Rat) = 1 := rfl
    have := h.2.1
    grind
  · right
    have := ri_le (show a.hi ≤ (-1 : Int) by omega)
    have e1 : ((-1 : Int) : Rat) = -1 := rfl
    have := h.2.2
    grind
theorem quot_bd {s w d : Rat} (hs : 1 ≤ 65536 * s ∨ 65536 * s ≤ -1) (h1 : w * s ≤ d) (h2 : -d ≤ w * s) : w ≤ 65536 * d ∧ -w ≤ 65536 * d := by
  have hd : 0 ≤ d := by grind
  rcases hs with c | c
  · constructor
    · rcases Rat.le_total (a := w) (b := 0) with k | k
      · grind
      · have := rmulL k c; grind
    · rcases Rat.le_total (a := w) (b := 0) with k | k
      · have := rmulL (c := -w) (by grind) c; grind
      · grind
  · constructor
    · rcases Rat.le_total (a := w) (b := 0) with k | k
      · grind
      · have := rmulL k c; grind
    · rcases Rat.le_total (a := w) (b := 0) with k | k
      · have := rmulL (c := -w) (by grind) c; grind
      · grind
/-- A place is moved into what meets. -/
theorem clamp {t n b : Iv} {x y d : Rat} (hx : In x t) (hb : In x b) (hy : In y n) (h1 : x - y ≤ d) (h2 : y - x ≤ d) (hd : 65536 * d < 1) :
    ∃ z, In z (t.meet n) ∧ In z b ∧ In z t ∧ x - z ≤ d ∧ z - x ≤ d := by
  have c1 := meet_of hx hy (by grind) (by grind)
  have c2 := meet_of hb hy (by grind) (by grind)
  obtain ⟨e, r⟩ := meet_right hx.1 hy.1 c1
  have d0 : 0 ≤ d := by grind
  have t1 := hx.2; have b1 := hb.2; have n1 := hy.2
  have i1 := ri_le c1.1; have i2 := ri_le c1.2; have i3 := ri_le c2.1; have i4 := ri_le c2.2
  have key : ∀ z, (n.lo : Rat) ≤ 65536 * z → 65536 * z ≤ (n.hi : Rat) → In z t → In z (t.meet n) := by
    intro z z1 z2 z3
    have t3 := z3.2
    refine ⟨r, ?_, ?_⟩
    · rw [e]
      dsimp only
      rcases Int.le_total t.lo n.lo with c | c
      · rw [Int.max_eq_right c]; exact z1
      · rw [Int.max_eq_left c]; exact t3.1
    · rw [e]
      dsimp only
      rcases Int.le_total t.hi n.hi with c | c
      · rw [Int.min_eq_left c]; exact t3.2
      · rw [Int.min_eq_right c]; exact z2
  rcases Rat.le_total (a := (n.lo : Rat)) (b := 65536 * x) with a1 | a1
  · rcases Rat.le_total (a := 65536 * x) (b := (n.hi : Rat)) with a2 | a2
    · exact ⟨x, key x a1 a2 hx, hb, hx, by grind, by grind⟩
    · have : In ((n.hi : Rat) / 65536) t := ⟨hx.1, by grind, by grind⟩
      exact ⟨(n.hi : Rat) / 65536, key _ (by grind) (by grind) this, ⟨hb.1, by grind, by grind⟩, this, by grind, by grind⟩
  · have : In ((n.lo : Rat) / 65536) t := ⟨hx.1, by grind, by grind⟩
    exact ⟨(n.lo : Rat) / 65536, key _ (by grind) (by grind) this, ⟨hb.1, by grind, by grind⟩, this, by grind, by grind⟩
theorem split_in {t : Iv} {x : Rat} (hx : In x t) : (In x t.split.1 ∨ In x t.split.2) ∧ t.split.1.right = true ∧ t.split.2.right = true := by
  obtain ⟨_, _, m1, m2⟩ := mid_in hx.1
  have b := right_bd hx.1
  unfold Iv.split
  rw [if_pos hx.1]
  have e1 : Iv.of t.lo t.mid = ⟨t.lo, t.mid, false⟩ := of_eq ⟨⟨numIn_iff.2 (by omega), numIn_iff.2 (by omega)⟩, by omega⟩
  have e2 : Iv.of t.mid t.hi = ⟨t.mid, t.hi, false⟩ := of_eq ⟨⟨numIn_iff.2 (by omega), numIn_iff.2 (by omega)⟩, by omega⟩
  have r1 : (Iv.of t.lo t.mid).right = true := by rw [e1]; exact right_iff.2 ⟨rfl, by dsimp only; omega, by dsimp only; omega, by dsimp only; omega⟩
  have r2 : (Iv.of t.mid t.hi).right = true := by rw [e2]; exact right_iff.2 ⟨rfl, by dsimp only; omega, by dsimp only; omega, by dsimp only; omega⟩
  refine ⟨?_, r1, r2⟩
  rcases Rat.le_total (a := 65536 * x) (b := (t.mid : Rat)) with c | c
  · exact .inl ⟨r1, by rw [e1]; exact hx.2.1, by rw [e1]; exact c⟩
  · exact .inr ⟨r2, by rw [e2]; exact c, by rw [e2]; exact hx.2.2⟩
theorem meet_clean (a b : Iv) : (a.meet b).clean := by
  unfold Iv.meet
  split
  · exact of_clean _ _
  · exact none_clean
theorem next_right {F : Iv → Iv × Iv} {t : Iv} (h : (nextN F t).right = true) : (F (Iv.point t.mid)).1.right = true ∧ (F t).2.right = true ∧ (F t).2.has 0 = false := by
  unfold nextN Iv.sub at h
  obtain ⟨_, h2⟩ := add_right h
  rw [neg_right] at h2
  exact div_right h2
theorem next_clean (F : Iv → Iv × Iv) (t : Iv) : (nextN F t).clean := sub_clean _ _
theorem next_ok {F : Iv → Iv × Iv} {t : Iv} (h : ¬ (nextN F t).no = true) : (nextN F t).right = true := clean_right (next_clean F t) (by simpa using h)
section
variable {F : Iv → Iv × Iv} {G : Rat → Rat} {e : Rat} (hG : Rep F G e)
include hG
theorem Rep.lip {t : Iv} {x y d : Rat} (hx : In x t) (hy : In y t) (hs : (F t).2.right = true) (h1 : x - y ≤ d) (h2 : y - x ≤ d) :
    G x - G y ≤ 16384 * d + e ∧ G y - G x ≤ 16384 * d + e := by
  obtain ⟨s, hs, k1, k2⟩ := hG.slo t x y hx hy hs
  obtain ⟨b1, b2⟩ := hs.bd
  have hd : s * (x - y) ≤ 16384 * d ∧ -(16384 * d) ≤ s * (x - y) := by
    have hd0 : 0 ≤ d := by grind
    constructor
    · refine rlin_ge b2 b1 ?_ ?_ <;> grind
    · refine rlin_le b2 b1 ?_ ?_ <;> grind
  grind
/-- What the slope between the middle and a place tells of the next interval. -/
theorem next_has {t : Iv} (ht : t.right = true) (h : (nextN F t).right = true) {s : Rat} (hs : In s (F t).2) : In ((t.mid : Rat) / 65536 - G ((t.mid : Rat) / 65536) / s) (nextN F t) := by
  obtain ⟨r1, r2, r3⟩ := next_right h
  obtain ⟨m1, m2, _⟩ := mid_in ht
  have v := hG.val _ _ m1 r1
  exact (m_sub m1.m (m_div v.m hs.m)).in h
theorem near_next {t : Iv} {x d : Rat} (hx : In x t) (h : (nextN F t).right = true) (h1 : G x ≤ d) (h2 : -d ≤ G x) :
    ∃ y, In y (nextN F t) ∧ x - y ≤ 65536 * (d + e) ∧ y - x ≤ 65536 * (d + e) := by
  obtain ⟨r1, r2, r3⟩ := next_right h
  obtain ⟨m1, m2, _⟩ := mid_in hx.1
  obtain ⟨s, hs, k1, k2⟩ := hG.slo t _ x m2 hx r2
  have hn := next_has hG hx.1 h hs
  have hi := inv_ge hs r3
  generalize (t.mid : Rat) / 65536 = m at *
  have e1 : G m / s * s = G m := Rat.div_mul_cancel (by grind)
  refine ⟨_, hn, ?_⟩
  generalize G m / s = q at *
  have := quot_bd (w := x - (m - q)) (d := d + e) hi (by grind) (by grind)
  grind
theorem without_big {t : Iv} {x : Rat} (hx : In x t) (h : without F t = true) : 1 ≤ 65536 * G x ∨ 65536 * G x ≤ -1 := by
  simp only [without, Bool.and_eq_true, Bool.not_eq_true'] at h
  exact inv_ge (hG.val t x hx h.1) h.2
/-- A round keeps a place where there is nearly nothing. -/
theorem keep_round {t b : Iv} {sure : Bool} {x d : Rat} (hx : In x t) (hb : In x b) (h1 : G x ≤ d) (h2 : -d ≤ G x) (he : e ≤ d) (hd : 8589934592 * d < 1) :
    (∀ p, solveRound F t sure = .inl p → p.1.right = true ∧ ∃ z, In z p.1 ∧ In z b ∧ G z ≤ 4294967296 * d ∧ -(4294967296 * d) ≤ G z) ∧
    (∀ r, solveRound F t sure = .inr (r, 1) → r = t) := by
  have e0 := hG.e0
  obtain ⟨sp, sr1, sr2⟩ := split_in hx
  unfold solveRound
  by_cases c : (nextN F t).no = true
  · rw [if_pos c]
    by_cases c1 : without F t.split.1 = true
    · rw [if_pos c1]
      refine ⟨fun p hp => ?_, (fun r hr => by cases hr)⟩
      cases hp
      refine ⟨sr2, x, ?_, hb, by grind, by grind⟩
      rcases sp with s | s
      · rcases without_big hG s c1 with w | w <;> grind
      · exact s
    · rw [if_neg c1]
      by_cases c2 : without F t.split.2 = true
      · rw [if_pos c2]
        refine ⟨fun p hp => ?_, (fun r hr => by cases hr)⟩
        cases hp
        refine ⟨sr1, x, ?_, hb, by grind, by grind⟩
        rcases sp with s | s
        · exact s
        · rcases without_big hG s c2 with w | w <;> grind
      · rw [if_neg c2]
        exact ⟨(fun p hp => by cases hp), (fun r hr => by cases hr)⟩
  · rw [if_neg c]
    have nr := next_ok c
    by_cases c1 : (t.meet (nextN F t)).no = true
    · rw [if_pos c1]
      exact ⟨(fun p hp => by cases hp), (fun r hr => by cases hr)⟩
    · rw [if_neg c1]
      by_cases c2 : t.meet (nextN F t) = t
      · rw [if_pos c2]
        refine ⟨(fun p hp => by cases hp), fun r hr => ?_⟩
        split at hr
        · cases hr; rfl
        · cases hr
      · rw [if_neg c2]
        refine ⟨fun p hp => ?_, (fun r hr => by cases hr)⟩
        cases hp
        obtain ⟨y, hy, k1, k2⟩ := near_next hG hx nr h1 h2
        have hd1 : 65536 * (65536 * (d + e)) < 1 := by grind
        obtain ⟨z, z1, z2, z3, z4, z5⟩ := clamp hx hb hy k1 k2 hd1
        obtain ⟨l1, l2⟩ := hG.lip hx z3 (next_right nr).2.1 z4 z5
        exact ⟨clean_right (meet_clean _ _) (by simpa using c1), z, z1, z2, by grind, by grind⟩
theorem keep_go {b : Iv} : ∀ (k : Nat) {t r : Iv} {sure : Bool} {x d : Rat}, In x t → In x b → G x ≤ d → -d ≤ G x → e ≤ d → 8589934592 * (d * 4294967296 ^ k) < 1 → solveGo F k t sure = (r, 1) →
    ∃ z, In z r ∧ In z b ∧ G z ≤ d * 4294967296 ^ k ∧ -(d * 4294967296 ^ k) ≤ G z
  | 0, t, r, sure, x, d, hx, hb, h1, h2, he, hd, h => by
    rw [solveGo] at h
    split at h
    · cases h; exact ⟨x, hx, hb, by grind, by grind⟩
    · cases h
  | k + 1, t, r, sure, x, d, hx, hb, h1, h2, he, hd, h => by
    have e0 := hG.e0
    have hp : (0 : Rat) < 4294967296 ^ k := Rat.pow_pos (by grind)
    have hp1 : (1 : Rat) ≤ 4294967296 ^ k := by
      clear hd h
      induction k with
      | zero => rw [Rat.pow_zero]; exact Rat.le_refl
      | succ k ih =>
        have q : (0 : Rat) < 4294967296 ^ k := Rat.pow_pos (by grind)
        have := ih q
        rw [Rat.pow_succ]; grind
    rw [Rat.pow_succ] at hd ⊢
    generalize hP : (4294967296 : Rat) ^ k = P at *
    have hdd : d ≤ d * P := by have := rmulL (c := d) (by grind) hp1; grind
    obtain ⟨a1, a2⟩ := keep_round hG (sure := sure) hx hb h1 h2 he (by grind)
    rw [solveGo] at h
    split at h
    · rename_i p hs
      obtain ⟨_, z, z1, z2, z3, z4⟩ := a1 p hs
      obtain ⟨w, w1, w2, w3, w4⟩ := keep_go k (d := 4294967296 * d) z1 z2 z3 z4 (by grind) (by rw [hP]; grind) h
      rw [hP] at w3 w4
      exact ⟨w, w1, w2, by grind, by grind⟩
    · rename_i q hs
      rw [h] at hs
      rw [a2 _ hs]
      exact ⟨x, hx, hb, by grind, by grind⟩
end
theorem pow_ge1 : ∀ k : Nat, (1 : Rat) ≤ 4294967296 ^ k
  | 0 => by rw [Rat.pow_zero]; exact Rat.le_refl
  | k + 1 => by have := pow_ge1 k; rw [Rat.pow_succ]; grind
theorem arch (q : Rat) : ∃ N : Nat, 0 < N ∧ q ≤ N := by
  refine ⟨q.ceil.toNat + 1, by omega, ?_⟩
  have h := Rat.le_ceil (x := q)
  refine Rat.le_trans h ?_
  have : (q.ceil : Rat) ≤ (((q.ceil.toNat + 1 : Nat) : Int) : Rat) := ri_le (by omega)
  rw [Rat.intCast_natCast] at this
  exact this
/-- Between a place where it is below and one where it is above there is one where it is nearly nothing. -/
theorem between {g : Rat → Rat} {a b L e d : Rat} (hab : a ≤ b) (hL : 0 ≤ L) (hg : ∀ x y, a ≤ x → x ≤ b → a ≤ y → y ≤ b → x ≤ y → g y - g x ≤ L * (y - x) + e) (ha : g a ≤ 0) (hb : 0 ≤ g b) (he : 2 * e ≤ d) (hd : 0 < d) :
    ∃ x, a ≤ x ∧ x ≤ b ∧ g x ≤ d ∧ -d ≤ g x := by
  obtain ⟨N, hN, hq⟩ := arch (2 * L * (b - a) / d)
  have hN' : (0 : Rat) < N := Rat.natCast_pos.2 hN
  have e1 : 2 * L * (b - a) / d * d = 2 * L * (b - a) := Rat.div_mul_cancel (by grind)
  have hq2 := rmulR (c := d) (by grind) hq
  rw [e1] at hq2
  have e2 : (b - a) / N * N = b - a := Rat.div_mul_cancel (by grind)
  have hh : 0 ≤ (b - a) / N := by
    refine Rat.le_of_mul_le_mul_right (c := (N : Rat)) ?_ hN'
    rw [e2]; grind
  generalize (b - a) / N = h at *
  have hLh : 2 * (L * h) ≤ d := by
    refine Rat.le_of_mul_le_mul_right (c := (N : Rat)) ?_ hN'
    have : 2 * (L * h) * N = 2 * L * (h * N) := by grind
    rw [this, e2]; grind
  have main : ∀ i : Nat, i ≤ N → (g (a + h * i) ≤ 0) ∨ ∃ x, a ≤ x ∧ x ≤ b ∧ g x ≤ d ∧ -d ≤ g x := by
    intro i
    induction i with
    | zero =>
      intro _; left
      have z : ((0 : Nat) : Rat) = 0 := rfl
      have : a + h * ((0 : Nat) : Rat) = a := by rw [z]; grind
      rw [this]; exact ha
    | succ i ih =>
      intro hi
      rcases ih (by omega) with c | c
      · rcases Rat.le_total (a := g (a + h * ((i + 1 : Nat) : Rat))) (b := 0) with c2 | c2
        · exact .inl c2
        · right
          have i1 : ((i + 1 : Nat) : Rat) = (i : Rat) + 1 := by rw [Rat.natCast_add]; rfl
          have i2 : (0 : Rat) ≤ i := Rat.natCast_nonneg
          have i3 : (i : Rat) + 1 ≤ N := by rw [← i1]; exact Rat.natCast_le_natCast.2 hi
          have x0 := Rat.mul_nonneg hh i2
          have x1 := rmulL hh i3
          rw [i1] at c2
          refine ⟨a + h * i, by grind, by grind, by grind, ?_⟩
          have := hg (a + h * i) (a + h * ((i : Rat) + 1)) (by grind) (by grind) (by grind) (by grind) (by grind)
          grind
      · exact .inr c
  rcases main N (Nat.le_refl _) with c | c
  · have : a + h * N = b := by grind
    rw [this] at c
    exact ⟨b, hab, Rat.le_refl, by grind, by grind⟩
  · exact c
section
variable {F : Iv → Iv × Iv} {G : Rat → Rat} {e : Rat} (hG : Rep F G e)
include hG
/-- Where the next interval lies well within there is a place where there is nearly nothing. -/
theorem sure_zero {t : Iv} (ht : t.right = true) (hn : (nextN F t).right = true) (h1 : t.lo < (nextN F t).lo) (h2 : (nextN F t).hi < t.hi) {d : Rat} (hd : 0 < d) (he : 2 * e ≤ d) (he2 : 4294967296 * e ≤ 1) :
    ∃ x, In x t ∧ G x ≤ d ∧ -d ≤ G x := by
  obtain ⟨r1, r2, r3⟩ := next_right hn
  obtain ⟨m1, m2, _⟩ := mid_in ht
  have e0 := hG.e0
  have b := right_bd ht
  have hlo : In ((t.lo : Rat) / 65536) t := ⟨ht, by grind, by have := ri_le b.2.2.2.2.2; grind⟩
  have hhi : In ((t.hi : Rat) / 65536) t := ⟨ht, by have := ri_le b.2.2.2.2.2; grind, by grind⟩
  obtain ⟨s, hs, k1, k2⟩ := hG.slo t _ _ m2 hlo r2
  obtain ⟨s', hs', k1', k2'⟩ := hG.slo t _ _ m2 hhi r2
  have y1 := (next_has hG ht hn hs).2.1
  have y2 := (next_has hG ht hn hs').2.2
  have hI := ri_le (show t.lo + 1 ≤ (nextN F t).lo by omega)
  have hJ := ri_le (show (nextN F t).hi ≤ t.hi - 1 by omega)
  rw [Rat.intCast_add] at hI
  rw [Rat.intCast_sub] at hJ
  have one : ((1 : Int) : Rat) = 1 := rfl
  rw [one] at hI hJ
  have lip : ∀ x y, (t.lo : Rat) / 65536 ≤ x → x ≤ (t.hi : Rat) / 65536 → (t.lo : Rat) / 65536 ≤ y → y ≤ (t.hi : Rat) / 65536 → x ≤ y → G y - G x ≤ 16384 * (y - x) + e ∧ G x - G y ≤ 16384 * (y - x) + e := by
    intro x y x1 x2 y1 y2 hxy
    have hx : In x t := ⟨ht, by grind, by grind⟩
    have hy : In y t := ⟨ht, by grind, by grind⟩
    have := hG.lip hy hx r2 (d := y - x) (by grind) (by grind)
    exact this
  have hab : (t.lo : Rat) / 65536 ≤ (t.hi : Rat) / 65536 := by have := ri_le b.2.2.2.2.2; grind
  have i1 := inv_ge hs r3
  have i2 := inv_ge hs' r3
  have same : (1 ≤ 65536 * s ∧ 1 ≤ 65536 * s') ∨ (65536 * s ≤ -1 ∧ 65536 * s' ≤ -1) := by
    rcases has0 hs.1 r3 with c | c
    · left
      have c1 := ri_le (show (1 : Int) ≤ (F t).2.lo by omega)
      have := hs.2.1; have := hs'.2.1
      grind
    · right
      have c1 := ri_le (show (F t).2.hi ≤ (-1 : Int) by omega)
      have e1 : ((-1 : Int) : Rat) = -1 := rfl
      have := hs.2.2; have := hs'.2.2
      grind
  generalize (t.mid : Rat) / 65536 = m at *
  generalize hl : (t.lo : Rat) / 65536 = l at *
  generalize hh : (t.hi : Rat) / 65536 = u at *
  have q1 : G m / s * s = G m := Rat.div_mul_cancel (by grind)
  have q2 : G m / s' * s' = G m := Rat.div_mul_cancel (by grind)
  generalize G m / s = q at *
  generalize G m / s' = q' at *
  have w1 : 1 ≤ 65536 * (m - q - l) := by grind
  have w2 : 1 ≤ 65536 * (u - (m - q')) := by grind
  have conv : ∀ x, l ≤ x → x ≤ u → In x t := fun x x1 x2 => ⟨ht, by grind, by grind⟩
  rcases same with ⟨c1, c2⟩ | ⟨c1, c2⟩
  · have z1 := Rat.mul_nonneg (a := 65536 * s - 1) (b := 65536 * (m - q - l)) (by grind) (by grind)
    have z2 := Rat.mul_nonneg (a := 65536 * s' - 1) (b := 65536 * (u - (m - q'))) (by grind) (by grind)
    obtain ⟨x, x1, x2, x3, x4⟩ := between (g := G) hab (L := 16384) (by grind) (fun x y a1 a2 a3 a4 a5 => (lip x y a1 a2 a3 a4 a5).1) (by grind) (by grind) he hd
    exact ⟨x, conv x x1 x2, x3, x4⟩
  · have z1 := Rat.mul_nonneg (a := -(65536 * s) - 1) (b := 65536 * (m - q - l)) (by grind) (by grind)
    have z2 := Rat.mul_nonneg (a := -(65536 * s') - 1) (b := 65536 * (u - (m - q'))) (by grind) (by grind)
    obtain ⟨x, x1, x2, x3, x4⟩ := between (g := fun x => -G x) hab (L := 16384) (by grind) (fun x y a1 a2 a3 a4 a5 => by have := (lip x y a1 a2 a3 a4 a5).2; grind) (by grind) (by grind) he hd
    exact ⟨x, conv x x1 x2, by grind, by grind⟩
/-- What is told for sure has a place where there is nearly nothing. -/
theorem sure_go : ∀ (k : Nat) {t r : Iv} {d : Rat}, t.right = true → 0 < d → 2 * e ≤ d → 8589934592 * (d * 4294967296 ^ k) < 1 → solveGo F k t false = (r, 1) →
    ∃ z, In z r ∧ G z ≤ d * 4294967296 ^ k ∧ -(d * 4294967296 ^ k) ≤ G z
  | 0, t, r, d, ht, hd, he, hd2, h => by rw [solveGo] at h; cases h
  | k + 1, t, r, d, ht, hd, he, hd2, h => by
    have e0 := hG.e0
    have hp1 := pow_ge1 k
    have hh := h
    rw [solveGo] at h
    have hd3 : 8589934592 * (d * 4294967296 ^ k) < 1 ∧ d * 4294967296 ^ k ≤ d * 4294967296 ^ (k + 1) := by
      rw [Rat.pow_succ] at hd2 ⊢
      have := rmulL (c := d) (by grind) hp1
      grind
    have he2 : 4294967296 * e ≤ 1 := by
      have := rmulL (c := d) (by grind) hp1
      grind
    have key : t.lo < (nextN F t).lo → (nextN F t).hi < t.hi → (nextN F t).right = true → ∃ z, In z r ∧ G z ≤ d * 4294967296 ^ (k + 1) ∧ -(d * 4294967296 ^ (k + 1)) ≤ G z := by
      intro l1 l2 l3
      obtain ⟨x, x1, x2, x3⟩ := sure_zero hG ht l3 l1 l2 hd he he2
      obtain ⟨z, z1, _, z3, z4⟩ := keep_go hG (k + 1) (sure := false) x1 x1 x2 x3 (by grind) hd2 hh
      exact ⟨z, z1, z3, z4⟩
    have next : ∀ t', t'.right = true → solveGo F k t' false = (r, 1) → ∃ z, In z r ∧ G z ≤ d * 4294967296 ^ (k + 1) ∧ -(d * 4294967296 ^ (k + 1)) ≤ G z := by
      intro t' ht' h'
      obtain ⟨z, z1, z2, z3⟩ := sure_go k ht' hd he hd3.1 h'
      exact ⟨z, z1, by grind, by grind⟩
    obtain ⟨_, sr1, sr2⟩ := split_in (mid_in ht).2.1
    unfold solveRound at h
    by_cases c : (nextN F t).no = true
    · rw [if_pos c] at h
      by_cases c1 : without F t.split.1 = true
      · rw [if_pos c1] at h
        exact next _ sr2 h
      · rw [if_neg c1] at h
        by_cases c2 : without F t.split.2 = true
        · rw [if_pos c2] at h
          exact next _ sr1 h
        · rw [if_neg c2] at h; cases h
    · rw [if_neg c] at h
      have nr := next_ok c
      by_cases c1 : (t.meet (nextN F t)).no = true
      · rw [if_pos c1] at h; cases h
      · rw [if_neg c1] at h
        by_cases c3 : t.lo < (nextN F t).lo ∧ (nextN F t).hi < t.hi
        · exact key c3.1 c3.2 nr
        · have c4 : (decide (t.lo < (nextN F t).lo) && decide ((nextN F t).hi < t.hi)) = false := by
            rw [← Bool.not_eq_true]
            simpa using c3
          rw [c4] at h
          by_cases c2 : t.meet (nextN F t) = t
          · rw [if_pos c2] at h; cases h
          · rw [if_neg c2] at h
            exact next _ (clean_right (meet_clean _ _) (by simpa using c1)) h
end
end Go.Proofs.YtlbmjajjldfigaaGreat
