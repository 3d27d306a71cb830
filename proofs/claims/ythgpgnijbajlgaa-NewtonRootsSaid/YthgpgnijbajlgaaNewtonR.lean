/-
  A product of two whole steps, solved by Newton's rounds: what is told of its zeros is so; in plain Lean.
-/
import Derived.Test.YthgpgnijbajlgaaLess
import Derived.Test.YthgpgnijbajlgaaNewtonW
namespace Go.Proofs.Ythgpgnijbajlgaa
open Go
set_option linter.unusedVariables false
set_option linter.unusedSimpArgs false

def prodF (p q : Int) (t : Iv) : Iv × Iv := ((t.sub (Iv.whole p)).mul (t.sub (Iv.whole q)), (t.times 2).sub (Iv.whole (IntKind.i64.wrap (p + q))))
/-- A place that is looked at. -/
def inT (t : Iv) : Prop := t.no = false ∧ -1048576 ≤ t.lo ∧ t.lo ≤ t.hi ∧ t.hi ≤ 1048576
def hasT (t : Iv) (r : Int) : Prop := t.lo ≤ r ∧ r ≤ t.hi
theorem inT_right {t : Iv} (h : inT t) : t.right = true := right_iff.2 ⟨h.1, by have := h.2; omega, h.2.2.1, by have := h.2; omega⟩
theorem inT_mid {t : Iv} (h : inT t) : t.lo ≤ t.mid ∧ t.mid ≤ t.hi := by
  have hm : t.mid = (t.lo + t.hi) / 2 := if_pos (inT_right h)
  have := h.2.2.1
  omega
theorem ext_iv {a : Iv} {l h : Int} (h1 : a.no = false) (h2 : a.lo = l) (h3 : a.hi = h) : a = ⟨l, h, false⟩ := by
  obtain ⟨x, y, z⟩ := a
  simp only at h1 h2 h3
  subst h1 h2 h3
  rfl
theorem sub_whole {t : Iv} {p : Int} (ht : inT t) (hp : -12 ≤ p ∧ p ≤ 12) : t.sub (Iv.whole p) = ⟨t.lo - p * 65536, t.hi - p * 65536, false⟩ := by
  have h := ht.2
  rw [whole_stp (by omega), sub_eq, if_pos (both_mk (inT_right ht) (stp_right (by omega)))]
  exact of_mk (by simp only [stp]; omega)
theorem slope_eq {t : Iv} {p q : Int} (ht : inT t) (hp : -12 ≤ p ∧ p ≤ 12) (hq : -12 ≤ q ∧ q ≤ 12) :
    (prodF p q t).2 = ⟨2 * t.lo - p * 65536 - q * 65536, 2 * t.hi - p * 65536 - q * 65536, false⟩ := by
  have h := ht.2
  have h2 : t.times 2 = ⟨2 * t.lo, 2 * t.hi, false⟩ := by
    unfold Iv.times
    rw [if_pos ⟨inT_right ht, by decide⟩, Int.min_eq_left (by omega), Int.max_eq_right (by omega)]
    exact of_mk (by omega)
  unfold prodF
  simp only
  rw [wr (by omega), h2, whole_stp (by omega), sub_eq, if_pos (both_mk (right_mk (by omega)) (stp_right (by omega)))]
  simp only [stp]
  rw [of_mk (by omega)]
  congr 1 <;> omega
/-- The value at a place: the product lies in it. -/
theorem value_pt {m p q : Int} (hm : -1048576 ≤ m ∧ m ≤ 1048576) (hp : -12 ≤ p ∧ p ≤ 12) (hq : -12 ≤ q ∧ q ≤ 12) :
    (prodF p q (Iv.point m)).1.lo * 65536 ≤ (m - p * 65536) * (m - q * 65536) ∧ (m - p * 65536) * (m - q * 65536) ≤ (prodF p q (Iv.point m)).1.hi * 65536 := by
  have e : Iv.point m = stp m := of_stp (by omega)
  have hi : inT (stp m) := ⟨rfl, by simp only [stp]; omega, by simp only [stp]; omega, by simp only [stp]; omega⟩
  have hb := prod_bd (a := m - p * 65536) (b := m - q * 65536) (A := 2097152) (B := 2097152) (by omega) (by omega) (by omega) (by omega)
  have f1 := fl_le ((m - p * 65536) * (m - q * 65536)) (b := 65536) (by decide)
  have f2 := lt_fl ((m - p * 65536) * (m - q * 65536)) (b := 65536) (by decide)
  have c1 := (cl_le_iff (a := (m - p * 65536) * (m - q * 65536)) (b := 65536) (by decide)).1 (Int.le_refl _)
  have c2 := cl_le_fl ((m - p * 65536) * (m - q * 65536)) 65536
  have c3 := fl_le_cl ((m - p * 65536) * (m - q * 65536)) 65536
  unfold prodF
  simp only
  rw [e, sub_whole hi hp, sub_whole hi hq, mul_eq (right_mk (by simp only [stp]; omega)) (right_mk (by simp only [stp]; omega))]
  simp only [stp, min4, max4, Int.min_self, Int.max_self]
  generalize (m - p * 65536) * (m - q * 65536) = X at *
  rw [of_mk (by omega)]
  exact ⟨f1, c1⟩
/-- A quotient has what its slope comes to. -/
theorem div_has {v s : Iv} {X σ : Int} (hd : (v.div s).right = true) (h1 : v.lo * 65536 ≤ X) (h2 : X ≤ v.hi * 65536) (hs : s.lo ≤ σ ∧ σ ≤ s.hi) :
    (0 < σ → (v.div s).lo * σ ≤ X ∧ X ≤ (v.div s).hi * σ) ∧ (σ < 0 → (v.div s).hi * σ ≤ X ∧ X ≤ (v.div s).lo * σ) ∧ (0 < σ ∨ σ < 0) := by
  obtain ⟨r1, r2, r3⟩ := div_right hd
  have hz := has0 r2 r3
  have b1 := right_iff.1 r1
  have b2 := right_iff.1 r2
  have hs0 : 0 < σ ∨ σ < 0 := by omega
  have sp : Sub (stp σ) s := fun _ => ⟨stp_right (by omega), hs.1, hs.2⟩
  have key : ∀ x, v.lo ≤ x → x ≤ v.hi → (v.div s).lo ≤ fl (x * 65536) σ ∧ cl (x * 65536) σ ≤ (v.div s).hi := by
    intro x k1 k2
    have sx : Sub (stp x) v := fun _ => ⟨stp_right (by omega), k1, k2⟩
    obtain ⟨e1, e2, e3⟩ := div_sub sx sp hd
    have h0 : (stp σ).has 0 = false := (div_right e1).2.2
    rw [div_eq (stp_right (by omega)) (stp_right (by omega)) h0] at e1 e2 e3
    simp only [stp, min4, max4, Int.min_self, Int.max_self] at e1 e2 e3
    rw [(of_right e1).2] at e2 e3
    exact ⟨e2, e3⟩
  obtain ⟨l1, l2⟩ := key v.lo (Int.le_refl _) b1.2.2.1
  obtain ⟨u1, u2⟩ := key v.hi b1.2.2.1 (Int.le_refl _)
  refine ⟨fun hp => ?_, fun hn => ?_, hs0⟩
  · have a1 := (le_fl_iff hp).1 l1
    have a2 := (cl_le_iff hp).1 u2
    exact ⟨by omega, by omega⟩
  · have a1 := (le_fl_iff' hn).1 u1
    have a2 := (cl_le_iff' hn).1 l2
    exact ⟨by omega, by omega⟩
theorem mul_le_pos {a b c : Int} (hc : 0 < c) (h : a * c ≤ b * c) : a ≤ b := Int.le_of_mul_le_mul_right h hc
theorem mul_le_neg {a b c : Int} (hc : c < 0) (h : a * c ≤ b * c) : b ≤ a := by
  have : b * (-c) ≤ a * (-c) := by rw [Int.mul_neg, Int.mul_neg]; omega
  exact Int.le_of_mul_le_mul_right this (by omega)
/-- What a round knows: of each whole slope. -/
theorem next_has {t : Iv} {p q : Int} (ht : inT t) (hp : -12 ≤ p ∧ p ≤ 12) (hq : -12 ≤ q ∧ q ≤ 12) (hn : (nextN (prodF p q) t).no = false) :
    ∃ D : Iv, (nextN (prodF p q) t) = ⟨t.mid - D.hi, t.mid - D.lo, false⟩ ∧ (nextN (prodF p q) t).right = true ∧
      ∀ σ, 2 * t.lo - p * 65536 - q * 65536 ≤ σ → σ ≤ 2 * t.hi - p * 65536 - q * 65536 →
        (0 < σ → D.lo * σ ≤ (t.mid - p * 65536) * (t.mid - q * 65536) ∧ (t.mid - p * 65536) * (t.mid - q * 65536) ≤ D.hi * σ) ∧
        (σ < 0 → D.hi * σ ≤ (t.mid - p * 65536) * (t.mid - q * 65536) ∧ (t.mid - p * 65536) * (t.mid - q * 65536) ≤ D.lo * σ) ∧ (0 < σ ∨ σ < 0) := by
  have hm := inT_mid ht
  have h := ht.2
  have hr : (nextN (prodF p q) t).right = true := by
    have := no_sub (Iv.point t.mid) ((prodF p q (Iv.point t.mid)).1.div (prodF p q t).2)
    rw [show (Iv.point t.mid).sub ((prodF p q (Iv.point t.mid)).1.div (prodF p q t).2) = nextN (prodF p q) t from rfl, hn] at this
    simpa using this
  have hD : ((prodF p q (Iv.point t.mid)).1.div (prodF p q t).2).right = true := by
    have h2 := hr
    unfold nextN at h2
    rw [sub_eq] at h2
    split at h2
    · rename_i hb
      simp only [Iv.both, Bool.and_eq_true] at hb
      exact hb.2
    · cases h2
  refine ⟨(prodF p q (Iv.point t.mid)).1.div (prodF p q t).2, ?_, hr, fun σ h1 h2 => ?_⟩
  · have h2 := hr
    have e : Iv.point t.mid = stp t.mid := of_stp (by omega)
    have hb : Iv.both (Iv.point t.mid) ((prodF p q (Iv.point t.mid)).1.div (prodF p q t).2) = true := both_mk (by rw [e]; exact stp_right (by omega)) hD
    unfold nextN at h2 ⊢
    rw [sub_eq, if_pos hb] at h2 ⊢
    rw [(of_right h2).2, e]
    rfl
  · have hv := value_pt (m := t.mid) (by omega) hp hq
    refine div_has hD hv.1 hv.2 ?_
    rw [slope_eq ht hp hq]
    exact ⟨h1, h2⟩
/-- A zero that is in the place is in the next one. -/
theorem next_keeps {t : Iv} {p q : Int} (ht : inT t) (hp : -12 ≤ p ∧ p ≤ 12) (hq : -12 ≤ q ∧ q ≤ 12) (hn : (nextN (prodF p q) t).no = false) :
    (hasT t (p * 65536) → hasT (nextN (prodF p q) t) (p * 65536)) ∧ (hasT t (q * 65536) → hasT (nextN (prodF p q) t) (q * 65536)) := by
  obtain ⟨D, e, _, k⟩ := next_has ht hp hq hn
  have hm := inT_mid ht
  rw [e]
  unfold hasT
  refine ⟨fun h => ?_, fun h => ?_⟩
  · obtain ⟨k1, k2, k3⟩ := k (t.mid - q * 65536) (by omega) (by omega)
    simp only
    rcases k3 with c | c
    · have := mul_le_pos c (k1 c).1
      have := mul_le_pos c (k1 c).2
      omega
    · have := mul_le_neg c (k2 c).1
      have := mul_le_neg c (k2 c).2
      omega
  · obtain ⟨k1, k2, k3⟩ := k (t.mid - p * 65536) (by omega) (by omega)
    rw [Int.mul_comm (t.mid - p * 65536)] at k1 k2
    simp only
    rcases k3 with c | c
    · have := mul_le_pos c (k1 c).1
      have := mul_le_pos c (k1 c).2
      omega
    · have := mul_le_neg c (k2 c).1
      have := mul_le_neg c (k2 c).2
      omega
theorem fval (m e P Q : Int) : (m - P) * (m - Q) = (e - P) * (e - Q) + (m - e) * (m + e - P - Q) := by
  simp only [Int.sub_mul, Int.mul_sub, Int.add_mul, Int.mul_add]
  have := Int.mul_comm m e
  have := Int.mul_comm P m
  have := Int.mul_comm Q m
  have := Int.mul_comm P e
  have := Int.mul_comm Q e
  omega
theorem pos_of {a b : Int} (h : 0 < a * b) : (0 < a ∧ 0 < b) ∨ (a < 0 ∧ b < 0) := by
  rcases Int.lt_trichotomy a 0 with ha | ha | ha
  · rcases Int.lt_trichotomy b 0 with hb | hb | hb
    · exact .inr ⟨ha, hb⟩
    · subst hb; simp at h
    · have := Int.mul_neg_of_neg_of_pos ha hb; omega
  · subst ha; simp at h
  · rcases Int.lt_trichotomy b 0 with hb | hb | hb
    · have := Int.mul_neg_of_pos_of_neg ha hb; omega
    · subst hb; simp at h
    · exact .inl ⟨ha, hb⟩
theorem neg_of {a b : Int} (h : a * b < 0) : (0 < a ∧ b < 0) ∨ (a < 0 ∧ 0 < b) := by
  have : 0 < a * (-b) := by rw [Int.mul_neg]; omega
  rcases pos_of this with ⟨h1, h2⟩ | ⟨h1, h2⟩
  · exact .inl ⟨h1, by omega⟩
  · exact .inr ⟨h1, by omega⟩
/-- A next place that is well within: one of the two zeros is in the place. -/
theorem next_sure {t : Iv} {p q : Int} (ht : inT t) (hp : -12 ≤ p ∧ p ≤ 12) (hq : -12 ≤ q ∧ q ≤ 12) (hpq : p < q) (hn : (nextN (prodF p q) t).no = false)
    (h1 : t.lo < (nextN (prodF p q) t).lo) (h2 : (nextN (prodF p q) t).hi < t.hi) :
    (hasT t (p * 65536) ∧ ¬ hasT t (q * 65536)) ∨ (¬ hasT t (p * 65536) ∧ hasT t (q * 65536)) := by
  obtain ⟨D, e, _, k⟩ := next_has ht hp hq hn
  have hm := inT_mid ht
  rw [e] at h1 h2
  simp only at h1 h2
  have hlh := ht.2.2.1
  obtain ⟨P, hP⟩ : ∃ P, p * 65536 = P := ⟨_, rfl⟩
  obtain ⟨Q, hQ⟩ : ∃ Q, q * 65536 = Q := ⟨_, rfl⟩
  simp only [hP, hQ] at k ⊢
  have hPQ : P < Q := by omega
  obtain ⟨m, hmm⟩ : ∃ m, t.mid = m := ⟨_, rfl⟩
  simp only [hmm] at k hm h1 h2
  unfold hasT
  obtain ⟨a1, a2, a3⟩ := k (m + t.lo - P - Q) (by omega) (by omega)
  obtain ⟨b1, b2, b3⟩ := k (m + t.hi - P - Q) (by omega) (by omega)
  have hlo := fval m t.lo P Q
  have hhi := fval m t.hi P Q
  have nz : ¬ (t.lo ≤ P ∧ Q ≤ t.hi) := by
    intro hb
    have hall := k 0 (by omega) (by omega)
    rcases hall.2.2 with c | c <;> omega
  have same : 0 < m + t.lo - P - Q ↔ 0 < m + t.hi - P - Q := by
    have hall := k 0
    constructor <;> intro c
    · omega
    · rcases a3 with c' | c'
      · exact c'
      · exfalso
        have := k 0 (by omega) (by omega)
        rcases this.2.2 with c | c <;> omega
  rcases a3 with c | c
  · have c' := same.1 c
    have f1 : (t.lo - P) * (t.lo - Q) < 0 := by
      have g := (a1 c).2
      have g2 : D.hi * (m + t.lo - P - Q) ≤ (m - t.lo - 1) * (m + t.lo - P - Q) := Int.mul_le_mul_of_nonneg_right (by omega) (by omega)
      rw [Int.sub_mul (m - t.lo)] at g2
      omega
    have f2 : 0 < (t.hi - P) * (t.hi - Q) := by
      have g := (b1 c').1
      have g2 : (m - t.hi + 1) * (m + t.hi - P - Q) ≤ D.lo * (m + t.hi - P - Q) := Int.mul_le_mul_of_nonneg_right (by omega) (by omega)
      rw [Int.add_mul (m - t.hi)] at g2
      omega
    rcases neg_of f1 with ⟨u1, u2⟩ | ⟨u1, u2⟩
    · rcases pos_of f2 with ⟨w1, w2⟩ | ⟨w1, w2⟩
      · right; omega
      · omega
    · omega
  · have c' : m + t.hi - P - Q < 0 := by
      rcases b3 with d | d
      · have := same.2 d; omega
      · exact d
    have f1 : 0 < (t.lo - P) * (t.lo - Q) := by
      have g := (a2 c).1
      have g2 : (m - t.lo - 1) * (m + t.lo - P - Q) ≤ D.hi * (m + t.lo - P - Q) := Int.mul_le_mul_of_nonpos_right (by omega) (by omega)
      rw [Int.sub_mul (m - t.lo)] at g2
      omega
    have f2 : (t.hi - P) * (t.hi - Q) < 0 := by
      have g := (b2 c').2
      have g2 : D.lo * (m + t.hi - P - Q) ≤ (m - t.hi + 1) * (m + t.hi - P - Q) := Int.mul_le_mul_of_nonpos_right (by omega) (by omega)
      rw [Int.add_mul (m - t.hi)] at g2
      omega
    rcases neg_of f2 with ⟨u1, u2⟩ | ⟨u1, u2⟩
    · rcases pos_of f1 with ⟨w1, w2⟩ | ⟨w1, w2⟩
      · omega
      · left; omega
    · omega
/-- Where it is surely not nothing, there is no zero. -/
theorem without_no {t : Iv} {p q r : Int} (ht : inT t) (hp : -12 ≤ p ∧ p ≤ 12) (hq : -12 ≤ q ∧ q ≤ 12) (hr : r = p ∨ r = q) (hw : without (prodF p q) t = true) : ¬ hasT t (r * 65536) := by
  intro h
  unfold hasT at h
  unfold without at hw
  simp only [Bool.and_eq_true, Bool.not_eq_true', prodF] at hw
  obtain ⟨h1, h2⟩ := hw
  have hb := ht.2
  rw [sub_whole ht hp, sub_whole ht hq] at h1 h2
  have e := mul_eq (a := ⟨t.lo - p * 65536, t.hi - p * 65536, false⟩) (b := ⟨t.lo - q * 65536, t.hi - q * 65536, false⟩) (right_mk (by omega)) (right_mk (by omega))
  rw [e] at h1 h2
  rw [(of_right h1).2] at h2
  have z : (r * 65536 - p * 65536) * (r * 65536 - q * 65536) = 0 := by
    rcases hr with rfl | rfl
    · rw [Int.sub_self, Int.zero_mul]
    · rw [Int.sub_self, Int.mul_zero]
  have x1 : min4 ((t.lo - p * 65536) * (t.lo - q * 65536)) ((t.lo - p * 65536) * (t.hi - q * 65536)) ((t.hi - p * 65536) * (t.lo - q * 65536)) ((t.hi - p * 65536) * (t.hi - q * 65536)) ≤ 0 := by
    rw [← z]
    have := min4_le ((t.lo - p * 65536) * (t.lo - q * 65536)) ((t.lo - p * 65536) * (t.hi - q * 65536)) ((t.hi - p * 65536) * (t.lo - q * 65536)) ((t.hi - p * 65536) * (t.hi - q * 65536))
    exact box_le ⟨by omega, by omega⟩ ⟨by omega, by omega⟩ this.1 this.2.1 this.2.2.1 this.2.2.2
  have x2 : 0 ≤ max4 ((t.lo - p * 65536) * (t.lo - q * 65536)) ((t.lo - p * 65536) * (t.hi - q * 65536)) ((t.hi - p * 65536) * (t.lo - q * 65536)) ((t.hi - p * 65536) * (t.hi - q * 65536)) := by
    rw [← z]
    have := le_max4 ((t.lo - p * 65536) * (t.lo - q * 65536)) ((t.lo - p * 65536) * (t.hi - q * 65536)) ((t.hi - p * 65536) * (t.lo - q * 65536)) ((t.hi - p * 65536) * (t.hi - q * 65536))
    exact box_ge ⟨by omega, by omega⟩ ⟨by omega, by omega⟩ this.1 this.2.1 this.2.2.1 this.2.2.2
  have y1 := fl_mono (b := 65536) (by decide) x1
  have y2 := cl_mono (b := 65536) (by decide) x2
  have z0 : fl 0 65536 = 0 := by decide
  have z1 : cl 0 65536 = 0 := by decide
  rw [z0] at y1
  rw [z1] at y2
  rw [of_right h1 |>.2] at h1
  have hb1 := right_iff.1 h1
  simp only [Iv.has, h1, Bool.true_and] at h2
  rw [decide_eq_true y1, decide_eq_true y2] at h2
  cases h2
theorem has_hasT {t : Iv} (h : inT t) (r : Int) : t.has r = true ↔ hasT t r := by
  unfold Iv.has hasT
  rw [inT_right h]
  simp
theorem inside_inT {t u : Iv} (h : inT t) (k : inT u) (h1 : u.lo ≤ t.lo) (h2 : t.hi ≤ u.hi) : t.inside u = true := by
  unfold Iv.inside
  rw [both_mk (inT_right h) (inT_right k), decide_eq_true h1, decide_eq_true h2]; rfl
theorem wide_roots {a b : Int} (ha : -524288 ≤ a ∧ a < 524288) (hb : 0 ≤ b ∧ b < 262144) : inT (wide a b) := by
  have h1 : within a (-1073741824) 1073741824 = a := by simp only [within]; omega
  unfold wide
  rw [h1, w64_of (by omega) (by omega)]
  exact ⟨rfl, by simp only; omega, by simp only; omega, by simp only; omega⟩
/-- What a solution says. -/
def saysOf (p q : Int) (t0 : Iv) (r : Iv × Int) : Prop :=
  (r.2 = 1 ∧ inT r.1 ∧ t0.lo ≤ r.1.lo ∧ r.1.hi ≤ t0.hi ∧ (hasT t0 (p * 65536) → hasT r.1 (p * 65536)) ∧ (hasT t0 (q * 65536) → hasT r.1 (q * 65536)) ∧
    ((hasT t0 (p * 65536) ∧ ¬ hasT t0 (q * 65536)) ∨ (¬ hasT t0 (p * 65536) ∧ hasT t0 (q * 65536)))) ∨
  (r = (Iv.none, 2) ∧ ¬ hasT t0 (p * 65536) ∧ ¬ hasT t0 (q * 65536)) ∨ r = (Iv.none, 0)
theorem solveGo_says {p q : Int} (hp : -12 ≤ p ∧ p ≤ 12) (hq : -12 ≤ q ∧ q ≤ 12) (hpq : p < q) (t0 : Iv) : ∀ (k : Nat) (t : Iv) (sure : Bool), inT t → t0.lo ≤ t.lo → t.hi ≤ t0.hi →
    (hasT t0 (p * 65536) → hasT t (p * 65536)) → (hasT t0 (q * 65536) → hasT t (q * 65536)) →
    (sure = true → (hasT t0 (p * 65536) ∧ ¬ hasT t0 (q * 65536)) ∨ (¬ hasT t0 (p * 65536) ∧ hasT t0 (q * 65536))) →
    saysOf p q t0 (solveGo (prodF p q) k t sure)
  | 0, t, sure, ht, h1, h2, hP, hQ, hs => by
    rw [solveGo]
    cases hsu : sure
    · exact .inr (.inr rfl)
    · exact .inl ⟨rfl, ht, h1, h2, hP, hQ, hs hsu⟩
  | k + 1, t, sure, ht, h1, h2, hP, hQ, hs => by
    rw [solveGo]
    have hm := inT_mid ht
    have hb := ht.2
    have hsp : t.split = (⟨t.lo, t.mid, false⟩, ⟨t.mid, t.hi, false⟩) := by
      unfold Iv.split
      rw [if_pos (inT_right ht), of_mk (by omega), of_mk (by omega)]
    have ia : inT ⟨t.lo, t.mid, false⟩ := ⟨rfl, by simp only; omega, by simp only; omega, by simp only; omega⟩
    have ib : inT ⟨t.mid, t.hi, false⟩ := ⟨rfl, by simp only; omega, by simp only; omega, by simp only; omega⟩
    unfold solveRound
    rw [hsp]
    by_cases hn : (nextN (prodF p q) t).no = true
    · rw [if_pos hn]
      by_cases ha : without (prodF p q) ⟨t.lo, t.mid, false⟩ = true
      · simp only [ha, if_true]
        have wp := without_no ia hp hq (.inl rfl) ha
        have wq := without_no ia hp hq (.inr rfl) ha
        refine solveGo_says hp hq hpq t0 k _ sure ib (by simp only; omega) (by simp only; omega) (fun h => ?_) (fun h => ?_) hs
        · have := hP h
          unfold hasT at *
          simp only at *
          omega
        · have := hQ h
          unfold hasT at *
          simp only at *
          omega
      · by_cases hb2 : without (prodF p q) ⟨t.mid, t.hi, false⟩ = true
        · simp only [ha, hb2, if_true, Bool.false_eq_true, if_false]
          have wp := without_no ib hp hq (.inl rfl) hb2
          have wq := without_no ib hp hq (.inr rfl) hb2
          refine solveGo_says hp hq hpq t0 k _ sure ia (by simp only; omega) (by simp only; omega) (fun h => ?_) (fun h => ?_) hs
          · have := hP h
            unfold hasT at *
            simp only at *
            omega
          · have := hQ h
            unfold hasT at *
            simp only at *
            omega
        · simp only [ha, hb2, if_true, Bool.false_eq_true, if_false]
          exact .inr (.inr rfl)
    · have hn' : (nextN (prodF p q) t).no = false := by simpa using hn
      rw [if_neg hn]
      obtain ⟨kp, kq⟩ := next_keeps ht hp hq hn'
      obtain ⟨D, eN, hr, _⟩ := next_has ht hp hq hn'
      have hr' := right_iff.1 hr
      have hmeet : t.meet (nextN (prodF p q) t) = Iv.of (max t.lo (nextN (prodF p q) t).lo) (min t.hi (nextN (prodF p q) t).hi) := if_pos (both_mk (inT_right ht) hr)
      have hsure : (sure || (decide (t.lo < (nextN (prodF p q) t).lo) && decide ((nextN (prodF p q) t).hi < t.hi))) = true →
          (hasT t0 (p * 65536) ∧ ¬ hasT t0 (q * 65536)) ∨ (¬ hasT t0 (p * 65536) ∧ hasT t0 (q * 65536)) := by
        intro h
        simp only [Bool.or_eq_true, Bool.and_eq_true, decide_eq_true_eq] at h
        rcases h with h | ⟨g1, g2⟩
        · exact hs h
        · have := next_sure ht hp hq hpq hn' g1 g2
          have up : hasT t (p * 65536) → hasT t0 (p * 65536) := by unfold hasT; omega
          have uq : hasT t (q * 65536) → hasT t0 (q * 65536) := by unfold hasT; omega
          rcases this with ⟨x, y⟩ | ⟨x, y⟩
          · exact .inl ⟨up x, fun z => y (hQ z)⟩
          · exact .inr ⟨fun z => x (hP z), uq y⟩
      generalize nextN (prodF p q) t = N at *
      by_cases hno : (t.meet N).no = true
      · rw [if_pos hno]
        refine .inr (.inl ⟨rfl, fun h => ?_, fun h => ?_⟩)
        · have a := hP h
          have b := kp a
          unfold hasT at a b
          rw [hmeet, of_mk (by omega)] at hno
          cases hno
        · have a := hQ h
          have b := kq a
          unfold hasT at a b
          rw [hmeet, of_mk (by omega)] at hno
          cases hno
      · rw [if_neg hno]
        have hmr : t.meet N = ⟨max t.lo N.lo, min t.hi N.hi, false⟩ ∧ max t.lo N.lo ≤ min t.hi N.hi := by
          have hr2 : (t.meet N).right = true := by
            have := no_meet t N
            cases hx : (t.meet N).no
            · rw [hx] at this; simpa using this
            · exact absurd hx hno
          rw [hmeet] at hr2 ⊢
          exact ⟨(of_right hr2).2, (of_right hr2).1.2.1⟩
        by_cases heq : t.meet N = t
        · rw [if_pos heq]
          by_cases hsu : (sure || (decide (t.lo < N.lo) && decide (N.hi < t.hi))) = true
          · simp only [hsu, if_true]
            exact .inl ⟨rfl, ht, h1, h2, hP, hQ, hsure hsu⟩
          · simp only [hsu, if_false, Bool.false_eq_true]
            exact .inr (.inr rfl)
        · rw [if_neg heq]
          simp only
          refine solveGo_says hp hq hpq t0 k _ _ ?_ ?_ ?_ (fun h => ?_) (fun h => ?_) hsure
          · rw [hmr.1]; exact ⟨rfl, by simp only; omega, by simp only; omega, by simp only; omega⟩
          · rw [hmr.1]; simp only; omega
          · rw [hmr.1]; simp only; omega
          · have a := hP h
            have b := kp a
            rw [hmr.1]
            unfold hasT at *
            simp only
            omega
          · have a := hQ h
            have b := kq a
            rw [hmr.1]
            unfold hasT at *
            simp only
            omega
theorem solve_says {p q : Int} (hp : -12 ≤ p ∧ p ≤ 12) (hq : -12 ≤ q ∧ q ≤ 12) (hpq : p < q) {t0 : Iv} (ht : inT t0) (n : Int) : saysOf p q t0 (solve (prodF p q) t0 n) := by
  unfold solve
  rw [if_pos (inT_right ht)]
  exact solveGo_says hp hq hpq t0 _ t0 false ht (Int.le_refl _) (Int.le_refl _) id id (fun h => by cases h)
end Go.Proofs.Ythgpgnijbajlgaa
