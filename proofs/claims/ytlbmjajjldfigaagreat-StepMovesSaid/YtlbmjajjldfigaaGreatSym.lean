/-
  Rays that are turned by quarters, or mirrored, meet what they met; in plain Lean.
-/
import Derived.Test.YtlbmjajjldfigaaGreatCore8
namespace Go.Proofs.YtlbmjajjldfigaaGreat
open Go
set_option linter.unusedVariables false
set_option linter.unusedSimpArgs false

theorem ediv_neg_cases (a b : Int) (hb : 0 < b) : (a % b = 0 ∧ (-a) / b = -(a / b)) ∨ (a % b ≠ 0 ∧ (-a) / b = -(a / b) - 1) := by
  have h1 := Int.emod_add_mul_ediv a b
  have h2 := Int.emod_add_mul_ediv (-a) b
  have l1 := Int.emod_nonneg a (show b ≠ 0 by omega)
  have l2 := Int.emod_lt_of_pos a hb
  have m1 := Int.emod_nonneg (-a) (show b ≠ 0 by omega)
  have m2 := Int.emod_lt_of_pos (-a) hb
  have e : b * ((-a) / b + a / b) = -(a % b + (-a) % b) := by rw [Int.mul_add]; omega
  generalize (-a) / b = p at *
  generalize a / b = q at *
  have c1 : p + q ≤ 0 := by
    rcases Int.lt_or_le 0 (p + q) with h | h
    · have := Int.mul_le_mul_of_nonneg_left (show (1 : Int) ≤ p + q by omega) (show 0 ≤ b by omega)
      omega
    · exact h
  have c2 : -1 ≤ p + q := by
    rcases Int.lt_or_le (p + q) (-1) with h | h
    · have := Int.mul_le_mul_of_nonneg_left (show p + q ≤ -2 by omega) (show 0 ≤ b by omega)
      omega
    · exact h
  rcases (show p + q = 0 ∨ p + q = -1 by omega) with h | h
  · rw [h, Int.mul_zero] at e
    exact .inl ⟨by omega, by omega⟩
  · rw [h] at e
    refine .inr ⟨?_, by omega⟩
    omega
theorem fl_exact_iff (a b : Int) (hb : 0 < b) : a / b * b ≠ a ↔ a % b ≠ 0 := by
  have h1 := Int.emod_add_mul_ediv a b
  rw [Int.mul_comm b] at h1
  omega
theorem fl_neg (a b : Int) (hb : b ≠ 0) : fl (-a) b = -(cl a b) := by
  have key : ∀ a b : Int, 0 < b → (-a) / b = -(if a / b * b ≠ a then a / b + 1 else a / b) := by
    intro a b hb
    rcases ediv_neg_cases a b hb with ⟨h1, h2⟩ | ⟨h1, h2⟩
    · rw [if_neg (fun h => (fl_exact_iff a b hb).1 h h1)]; exact h2
    · rw [if_pos ((fl_exact_iff a b hb).2 h1)]; omega
  unfold cl fl
  by_cases h : b < 0
  · simp only [if_pos h]
    rw [key (-a) (-b) (by omega)]
    have e : (-a / -b * b ≠ a) = (-a / -b * -b ≠ -a) := by
      rw [Int.mul_neg]; apply propext; constructor <;> intro h h' <;> apply h <;> omega
    simp only [e]
  · simp only [if_neg h]
    exact key a b (by omega)
theorem cl_neg (a b : Int) (hb : b ≠ 0) : cl (-a) b = -(fl a b) := by
  have := fl_neg (-a) b hb
  rw [Int.neg_neg] at this
  omega
theorem numIn_neg (n : Int) : numIn (-n) = numIn n := by
  simp only [numIn]
  by_cases h1 : -1073741824 ≤ n <;> by_cases h2 : n ≤ 1073741824 <;> simp [show (-1073741824 ≤ -n) = (n ≤ 1073741824) from propext (by omega), show (-n ≤ 1073741824) = (-1073741824 ≤ n) from propext (by omega), h1, h2]
theorem rnd_eq (a b : Int) (up : Bool) : rnd a b up = toldN (if up = true then cl a b else fl a b) := by
  unfold rnd toldN cl
  cases up <;> simp
theorem toldN_neg (n : Int) : toldN (-n) = (-(toldN n).1, (toldN n).2) := by
  unfold toldN
  rw [numIn_neg]
  split <;> simp
theorem rnd_neg (a b : Int) (up : Bool) (hb : b ≠ 0) : rnd (-a) b up = (-(rnd a b (!up)).1, (rnd a b (!up)).2) := by
  rw [rnd_eq, rnd_eq, ← toldN_neg]
  cases up
  · simp [fl_neg a b hb]
  · simp [cl_neg a b hb]
theorem numMul_neg (a b : Int) (up : Bool) : numMul (-a) b up = (-(numMul a b (!up)).1, (numMul a b (!up)).2) := by
  unfold numMul
  rw [numIn_neg, Int.neg_mul, rnd_neg _ _ _ (by decide)]
  split <;> simp
theorem numMul_comm (a b : Int) (up : Bool) : numMul a b up = numMul b a up := by
  unfold numMul
  rw [Int.mul_comm]
  by_cases h1 : numIn a = true <;> by_cases h2 : numIn b = true <;> simp [h1, h2]
theorem numDiv_neg (a b : Int) (up : Bool) : numDiv (-a) b up = (-(numDiv a b (!up)).1, (numDiv a b (!up)).2) := by
  unfold numDiv
  rw [numIn_neg, Int.neg_mul]
  by_cases hb : b = 0
  · simp [hb]
  · rw [rnd_neg _ _ _ hb]
    split <;> simp

theorem right_neg_mk (a b : Int) : (⟨-b, -a, false⟩ : Iv).right = (⟨a, b, false⟩ : Iv).right := by
  simp only [Iv.right, numIn_neg]
  rw [show decide (-b ≤ -a) = decide (a ≤ b) from decide_eq_decide.2 (by omega)]
  cases numIn a <;> cases numIn b <;> rfl
theorem of_neg (a b : Int) : (Iv.of a b).neg = Iv.of (-b) (-a) := by
  unfold Iv.of
  rw [right_neg_mk]
  by_cases h : (⟨a, b, false⟩ : Iv).right = true
  · rw [if_pos h, if_pos h]
    unfold Iv.neg
    rw [if_pos h]
    unfold Iv.of
    rw [if_pos (by rw [right_neg_mk]; exact h)]
  · rw [if_neg h, if_neg h]; rfl
/-- Right, or none. -/
def Iv.clean (a : Iv) : Prop := a.right = true ∨ a = Iv.none
theorem of_clean (a b : Int) : (Iv.of a b).clean := by
  unfold Iv.of
  split
  · rename_i h; exact .inl h
  · exact .inr rfl
theorem none_clean : Iv.none.clean := .inr rfl
theorem right_of {a : Iv} (h : a.right = true) : Iv.of a.lo a.hi = a := by
  obtain ⟨lo, hi, no⟩ := a
  have := (right_bd h).1
  simp only at this; subst this
  unfold Iv.of
  rw [if_pos h]
theorem neg_right_eq {a : Iv} (h : a.right = true) : a.neg = ⟨-a.hi, -a.lo, false⟩ := by
  have b := right_bd h
  unfold Iv.neg
  rw [if_pos h]
  exact of_eq ⟨⟨numIn_iff.2 (by omega), numIn_iff.2 (by omega)⟩, by omega⟩
theorem neg_right (a : Iv) : a.neg.right = a.right := by
  by_cases h : a.right = true
  · rw [neg_right_eq h, right_neg_mk]
    obtain ⟨lo, hi, no⟩ := a
    have := (right_bd h).1
    simp only at this; subst this
    rfl
  · unfold Iv.neg
    rw [if_neg h]
    simp only [Bool.not_eq_true] at h
    rw [h]; rfl
theorem neg_none {a : Iv} (h : a.right = false) : a.neg = Iv.none := by
  unfold Iv.neg; rw [if_neg (by simp [h])]
theorem neg_neg {a : Iv} (h : a.clean) : a.neg.neg = a := by
  rcases h with h | rfl
  · rw [neg_right_eq h]
    have h' : (⟨-a.hi, -a.lo, false⟩ : Iv).right = true := by rw [← neg_right_eq h, neg_right]; exact h
    rw [neg_right_eq h']
    obtain ⟨lo, hi, no⟩ := a
    have := (right_bd h).1
    simp only at this; subst this
    simp
  · rfl
theorem neg_clean (a : Iv) : a.neg.clean := by
  unfold Iv.neg; split
  · exact of_clean _ _
  · exact none_clean
theorem add_clean (a b : Iv) : (a.add b).clean := by
  unfold Iv.add; split
  · exact of_clean _ _
  · exact none_clean
theorem sub_clean (a b : Iv) : (a.sub b).clean := add_clean _ _
theorem ends_clean (f : Int → Int → Bool → Int × Bool) (a b : Iv) : (ends f a b).clean := by
  unfold ends; split
  · exact of_clean _ _
  · exact none_clean
theorem mul_clean (a b : Iv) : (a.mul b).clean := by
  unfold Iv.mul; split
  · exact ends_clean _ _ _
  · exact none_clean
theorem div_clean (a b : Iv) : (a.div b).clean := by
  unfold Iv.div; split
  · exact ends_clean _ _ _
  · exact none_clean
theorem times_clean (a : Iv) (k : Int) : (a.times k).clean := by
  unfold Iv.times; split
  · exact of_clean _ _
  · exact none_clean
theorem sqr_clean (a : Iv) : a.sqr.clean := by
  unfold Iv.sqr; split
  · exact of_clean _ _
  · exact none_clean
theorem add_comm' (a b : Iv) : a.add b = b.add a := by
  unfold Iv.add Iv.both
  rw [Int.add_comm a.lo, Int.add_comm a.hi, Bool.and_comm]
theorem add_neg (a b : Iv) : a.neg.add b.neg = (a.add b).neg := by
  unfold Iv.add Iv.both
  rw [neg_right, neg_right]
  by_cases ha : a.right = true
  · by_cases hb : b.right = true
    · rw [ha, hb, neg_right_eq ha, neg_right_eq hb]
      simp only [Bool.and_self, if_true]
      rw [of_neg]
      congr 1 <;> omega
    · simp [hb]; rfl
  · simp [ha]; rfl
theorem ends_neg {f : Int → Int → Bool → Int × Bool} (hf : ∀ x y up, f (-x) y up = (-(f x y (!up)).1, (f x y (!up)).2)) (a b : Iv) (no : Bool) : ends f ⟨-a.hi, -a.lo, no⟩ b = (ends f a b).neg := by
  unfold ends
  simp only [hf, Bool.not_false, Bool.not_true]
  by_cases c : ((f a.lo b.lo false).2 = true ∧ (f a.lo b.lo true).2 = true) ∧ ((f a.lo b.hi false).2 = true ∧ (f a.lo b.hi true).2 = true) ∧ ((f a.hi b.lo false).2 = true ∧ (f a.hi b.lo true).2 = true) ∧ ((f a.hi b.hi false).2 = true ∧ (f a.hi b.hi true).2 = true)
  · rw [if_pos c, if_pos ⟨⟨c.2.2.1.2, c.2.2.1.1⟩, ⟨c.2.2.2.2, c.2.2.2.1⟩, ⟨c.1.2, c.1.1⟩, ⟨c.2.1.2, c.2.1.1⟩⟩, of_neg]
    congr 1 <;> omega
  · rw [if_neg c, if_neg (fun c' => c ⟨⟨c'.2.2.1.2, c'.2.2.1.1⟩, ⟨c'.2.2.2.2, c'.2.2.2.1⟩, ⟨c'.1.2, c'.1.1⟩, ⟨c'.2.1.2, c'.2.1.1⟩⟩)]
    rfl
theorem mul_neg_left (a b : Iv) : a.neg.mul b = (a.mul b).neg := by
  unfold Iv.mul Iv.both
  rw [neg_right]
  by_cases ha : a.right = true
  · by_cases hb : b.right = true
    · rw [ha, hb, neg_right_eq ha]
      simp only [Bool.and_self, if_true]
      exact ends_neg numMul_neg a b false
    · simp [hb]; rfl
  · simp [ha]; rfl
theorem mul_comm' (a b : Iv) : a.mul b = b.mul a := by
  unfold Iv.mul Iv.both
  rw [Bool.and_comm]
  congr 1
  unfold ends
  rw [numMul_comm b.lo a.lo, numMul_comm b.lo a.lo, numMul_comm b.lo a.hi, numMul_comm b.lo a.hi, numMul_comm b.hi a.lo, numMul_comm b.hi a.lo, numMul_comm b.hi a.hi, numMul_comm b.hi a.hi]
  by_cases c : ((numMul a.lo b.lo false).2 = true ∧ (numMul a.lo b.lo true).2 = true) ∧ ((numMul a.lo b.hi false).2 = true ∧ (numMul a.lo b.hi true).2 = true) ∧ ((numMul a.hi b.lo false).2 = true ∧ (numMul a.hi b.lo true).2 = true) ∧ ((numMul a.hi b.hi false).2 = true ∧ (numMul a.hi b.hi true).2 = true)
  · rw [if_pos c, if_pos ⟨c.1, c.2.2.1, c.2.1, c.2.2.2⟩]
    congr 1 <;> omega
  · rw [if_neg c, if_neg (fun c' => c ⟨c'.1, c'.2.2.1, c'.2.1, c'.2.2.2⟩)]
theorem mul_neg_right (a b : Iv) : a.mul b.neg = (a.mul b).neg := by
  rw [mul_comm', mul_neg_left, mul_comm']
theorem mul_neg_neg (a b : Iv) : a.neg.mul b.neg = a.mul b := by
  rw [mul_neg_left, mul_neg_right, neg_neg (mul_clean _ _)]
theorem div_neg_left (a b : Iv) : a.neg.div b = (a.div b).neg := by
  unfold Iv.div Iv.both
  rw [neg_right]
  by_cases ha : a.right = true
  · by_cases hb : b.right = true ∧ b.has 0 = false
    · rw [ha, hb.1, hb.2, neg_right_eq ha]
      simp only [Bool.and_self, and_self, if_true]
      exact ends_neg numDiv_neg a b false
    · have h1 : ¬ ((true && b.right) = true ∧ b.has 0 = false) := by simpa using hb
      rw [ha, if_neg h1, if_neg h1]; rfl
  · simp [ha]; rfl
theorem sqr_neg (a : Iv) : a.neg.sqr = a.sqr := by
  by_cases ha : a.right = true
  · unfold Iv.sqr
    rw [neg_right, neg_right_eq ha]
    simp only [Int.neg_neg]
    rw [Int.max_comm a.hi, Int.max_comm (-a.hi) a.lo]
  · simp only [Bool.not_eq_true] at ha
    unfold Iv.sqr
    rw [neg_right, ha]
    simp
theorem times_neg (a : Iv) (k : Int) : a.neg.times k = (a.times k).neg := by
  unfold Iv.times
  rw [neg_right]
  by_cases ha : a.right = true
  · by_cases hk : numIn k = true
    · rw [if_pos ⟨ha, hk⟩, if_pos ⟨ha, hk⟩, neg_right_eq ha, of_neg]
      simp only [Int.mul_neg]
      congr 1 <;> omega
    · rw [if_neg (fun h => hk h.2), if_neg (fun h => hk h.2)]; rfl
  · rw [if_neg (fun h => ha h.1), if_neg (fun h => ha h.1)]; rfl

/-- What leaves the axis where it is, and all lengths and angles. -/
structure Sym (σ : V → V) : Prop where
  z : ∀ a : V, (σ a).z = a.z
  sq : ∀ a : V, (σ a).x.sqr.add (σ a).y.sqr = a.x.sqr.add a.y.sqr
  dot : ∀ a b : V, ((σ a).x.mul (σ b).x).add ((σ a).y.mul (σ b).y) = (a.x.mul b.x).add (a.y.mul b.y)
  add : ∀ a b : V, σ (a.add b) = (σ a).add (σ b)
  scale : ∀ (a : V) (k : Iv), σ (a.scale k) = (σ a).scale k
  divs : ∀ (a : V) (k : Iv), σ ⟨a.x.div k, a.y.div k, a.z.div k⟩ = ⟨(σ a).x.div k, (σ a).y.div k, (σ a).z.div k⟩
  right : ∀ a : V, (σ a).right = a.right
  none : σ V.none = V.none
  zed : ∀ (a : V) (w : Iv), σ ⟨a.x, a.y, w⟩ = ⟨(σ a).x, (σ a).y, w⟩
  nrm : ∀ (a : V) (c w : Iv), σ ⟨(c.mul a.x).neg, (c.mul a.y).neg, w⟩ = ⟨(c.mul (σ a).x).neg, (c.mul (σ a).y).neg, w⟩
  nrmB : ∀ (a : V) (c w : Iv), σ ⟨((c.mul a.x).times 2).neg, ((c.mul a.y).times 2).neg, w⟩ = ⟨((c.mul (σ a).x).times 2).neg, ((c.mul (σ a).y).times 2).neg, w⟩
theorem sym_id : Sym id := ⟨fun _ => rfl, fun _ => rfl, fun _ _ => rfl, fun _ _ => rfl, fun _ _ => rfl, fun _ _ => rfl, fun _ => rfl, rfl, fun _ _ => rfl, fun _ _ _ => rfl, fun _ _ _ => rfl⟩
theorem sym_comp {σ τ : V → V} (h : Sym σ) (k : Sym τ) : Sym (fun a => τ (σ a)) :=
  ⟨fun a => by rw [k.z, h.z], fun a => by rw [k.sq, h.sq], fun a b => by rw [k.dot, h.dot], fun a b => by rw [h.add, k.add], fun a c => by rw [h.scale, k.scale], fun a c => by rw [h.divs, k.divs],
    fun a => by rw [k.right, h.right], by rw [h.none, k.none], fun a w => by rw [h.zed, k.zed], fun a c w => by rw [h.nrm, k.nrm], fun a c w => by rw [h.nrmB, k.nrmB]⟩
theorem sym_quarter : Sym V.quarter where
  z a := rfl
  sq a := by simp only [V.quarter]; rw [sqr_neg, add_comm']
  dot a b := by simp only [V.quarter]; rw [mul_neg_neg, add_comm']
  add a b := by simp only [V.quarter, V.add, add_neg]
  scale a k := by simp only [V.quarter, V.scale, mul_neg_left]
  divs a k := by simp only [V.quarter, div_neg_left]
  right a := by
    simp only [V.quarter, V.right, neg_right]
    cases a.x.right <;> cases a.y.right <;> rfl
  none := rfl
  zed a w := rfl
  nrm a c w := by simp only [V.quarter, mul_neg_right]
  nrmB a c w := by simp only [V.quarter, mul_neg_right, times_neg]
theorem sym_mirror : Sym V.mirror where
  z a := rfl
  sq a := by simp only [V.mirror]; rw [sqr_neg]
  dot a b := by simp only [V.mirror]; rw [mul_neg_neg]
  add a b := by simp only [V.mirror, V.add, add_neg]
  scale a k := by simp only [V.mirror, V.scale, mul_neg_left]
  divs a k := by simp only [V.mirror, div_neg_left]
  right a := by simp only [V.mirror, V.right, neg_right]
  none := rfl
  zed a w := rfl
  nrm a c w := by simp only [V.mirror, mul_neg_right]
  nrmB a c w := by simp only [V.mirror, mul_neg_right, times_neg]

def Ray.map (σ : V → V) (r : Ray) : Ray := ⟨σ r.o, σ r.d⟩
section
variable {σ : V → V} (h : Sym σ)
include h
theorem back_sym (r : Ray) (w : Iv) : (r.map σ).back w = (r.back w).map σ := by
  show (⟨⟨(σ r.o).x, (σ r.o).y, (σ r.o).z.sub w⟩, σ r.d⟩ : Ray) = ⟨σ ⟨r.o.x, r.o.y, r.o.z.sub w⟩, σ r.d⟩
  rw [h.zed r.o (r.o.z.sub w), h.z]
theorem along_sym (r : Ray) (t : Iv) : along (r.map σ) t = σ (along r t) := by
  simp only [along, Ray.map, h.add, h.scale]
theorem hitRound_sym (s : Surf) (o d : V) : hitRound s (σ o) (σ d) = hitRound s o d := by
  simp only [hitRound, h.sq, h.dot, h.z]
theorem faceAt_sym (s : Surf) (r : Ray) : faceAt s (r.map σ) = faceAt s r := by
  funext t
  simp only [faceAt, along_sym h, h.sq, h.z]
  simp only [Ray.map, h.dot, h.z]
theorem hitOf_sym (s : Surf) (r : Ray) : hitOf s (r.map σ) = ((hitOf s r).1, σ (hitOf s r).2.1, (hitOf s r).2.2) := by
  unfold hitOf
  rw [back_sym h]
  generalize r.back s.at_ = q
  have e : hitAt s (q.map σ) = hitAt s q := by
    unfold hitAt hitBent
    rw [faceAt_sym h]
    simp only [Ray.map, hitRound_sym h]
  rw [e]
  generalize hitAt s q = w
  unfold hitEnd
  rw [along_sym h, h.right]
  by_cases c : w.2 = 1
  · rw [if_neg (not_not_intro c), if_neg (not_not_intro c)]
    by_cases d : (along q w.1).right = true
    · rw [if_pos d, if_pos d]
    · rw [if_neg d, if_neg d, h.none]
  · rw [if_pos c, if_pos c, h.none]
theorem len2_sym (a : V) : (σ a).len2 = a.len2 := by simp only [V.len2, h.sq, h.z]
theorem unit_sym (a : V) : V.unit (σ a) = σ a.unit := by
  simp only [V.unit, len2_sym h]
  rw [← h.divs]
theorem vdot_sym (a b : V) : (σ a).dot (σ b) = a.dot b := by simp only [V.dot, h.dot, h.z]
theorem normalOf_sym (s : Surf) (p : V) : normalOf s (σ p) = σ (normalOf s p) := by
  unfold normalOf normalBent normalFlat
  split
  · rw [← unit_sym h, h.sq, h.nrmB]
  · rw [← unit_sym h, h.nrm, h.z]
theorem bend_sym (d n : V) (ratio : Iv) : bend (σ d) (σ n) ratio = (σ (bend d n ratio).1, (bend d n ratio).2) := by
  unfold bend
  rw [vdot_sym h, ← h.scale, ← h.scale, ← h.add, h.right]
  split
  · rw [h.none]
  · split
    · rw [h.none]
    · split
      · rw [h.none]
      · split
        · rw [h.none]
        · split
          · rfl
          · rw [h.none]
theorem lost_sym (is : Int) : lost is = ((lost is).1.map σ, (lost is).2) := by
  simp only [lost, Ray.map, Ray.none, h.none]
theorem stepOf_sym (s : Surf) (r : Ray) : stepOf s (r.map σ) = ((stepOf s r).1.map σ, (stepOf s r).2) := by
  unfold stepOf
  rw [hitOf_sym h]
  dsimp only
  rw [normalOf_sym h]
  generalize hitOf s r = w
  generalize normalOf s w.2.1 = n
  unfold stepEnd
  dsimp only
  rw [h.sq, h.z, show (r.map σ).d = σ r.d from rfl, bend_sym h]
  dsimp only
  split
  · exact lost_sym h _
  · split
    · exact lost_sym h _
    · split
      · exact lost_sym h _
      · split
        · simp only [Ray.map]
          rw [h.zed w.2.1 (w.2.1.z.add s.at_)]
        · split
          · exact lost_sym h _
          · simp only [Ray.map]
            rw [h.zed w.2.1 (w.2.1.z.add s.at_)]
theorem traceGo_sym : ∀ (l : List Surf) (i : Int) (r : Ray), traceGo l i (r.map σ) = ((traceGo l i r).1, (traceGo l i r).2.1, (traceGo l i r).2.2.map σ)
  | [], i, r => rfl
  | s :: l, i, r => by
    unfold traceGo
    rw [stepOf_sym h]
    dsimp only
    split
    · rfl
    · exact traceGo_sym l (i + 1) (stepOf s r).1
theorem traceOf_sym (l : List Surf) (r : Ray) : traceOf l (r.map σ) = ((traceOf l r).1, (traceOf l r).2.1, (traceOf l r).2.2.map σ) := traceGo_sym h l 0 r
end

/-- So many quarters. -/
def turnN : Nat → V → V
  | 0, a => a
  | k + 1, a => turnN k a.quarter
theorem sym_turnN : ∀ k, Sym (turnN k)
  | 0 => sym_id
  | k + 1 => show Sym (fun a => turnN k a.quarter) from sym_comp sym_quarter (sym_turnN k)
def V.turn (a : V) (k : Int) : V := turnN (pick k 4).toNat a
theorem sym_turn (k : Int) : Sym (fun a => V.turn a k) := sym_turnN _
end Go.Proofs.YtlbmjajjldfigaaGreat
