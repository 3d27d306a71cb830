/-
  Faces and rays as numbers: a bent face's function and its slope; in plain Lean.
-/
import Derived.Test.YtlbmjajjldfigaaGreatNewtM
namespace Go.Proofs.YtlbmjajjldfigaaGreat
open Go
set_option linter.unusedVariables false
set_option linter.unusedSimpArgs false

/-- A face and a ray in numbers. -/
structure Par where
  c : Rat
  k : Rat
  a4 : Rat
  a6 : Rat
  ox : Rat
  oy : Rat
  oz : Rat
  dx : Rat
  dy : Rat
  dz : Rat
structure ParIn (p : Par) (s : Surf) (r : Ray) : Prop where
  c : M p.c s.curve
  k : M p.k s.conic
  a4 : M p.a4 s.a4
  a6 : M p.a6 s.a6
  ox : M p.ox r.o.x
  oy : M p.oy r.o.y
  oz : M p.oz r.o.z
  dx : M p.dx r.d.x
  dy : M p.dy r.d.y
  dz : M p.dz r.d.z
def lowR (a : Iv) : Rat := (a.lo : Rat) / 65536
theorem lowR_m (a : Iv) : M (lowR a) a := fun h => by
  have b := right_bd h
  have := ri_le b.2.2.2.2.2
  unfold lowR
  constructor <;> grind
def Par.low (s : Surf) (r : Ray) : Par := ⟨lowR s.curve, lowR s.conic, lowR s.a4, lowR s.a6, lowR r.o.x, lowR r.o.y, lowR r.o.z, lowR r.d.x, lowR r.d.y, lowR r.d.z⟩
theorem low_in (s : Surf) (r : Ray) : ParIn (Par.low s r) s r := ⟨lowR_m _, lowR_m _, lowR_m _, lowR_m _, lowR_m _, lowR_m _, lowR_m _, lowR_m _, lowR_m _, lowR_m _⟩
theorem ParIn.sub {p : Par} {s : Surf} {q r : Ray} (h : ParIn p s q) (hs : SubR q r) : ParIn p s r :=
  ⟨h.c, h.k, h.a4, h.a6, m_sub' hs.1.1 h.ox, m_sub' hs.1.2.1 h.oy, m_sub' hs.1.2.2 h.oz, m_sub' hs.2.1 h.dx, m_sub' hs.2.2.1 h.dy, m_sub' hs.2.2.2 h.dz⟩
def Par.x (p : Par) (t : Rat) : Rat := p.ox + p.dx * t
def Par.y (p : Par) (t : Rat) : Rat := p.oy + p.dy * t
def Par.z (p : Par) (t : Rat) : Rat := p.oz + p.dz * t
def Par.w (p : Par) (t : Rat) : Rat := p.x t * p.x t + p.y t * p.y t
/-- What a face's root is of, at a square of the distance from the axis. -/
def Par.q (p : Par) (w : Rat) : Rat := 1 - p.k * (p.c * p.c) * w
def Par.s (p : Par) (N : Nat) (w : Rat) : Rat := rsq N (p.q w)
def Par.sagR (p : Par) (N : Nat) (w : Rat) : Rat := p.c * w / (1 + p.s N w)
def Par.sagP (p : Par) (w : Rat) : Rat := ((p.a6 * (w / 1000) + p.a4) * (w / 1000) + 0) * (w / 1000) + 0
def Par.sag (p : Par) (N : Nat) (bent : Bool) (w : Rat) : Rat := if bent = true then p.sagR N w + p.sagP w else p.sagR N w
def Par.g (p : Par) (N : Nat) (t : Rat) : Rat := p.z t - (p.sagR N (p.w t) + p.sagP (p.w t))

theorem m_one : M 1 (Iv.point 65536) := by
  have := m_point 65536
  have e : ((65536 : Int) : Rat) / 65536 = 1 := by have : ((65536 : Int) : Rat) = 65536 := rfl
                                                   rw [this]; grind
  rw [e] at this; exact this
theorem m_nil : M 0 (Iv.point 0) := by
  have := m_point 0
  have e : ((0 : Int) : Rat) / 65536 = 0 := by have : ((0 : Int) : Rat) = 0 := rfl
                                               rw [this]; grind
  rw [e] at this; exact this
theorem m_times2 {x : Rat} {a : Iv} (h : M x a) : M (x * 2) (a.times 2) := m_times h 2
theorem m_thousand : M 1000 (Iv.whole 1000) := m_whole 1000
theorem along_m {p : Par} {s : Surf} {r : Ray} (h : ParIn p s r) {t : Rat} {a : Iv} (ha : M t a) : M (p.x t) (along r a).x ∧ M (p.y t) (along r a).y ∧ M (p.z t) (along r a).z :=
  ⟨m_add h.ox (m_mul h.dx ha), m_add h.oy (m_mul h.dy ha), m_add h.oz (m_mul h.dz ha)⟩
theorem w_m {p : Par} {s : Surf} {r : Ray} (h : ParIn p s r) {t : Rat} {a : Iv} (ha : M t a) : M (p.w t) ((along r a).x.sqr.add (along r a).y.sqr) := by
  obtain ⟨h1, h2, _⟩ := along_m h ha
  exact m_add (m_sqr h1) (m_sqr h2)
theorem q_m {p : Par} {s : Surf} {r : Ray} (h : ParIn p s r) {w : Rat} {a : Iv} (ha : M w a) : M (p.q w) ((Iv.point 65536).sub ((s.conic.mul s.curve.sqr).mul a)) :=
  m_sub m_one (m_mul (m_mul h.k (m_sqr h.c)) ha)
theorem s_m {N : Nat} (hN : 0 < N) {p : Par} {s : Surf} {r : Ray} (h : ParIn p s r) {w : Rat} {a : Iv} (ha : M w a) : M (p.s N w) ((Iv.point 65536).sub ((s.conic.mul s.curve.sqr).mul a)).root :=
  m_root hN (q_m h ha)
theorem sagR_m {N : Nat} (hN : 0 < N) {p : Par} {s : Surf} {r : Ray} (h : ParIn p s r) {w : Rat} {a : Iv} (ha : M w a) : M (p.sagR N w) (sagRound s a).1 :=
  m_div (m_mul h.c ha) (m_add m_one (s_m hN h ha))
theorem m_iff {x : Rat} {a : Iv} {P : Prop} [Decidable P] (h : M x a) : M x (if P then a else Iv.none) := by
  split
  · exact h
  · exact fun h => by cases h
theorem horner4 (a b c d x : Iv) : horner [a, b, c, d] x = if ((((((d.mul x).add c).mul x).add b).mul x).add a).right = true then (((((d.mul x).add c).mul x).add b).mul x).add a else Iv.none := by
  have h : hornerD [a, b, c, d] x 3 (atI [a, b, c, d] 3) = (((((d.mul x).add c).mul x).add b).mul x).add a := by simp [hornerD, atI]
  unfold horner
  rw [if_neg (by simp)]
  simp only [List.length_cons, List.length_nil, Nat.reduceAdd, Nat.reduceSub, h]
theorem horner3 (a b c x : Iv) : horner [a, b, c] x = if ((((c.mul x).add b).mul x).add a).right = true then (((c.mul x).add b).mul x).add a else Iv.none := by
  have h : hornerD [a, b, c] x 2 (atI [a, b, c] 2) = (((c.mul x).add b).mul x).add a := by simp [hornerD, atI]
  unfold horner
  rw [if_neg (by simp)]
  simp only [List.length_cons, List.length_nil, Nat.reduceAdd, Nat.reduceSub, h]
theorem slope4 (a b c d : Iv) : slope [a, b, c, d] = [b.times 1, c.times 2, d.times 3] := rfl
theorem sagP_m {p : Par} {s : Surf} {r : Ray} (h : ParIn p s r) {w : Rat} {a : Iv} (ha : M w a) : M (p.sagP w) (horner [Iv.point 0, Iv.point 0, s.a4, s.a6] (a.div (Iv.whole 1000))) := by
  have hu : M (w / 1000) (a.div (Iv.whole 1000)) := m_div ha m_thousand
  rw [horner4]
  exact m_iff (m_add (m_mul (m_add (m_mul (m_add (m_mul h.a6 hu) h.a4) hu) m_nil) hu) m_nil)
theorem sagOf_m {N : Nat} (hN : 0 < N) {p : Par} {s : Surf} {r : Ray} (h : ParIn p s r) {w : Rat} {a : Iv} (ha : M w a) : M (p.sag N s.bent w) (sagOf s a).1 := by
  unfold sagOf Par.sag sagPre sagBent
  by_cases c : s.bent = true
  · rw [if_pos c, if_pos c]
    split
    · exact fun h => by cases h
    · exact m_add (sagR_m hN h ha) (sagP_m h ha)
  · rw [if_neg c, if_neg c]
    split
    · exact fun h => by cases h
    · exact sagR_m hN h ha
theorem face_val {N : Nat} (hN : 0 < N) {p : Par} {s : Surf} {r : Ray} (hb : s.bent = true) (h : ParIn p s r) {t : Rat} {a : Iv} (ha : M t a) : M (p.g N t) (faceAt s r a).1 := by
  have e : p.g N t = p.z t - p.sag N s.bent (p.w t) := by unfold Par.g Par.sag; rw [if_pos hb]
  rw [e]
  exact m_sub (along_m h ha).2.2 (sagOf_m hN h (w_m h ha))
/-- Between two of one. -/
theorem m_conv {x y z : Rat} {a : Iv} (hx : M x a) (hy : M y a) (h : (x ≤ z ∧ z ≤ y) ∨ (y ≤ z ∧ z ≤ x)) : M z a := fun hr => by
  have := hx hr; have := hy hr
  grind
/-- The slope of a face between two places. -/
theorem steep_m {N : Nat} (hN : 0 < N) {p : Par} {s : Surf} {r : Ray} (hb : s.bent = true) (h : ParIn p s r) {w v : Rat} {a : Iv} (hw : M w a) (hv : M v a) (hw0 : 0 ≤ w) (hv0 : 0 ≤ v) :
    M (p.c / ((p.s N w + p.s N v) / 2 * 2) + (p.a6 * ((w / 1000) * (w / 1000) + (w / 1000) * (v / 1000) + (v / 1000) * (v / 1000)) + p.a4 * (w / 1000 + v / 1000)) / 1000) (sagOf s a).2 := by
  have hs := m_conv (s_m hN h hw) (s_m hN h hv) (z := (p.s N w + p.s N v) / 2) (by rcases Rat.le_total (a := p.s N w) (b := p.s N v) with c | c <;> grind)
  have hu : M (w / 1000) (a.div (Iv.whole 1000)) := m_div hw m_thousand
  have hu' : M (v / 1000) (a.div (Iv.whole 1000)) := m_div hv m_thousand
  have u0 : 0 ≤ w / 1000 := by grind
  have v0 : 0 ≤ v / 1000 := by grind
  unfold sagOf sagPre sagBent
  rw [if_pos hb]
  split
  · exact fun h => by cases h
  refine m_add (m_div h.c (m_times2 hs)) (m_div ?_ m_thousand)
  rw [slope4, horner3]
  refine m_iff ?_
  generalize w / 1000 = u at *
  generalize v / 1000 = u' at *
  have hm : M ((u + u') / 2) (a.div (Iv.whole 1000)) := m_conv hu hu' (by rcases Rat.le_total (a := u) (b := u') with c | c <;> grind)
  have key : ∃ m, M m (a.div (Iv.whole 1000)) ∧ 3 * m * (u + u') = 2 * (u * u + u * u' + u' * u') := by
    rcases Classical.em (u + u' = 0) with z | z
    · refine ⟨u, hu, ?_⟩
      have : u = 0 := by grind
      have : u' = 0 := by grind
      subst_vars; grind
    · have pos : 0 < u + u' := Rat.lt_of_le_of_ne (by grind) (fun e => z e.symm)
      refine ⟨2 * (u * u + u * u' + u' * u') / (3 * (u + u')), m_conv hu hu' ?_, ?_⟩
      · have e : 2 * (u * u + u * u' + u' * u') / (3 * (u + u')) * (3 * (u + u')) = 2 * (u * u + u * u' + u' * u') := Rat.div_mul_cancel (by grind)
        generalize 2 * (u * u + u * u' + u' * u') / (3 * (u + u')) = m at *
        have k1 := Rat.mul_nonneg u0 v0
        rcases Rat.le_total (a := u) (b := u') with c | c
        · left
          have p1 := Rat.mul_nonneg (a := u' - u) (b := 2 * u' + u) (by grind) (by grind)
          have p2 := Rat.mul_nonneg (a := u' - u) (b := 2 * u + u') (by grind) (by grind)
          constructor
          · refine Rat.le_of_mul_le_mul_right (c := 3 * (u + u')) ?_ (by grind)
            grind
          · refine Rat.le_of_mul_le_mul_right (c := 3 * (u + u')) ?_ (by grind)
            grind
        · right
          have p1 := Rat.mul_nonneg (a := u - u') (b := 2 * u' + u) (by grind) (by grind)
          have p2 := Rat.mul_nonneg (a := u - u') (b := 2 * u + u') (by grind) (by grind)
          constructor
          · refine Rat.le_of_mul_le_mul_right (c := 3 * (u + u')) ?_ (by grind)
            grind
          · refine Rat.le_of_mul_le_mul_right (c := 3 * (u + u')) ?_ (by grind)
            grind
      · have e : 2 * (u * u + u * u' + u' * u') / (3 * (u + u')) * (3 * (u + u')) = 2 * (u * u + u * u' + u' * u') := Rat.div_mul_cancel (by grind)
        grind
  obtain ⟨m, m1, m2⟩ := key
  have e : p.a6 * (u * u + u * u' + u' * u') + p.a4 * (u + u') = ((p.a6 * (3 : Int)) * m + p.a4 * (2 : Int)) * ((u + u') / 2) + 0 * (1 : Int) := by
    have i3 : ((3 : Int) : Rat) = 3 := rfl
    have i2 : ((2 : Int) : Rat) = 2 := rfl
    rw [i3, i2]
    grind
  rw [e]
  exact m_add (m_mul (m_add (m_mul (m_times h.a6 3) m1) (m_times h.a4 2)) hm) (m_times m_nil 1)
theorem w_nonneg (p : Par) (t : Rat) : 0 ≤ p.w t := by
  have := rsq_nonneg (p.x t); have := rsq_nonneg (p.y t)
  unfold Par.w; grind
/-- Two quotients, by their roots. -/
theorem sag_diff {c k w v s u e f n : Rat} (hs : 1 ≤ 65536 * s) (hu : 1 ≤ 65536 * u) (hw : 0 ≤ w ∧ w ≤ 16384) (hv : 0 ≤ v ∧ v ≤ 16384) (hc : -16384 ≤ c ∧ c ≤ 16384)
    (he : e = 1 - k * (c * c) * w - s * s) (hf : f = 1 - k * (c * c) * v - u * u) (he0 : 0 ≤ e ∧ e ≤ n) (hf0 : 0 ≤ f ∧ f ≤ n) :
    c * w / (1 + s) - c * v / (1 + u) ≤ c / (s + u) * (w - v) + 8796093022208 * n ∧ c / (s + u) * (w - v) ≤ c * w / (1 + s) - c * v / (1 + u) + 8796093022208 * n := by
  have e1 : c * w / (1 + s) * (1 + s) = c * w := Rat.div_mul_cancel (by grind)
  have e2 : c * v / (1 + u) * (1 + u) = c * v := Rat.div_mul_cancel (by grind)
  have e3 : c / (s + u) * (s + u) = c := Rat.div_mul_cancel (by grind)
  generalize c * w / (1 + s) = A at *
  generalize c * v / (1 + u) = B at *
  generalize c / (s + u) = D at *
  have hD : (A - B - D * (w - v)) * ((1 + s) * (1 + u) * (s + u)) = c * (v * e - w * f) := by
    have l1 : A * ((1 + s) * (1 + u) * (s + u)) = c * w * ((1 + u) * (s + u)) := by rw [← e1]; grind
    have l2 : B * ((1 + s) * (1 + u) * (s + u)) = c * v * ((1 + s) * (s + u)) := by rw [← e2]; grind
    have l3 : D * (w - v) * ((1 + s) * (1 + u) * (s + u)) = c * (w - v) * ((1 + s) * (1 + u)) := by
      have : D * (w - v) * ((1 + s) * (1 + u) * (s + u)) = (D * (s + u)) * (w - v) * ((1 + s) * (1 + u)) := by grind
      rw [this, e3]
    have : (A - B - D * (w - v)) * ((1 + s) * (1 + u) * (s + u)) = A * ((1 + s) * (1 + u) * (s + u)) - B * ((1 + s) * (1 + u) * (s + u)) - D * (w - v) * ((1 + s) * (1 + u) * (s + u)) := by grind
    rw [this, l1, l2, l3, he, hf]
    grind
  have n0 : 0 ≤ n := by grind
  have b1 : -(16384 * n) ≤ v * e - w * f ∧ v * e - w * f ≤ 16384 * n := by
    have := Rat.mul_nonneg hv.1 he0.1
    have := Rat.mul_nonneg hw.1 hf0.1
    have a1 := rmulL hv.1 he0.2
    have a2 := rmulL hw.1 hf0.2
    have a3 := rmulR n0 hv.2
    have a4 := rmulR n0 hw.2
    grind
  have b2 : -(268435456 * n) ≤ c * (v * e - w * f) ∧ c * (v * e - w * f) ≤ 268435456 * n := by
    generalize v * e - w * f = X at *
    constructor
    · refine rlin_le hc.1 hc.2 ?_ ?_ <;> grind
    · refine rlin_ge hc.1 hc.2 ?_ ?_ <;> grind
  rw [← hD] at b2
  have hX0 : A - B = (A - B - D * (w - v)) + D * (w - v) := by grind
  rw [hX0]
  generalize A - B - D * (w - v) = X at *
  generalize D * (w - v) = Y at *
  have g : 1 ≤ 32768 * ((1 + s) * (1 + u) * (s + u)) := by
    have p1 := Rat.mul_nonneg (a := s) (b := u) (by grind) (by grind)
    have p2 : 1 ≤ (1 + s) * (1 + u) := by grind
    have p3 := rmulR (c := s + u) (by grind) p2
    grind
  generalize (1 + s) * (1 + u) * (s + u) = K at *
  have hX : X ≤ 8796093022208 * n ∧ -X ≤ 8796093022208 * n := by
    constructor
    · rcases Rat.le_total (a := X) (b := 0) with c | c
      · grind
      · have := rmulL c g; grind
    · rcases Rat.le_total (a := X) (b := 0) with c | c
      · have := rmulL (c := -X) (by grind) g; grind
      · grind
  grind
theorem rep_face {N : Nat} (hN : 0 < N) {p : Par} {s : Surf} {r : Ray} (hb : s.bent = true) (h : ParIn p s r) : Rep (faceAt s r) (p.g N) (8796093022208 * (1 / N)) where
  e0 := by
    have hN' : (0 : Rat) < N := Rat.natCast_pos.2 hN
    have e : (1 : Rat) / N * N = 1 := Rat.div_mul_cancel (by grind)
    have : (0 : Rat) ≤ 1 / N := by
      refine Rat.le_of_mul_le_mul_right (c := (N : Rat)) ?_ hN'
      rw [e]; grind
    grind
  val := fun t x hx hr => (face_val hN hb h hx.m).in hr
  slo := by
    intro t x y hx hy hr
    have hm : M ((x + y) / 2) t := m_conv hx.m hy.m (by rcases Rat.le_total (a := x) (b := y) with c | c <;> grind)
    obtain ⟨a1, a2, _⟩ := along_m h hm
    have hw := w_m h hx.m
    have hv := w_m h hy.m
    have hst := steep_m hN hb h hw hv (w_nonneg p x) (w_nonneg p y)
    have hout := m_times2 (m_add (m_mul a1 h.dx) (m_mul a2 h.dy))
    have hs := m_sub h.dz (m_mul hst hout)
    refine ⟨_, hs.in hr, ?_⟩
    have hr2 : ((sagOf s ((along r t).x.sqr.add (along r t).y.sqr)).2.mul ((((along r t).x.mul r.d.x).add ((along r t).y.mul r.d.y)).times 2)).right = true := by
      have h1 := hr
      unfold faceAt Iv.sub at h1
      have := (add_right h1).2
      rw [neg_right] at this
      exact this
    have hr3 := (mul_right hr2).1
    have hr4 : ((Iv.point 65536).sub ((s.conic.mul s.curve.sqr).mul ((along r t).x.sqr.add (along r t).y.sqr))).root.right = true ∧ s.curve.right = true ∧ (((Iv.point 65536).sub ((s.conic.mul s.curve.sqr).mul ((along r t).x.sqr.add (along r t).y.sqr))).root.times 2).has 0 = false := by
      unfold sagOf sagPre sagBent at hr3
      rw [if_pos hb] at hr3
      split at hr3
      · cases hr3
      · obtain ⟨d1, d2, d3⟩ := div_right (add_right hr3).1
        exact ⟨(times_right d2).1, d1, d3⟩
    obtain ⟨r5, r6, r7⟩ := hr4
    have hq := (root_right r5).1
    have hq0 := (root_right r5).2
    have hwr : ((along r t).x.sqr.add (along r t).y.sqr).right = true := by
      have h1 := hq
      unfold Iv.sub at h1
      have := (add_right h1).2
      rw [neg_right] at this
      exact (mul_right this).2
    have bd : ∀ {x : Rat} {a : Iv}, In x a → x ≤ 16384 ∧ -16384 ≤ x := by
      intro x a hx
      have := right_bd hx.1
      have i1 : (a.hi : Rat) ≤ ((1073741824 : Int) : Rat) := ri_le (by omega)
      have i2 : ((-1073741824 : Int) : Rat) ≤ (a.lo : Rat) := ri_le (by omega)
      have e1 : ((1073741824 : Int) : Rat) = 1073741824 := rfl
      have e2 : ((-1073741824 : Int) : Rat) = -1073741824 := rfl
      have := hx.2
      grind
    have bw := bd (hw.in hwr)
    have bv := bd (hv.in hwr)
    have bc := bd (h.c.in r6)
    have root : ∀ w, M w ((along r t).x.sqr.add (along r t).y.sqr) → 1 ≤ 65536 * p.s N w ∧ 0 ≤ p.q w - p.s N w * p.s N w ∧ p.q w - p.s N w * p.s N w ≤ 1 / N := by
      intro w hw
      have q1 := (q_m h hw).in hq
      have q0 : 0 ≤ p.q w := by
        have : (0 : Rat) ≤ (((Iv.point 65536).sub ((s.conic.mul s.curve.sqr).mul ((along r t).x.sqr.add (along r t).y.sqr))).lo : Rat) := ri_le hq0
        have := q1.2.1
        grind
      have q2 := (bd q1).1
      have er := rsq_err hN q0 (by grind)
      have s1 := (m_times2 (s_m hN h hw)).in (show (((Iv.point 65536).sub ((s.conic.mul s.curve.sqr).mul ((along r t).x.sqr.add (along r t).y.sqr))).root.times 2).right = true by
        unfold sagOf sagPre sagBent at hr3
        rw [if_pos hb] at hr3
        split at hr3
        · cases hr3
        · exact (div_right (add_right hr3).1).2.1)
      have s0 := (rsq_spec hN q0).1
      have r5' := s_m hN h hw r5
      refine ⟨?_, er⟩
      have two : ∀ {x : Rat} {a : Iv}, In (x * 2) (a.times 2) → M x a → 0 ≤ x → (a.times 2).has 0 = false → a.right = true → 1 ≤ 65536 * x := by
        intro x a hx hm hx0 h0 ha
        have b := right_bd ha
        have e : a.times 2 = ⟨2 * a.lo, 2 * a.hi, false⟩ := by
          have hh := hx.1
          unfold Iv.times at hh ⊢
          rw [if_pos ⟨ha, by decide⟩] at hh ⊢
          rw [(of_right hh).2, Int.min_eq_left (by omega), Int.max_eq_right (by omega)]
        rcases has0 hx.1 h0 with c | c
        · rw [e] at c
          dsimp only at c
          have := ri_le (show (1 : Int) ≤ a.lo by omega)
          have e1 : ((1 : Int) : Rat) = 1 := rfl
          have := (hm ha).1
          grind
        · rw [e] at c
          dsimp only at c
          have := ri_le (show a.hi ≤ (-1 : Int) by omega)
          have e1 : ((-1 : Int) : Rat) = -1 := rfl
          have := (hm ha).2
          grind
      exact two s1 (s_m hN h hw) s0 r7 r5
    have R1 := root _ hw
    have R2 := root _ hv
    have sd := sag_diff (c := p.c) (k := p.k) (w := p.w x) (v := p.w y) (s := p.s N (p.w x)) (u := p.s N (p.w y)) (n := 1 / N) R1.1 R2.1 ⟨w_nonneg p x, bw.1⟩ ⟨w_nonneg p y, bv.1⟩ ⟨bc.2, bc.1⟩ rfl rfl R1.2 R2.2
    have ew : p.w x - p.w y = (x - y) * ((p.x ((x + y) / 2) * p.dx + p.y ((x + y) / 2) * p.dy) * 2) := by
      unfold Par.w Par.x Par.y; grind
    have e2 : (p.s N (p.w x) + p.s N (p.w y)) / 2 * 2 = p.s N (p.w x) + p.s N (p.w y) := by grind
    rw [e2]
    have eP : p.sagP (p.w x) - p.sagP (p.w y) = (p.a6 * (p.w x / 1000 * (p.w x / 1000) + p.w x / 1000 * (p.w y / 1000) + p.w y / 1000 * (p.w y / 1000)) + p.a4 * (p.w x / 1000 + p.w y / 1000)) / 1000 * (p.w x - p.w y) := by
      unfold Par.sagP; grind
    have eg : p.g N x - p.g N y = p.dz * (x - y) - (p.c * p.w x / (1 + p.s N (p.w x)) - p.c * p.w y / (1 + p.s N (p.w y))) - (p.sagP (p.w x) - p.sagP (p.w y)) := by
      unfold Par.g Par.z Par.sagR; grind
    have es : ∀ Q H : Rat, (p.dz - (Q + H) * ((p.x ((x + y) / 2) * p.dx + p.y ((x + y) / 2) * p.dy) * 2)) * (x - y) = p.dz * (x - y) - Q * (p.w x - p.w y) - H * (p.w x - p.w y) := by
      intro Q H; rw [ew]; grind
    rw [es, ← eP]
    generalize p.c / (p.s N (p.w x) + p.s N (p.w y)) * (p.w x - p.w y) = A at *
    generalize p.c * p.w x / (1 + p.s N (p.w x)) - p.c * p.w y / (1 + p.s N (p.w y)) = B at *
    grind
end Go.Proofs.YtlbmjajjldfigaaGreat
