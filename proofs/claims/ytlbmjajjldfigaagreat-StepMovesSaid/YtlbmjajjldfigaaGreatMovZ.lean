/-
  How far off its vertex a face may be met; a face and a ray that are moved along the axis go on the same, moved; in plain Lean.
-/
import Derived.Test.YtlbmjajjldfigaaGreatHitM
import Derived.Test.YtlbmjajjldfigaaGreatStepM
import Derived.Test.YtlbmjajjldfigaaGreatSysG
import Derived.Test.YtlbmjajjldfigaaGreatLaws2
namespace Go.Proofs.YtlbmjajjldfigaaGreat
open Go
set_option linter.unusedVariables false
set_option linter.unusedSimpArgs false

/-! How great the numbers of an interval are; in plain Lean. -/

theorem far_bd {a : Iv} (h : a.right = true) : -(ivFar a) ≤ a.lo ∧ a.hi ≤ ivFar a ∧ a.lo ≤ ivFar a ∧ -(ivFar a) ≤ a.hi ∧ 0 ≤ ivFar a := by
  have := right_bd h
  unfold ivFar
  omega
theorem far_or {a : Iv} (h : a.right = true) : ivFar a = -a.lo ∨ ivFar a = a.hi := by unfold ivFar; omega
theorem far_le {a : Iv} {n : Int} (h1 : -n ≤ a.lo) (h2 : a.hi ≤ n) : ivFar a ≤ n := by unfold ivFar; omega
theorem far_add {a b : Iv} (h : (a.add b).right = true) : ivFar (a.add b) ≤ ivFar a + ivFar b ∧ ivFar b ≤ ivFar (a.add b) + ivFar a ∧ ivFar a ≤ ivFar (a.add b) + ivFar b ∧ (a.add b).hi = a.hi + b.hi ∧ (a.add b).lo = a.lo + b.lo := by
  obtain ⟨r1, r2⟩ := add_right h
  have b1 := right_bd r1
  have b2 := right_bd r2
  have e : (a.add b) = ⟨a.lo + b.lo, a.hi + b.hi, false⟩ := by
    unfold Iv.add at h ⊢
    rw [if_pos (by simp [Iv.both, r1, r2])] at h ⊢
    exact (of_right h).2
  rw [e]
  unfold ivFar
  dsimp only
  omega
theorem far_neg {a : Iv} (h : a.right = true) : ivFar a.neg = ivFar a := by
  have := right_bd h
  rw [neg_right_eq h]
  unfold ivFar
  dsimp only
  omega
theorem far_sub {a b : Iv} (h : (a.sub b).right = true) : ivFar (a.sub b) ≤ ivFar a + ivFar b ∧ ivFar b ≤ ivFar (a.sub b) + ivFar a ∧ ivFar a ≤ ivFar (a.sub b) + ivFar b ∧ (a.sub b).hi = a.hi - b.lo ∧ (a.sub b).lo = a.lo - b.hi ∧ a.right = true ∧ b.right = true := by
  unfold Iv.sub at h ⊢
  obtain ⟨r1, r2⟩ := add_right h
  rw [neg_right] at r2
  have := far_add h
  rw [far_neg r2] at this
  rw [neg_right_eq r2] at this ⊢
  exact ⟨this.1, this.2.1, this.2.2.1, by rw [this.2.2.2.1]; dsimp only; omega, by rw [this.2.2.2.2]; dsimp only; omega, r1, r2⟩
theorem abs_mul_le {x y A B : Int} (h1 : -A ≤ x) (h2 : x ≤ A) (h3 : -B ≤ y) (h4 : y ≤ B) : -(A * B) ≤ x * y ∧ x * y ≤ A * B := by
  have e := Int.natAbs_mul x y
  have : x.natAbs * y.natAbs ≤ A.natAbs * B.natAbs := Nat.mul_le_mul (by omega) (by omega)
  have e2 := Int.natAbs_mul A B
  have : 0 ≤ A * B := Int.mul_nonneg (by omega) (by omega)
  omega
theorem far_mul {a b : Iv} (h : (a.mul b).right = true) : ivFar (a.mul b) * 65536 ≤ ivFar a * ivFar b + 65535 ∧ ivFar a * ivFar b ≤ ivFar (a.mul b) * 65536 := by
  obtain ⟨r1, r2⟩ := mul_right h
  have b1 := right_bd r1
  have b2 := right_bd r2
  have f1 := far_bd r1
  have f2 := far_bd r2
  have hh := h
  rw [mul_eq r1 r2] at h ⊢
  have e := (of_right h).2
  rw [e]
  obtain ⟨p1, p2, p3, p4⟩ := min4_le (a.lo * b.lo) (a.lo * b.hi) (a.hi * b.lo) (a.hi * b.hi)
  obtain ⟨q1, q2, q3, q4⟩ := le_max4 (a.lo * b.lo) (a.lo * b.hi) (a.hi * b.lo) (a.hi * b.hi)
  have m1 := abs_mul_le (x := a.lo) (y := b.lo) (A := ivFar a) (B := ivFar b) (by omega) (by omega) (by omega) (by omega)
  have m2 := abs_mul_le (x := a.lo) (y := b.hi) (A := ivFar a) (B := ivFar b) (by omega) (by omega) (by omega) (by omega)
  have m3 := abs_mul_le (x := a.hi) (y := b.lo) (A := ivFar a) (B := ivFar b) (by omega) (by omega) (by omega) (by omega)
  have m4 := abs_mul_le (x := a.hi) (y := b.hi) (A := ivFar a) (B := ivFar b) (by omega) (by omega) (by omega) (by omega)
  have l := le_min4 m1.1 m2.1 m3.1 m4.1
  have u := max4_le m1.2 m2.2 m3.2 m4.2
  have key : ivFar a * ivFar b ≤ max (-(min4 (a.lo * b.lo) (a.lo * b.hi) (a.hi * b.lo) (a.hi * b.hi))) (max4 (a.lo * b.lo) (a.lo * b.hi) (a.hi * b.lo) (a.hi * b.hi)) := by
    rcases far_or r1 with e1 | e1 <;> rcases far_or r2 with e2 | e2 <;> rw [e1, e2]
    · rw [Int.neg_mul_neg]; omega
    · rw [Int.neg_mul]; omega
    · rw [Int.mul_neg]; omega
    · omega
  generalize min4 (a.lo * b.lo) (a.lo * b.hi) (a.hi * b.lo) (a.hi * b.hi) = mn at *
  generalize max4 (a.lo * b.lo) (a.lo * b.hi) (a.hi * b.lo) (a.hi * b.hi) = mx at *
  have c1 := lt_fl mn (b := 65536) (by decide)
  have c2 := fl_le mn (b := 65536) (by decide)
  have c3 := (cl_le_iff (a := mx) (b := 65536) (by decide)).1 (Int.le_refl _)
  have c4 := lt_fl mx (b := 65536) (by decide)
  have c5 := fl_le mx (b := 65536) (by decide)
  have c6 : cl mx 65536 * 65536 ≤ mx + 65535 := by
    have : cl mx 65536 ≤ (mx + 65535) / 65536 := by
      rw [cl_le_iff (by decide)]
      omega
    omega
  rw [show ivFar ⟨fl mn 65536, cl mx 65536, false⟩ = max (-(fl mn 65536)) (cl mx 65536) from rfl]
  generalize ivFar a * ivFar b = X at *
  rw [Int.add_mul] at c1 c4
  omega
theorem sq_nonneg'' (n : Int) : 0 ≤ n * n := by
  rcases Int.lt_or_le n 0 with c | c
  · have := Int.mul_pos_of_neg_of_neg c c; omega
  · exact Int.mul_nonneg c c
theorem far_sqr {a : Iv} (h : a.sqr.right = true) : ivFar a * ivFar a ≤ a.sqr.hi * 65536 ∧ a.sqr.hi * 65536 ≤ ivFar a * ivFar a + 65535 ∧ 0 ≤ a.sqr.lo ∧ ivFar a.sqr = a.sqr.hi := by
  have r := sqr_right h
  rw [sqr_eq r] at h ⊢
  have e := (of_right h).2
  have c3 := (cl_le_iff (a := ivFar a * ivFar a) (b := 65536) (by decide)).1 (Int.le_refl _)
  have c6 : cl (ivFar a * ivFar a) 65536 * 65536 ≤ ivFar a * ivFar a + 65535 := by
    have : cl (ivFar a * ivFar a) 65536 ≤ (ivFar a * ivFar a + 65535) / 65536 := by
      rw [cl_le_iff (by decide)]
      omega
    omega
  have n0 : 0 ≤ fl (ivNear a * ivNear a) 65536 := (le_fl_iff (by decide)).2 (by have := sq_nonneg'' (ivNear a); omega)
  have hb := right_bd h
  rw [e] at hb ⊢
  dsimp only at hb ⊢
  refine ⟨c3, c6, n0, ?_⟩
  unfold ivFar at hb ⊢
  dsimp only at hb ⊢
  omega
theorem far_times2 {a : Iv} (h : (a.times 2).right = true) : ivFar (a.times 2) = 2 * ivFar a := by
  obtain ⟨r1, r2⟩ := times_right h
  have b := right_bd r1
  have e : a.times 2 = ⟨2 * a.lo, 2 * a.hi, false⟩ := by
    unfold Iv.times at h ⊢
    rw [if_pos ⟨r1, r2⟩] at h ⊢
    rw [(of_right h).2, Int.min_eq_left (by omega), Int.max_eq_right (by omega)]
  rw [e]
  unfold ivFar
  dsimp only
  omega
/-- A quotient by what lies above a number. -/
theorem far_div {a b : Iv} {n : Int} (hn : 0 < n) (h : (a.div b).right = true) (hb : n ≤ b.lo) : ivFar (a.div b) * n ≤ ivFar a * 65536 + n := by
  obtain ⟨r1, r2, r3⟩ := div_right h
  have b1 := right_bd r1
  have b2 := right_bd r2
  have f := far_bd r1
  rw [div_eq r1 r2 r3] at h ⊢
  have e := (of_right h).2
  have key : ∀ x y : Int, (-(ivFar a) ≤ x ∧ x ≤ ivFar a) → n ≤ y → -(ivFar a * 65536 + n) ≤ fl (x * 65536) y * n ∧ cl (x * 65536) y * n ≤ ivFar a * 65536 + n := by
    intro x y hx hy
    have A0 : 0 ≤ ivFar a := f.2.2.2.2
    constructor
    · rcases Int.lt_or_le (fl (x * 65536) y) 0 with c | c
      · have c1 := lt_fl (x * 65536) (b := y) (by omega)
        have c2 : (fl (x * 65536) y + 1) * y ≤ (fl (x * 65536) y + 1) * n := Int.mul_le_mul_of_nonpos_left (by omega) hy
        rw [Int.add_mul, Int.one_mul] at c2
        rw [Int.add_mul, Int.one_mul] at c1 c2
        omega
      · have := Int.mul_nonneg c (Int.le_of_lt hn)
        omega
    · rcases Int.lt_or_le 0 (cl (x * 65536) y) with c | c
      · have c1 : (cl (x * 65536) y - 1) * y < x * 65536 := by
          rcases Int.lt_or_le ((cl (x * 65536) y - 1) * y) (x * 65536) with k | k
          · exact k
          · have := (cl_le_iff (q := cl (x * 65536) y - 1) (a := x * 65536) (b := y) (by omega)).2 k
            omega
        have c2 : (cl (x * 65536) y - 1) * n ≤ (cl (x * 65536) y - 1) * y := Int.mul_le_mul_of_nonneg_left hy (by omega)
        rw [Int.sub_mul, Int.one_mul] at c1 c2
        rw [Int.sub_mul, Int.one_mul] at c2
        omega
      · have : cl (x * 65536) y * n ≤ 0 := Int.mul_nonpos_of_nonpos_of_nonneg c (Int.le_of_lt hn)
        omega
  rw [e]
  have k1 := key a.lo b.lo (by omega) (by omega)
  have k2 := key a.lo b.hi (by omega) (by omega)
  have k3 := key a.hi b.lo (by omega) (by omega)
  have k4 := key a.hi b.hi (by omega) (by omega)
  unfold ivFar
  dsimp only
  have A0 : 0 ≤ ivFar a := f.2.2.2.2
  generalize hA : ivFar a = A at *
  unfold ivFar at hA
  rw [hA]
  have m : ∀ {p q r s X : Int}, -X ≤ p * n → -X ≤ q * n → -X ≤ r * n → -X ≤ s * n → -(min4 p q r s) * n ≤ X := by
    intro p q r s X h1 h2 h3 h4
    rw [Int.neg_mul]
    have : min4 p q r s = p ∨ min4 p q r s = q ∨ min4 p q r s = r ∨ min4 p q r s = s := by unfold min4; omega
    rcases this with t | t | t | t <;> rw [t] <;> omega
  have M : ∀ {p q r s X : Int}, p * n ≤ X → q * n ≤ X → r * n ≤ X → s * n ≤ X → max4 p q r s * n ≤ X := by
    intro p q r s X h1 h2 h3 h4
    have : max4 p q r s = p ∨ max4 p q r s = q ∨ max4 p q r s = r ∨ max4 p q r s = s := by unfold max4; omega
    rcases this with t | t | t | t <;> rw [t] <;> omega
  have u1 := m k1.1 k2.1 k3.1 k4.1
  have u2 := M k1.2 k2.2 k3.2 k4.2
  rcases Int.le_total (-(min4 (fl (a.lo * 65536) b.lo) (fl (a.lo * 65536) b.hi) (fl (a.hi * 65536) b.lo) (fl (a.hi * 65536) b.hi))) (max4 (cl (a.lo * 65536) b.lo) (cl (a.lo * 65536) b.hi) (cl (a.hi * 65536) b.lo) (cl (a.hi * 65536) b.hi)) with c | c
  · rw [Int.max_eq_right c]; exact u2
  · rw [Int.max_eq_left c]; exact u1

/-! A face and a ray that are moved along the axis: how far from the face's vertex a place may be told; in plain Lean. -/

/-- A ray of the statements, reckoned from a face's vertex. -/
structure RayN (q : Ray) : Prop where
  ox : q.o.x.right = true ∧ ivFar q.o.x ≤ 337000
  oy : q.o.y.right = true ∧ ivFar q.o.y ≤ 337000
  oz : q.o.z.right = true ∧ -7340032 ≤ q.o.z.lo ∧ q.o.z.hi ≤ 0
  dx : q.d.x.right = true
  dy : q.d.y.right = true
  dz : q.d.z.right = true ∧ 62000 ≤ q.d.z.lo ∧ q.d.z.hi ≤ 65540
theorem RayN.farz {q : Ray} (h : RayN q) : ivFar q.o.z ≤ 7340032 ∧ ivFar q.d.z ≤ 65540 := by
  have b1 := right_bd h.oz.1
  have b2 := right_bd h.dz.1
  obtain ⟨_, z1, z2⟩ := h.oz
  obtain ⟨_, z3, z4⟩ := h.dz
  exact ⟨far_le (by omega) (by omega), far_le (by omega) (by omega)⟩
/-- Two numbers' product, from one of it. -/
theorem le_of_mul_lt {a b n m : Int} (hb : 0 ≤ b) (hn : 0 < n) (h : a * b ≤ m) (hbn : n ≤ b) (ha : 0 ≤ a) : a * n ≤ m :=
  Int.le_trans (Int.mul_le_mul_of_nonneg_left hbn ha) h
/-- Where a ray is within an opening, far on, it leans little. -/
theorem lean_small {q : Ray} (h : RayN q) {t : Iv} {o2 : Iv} (hv : (along q t).right = true) (hr : ((along q t).x.sqr.add (along q t).y.sqr).right = true) (ho : ((along q t).x.sqr.add (along q t).y.sqr).hi ≤ 6423200) (ht : t.right = true) (hf : 1040000000 ≤ ivFar t) :
    ivFar q.d.x ≤ 62 ∧ ivFar q.d.y ≤ 62 := by
  obtain ⟨vx, vy, vz⟩ := vright_iff.1 hv
  obtain ⟨sx, sy⟩ := add_right hr
  have ea := far_add hr
  have fx := far_sqr sx
  have fy := far_sqr sy
  have bx := right_bd sx
  have by_ := right_bd sy
  have key : ∀ {a d o : Iv}, o.right = true → ivFar o ≤ 337000 → (o.add (d.mul t)).right = true → ivFar (o.add (d.mul t)) * ivFar (o.add (d.mul t)) ≤ 6423200 * 65536 → ivFar d ≤ 62 := by
    intro a d o ho h1 h2 h3
    have f0 := (far_bd h2).2.2.2.2
    have hX : ivFar (o.add (d.mul t)) ≤ 648811 := by
      rcases Int.lt_or_le 648811 (ivFar (o.add (d.mul t))) with c | c
      · have : (648812 : Int) * 648812 ≤ ivFar (o.add (d.mul t)) * ivFar (o.add (d.mul t)) := Int.mul_le_mul (by omega) (by omega) (by omega) f0
        omega
      · exact c
    have fa := far_add h2
    have rm := (add_right h2).2
    have fm := far_mul rm
    have fd := (far_bd (mul_right rm).1).2.2.2.2
    have := le_of_mul_lt (by omega) (n := 1040000000) (by omega) fm.2 hf fd
    omega
  refine ⟨key (a := t) h.ox.1 h.ox.2 vx ?_, key (a := t) h.oy.1 h.oy.2 vy ?_⟩
  · have := fx.1
    show ivFar (along q t).x * ivFar (along q t).x ≤ _
    omega
  · have := fy.1
    show ivFar (along q t).y * ivFar (along q t).y ≤ _
    omega
/-- A place far off along the axis is of a time far on. -/
theorem time_far {q : Ray} (h : RayN q) {t : Iv} (hv : (along q t).right = true) (hz : 1058406400 ≤ ivFar (along q t).z) : t.right = true ∧ 1040000000 ≤ ivFar t := by
  obtain ⟨vx, vy, vz⟩ := vright_iff.1 hv
  have hz' : (q.o.z.add (q.d.z.mul t)).right = true := vz
  have fa := far_add hz'
  have rm := (add_right hz').2
  have fm := far_mul rm
  have rt := (mul_right rm).2
  obtain ⟨z1, z2⟩ := h.farz
  have ft := (far_bd rt).2.2.2.2
  refine ⟨rt, ?_⟩
  have e : (along q t).z = q.o.z.add (q.d.z.mul t) := rfl
  rw [e] at hz
  have h1 : ivFar q.d.z * ivFar t ≤ 65540 * ivFar t := Int.mul_le_mul_of_nonneg_right z2 ft
  omega
/-- Through a face that is not bent, of a curve and a conic constant that are small together: a time is not far on. -/
theorem flat_near {f : Surf} {q : Ray} (h : RayN q) (hc : f.curve.right = true ∧ ivFar f.curve ≤ 4370) (hk : f.conic.right = true) (hck : ivFar f.curve * ivFar f.conic ≤ 34306549) (hd : ivFar q.d.x ≤ 62 ∧ ivFar q.d.y ≤ 62) (hr : (hitRound f q.o q.d).2 = 1) :
    ivFar (hitRound f q.o q.d).1 < 1040000000 := by
  obtain ⟨z1, z2⟩ := h.farz
  have fc0 := (far_bd hc.1).2.2.2.2
  have fk0 := (far_bd hk).2.2.2.2
  unfold hitRound near at hr ⊢
  generalize ha : f.curve.mul ((q.d.x.sqr.add q.d.y.sqr).add (f.conic.mul q.d.z.sqr)) = a at *
  generalize hb : (f.curve.mul (((q.o.x.mul q.d.x).add (q.o.y.mul q.d.y)).add (f.conic.mul (q.o.z.mul q.d.z)))).sub q.d.z = b at *
  generalize hcc : (f.curve.mul ((q.o.x.sqr.add q.o.y.sqr).add (f.conic.mul q.o.z.sqr))).sub (q.o.z.times 2) = c at *
  by_cases c1 : (b.sqr.sub (a.mul c)).no = true
  · simp [c1] at hr
  by_cases c2 : (b.sqr.sub (a.mul c)).hi < 0
  · simp [c1, c2] at hr
  by_cases c3 : (b.sqr.sub (a.mul c)).lo < 0
  · simp [c1, c2, c3] at hr
  by_cases c4 : (c.div ((b.sqr.sub (a.mul c)).root.sub b)).no = true
  · simp [c1, c2, c3, c4] at hr
  rw [if_neg c1, if_neg c2, if_neg c3, if_neg c4]
  dsimp only
  clear hr
  have rT := clean_right (div_clean _ _) (by simpa using c4)
  have rD := clean_right (sub_clean _ _) (by simpa using c1)
  obtain ⟨rc, rv, _⟩ := div_right rT
  obtain ⟨_, _, _, _, vlo, rS, rb⟩ := far_sub rv
  -- the root is not below nothing
  have s0 : 0 ≤ (b.sqr.sub (a.mul c)).root.lo := by
    rw [root_eq rD (by omega)]
    have bd := right_bd rD
    exact (isqrt_spec (n := (b.sqr.sub (a.mul c)).lo * 65536) (by omega) (by omega)).1
  -- b is well below nothing
  have hbhi : b.hi ≤ -3324 := by
    rw [← hb] at rb ⊢
    obtain ⟨_, _, _, bhi, _, rcY, rdz⟩ := far_sub rb
    obtain ⟨_, rY⟩ := mul_right rcY
    have fY := far_add rY
    obtain ⟨rP, rkQ⟩ := add_right rY
    have fP := far_add rP
    obtain ⟨rp1, rp2⟩ := add_right rP
    have m1 := far_mul rp1
    have m2 := far_mul rp2
    have mk := far_mul rkQ
    obtain ⟨_, rQ⟩ := mul_right rkQ
    have mQ := far_mul rQ
    have mc := far_mul rcY
    have fcy := far_bd rcY
    have a1 : ivFar q.o.x * ivFar q.d.x ≤ 337000 * 62 := Int.mul_le_mul h.ox.2 hd.1 (far_bd h.dx).2.2.2.2 (by omega)
    have a2 : ivFar q.o.y * ivFar q.d.y ≤ 337000 * 62 := Int.mul_le_mul h.oy.2 hd.2 (far_bd h.dy).2.2.2.2 (by omega)
    have a3 : ivFar q.o.z * ivFar q.d.z ≤ 7340032 * 65540 := Int.mul_le_mul z1 z2 (far_bd h.dz.1).2.2.2.2 (by omega)
    generalize (f.curve.mul (((q.o.x.mul q.d.x).add (q.o.y.mul q.d.y)).add (f.conic.mul (q.o.z.mul q.d.z)))) = cY at *
    generalize hYe : (((q.o.x.mul q.d.x).add (q.o.y.mul q.d.y)).add (f.conic.mul (q.o.z.mul q.d.z))) = Y at *
    generalize (q.o.x.mul q.d.x).add (q.o.y.mul q.d.y) = P at *
    generalize f.conic.mul (q.o.z.mul q.d.z) = kQ at *
    generalize q.o.z.mul q.d.z = Q at *
    have fQ : ivFar Q ≤ 7340480 := by omega
    have fQ0 := (far_bd rQ).2.2.2.2
    have b1 : ivFar f.curve * (ivFar kQ * 65536) ≤ ivFar f.curve * (ivFar f.conic * ivFar Q + 65535) := Int.mul_le_mul_of_nonneg_left mk.1 fc0
    have b2 : ivFar f.curve * ivFar f.conic * ivFar Q ≤ 34306549 * 7340480 := Int.mul_le_mul hck fQ fQ0 (by omega)
    have b3 : ivFar f.curve * ivFar Y ≤ ivFar f.curve * (ivFar P + ivFar kQ) := Int.mul_le_mul_of_nonneg_left fY.1 fc0
    have b4 : ivFar f.curve * ivFar P ≤ 4370 * 640 := Int.mul_le_mul hc.2 (by omega) (far_bd rP).2.2.2.2 (by omega)
    rw [Int.mul_add, ← Int.mul_assoc, ← Int.mul_assoc] at b1
    rw [Int.mul_add] at b3
    generalize ivFar f.curve * ivFar f.conic * ivFar Q = W at *
    generalize ivFar f.curve * ivFar kQ = U at *
    generalize ivFar f.curve * ivFar P = V at *
    generalize ivFar f.curve * ivFar Y = Z at *
    have := h.dz.2.1
    omega
  have hdiv := far_div (n := 3324) (by decide) rT (by omega)
  have hC : ivFar c ≤ 21477660 := by
    rw [← hcc] at rc ⊢
    obtain ⟨fC, _, _, _, _, rcY, ro2⟩ := far_sub rc
    have ft := far_times2 ro2
    obtain ⟨_, rY⟩ := mul_right rcY
    have fY := far_add rY
    obtain ⟨rP, rkQ⟩ := add_right rY
    have fP := far_add rP
    obtain ⟨rp1, rp2⟩ := add_right rP
    have m1 := far_sqr rp1
    have m2 := far_sqr rp2
    have mk := far_mul rkQ
    obtain ⟨_, rQ⟩ := mul_right rkQ
    have mQ := far_sqr rQ
    have mc := far_mul rcY
    have a1 : ivFar q.o.x * ivFar q.o.x ≤ 337000 * 337000 := Int.mul_le_mul h.ox.2 h.ox.2 (far_bd h.ox.1).2.2.2.2 (by omega)
    have a2 : ivFar q.o.y * ivFar q.o.y ≤ 337000 * 337000 := Int.mul_le_mul h.oy.2 h.oy.2 (far_bd h.oy.1).2.2.2.2 (by omega)
    have a3 : ivFar q.o.z * ivFar q.o.z ≤ 7340032 * 7340032 := Int.mul_le_mul z1 z1 (far_bd h.oz.1).2.2.2.2 (by omega)
    generalize (f.curve.mul ((q.o.x.sqr.add q.o.y.sqr).add (f.conic.mul q.o.z.sqr))) = cY at *
    generalize hYe : ((q.o.x.sqr.add q.o.y.sqr).add (f.conic.mul q.o.z.sqr)) = Y at *
    generalize q.o.x.sqr.add q.o.y.sqr = P at *
    generalize f.conic.mul q.o.z.sqr = kQ at *
    generalize q.o.z.sqr = Q at *
    have fQ : ivFar Q ≤ 822083584 := by omega
    have fQ0 := (far_bd rQ).2.2.2.2
    have b1 : ivFar f.curve * (ivFar kQ * 65536) ≤ ivFar f.curve * (ivFar f.conic * ivFar Q + 65535) := Int.mul_le_mul_of_nonneg_left mk.1 fc0
    have b2 : ivFar f.curve * ivFar f.conic * ivFar Q ≤ 34306549 * 822083584 := Int.mul_le_mul hck fQ fQ0 (by omega)
    have b3 : ivFar f.curve * ivFar Y ≤ ivFar f.curve * (ivFar P + ivFar kQ) := Int.mul_le_mul_of_nonneg_left fY.1 fc0
    have b4 : ivFar f.curve * ivFar P ≤ 4370 * 3465852 := Int.mul_le_mul hc.2 (by omega) (far_bd rP).2.2.2.2 (by omega)
    rw [Int.mul_add, ← Int.mul_assoc, ← Int.mul_assoc] at b1
    rw [Int.mul_add] at b3
    generalize ivFar f.curve * ivFar f.conic * ivFar Q = W at *
    generalize ivFar f.curve * ivFar kQ = U at *
    generalize ivFar f.curve * ivFar P = V at *
    generalize ivFar f.curve * ivFar Y = Z at *
    omega
  omega
theorem bend_dot {d n : V} {k : Iv} (h : (bend d n k).2 ≠ 0) : (d.dot n).right = true := by
  unfold bend at h
  by_cases c : (d.dot n).no = true ∨ (d.dot n).lo ≤ 0
  · rw [if_pos c] at h; exact absurd rfl h
  · refine clean_right (add_clean _ _) ?_
    rcases hh : (d.dot n).no with _ | _
    · rfl
    · exact absurd (.inl hh) c
/-- What is across a face can be told: of a place that is far off the curve and the conic constant are small together. -/
theorem normal_small {f : Surf} {p d : V} (h : (bend d (normalFlat f p) f.ratio).2 ≠ 0) (hz : 1058406400 ≤ ivFar p.z) : ivFar f.curve * ivFar f.conic ≤ 34306549 := by
  have hd := bend_dot h
  obtain ⟨_, hz3⟩ := add_right hd
  obtain ⟨_, hnz⟩ := mul_right hz3
  have hdv : ((((Iv.point 65536).sub (f.curve.mul (f.conic.mul p.z)))).div (V.len2 ⟨(f.curve.mul p.x).neg, (f.curve.mul p.y).neg, (Iv.point 65536).sub (f.curve.mul (f.conic.mul p.z))⟩).root).right = true := hnz
  obtain ⟨_, rr, _⟩ := div_right hdv
  have rl := (root_right rr).1
  obtain ⟨_, rsq⟩ := add_right rl
  have rsq' : ((Iv.point 65536).sub (f.curve.mul (f.conic.mul p.z))).sqr.right = true := rsq
  have fs := far_sqr rsq'
  have bs := right_bd rsq'
  have rn := sqr_right rsq'
  obtain ⟨_, f2, _, _, _, _, rcW⟩ := far_sub rn
  have fm := far_mul rcW
  obtain ⟨rc, rW⟩ := mul_right rcW
  have fW := far_mul rW
  obtain ⟨rk, rz⟩ := mul_right rW
  have fn0 := (far_bd rn).2.2.2.2
  have hfar : ivFar ((Iv.point 65536).sub (f.curve.mul (f.conic.mul p.z))) ≤ 8388608 := by
    rcases Int.lt_or_le 8388608 (ivFar ((Iv.point 65536).sub (f.curve.mul (f.conic.mul p.z)))) with c | c
    · have : (8388609 : Int) * 8388609 ≤ ivFar ((Iv.point 65536).sub (f.curve.mul (f.conic.mul p.z))) * ivFar ((Iv.point 65536).sub (f.curve.mul (f.conic.mul p.z))) := Int.mul_le_mul (by omega) (by omega) (by omega) fn0
      omega
    · exact c
  have e1 : ivFar (Iv.point 65536) = 65536 := by decide
  rw [e1] at f2
  have fc0 := (far_bd rc).2.2.2.2
  have fk0 := (far_bd rk).2.2.2.2
  have g1 : ivFar f.curve * (ivFar f.conic * ivFar p.z) ≤ ivFar f.curve * (ivFar (f.conic.mul p.z) * 65536) := Int.mul_le_mul_of_nonneg_left fW.2 fc0
  rw [← Int.mul_assoc, ← Int.mul_assoc] at g1
  have g2 : ivFar f.curve * ivFar f.conic * 1058406400 ≤ ivFar f.curve * ivFar f.conic * ivFar p.z := Int.mul_le_mul_of_nonneg_left hz (Int.mul_nonneg fc0 fk0)
  generalize ivFar f.curve * ivFar (f.conic.mul p.z) = X at *
  generalize ivFar f.curve * ivFar f.conic * ivFar p.z = Y at *
  generalize ivFar f.curve * ivFar f.conic = Z at *
  omega

/-! A bent face: how far from its vertex a place may be told; in plain Lean. -/

/-- What is told for sure lies in a round's interval, and in the next. -/
theorem go_newton (F : Iv → Iv × Iv) : ∀ (k : Nat) {t r : Iv}, t.right = true → solveGo F k t false = (r, 1) →
    ∃ T, T.right = true ∧ (nextN F T).right = true ∧ r.right = true ∧ T.lo ≤ r.lo ∧ r.hi ≤ T.hi ∧ (nextN F T).lo ≤ r.lo ∧ r.hi ≤ (nextN F T).hi
  | 0, t, r, ht, h => by rw [solveGo] at h; cases h
  | k + 1, t, r, ht, h => by
    obtain ⟨_, m0, _, _⟩ := mid_in ht
    obtain ⟨_, sr1, sr2⟩ := split_in m0
    rw [solveGo] at h
    unfold solveRound at h
    by_cases c : (nextN F t).no = true
    · rw [if_pos c] at h
      by_cases c1 : without F t.split.1 = true
      · rw [if_pos c1] at h
        exact go_newton F k sr2 h
      · rw [if_neg c1] at h
        by_cases c2 : without F t.split.2 = true
        · rw [if_pos c2] at h
          exact go_newton F k sr1 h
        · rw [if_neg c2] at h; cases h
    · rw [if_neg c] at h
      have nr := next_ok c
      by_cases c1 : (t.meet (nextN F t)).no = true
      · rw [if_pos c1] at h; cases h
      · rw [if_neg c1] at h
        have mr := clean_right (meet_clean t (nextN F t)) (by simpa using c1)
        have mb : t.lo ≤ (t.meet (nextN F t)).lo ∧ (t.meet (nextN F t)).hi ≤ t.hi ∧ (nextN F t).lo ≤ (t.meet (nextN F t)).lo ∧ (t.meet (nextN F t)).hi ≤ (nextN F t).hi := by
          have mr2 := mr
          unfold Iv.meet at mr2 ⊢
          split at mr2
          · rename_i hb
            rw [if_pos hb, (of_right mr2).2]
            dsimp only
            omega
          · cases mr2
        by_cases c2 : t.meet (nextN F t) = t
        · rw [if_pos c2] at h
          have e : r = t := by
            dsimp only at h
            split at h
            · cases h; rfl
            · cases h
          rw [c2] at mb
          rw [e]
          exact ⟨t, ht, nr, ht, Int.le_refl _, Int.le_refl _, mb.2.2.1, mb.2.2.2⟩
        · rw [if_neg c2] at h
          by_cases c3 : (false || (decide (t.lo < (nextN F t).lo) && decide ((nextN F t).hi < t.hi))) = true
          · rw [c3] at h
            obtain ⟨g1, g2, g3⟩ := go_sub F k mr h
            exact ⟨t, ht, nr, g1, by omega, by omega, by omega, by omega⟩
          · have c4 := Bool.eq_false_iff.2 c3
            rw [c4] at h
            exact go_newton F k mr h
theorem far_times {a : Iv} {k : Int} (hk : 0 ≤ k) (h : (a.times k).right = true) : ivFar (a.times k) = k * ivFar a := by
  obtain ⟨r1, r2⟩ := times_right h
  have b := right_bd r1
  have hle : k * a.lo ≤ k * a.hi := Int.mul_le_mul_of_nonneg_left (by omega) hk
  have e : a.times k = ⟨k * a.lo, k * a.hi, false⟩ := by
    unfold Iv.times at h ⊢
    rw [if_pos ⟨r1, r2⟩] at h ⊢
    rw [(of_right h).2, Int.min_eq_left hle, Int.max_eq_right hle]
  rw [e]
  unfold ivFar
  dsimp only
  rcases Int.le_total (-a.lo) a.hi with c | c
  · rw [Int.max_eq_right c]
    have : k * -a.lo ≤ k * a.hi := Int.mul_le_mul_of_nonneg_left c hk
    rw [Int.mul_neg] at this
    omega
  · rw [Int.max_eq_left c]
    have : k * a.hi ≤ k * -a.lo := Int.mul_le_mul_of_nonneg_left c hk
    rw [Int.mul_neg] at this ⊢
    omega
/-- One end of a quotient. -/
theorem div_low {a b : Iv} {n X : Int} (hn : 0 < n) (h : (a.div b).right = true) (hb : n ≤ b.lo) (hX : 0 ≤ X) (ha : -X ≤ a.lo) : -(X * 65536 + n) ≤ (a.div b).lo * n := by
  obtain ⟨r1, r2, r3⟩ := div_right h
  have b1 := right_bd r1
  have b2 := right_bd r2
  rw [div_eq r1 r2 r3] at h ⊢
  rw [(of_right h).2]
  dsimp only
  have key : ∀ x y : Int, -X ≤ x → n ≤ y → -(X * 65536 + n) ≤ fl (x * 65536) y * n := by
    intro x y hx hy
    rcases Int.lt_or_le (fl (x * 65536) y) 0 with c | c
    · have c1 := lt_fl (x * 65536) (b := y) (by omega)
      have c2 : (fl (x * 65536) y + 1) * y ≤ (fl (x * 65536) y + 1) * n := Int.mul_le_mul_of_nonpos_left (by omega) hy
      rw [Int.add_mul, Int.one_mul] at c2
      rw [Int.add_mul, Int.one_mul] at c1 c2
      omega
    · have := Int.mul_nonneg c (Int.le_of_lt hn)
      omega
  have k1 := key a.lo b.lo (by omega) (by omega)
  have k2 := key a.lo b.hi (by omega) (by omega)
  have k3 := key a.hi b.lo (by omega) (by omega)
  have k4 := key a.hi b.hi (by omega) (by omega)
  have : min4 (fl (a.lo * 65536) b.lo) (fl (a.lo * 65536) b.hi) (fl (a.hi * 65536) b.lo) (fl (a.hi * 65536) b.hi) = fl (a.lo * 65536) b.lo ∨ min4 (fl (a.lo * 65536) b.lo) (fl (a.lo * 65536) b.hi) (fl (a.hi * 65536) b.lo) (fl (a.hi * 65536) b.hi) = fl (a.lo * 65536) b.hi ∨
      min4 (fl (a.lo * 65536) b.lo) (fl (a.lo * 65536) b.hi) (fl (a.hi * 65536) b.lo) (fl (a.hi * 65536) b.hi) = fl (a.hi * 65536) b.lo ∨ min4 (fl (a.lo * 65536) b.lo) (fl (a.lo * 65536) b.hi) (fl (a.hi * 65536) b.lo) (fl (a.hi * 65536) b.hi) = fl (a.hi * 65536) b.hi := by unfold min4; omega
  rcases this with t | t | t | t <;> rw [t] <;> assumption
theorem div_low0 {a b : Iv} (h : (a.div b).right = true) (hb : 0 < b.lo) (ha : 0 ≤ a.lo) : 0 ≤ (a.div b).lo := by
  obtain ⟨r1, r2, r3⟩ := div_right h
  have b1 := right_bd r1
  have b2 := right_bd r2
  rw [div_eq r1 r2 r3] at h ⊢
  rw [(of_right h).2]
  dsimp only
  refine le_min4 ?_ ?_ ?_ ?_ <;> exact (le_fl_iff (by omega)).2 (by omega)
theorem div_neg_eq {a b : Iv} (h : (a.div b).right = true) : (a.neg.div b).right = true ∧ (a.neg.div b).lo = -(a.div b).hi := by
  rw [div_neg_left, neg_right]
  refine ⟨h, ?_⟩
  rw [neg_right_eq h]
/-- The number m in steps, times a way's part. -/
theorem mul_point {d : Iv} {m : Int} (hd : 62000 ≤ d.lo ∧ d.hi ≤ 65540) (h : (d.mul (Iv.point m)).right = true) :
    (0 ≤ m → 62000 * m ≤ (d.mul (Iv.point m)).lo * 65536 + 65536 ∧ (d.mul (Iv.point m)).hi * 65536 ≤ 65540 * m + 65536) ∧ (m ≤ 0 → 65540 * m ≤ (d.mul (Iv.point m)).lo * 65536 + 65536 ∧ (d.mul (Iv.point m)).hi * 65536 ≤ 62000 * m + 65536) := by
  obtain ⟨r1, r2⟩ := mul_right h
  have b1 := right_bd r1
  have e : Iv.point m = ⟨m, m, false⟩ := (of_right r2).2
  rw [mul_eq r1 r2] at h ⊢
  rw [(of_right h).2, e]
  dsimp only
  have u1 := lt_fl (min4 (d.lo * m) (d.lo * m) (d.hi * m) (d.hi * m)) (b := 65536) (by decide)
  have u2 : cl (max4 (d.lo * m) (d.lo * m) (d.hi * m) (d.hi * m)) 65536 * 65536 ≤ max4 (d.lo * m) (d.lo * m) (d.hi * m) (d.hi * m) + 65535 := by
    have : cl (max4 (d.lo * m) (d.lo * m) (d.hi * m) (d.hi * m)) 65536 ≤ (max4 (d.lo * m) (d.lo * m) (d.hi * m) (d.hi * m) + 65535) / 65536 := by
      rw [cl_le_iff (by decide)]
      omega
    omega
  rw [Int.add_mul] at u1
  unfold min4 at u1 ⊢
  unfold max4 at u2 ⊢
  constructor
  · intro hm
    have a1 : 62000 * m ≤ d.lo * m := Int.mul_le_mul_of_nonneg_right hd.1 hm
    have a2 : d.hi * m ≤ 65540 * m := Int.mul_le_mul_of_nonneg_right hd.2 hm
    have a3 : d.lo * m ≤ d.hi * m := Int.mul_le_mul_of_nonneg_right (by omega) hm
    omega
  · intro hm
    have a1 : d.lo * m ≤ 62000 * m := Int.mul_le_mul_of_nonpos_right hd.1 hm
    have a2 : 65540 * m ≤ d.hi * m := Int.mul_le_mul_of_nonpos_right hd.2 hm
    have a3 : d.hi * m ≤ d.lo * m := Int.mul_le_mul_of_nonpos_right (by omega) hm
    omega
/-- A bent face's numbers. -/
structure BentN (f : Surf) : Prop where
  bent : f.bent = true
  cu : ivFar f.curve ≤ 4370
  a4 : ivFar f.a4 ≤ 131072
  a6 : ivFar f.a6 ≤ 1310720
/-- How far aside a ray is that leans little. -/
theorem aside {q : Ray} (h : RayN q) (hd : ivFar q.d.x ≤ 62 ∧ ivFar q.d.y ≤ 62) {t : Iv} (hx : ((along q t).x.sqr.add (along q t).y.sqr).right = true) :
    ivFar (along q t).x ≤ 1352809 ∧ ivFar (along q t).y ≤ 1352809 ∧ ivFar ((along q t).x.sqr.add (along q t).y.sqr) ≤ 55860000 := by
  obtain ⟨s1, s2⟩ := add_right hx
  have key : ∀ {o d : Iv}, ivFar o ≤ 337000 → ivFar d ≤ 62 → (o.add (d.mul t)).right = true → ivFar (o.add (d.mul t)) ≤ 1352809 := by
    intro o d ho hd hr
    obtain ⟨_, rm⟩ := add_right hr
    have fa := far_add hr
    have fm := far_mul rm
    obtain ⟨rd, rt⟩ := mul_right rm
    have bt := right_bd rt
    have ft : ivFar t ≤ 1073741824 := by unfold ivFar; omega
    have := Int.mul_le_mul hd ft (far_bd rt).2.2.2.2 (by omega)
    omega
  have k1 : ivFar (along q t).x ≤ 1352809 := key h.ox.2 hd.1 (sqr_right s1)
  have k2 : ivFar (along q t).y ≤ 1352809 := key h.oy.2 hd.2 (sqr_right s2)
  refine ⟨k1, k2, ?_⟩
  have f1 := far_sqr s1
  have f2 := far_sqr s2
  have fa := far_add hx
  have a1 := Int.mul_le_mul k1 k1 (far_bd (sqr_right s1)).2.2.2.2 (by omega)
  have a2 := Int.mul_le_mul k2 k2 (far_bd (sqr_right s2)).2.2.2.2 (by omega)
  omega
theorem whole1000 : Iv.whole 1000 = ⟨65536000, 65536000, false⟩ := by decide
theorem far0 : ivFar (Iv.point 0) = 0 := by decide
theorem if_right {a : Iv} (h : (if a.right = true then a else Iv.none).right = true) : (if a.right = true then a else Iv.none) = a ∧ a.right = true := by
  by_cases c : a.right = true
  · rw [if_pos c]; exact ⟨rfl, c⟩
  · rw [if_neg c] at h; cases h
/-- How deep a bent face is told to be. -/
theorem sag_far {f : Surf} (hf : BentN f) {a : Iv} (ha : ivFar a ≤ 55860000) (h : (sagOf f a).1.right = true) : ivFar (sagOf f a).1 ≤ 4640000 := by
  have e : (sagOf f a).1 = (sagBent f a).1 := by
    have h1 := h
    unfold sagOf sagPre at h1 ⊢
    rw [if_pos hf.bent] at h1 ⊢
    split at h1
    · cases h1
    · rename_i c; rw [if_neg c]
  rw [e] at h ⊢
  unfold sagBent at h ⊢
  rw [horner4] at h ⊢
  dsimp only at h ⊢
  have fa := far_add h
  obtain ⟨rR, rP⟩ := add_right h
  -- the round part
  have hR : ivFar (sagRound f a).1 ≤ 3725001 := by
    unfold sagRound at rR ⊢
    dsimp only at rR ⊢
    obtain ⟨rn, rd, _⟩ := div_right rR
    have fm := far_mul rn
    obtain ⟨rc, ra⟩ := mul_right rn
    have a1 := Int.mul_le_mul hf.cu ha (far_bd ra).2.2.2.2 (by omega)
    have fd := far_add rd
    obtain ⟨_, rq⟩ := add_right rd
    obtain ⟨rq1, rq0⟩ := root_right rq
    have q0 : 0 ≤ ((Iv.point 65536).sub ((f.conic.mul f.curve.sqr).mul a)).root.lo := by
      rw [root_eq rq1 rq0]
      have bd := right_bd rq1
      exact (isqrt_spec (n := _ * 65536) (by omega) (by omega)).1
    have e1 : (Iv.point 65536).lo = 65536 := by decide
    have := far_div (n := 65536) (by decide) rR (by omega)
    omega
  obtain ⟨eP, rP'⟩ := if_right rP
  rw [eP] at fa ⊢
  obtain ⟨p1, _⟩ := add_right rP'
  have g1 := far_add rP'
  have g2 := far_mul p1
  obtain ⟨p3, pu⟩ := mul_right p1
  have g3 := far_add p3
  obtain ⟨p4, _⟩ := add_right p3
  have g4 := far_mul p4
  obtain ⟨p5, _⟩ := mul_right p4
  have g5 := far_add p5
  obtain ⟨p6, p7⟩ := add_right p5
  have g6 := far_mul p6
  obtain ⟨p8, _⟩ := mul_right p6
  have gu := far_div (n := 65536000) (by decide) pu (by rw [whole1000]; decide)
  generalize a.div (Iv.whole 1000) = u at *
  have u0 := (far_bd pu).2.2.2.2
  have hu : ivFar u ≤ 55861 := by omega
  have a1 := Int.mul_le_mul hf.a6 hu u0 (by omega)
  rw [far0] at g1 g3
  have h6 : ivFar (f.a6.mul u) ≤ 1117222 := by omega
  have h5 : ivFar ((f.a6.mul u).add f.a4) ≤ 1248294 := by have := hf.a4; omega
  have a2 := Int.mul_le_mul h5 hu u0 (by omega)
  have a3 := Int.mul_le_mul (show ivFar ((((f.a6.mul u).add f.a4).mul u).add (Iv.point 0)) ≤ 1064019 by omega) hu u0 (by omega)
  omega
/-- How steep a bent face is told to be. -/
theorem steep_far {f : Surf} (hf : BentN f) {a : Iv} (ha : ivFar a ≤ 55860000) (h : (sagOf f a).2.right = true) : ivFar (sagOf f a).2 ≤ 563000 := by
  have e : (sagOf f a).2 = (sagBent f a).2 := by
    have h1 := h
    unfold sagOf sagPre at h1 ⊢
    rw [if_pos hf.bent] at h1 ⊢
    split at h1
    · cases h1
    · rename_i c; rw [if_neg c]
  rw [e] at h ⊢
  unfold sagBent at h ⊢
  rw [slope4, horner3] at h ⊢
  dsimp only at h ⊢
  have fa := far_add h
  obtain ⟨rR, rP⟩ := add_right h
  have hR : ivFar (sagRound f a).2 ≤ 559362 := by
    unfold sagRound at rR ⊢
    dsimp only at rR ⊢
    obtain ⟨rc, rd, r0⟩ := div_right rR
    obtain ⟨rq, rk⟩ := times_right rd
    obtain ⟨rq1, rq0⟩ := root_right rq
    have bd := right_bd rq1
    have lo : 512 ≤ (((Iv.point 65536).sub ((f.conic.mul f.curve.sqr).mul a)).root.times 2).lo := by
      have e2 : (((Iv.point 65536).sub ((f.conic.mul f.curve.sqr).mul a)).root.times 2) = ⟨2 * ((Iv.point 65536).sub ((f.conic.mul f.curve.sqr).mul a)).root.lo, 2 * ((Iv.point 65536).sub ((f.conic.mul f.curve.sqr).mul a)).root.hi, false⟩ := by
        have bq := right_bd rq
        have hh := rd
        unfold Iv.times at hh ⊢
        rw [if_pos ⟨rq, rk⟩] at hh ⊢
        rw [(of_right hh).2, Int.min_eq_left (by omega), Int.max_eq_right (by omega)]
      have hz := has0 rd r0
      rw [e2] at hz ⊢
      dsimp only at hz ⊢
      rw [root_eq rq1 rq0] at hz ⊢
      dsimp only at hz ⊢
      obtain ⟨i1, i2, i3⟩ := isqrt_spec (n := ((Iv.point 65536).sub ((f.conic.mul f.curve.sqr).mul a)).lo * 65536) (by omega) (by omega)
      obtain ⟨u1, u2, u3⟩ := usqrt_spec (n := ((Iv.point 65536).sub ((f.conic.mul f.curve.sqr).mul a)).hi * 65536) (by omega) (by omega)
      obtain ⟨j1, j2, j3⟩ := isqrt_spec (n := ((Iv.point 65536).sub ((f.conic.mul f.curve.sqr).mul a)).hi * 65536) (by omega) (by omega)
      generalize ((Iv.point 65536).sub ((f.conic.mul f.curve.sqr).mul a)).lo = L at *
      generalize isqrt (L * 65536) = I at *
      have hI : 0 < I := by omega
      have hL : 1 ≤ L := by
        rcases Int.lt_or_le L 1 with c | c
        · have : L = 0 := by omega
          subst this
          have := Int.mul_pos hI hI
          omega
        · exact c
      rcases Int.lt_or_le I 256 with c | c
      · have : (I + 1) * (I + 1) ≤ 256 * 256 := Int.mul_le_mul (by omega) (by omega) (by omega) (by omega)
        omega
      · omega
    have := far_div (n := 512) (by decide) rR lo
    have := hf.cu
    omega
  obtain ⟨rP1, _, _⟩ := div_right rP
  have gd := far_div (n := 65536000) (by decide) rP (by rw [whole1000]; decide)
  obtain ⟨eP, rP'⟩ := if_right rP1
  have eP2 := congrArg ivFar eP
  rw [eP2] at gd
  obtain ⟨p1, p0⟩ := add_right rP'
  have g1 := far_add rP'
  have g0 := far_times (by decide) p0
  have g2 := far_mul p1
  obtain ⟨p3, pu⟩ := mul_right p1
  have g3 := far_add p3
  obtain ⟨p4, p4'⟩ := add_right p3
  have g4 := far_mul p4
  have g4' := far_times (by decide) p4'
  obtain ⟨p5, _⟩ := mul_right p4
  have g5 := far_times (by decide) p5
  have gu := far_div (n := 65536000) (by decide) pu (by rw [whole1000]; decide)
  generalize hue : a.div (Iv.whole 1000) = u at *
  have u0 := (far_bd pu).2.2.2.2
  have hu : ivFar u ≤ 55861 := by omega
  rw [far0] at g0
  have h5 : ivFar (f.a6.times 3) ≤ 3932160 := by have := hf.a6; omega
  have a1 := Int.mul_le_mul h5 hu u0 (by omega)
  have h3 : ivFar (((f.a6.times 3).mul u).add (f.a4.times 2)) ≤ 3613810 := by have := hf.a4; omega
  have a2 := Int.mul_le_mul h3 hu u0 (by omega)
  omega

/-! A bent face is met near its vertex; in plain Lean. -/

theorem rsq_ge0 (N : Nat) (x : Rat) : 0 ≤ rsq N x := by
  unfold rsq
  generalize isq _ = k
  have hk : (0 : Rat) ≤ k := Rat.natCast_nonneg
  rcases Nat.eq_zero_or_pos N with h | h
  · subst h
    have : (65536 * ((0 : Nat) : Rat)) = 0 := by
      have : ((0 : Nat) : Rat) = 0 := rfl
      rw [this]; grind
    rw [this, Rat.div_def, Rat.inv_zero]
    grind
  · have hN : (0 : Rat) < N := Rat.natCast_pos.2 h
    have e : (k : Rat) / (65536 * N) * (65536 * N) = k := Rat.div_mul_cancel (by grind)
    refine Rat.le_of_mul_le_mul_right (c := 65536 * (N : Rat)) ?_ (by grind)
    rw [e]; grind
theorem m_far {x : Rat} {a : Iv} {n : Int} (h : M x a) (r : a.right = true) (hn : ivFar a ≤ n) : 65536 * x ≤ (n : Rat) ∧ -(n : Rat) ≤ 65536 * x := by
  obtain ⟨h1, h2⟩ := h r
  have f := far_bd r
  have k1 := ri_le (show a.hi ≤ n by omega)
  have k2 := ri_le (show -n ≤ a.lo by omega)
  rw [Rat.intCast_neg] at k2
  grind
/-- A number whose product is bounded, by a number not below one. -/
theorem le_of_one {a b X : Rat} (hb : 1 ≤ b) (h1 : a * b ≤ X) (h2 : -X ≤ a * b) : a ≤ X ∧ -X ≤ a := by
  rcases Rat.le_total (a := 0) (b := a) with c | c
  · have := rmulL c hb; grind
  · have := rmulL (c := -a) (by grind) hb; grind
/-- The place where a bent face is met, nearly, lies near. -/
theorem zero_near {f : Surf} {q : Ray} (h : RayN q) (hf : BentN f) (rf : f.curve.right = true ∧ f.a4.right = true ∧ f.a6.right = true) {t : Iv} {z : Rat} {N : Nat} (hz : In z t) (hx : ((along q t).x.sqr.add (along q t).y.sqr).right = true) (hd : ivFar q.d.x ≤ 62 ∧ ivFar q.d.y ≤ 62)
    (g1 : (Par.low f q).g N z ≤ 1) (g2 : -1 ≤ (Par.low f q).g N z) : 65536 * z ≤ 13000000 ∧ -13000000 ≤ 65536 * z := by
  have hp := low_in f q
  generalize Par.low f q = p at *
  obtain ⟨a1, a2, _⟩ := aside h hd hx
  obtain ⟨s1, s2⟩ := add_right hx
  obtain ⟨mx, my, _⟩ := along_m hp hz.m
  have bx := m_far mx (sqr_right s1) a1
  have by_ := m_far my (sqr_right s2) a2
  have bc := m_far hp.c rf.1 hf.cu
  have b4 := m_far hp.a4 rf.2.1 hf.a4
  have b6 := m_far hp.a6 rf.2.2 hf.a6
  obtain ⟨z1, z2⟩ := h.farz
  have bo := m_far hp.oz h.oz.1 z1
  have bz := (hp.dz h.dz.1)
  have bz1 := ri_le h.dz.2.1
  have i1 : ((1352809 : Int) : Rat) = 1352809 := rfl
  have i2 : ((4370 : Int) : Rat) = 4370 := rfl
  have i3 : ((131072 : Int) : Rat) = 131072 := rfl
  have i4 : ((1310720 : Int) : Rat) = 1310720 := rfl
  have i5 : ((7340032 : Int) : Rat) = 7340032 := rfl
  have i6 : ((62000 : Int) : Rat) = 62000 := rfl
  rw [i1] at bx by_
  rw [i2] at bc
  rw [i3] at b4
  rw [i4] at b6
  rw [i5] at bo
  rw [i6] at bz1
  have s0 : 0 ≤ p.s N (p.w z) := rsq_ge0 _ _
  have hw0 := w_nonneg p z
  have hw : p.w z ≤ 853 := by
    have k1 := abs_mul (x := p.x z) (y := p.x z) (A := 20.643) (B := 20.643) (by grind) (by grind)
    have k2 := abs_mul (x := p.y z) (y := p.y z) (A := 20.643) (B := 20.643) (by grind) (by grind)
    unfold Par.w
    grind
  unfold Par.g Par.sagR Par.sagP Par.z at g1 g2
  generalize p.w z = w at *
  generalize p.s N w = s at *
  have e : p.c * w / (1 + s) * (1 + s) = p.c * w := Rat.div_mul_cancel (by grind)
  generalize p.c * w / (1 + s) = R at *
  have kc := abs_mul (x := p.c) (y := w) (A := 0.0667) (B := 853) (by grind) (by grind)
  have kR := le_of_one (a := R) (b := 1 + s) (X := 0.0667 * 853) (by grind) (by grind) (by grind)
  have ku : w / 1000 ≤ 0.853 ∧ -0.853 ≤ w / 1000 := by grind
  generalize w / 1000 = u at *
  have k6 := abs_mul (x := p.a6) (y := u) (A := 20) (B := 0.853) (by grind) ku
  have k7 := abs_mul (x := p.a6 * u + p.a4) (y := u) (A := 20 * 0.853 + 2) (B := 0.853) (by grind) ku
  have k8 := abs_mul (x := (p.a6 * u + p.a4) * u + 0) (y := u) (A := (20 * 0.853 + 2) * 0.853) (B := 0.853) (by grind) ku
  have kd : 62000 ≤ 65536 * p.dz := by grind
  have kz : p.dz * z ≤ 186 ∧ -186 ≤ p.dz * z := by grind
  rcases Rat.le_total (a := 0) (b := z) with c | c
  · have := rmulL c kd
    grind
  · have := rmulL (c := -z) (by grind) kd
    grind
theorem bent_near {f : Surf} {q : Ray} (h : RayN q) (hf : BentN f) (rf : f.curve.right = true ∧ f.a4.right = true ∧ f.a6.right = true) {T t : Iv} (hs : solve (faceAt f q) T 20 = (t, 1)) (hv : (along q t).right = true)
    (hr : ((along q t).x.sqr.add (along q t).y.sqr).right = true) (ho : ((along q t).x.sqr.add (along q t).y.sqr).hi ≤ 6423200) : ivFar (along q t).z < 1058406400 := by
  rcases Int.lt_or_le (ivFar (along q t).z) 1058406400 with c | hbig
  · exact c
  exfalso
  obtain ⟨rt, ft⟩ := time_far h hv hbig
  have hd := lean_small h (o2 := t) hv hr ho rt ft
  -- a place where the face nearly is
  have hz : ∃ z : Rat, In z t ∧ 65536 * z ≤ 13000000 ∧ -13000000 ≤ 65536 * z := by
    have hP := roundsP_pos
    have dd : ∃ d : Rat, 0 < d ∧ 8589934592 * (d * roundsP) < 1 := by
      refine ⟨1 / (8589934593 * roundsP), ?_, ?_⟩
      · have e : (1 : Rat) / (8589934593 * roundsP) * (8589934593 * roundsP) = 1 := Rat.div_mul_cancel (by grind)
        refine Rat.lt_of_mul_lt_mul_right (c := 8589934593 * roundsP) ?_ (by grind)
        rw [e]; grind
      · have e : (1 : Rat) / (8589934593 * roundsP) * (8589934593 * roundsP) = 1 := Rat.div_mul_cancel (by grind)
        generalize (1 : Rat) / (8589934593 * roundsP) = d at *
        grind
    obtain ⟨d, d0, d1⟩ := dd
    obtain ⟨N, hN, hq⟩ := arch (17592186044416 / d)
    obtain ⟨z, z1, z2, z3⟩ := bent_zero hf.bent (low_in f q) hs d0 d1 N hN (inv_small hN d0 hq)
    exact ⟨z, z1, zero_near (N := N) h hf rf z1 hr hd (by grind) (by grind)⟩
  obtain ⟨z, z1, z2, z3⟩ := hz
  have c13 : ((13000000 : Int) : Rat) = 13000000 := rfl
  have c14 : ((-13000000 : Int) : Rat) = -13000000 := rfl
  have tlo : t.lo ≤ 13000000 := ir_le (by rw [c13]; exact Rat.le_trans z1.2.1 z2)
  have thi : -13000000 ≤ t.hi := ir_le (by rw [c14]; exact Rat.le_trans z3 z1.2.2)
  obtain ⟨hT, hg⟩ := solve_go hs
  obtain ⟨U, rU, rN, _, u1, u2, n1, n2⟩ := go_newton _ 20 hT hg
  obtain ⟨rV, rS, hS0⟩ := next_right rN
  obtain ⟨mp, _, mm1, mm2⟩ := mid_in rU
  have bU := right_bd rU
  have hmid : U.mid = (U.lo + U.hi) / 2 := by unfold Iv.mid; rw [if_pos rU]
  have epm : Iv.point U.mid = ⟨U.mid, U.mid, false⟩ := (of_right mp.1).2
  -- the slope
  have hSlo : 17900 ≤ (faceAt f q U).2.lo := by
    have rS2 : (q.d.z.sub ((sagOf f ((along q U).x.sqr.add (along q U).y.sqr)).2.mul ((((along q U).x.mul q.d.x).add ((along q U).y.mul q.d.y)).times 2))).right = true := rS
    show 17900 ≤ (q.d.z.sub ((sagOf f ((along q U).x.sqr.add (along q U).y.sqr)).2.mul ((((along q U).x.mul q.d.x).add ((along q U).y.mul q.d.y)).times 2))).lo
    obtain ⟨_, _, _, _, slo, _, rm⟩ := far_sub rS2
    have fm := far_mul rm
    have fmb := far_bd rm
    obtain ⟨rst, rout⟩ := mul_right rm
    have ro2 := (times_right rout).1
    have fo := far_times2 rout
    have foa := far_add ro2
    obtain ⟨rx, ry⟩ := add_right ro2
    have fx := far_mul rx
    have fy := far_mul ry
    have rr2 : ((along q U).x.sqr.add (along q U).y.sqr).right = true := by
      have h1 := rst
      unfold sagOf sagPre sagBent at h1
      rw [if_pos hf.bent] at h1
      split at h1
      · cases h1
      · have := (add_right h1).1
        unfold sagRound at this
        dsimp only at this
        have h3 := (root_right (times_right (div_right this).2.1).1).1
        unfold Iv.sub at h3
        have h4 := (add_right h3).2
        rw [neg_right] at h4
        exact (mul_right h4).2
    obtain ⟨k1, k2, k3⟩ := aside h hd rr2
    have ks := steep_far hf k3 rst
    have e1 := Int.mul_le_mul k1 hd.1 (far_bd h.dx).2.2.2.2 (by omega)
    have e2 := Int.mul_le_mul k2 hd.2 (far_bd h.dy).2.2.2.2 (by omega)
    have e3 := Int.mul_le_mul ks (show ivFar ((((along q U).x.mul q.d.x).add ((along q U).y.mul q.d.y)).times 2) ≤ 5124 by omega) (far_bd rout).2.2.2.2 (by omega)
    have := h.dz.2.1
    omega
  -- the value at the middle
  have hV : (faceAt f q (Iv.point U.mid)).1.lo ≥ -7340032 - 4640000 + (q.d.z.mul (Iv.point U.mid)).lo ∧ (faceAt f q (Iv.point U.mid)).1.hi ≤ 4640000 + (q.d.z.mul (Iv.point U.mid)).hi ∧ (q.d.z.mul (Iv.point U.mid)).right = true := by
    have rV2 : ((along q (Iv.point U.mid)).z.sub (sagOf f ((along q (Iv.point U.mid)).x.sqr.add (along q (Iv.point U.mid)).y.sqr)).1).right = true := rV
    show ((along q (Iv.point U.mid)).z.sub (sagOf f ((along q (Iv.point U.mid)).x.sqr.add (along q (Iv.point U.mid)).y.sqr)).1).lo ≥ _ ∧ ((along q (Iv.point U.mid)).z.sub (sagOf f ((along q (Iv.point U.mid)).x.sqr.add (along q (Iv.point U.mid)).y.sqr)).1).hi ≤ _ ∧ _
    obtain ⟨_, _, _, vhi, vlo, rz, rs⟩ := far_sub rV2
    have rz2 : (q.o.z.add (q.d.z.mul (Iv.point U.mid))).right = true := rz
    have fz := far_add rz2
    have ez : (along q (Iv.point U.mid)).z = q.o.z.add (q.d.z.mul (Iv.point U.mid)) := rfl
    have rr2 : ((along q (Iv.point U.mid)).x.sqr.add (along q (Iv.point U.mid)).y.sqr).right = true := by
      have h1 := rs
      unfold sagOf sagPre sagBent at h1
      rw [if_pos hf.bent] at h1
      split at h1
      · cases h1
      · have := (add_right h1).1
        unfold sagRound at this
        dsimp only at this
        exact (mul_right (div_right this).1).2
    obtain ⟨_, _, k3⟩ := aside h hd rr2
    have ks := sag_far hf k3 rs
    have kb := far_bd rs
    rw [vlo, vhi, ez, fz.2.2.2.1, fz.2.2.2.2]
    have := h.oz.2
    exact ⟨by omega, by omega, (add_right rz2).2⟩
  obtain ⟨v1, v2, rdm⟩ := hV
  obtain ⟨mpos, mneg⟩ := mul_point h.dz.2 rdm
  have rdiv : ((faceAt f q (Iv.point U.mid)).1.div (faceAt f q U).2).right = true := by
    have h1 := rN
    unfold nextN Iv.sub at h1
    have := (add_right h1).2
    rw [neg_right] at this
    exact this
  have hN := far_sub (a := Iv.point U.mid) (b := (faceAt f q (Iv.point U.mid)).1.div (faceAt f q U).2) rN
  have nhi : (nextN (faceAt f q) U).hi = U.mid - ((faceAt f q (Iv.point U.mid)).1.div (faceAt f q U).2).lo := by
    have := hN.2.2.2.1
    have e1 : (Iv.point U.mid).hi = U.mid := by rw [epm]
    rw [e1] at this
    exact this
  have nlo : (nextN (faceAt f q) U).lo = U.mid - ((faceAt f q (Iv.point U.mid)).1.div (faceAt f q U).2).hi := by
    have := hN.2.2.2.2.1
    have e1 : (Iv.point U.mid).lo = U.mid := by rw [epm]
    rw [e1] at this
    exact this
  clear hN
  generalize (q.d.z.mul (Iv.point U.mid)) = D at *
  generalize hVe : (faceAt f q (Iv.point U.mid)).1 = V at *
  generalize hSe : (faceAt f q U).2 = S at *
  generalize nextN (faceAt f q) U = Nx at *
  generalize U.mid = m at *
  have bt := right_bd rt
  rcases far_or rt with e | e
  · -- far below
    have hm : m ≤ 16870912 := by omega
    rcases Int.lt_or_le 0 V.hi with c | c
    · have hneg := div_neg_eq rdiv
      have hVh : V.hi ≤ 21540000 := by
        rcases Int.lt_or_le m 0 with cm | cm
        · have := (mneg (by omega)).2; omega
        · have := (mpos cm).2; omega
      have rVr := right_bd (div_right rdiv).1
      have eV : V.neg.lo = -V.hi := by rw [neg_right_eq (div_right rdiv).1]
      have := div_low (n := 17900) (X := 21540000) (by decide) hneg.1 hSlo (by omega) (by omega)
      have hm2 : -4950000 ≤ m := by
        rcases Int.lt_or_le m 0 with cm | cm
        · have := (mneg (by omega)).2; omega
        · omega
      omega
    · have hneg := div_neg_eq rdiv
      have eV : V.neg.lo = -V.hi := by rw [neg_right_eq (div_right rdiv).1]
      have := div_low0 hneg.1 (by omega) (by omega)
      omega
  · -- far above
    have hm : -16870913 ≤ m := by omega
    rcases Int.lt_or_le V.lo 0 with c | c
    · have hVl : -28860000 ≤ V.lo := by
        rcases Int.lt_or_le m 0 with cm | cm
        · have := (mneg (by omega)).1; omega
        · have := (mpos cm).1; omega
      have := div_low (n := 17900) (X := 28860000) (by decide) rdiv hSlo (by omega) (by omega)
      have hm2 : m ≤ 12700000 := by
        rcases Int.lt_or_le m 0 with cm | cm
        · omega
        · have := (mpos cm).1; omega
      omega
    · have := div_low0 rdiv (by omega) c
      omega

/-! A face and a ray that are moved along the axis go on the same, moved; in plain Lean. -/

theorem rayLean_bd' (n : Int) : 0 ≤ rayLean n ∧ rayLean n ≤ 199 := by
  unfold rayLean
  split
  · have := pick_bd n (m := 200) (by decide); omega
  · omega
theorem rayWide_bd' (n : Int) : 0 ≤ rayWide n ∧ rayWide n ≤ 8999 := by
  unfold rayWide
  split
  · omega
  · split
    · have := pick_bd n (m := 9000) (by decide); omega
    · have := pick_bd n (m := 400) (by decide); omega
theorem wide_eq {x w : Int} (hx : -1048576 ≤ x ∧ x ≤ 1048576) (hw : 0 ≤ w ∧ w ≤ 1048576) : wide x w = ⟨x, x + w, false⟩ := by
  have h : within x (-1073741824) 1073741824 = x := by unfold within; omega
  unfold wide
  rw [h, w64_of (by omega) (by omega)]
  congr 1
  omega
def bigD : V := ⟨⟨-15000, 15199, false⟩, ⟨-15000, 15199, false⟩, ⟨65536, 65536, false⟩⟩
theorem rayOf_dz (x : RawRay) : (rayOf x).d.z.right = true ∧ 62000 ≤ (rayOf x).d.z.lo ∧ (rayOf x).d.z.hi ≤ 65540 := by
  have l := rayLean_bd' x.lean
  have u := pick_bd x.u (m := 30000) (by decide)
  have w := pick_bd x.w (m := 30000) (by decide)
  have hs : SubV ⟨wide (pick x.u 30000 - 15000) (rayLean x.lean), wide (pick x.w 30000 - 15000) (rayLean x.lean), ⟨65536, 65536, false⟩⟩ bigD := by
    refine ⟨fun _ => ?_, fun _ => ?_, Sub.refl _⟩
    · dsimp only
      rw [wide_eq (by omega) (by omega)]
      exact ⟨right_mk' (by omega), by show (-15000 : Int) ≤ _; dsimp only; omega, by show _ ≤ (15199 : Int); dsimp only; omega⟩
    · dsimp only
      rw [wide_eq (by omega) (by omega)]
      exact ⟨right_mk' (by omega), by show (-15000 : Int) ≤ _; dsimp only; omega, by show _ ≤ (15199 : Int); dsimp only; omega⟩
  have hz := (unit_sub hs).2.2
  have hb : bigD.unit.z.right = true ∧ 62000 ≤ bigD.unit.z.lo ∧ bigD.unit.z.hi ≤ 65540 := by decide +kernel
  obtain ⟨h1, h2, h3⟩ := hz hb.1
  exact ⟨h1, Int.le_trans hb.2.1 h2, Int.le_trans h3 hb.2.2⟩
theorem rayN_of (x : RawRay) {f : Surf} (ha : f.at_.right = true) (h0 : 0 ≤ f.at_.lo) (h1 : f.at_.hi ≤ 7340032) : RayN ((rayOf x).back f.at_) := by
  have hw := rayWide_bd' x.wide
  have px := pick_bd x.x (m := 655360) (by decide)
  have py := pick_bd x.y (m := 655360) (by decide)
  have b := right_bd ha
  obtain ⟨d1, d2, d3⟩ := vright_iff.1 (rayOf_right x)
  have ex : (rayOf x).o.x = ⟨pick x.x 655360 - 327680, pick x.x 655360 - 327680 + rayWide x.wide, false⟩ := wide_eq (by omega) (by omega)
  have ey : (rayOf x).o.y = ⟨pick x.y 655360 - 327680, pick x.y 655360 - 327680 + rayWide x.wide, false⟩ := wide_eq (by omega) (by omega)
  have ez : ((rayOf x).back f.at_).o.z = ⟨-f.at_.hi, -f.at_.lo, false⟩ := by
    show Iv.sub ⟨0, 0, false⟩ f.at_ = _
    rw [sub_eq, if_pos (by simp [Iv.both, ha]; decide)]
    rw [of_eq ⟨⟨numIn_iff.2 (by dsimp only; omega), numIn_iff.2 (by dsimp only; omega)⟩, by dsimp only; omega⟩]
    congr 1 <;> dsimp only <;> omega
  refine ⟨?_, ?_, ?_, d1, d2, rayOf_dz x⟩
  · show (rayOf x).o.x.right = true ∧ ivFar (rayOf x).o.x ≤ 337000
    rw [ex]
    exact ⟨right_mk' (by omega), far_le (by dsimp only; omega) (by dsimp only; omega)⟩
  · show (rayOf x).o.y.right = true ∧ ivFar (rayOf x).o.y ≤ 337000
    rw [ey]
    exact ⟨right_mk' (by omega), far_le (by dsimp only; omega) (by dsimp only; omega)⟩
  · rw [ez]
    exact ⟨right_mk' (by omega), by dsimp only; omega, by dsimp only; omega⟩
theorem surfR_far {f : Surf} (h : SurfR f) : f.curve.right = true ∧ ivFar f.curve ≤ 4370 ∧ f.conic.right = true ∧ f.a4.right = true ∧ ivFar f.a4 ≤ 131072 ∧ f.a6.right = true ∧ ivFar f.a6 ≤ 1310720 := by
  have c := ivIn_iff.1 h.co
  have a4 := ivIn_iff.1 h.a4
  have a6 := ivIn_iff.1 h.a6
  have cu : f.curve.right = true ∧ ivFar f.curve ≤ 4370 := by
    rcases h.cu with e | e | e
    · rw [e]; decide
    · have := ivIn_iff.1 e; exact ⟨this.1, far_le (by omega) (by omega)⟩
    · have := ivIn_iff.1 e; exact ⟨this.1, far_le (by have := right_bd this.1; omega) (by omega)⟩
  have b4 := right_bd a4.1
  have b6 := right_bd a6.1
  exact ⟨cu.1, cu.2, c.1, a4.1, far_le (by omega) (by omega), a6.1, far_le (by omega) (by omega)⟩
/-- Far off the vertex nothing goes through. -/
theorem far_unknown {f : Surf} {r : Ray} (hR : SurfR f) (hN : RayN (r.back f.at_)) (hh : (hitOf f r).2.2 = 1) (ho : notAbove ((hitOf f r).2.1.x.sqr.add (hitOf f r).2.1.y.sqr) f.open2 = 1) (hz : 1058406400 ≤ ivFar (hitOf f r).2.1.z) :
    ¬ f.stop = true ∧ (bend r.d (normalOf f (hitOf f r).2.1) f.ratio).2 = 0 := by
  obtain ⟨c1, c2, k1, a1, a2, a3, a4⟩ := surfR_far hR
  have o2 := ivIn_iff.1 hR.o2
  have hr2 : ((hitOf f r).2.1.x.sqr.add (hitOf f r).2.1.y.sqr).right = true ∧ ((hitOf f r).2.1.x.sqr.add (hitOf f r).2.1.y.sqr).hi ≤ 6423200 := by
    unfold notAbove at ho
    split at ho
    · rename_i hb
      refine ⟨hb.1, ?_⟩
      unfold told at ho
      split at ho
      · rename_i hd
        have := of_decide_eq_true hd
        have := right_bd o2.1
        omega
      · split at ho <;> cases ho
    · cases ho
  by_cases hb : f.bent = true
  · exfalso
    obtain ⟨_, h2, h3, h4⟩ := hit_bent hb hh
    rw [h3] at hr2 hz
    have := bent_near hN ⟨hb, c2, a2, a4⟩ ⟨c1, a1, a3⟩ h2 h4 hr2.1 hr2.2
    omega
  · obtain ⟨h1, h2, h3, h4⟩ := hit_flat hb hh
    have key : ivFar f.curve * ivFar f.conic ≤ 34306549 → False := by
      intro hck
      rw [h3] at hr2 hz
      obtain ⟨rt, ft⟩ := time_far hN h4 hz
      have hd := lean_small hN (o2 := f.open2) h4 hr2.1 hr2.2 rt ft
      have := flat_near hN ⟨c1, c2⟩ k1 hck hd h1
      rw [h2] at this
      omega
    constructor
    · intro hs
      refine key ?_
      rw [(hR.st hs).1]
      have : ivFar (Iv.point 0) = 0 := by decide
      rw [this, Int.zero_mul]
      decide
    · rcases Classical.em ((bend r.d (normalOf f (hitOf f r).2.1) f.ratio).2 = 0) with e | e
      · exact e
      · exfalso
        refine key (normal_small (p := (hitOf f r).2.1) (d := r.d) ?_ hz)
        have en : normalOf f (hitOf f r).2.1 = normalFlat f (hitOf f r).2.1 := by unfold normalOf; rw [if_neg hb]
        rw [en] at e
        exact e
/-- A place that is moved, once or twice. -/
theorem add_moved {z a : Iv} {n : Int} (hz : z.right = true) (ha : a.right = true) (h : ivFar z < 1058406400) (h0 : 0 ≤ a.lo) (h1 : a.hi ≤ 7340032) (hn : -6553600 ≤ n ∧ n ≤ 6553600) :
    (z.add a).right = true ∧ (z.add (a.add (Iv.point n))).right = true ∧ z.add (a.add (Iv.point n)) = (z.add a).add (Iv.point n) := by
  have f := far_bd hz
  have b := right_bd ha
  have bz := right_bd hz
  have hp := point_right (n := n) (by omega)
  have hpr : (Iv.point n).right = true := by rw [hp]; exact right_mk' (by omega)
  have e1 := add_right_eq hz ha (by omega)
  have e2 := add_right_eq ha hpr (by rw [hp]; dsimp only; omega)
  have r1 : (z.add a).right = true := by rw [e1]; exact right_mk' (by omega)
  have r2 : (a.add (Iv.point n)).right = true := by rw [e2, hp]; exact right_mk' (by dsimp only; omega)
  have e3 := add_right_eq hz r2 (by rw [e2, hp]; dsimp only; omega)
  have e4 := add_right_eq r1 hpr (by rw [e1, hp]; dsimp only; omega)
  refine ⟨r1, ?_, ?_⟩
  · rw [e3, e2, hp]; exact right_mk' (by dsimp only; omega)
  · rw [e3, e4, e1, e2, hp]
    congr 1 <;> dsimp only <;> omega
theorem step_moved {f : Surf} {x : RawRay} {n : Int} (hR : SurfR f) (ha : f.at_.right = true) (hat : f.at_.hi ≤ 7340032) (hn : -6553600 ≤ n ∧ n ≤ 6553600) :
    (stepOf (f.moved n) ((rayOf x).moved n)).2 = (stepOf f (rayOf x)).2 ∧ (stepOf (f.moved n) ((rayOf x).moved n)).1.d = (stepOf f (rayOf x)).1.d ∧
      ((stepOf f (rayOf x)).2 = 1 → (stepOf (f.moved n) ((rayOf x).moved n)).1.o = ⟨(stepOf f (rayOf x)).1.o.x, (stepOf f (rayOf x)).1.o.y, (stepOf f (rayOf x)).1.o.z.add (Iv.point n)⟩) := by
  have hz : (rayOf x).o.z = ⟨0, 0, false⟩ := rfl
  have hh := hitOf_moved (s := f) (r := rayOf x) (n := n) (by rw [hz]; decide) ha (by omega) (by rw [hz]; decide) (by have := hR.at0; omega)
  have hN := rayN_of x ha hR.at0 hat
  have en : ∀ p, normalOf (f.moved n) p = normalOf f p := fun _ => rfl
  have far := far_unknown (r := rayOf x) hR hN
  unfold stepOf
  rw [hh, en]
  generalize hH : hitOf f (rayOf x) = H at *
  have hd : ((rayOf x).moved n).d = (rayOf x).d := rfl
  rw [hd]
  generalize normalOf f H.2.1 = N at *
  have lostc : ∀ is, (lost is).2 = (lost is).2 ∧ (lost is).1.d = (lost is).1.d ∧ ((lost is).2 = 1 → (lost is).1.o = ⟨(lost is).1.o.x, (lost is).1.o.y, (lost is).1.o.z.add (Iv.point n)⟩) := fun is => ⟨rfl, rfl, fun h => absurd h (lost1 is)⟩
  unfold stepEnd
  by_cases c1 : H.2.2 = 1
  case neg => rw [if_pos c1, if_pos c1]; exact lostc _
  rw [if_neg (not_not_intro c1), if_neg (not_not_intro c1)]
  have eo : (f.moved n).open2 = f.open2 := rfl
  rw [eo]
  by_cases c2 : notAbove (H.2.1.x.sqr.add H.2.1.y.sqr) f.open2 = 1
  case neg => rw [if_pos c2, if_pos c2]; exact lostc _
  rw [if_neg (not_not_intro c2), if_neg (not_not_intro c2)]
  have hv : H.2.1.right = true := by
    have := hitOf_right f (rayOf x)
    rw [hH, c1] at this
    exact this
  obtain ⟨_, _, vz⟩ := vright_iff.1 hv
  have ea : (f.moved n).at_ = f.at_.add (Iv.point n) := rfl
  have es : (f.moved n).stop = f.stop := rfl
  have er : (f.moved n).ratio = f.ratio := rfl
  rw [ea, es, er]
  rcases Int.lt_or_le (ivFar H.2.1.z) 1058406400 with cz | cz
  · obtain ⟨m1, m2, m3⟩ := add_moved vz ha cz hR.at0 hat hn
    have q1 : ¬ (H.2.1.z.add f.at_).no = true := by rw [(right_bd m1).1]; simp
    have q2 : ¬ (H.2.1.z.add (f.at_.add (Iv.point n))).no = true := by rw [(right_bd m2).1]; simp
    rw [if_neg q1, if_neg q2, m3]
    by_cases c3 : f.stop = true
    · rw [if_pos c3, if_pos c3]
      exact ⟨rfl, rfl, fun _ => rfl⟩
    · rw [if_neg c3, if_neg c3]
      by_cases c4 : (bend (rayOf x).d N f.ratio).2 = 1
      case neg => rw [if_pos c4, if_pos c4]; exact lostc _
      rw [if_neg (not_not_intro c4), if_neg (not_not_intro c4)]
      exact ⟨rfl, rfl, fun _ => rfl⟩
  · obtain ⟨s1, s2⟩ := far c1 c2 cz
    have all : ∀ P : Prop, ∀ [Decidable P], ∀ o : V, (if P then lost 0 else if f.stop = true then (⟨o, (rayOf x).d⟩, 1) else if (bend (rayOf x).d N f.ratio).2 ≠ 1 then lost (bend (rayOf x).d N f.ratio).2 else (⟨o, (bend (rayOf x).d N f.ratio).1⟩, 1)) = lost 0 := by
      intro P _ o
      by_cases hP : P
      · rw [if_pos hP]
      · rw [if_neg hP, if_neg s1, s2, if_pos (by decide)]
    rw [all, all]
    exact lostc 0
def smBad (a : Int × Unit) (s : List Surf × Ray × Ray × Unit) (f : Surf) : Bool :=
  ((stepOf f s.2.1).2 != (stepOf (f.moved a.1) s.2.2.1).2) || (!(vE (stepOf f s.2.1).1.d (stepOf (f.moved a.1) s.2.2.1).1.d) ||
    ((stepOf f s.2.1).2 == 1 && !(vE (stepOf (f.moved a.1) s.2.2.1).1.o ⟨(stepOf f s.2.1).1.o.x, (stepOf f s.2.1).1.o.y, (stepOf f s.2.1).1.o.z.add (Iv.point a.1)⟩)))
theorem sm_good {f : Surf} {x : RawRay} {n : Int} {l : List Surf} (hR : SurfR f) (ha : f.at_.right = true) (hat : f.at_.hi ≤ 7340032) (hn : -6553600 ≤ n ∧ n ≤ 6553600) : smBad (n, ()) (l, rayOf x, (rayOf x).moved n, ()) f = false := by
  obtain ⟨h1, h2, h3⟩ := step_moved (x := x) hR ha hat hn
  unfold smBad
  dsimp only
  rw [h1, h2, vE_self]
  by_cases c : (stepOf f (rayOf x)).2 = 1
  · rw [h3 c, vE_self]; simp
  · simp [c]
end Go.Proofs.YtlbmjajjldfigaaGreat
