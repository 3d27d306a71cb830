/-
  What the great laws ask of each face; in plain Lean.
-/
import Derived.Test.YtlbmjajjldfigaaGreatLaws1
import Derived.Test.YtlbmjajjldfigaaGreatLess2
import Derived.Test.YtlbmjajjldfigaaGreatEach
import Derived.Test.YtlbmjajjldfigaaGreatEvMore
namespace Go.Proofs.YtlbmjajjldfigaaGreat
open Go
set_option linter.unusedVariables false
set_option linter.unusedSimpArgs false
abbrev HtS := List RawRay × Iv × Ray × Ev.Six × Ev.Six × List Surf × Unit
abbrev StS := List RawRay × List Surf × Iv × Ray × Ev.Six × Ev.Six × Unit
abbrev HtO := (Int × Bool × Unit) × (List RawRay × Iv × Ev.Six × Ev.Six × List Surf × Unit)
def htL (s : HtS) : List Surf := s.2.2.2.2.2.1
def htBad (_ : Int × Bool × Unit) (_ : HtS) (_ : Surf) : Bool := false
def htOut (a : Int × Bool × Unit) (s : HtS) : HtO := (a, (s.1, s.2.1, s.2.2.2.1, s.2.2.2.2.1, s.2.2.2.2.2.1, ()))
def vRaw (s : Ev.Six) : V := ⟨rawIv s.1 s.2.1, rawIv s.2.2.1 s.2.2.2.1, rawIv s.2.2.2.2.1 s.2.2.2.2.2⟩
def htOk (_ : Bool × Unit) (b : Iv × Ev.Six × Ev.Six × List Surf × Unit) : Bool := Ev.lenOk b.2.2.2.1
def stL (s : StS) : List Surf := s.2.1
def stBad (_ : Int × Bool × Unit) (_ : StS) (_ : Surf) : Bool := false
def stOut (a : Int × Bool × Unit) (s : StS) : HtO := (a, (s.1, s.2.2.1, s.2.2.2.2.1, s.2.2.2.2.2.1, s.2.1, ()))
def rE (a b : Ray) : Bool := vE a.o b.o && vE a.d b.d
theorem rE_self (a : Ray) : rE a a = true := by simp [rE, vE_self]
def Surf.wider (f : Surf) (n : Int) : Surf := ⟨f.stop, f.bent, f.curve, f.conic, f.a4, f.a6, f.at_, f.open2.add (Iv.point n), f.ratio⟩
def soBad (a : Int × Unit) (s : List Surf × Ray × Unit) (f : Surf) : Bool :=
  ((stepOf f s.2.1).2 == 1 && (((stepOf (f.wider (pick a.1 5898240)) s.2.1).2 != (stepOf f s.2.1).2) || !(rE (stepOf f s.2.1).1 (stepOf (f.wider (pick a.1 5898240)) s.2.1).1))) || ((stepOf (f.wider (pick a.1 5898240)) s.2.1).2 == 2 && (stepOf f s.2.1).2 == 1)
theorem stepOf_wider {f : Surf} {r : Ray} {n : Int} (h : (stepOf f r).2 = 1) (ho : f.open2.right = true → (f.open2.add (Iv.point n)).right = true ∧ f.open2.lo ≤ (f.open2.add (Iv.point n)).lo) : stepOf (f.wider n) r = stepOf f r := by
  have e1 : hitOf (f.wider n) r = hitOf f r := rfl
  have e2 : ∀ p, normalOf (f.wider n) p = normalOf f p := fun p => rfl
  unfold stepOf at h ⊢
  rw [e1, e2]
  generalize hitOf f r = w at *
  generalize normalOf f w.2.1 = q at *
  unfold stepEnd at h ⊢
  by_cases c1 : w.2.2 = 1
  case neg => rw [if_pos c1] at h; have := lost_kind w.2.2; omega
  rw [if_neg (not_not_intro c1)] at h ⊢
  rw [if_neg (not_not_intro c1)]
  by_cases c2 : notAbove (w.2.1.x.sqr.add w.2.1.y.sqr) f.open2 = 1
  case neg => rw [if_pos c2] at h; have := lost_kind (notAbove (w.2.1.x.sqr.add w.2.1.y.sqr) f.open2); omega
  have c3 : notAbove (w.2.1.x.sqr.add w.2.1.y.sqr) (f.wider n).open2 = 1 := by
    unfold notAbove at c2 ⊢
    split at c2
    · rename_i hr
      obtain ⟨o1, o2⟩ := ho hr.2
      unfold told at c2 ⊢
      split at c2
      · rename_i hd
        rw [if_pos ⟨hr.1, o1⟩]
        exact if_pos (decide_eq_true (Int.le_trans (of_decide_eq_true hd) o2))
      · split at c2 <;> cases c2
    · cases c2
  rw [if_neg (not_not_intro c2), if_neg (not_not_intro c3)]
  rfl
theorem so_good {f : Surf} {l : List Surf} {r : Ray} {by_ : Int} (ho : ivIn f.open2 589824 6423200 = true) : soBad (by_, ()) (l, r, ()) f = false := by
  obtain ⟨o1, o2, o3⟩ := ivIn_iff.1 ho
  have hb := pick_bd by_ (m := 5898240) (by decide)
  have b1 := right_bd o1
  have hp := point_right (n := pick by_ 5898240) (by omega)
  have hpr : (Iv.point (pick by_ 5898240)).right = true := by rw [hp]; exact right_mk' (by omega)
  have ha := add_right_eq o1 hpr (by rw [hp]; dsimp only; omega)
  simp only [soBad]
  by_cases c : (stepOf f r).2 = 1
  · rw [stepOf_wider c (fun _ => by rw [ha, hp]; exact ⟨right_mk' (by dsimp only; omega), by dsimp only; omega⟩), rE_self, c]
    rfl
  · simp [c]
def sfBad (_ : Unit) (s : List Surf × Ray × Unit) (f : Surf) : Bool :=
  (stepOf f s.2.1).2 == 1 && (!(stepOf f s.2.1).1.o.right || (!(stepOf f s.2.1).1.d.right || (((stepOf f s.2.1).1.o.x.sqr.add (stepOf f s.2.1).1.o.y.sqr).right && decide (f.open2.lo < ((stepOf f s.2.1).1.o.x.sqr.add (stepOf f s.2.1).1.o.y.sqr).hi) ||
    (f.stop && !(vE (stepOf f s.2.1).1.d s.2.1.d)))))
theorem bend_right {d n : V} {k : Iv} (h : (bend d n k).2 = 1) : (bend d n k).1.right = true := by
  unfold bend at h ⊢
  split at h
  · cases h
  · rename_i c1
    split at h
    · cases h
    · rename_i c2
      split at h
      · cases h
      · rename_i c3
        split at h
        · cases h
        · rename_i c4
          split at h
          · rename_i c5
            rw [if_neg c1, if_neg c2, if_neg c3, if_neg c4, if_pos c5]; exact c5
          · cases h
/-- What goes through a face is on it. -/
theorem step_on {f : Surf} {r : Ray} (hd : r.d.right = true) (h : (stepOf f r).2 = 1) :
    (stepOf f r).1.o.right = true ∧ (stepOf f r).1.d.right = true ∧ ((stepOf f r).1.o.x.sqr.add (stepOf f r).1.o.y.sqr).hi ≤ f.open2.lo ∧ (f.stop = true → (stepOf f r).1.d = r.d) := by
  have hh := hitOf_right f r
  unfold stepOf at h ⊢
  generalize hitOf f r = w at *
  generalize normalOf f w.2.1 = q at *
  by_cases c1 : w.2.2 = 1
  case neg => unfold stepEnd at h; rw [if_pos c1] at h; have := lost_kind w.2.2; omega
  by_cases c2 : notAbove (w.2.1.x.sqr.add w.2.1.y.sqr) f.open2 = 1
  case neg => unfold stepEnd at h; rw [if_neg (not_not_intro c1), if_pos c2] at h; have := lost_kind (notAbove (w.2.1.x.sqr.add w.2.1.y.sqr) f.open2); omega
  by_cases c3 : (w.2.1.z.add f.at_).no = true
  · unfold stepEnd at h; rw [if_neg (not_not_intro c1), if_neg (not_not_intro c2), if_pos c3] at h; have := lost_kind 0; omega
  have hv : w.2.1.right = true := by rw [hh, c1]; rfl
  obtain ⟨v1, v2, v3⟩ := vright_iff.1 hv
  have rz := clean_right (add_clean w.2.1.z f.at_) (by simpa using c3)
  have hr2 : (w.2.1.x.sqr.add w.2.1.y.sqr).hi ≤ f.open2.lo := by
    unfold notAbove at c2
    split at c2
    · unfold told at c2
      split at c2
      · rename_i hd; exact of_decide_eq_true hd
      · split at c2 <;> cases c2
    · cases c2
  by_cases c4 : f.stop = true
  · have e1 : stepEnd f r.d w q = (⟨⟨w.2.1.x, w.2.1.y, w.2.1.z.add f.at_⟩, r.d⟩, 1) := by unfold stepEnd; rw [if_neg (not_not_intro c1), if_neg (not_not_intro c2), if_neg c3, if_pos c4]
    rw [e1]
    exact ⟨vright_iff.2 ⟨v1, v2, rz⟩, hd, hr2, fun _ => rfl⟩
  by_cases c5 : (bend r.d q f.ratio).2 = 1
  · have e1 : stepEnd f r.d w q = (⟨⟨w.2.1.x, w.2.1.y, w.2.1.z.add f.at_⟩, (bend r.d q f.ratio).1⟩, 1) := by unfold stepEnd; rw [if_neg (not_not_intro c1), if_neg (not_not_intro c2), if_neg c3, if_neg c4, if_neg (not_not_intro c5)]
    rw [e1]
    exact ⟨vright_iff.2 ⟨v1, v2, rz⟩, bend_right c5, hr2, fun e => absurd e c4⟩
  · unfold stepEnd at h; rw [if_neg (not_not_intro c1), if_neg (not_not_intro c2), if_neg c3, if_neg c4, if_pos c5] at h; have := lost_kind (bend r.d q f.ratio).2; omega
theorem sf_good {f : Surf} {l : List Surf} {r : Ray} (hd : r.d.right = true) : sfBad () (l, r, ()) f = false := by
  simp only [sfBad]
  by_cases c : (stepOf f r).2 = 1
  · obtain ⟨h1, h2, h3, h4⟩ := step_on hd c
    rw [h1, h2, show decide (f.open2.lo < ((stepOf f r).1.o.x.sqr.add (stepOf f r).1.o.y.sqr).hi) = false from decide_eq_false (by omega)]
    by_cases c2 : f.stop = true
    · rw [h4 c2, vE_self]; simp
    · simp [c2]
  · simp [c]
/-! Rays of raw numbers are right -/
theorem wide_small {x w : Int} (hx : -100000000 ≤ x ∧ x ≤ 100000000) (hw : 0 ≤ w ∧ w ≤ 100000000) : wide x w = ⟨x, x + w, false⟩ := by
  have e : within x (-1073741824) 1073741824 = x := by unfold within; omega
  have e2 : w64 (x + w) = x + w := w64_of (by omega) (by omega)
  unfold wide
  rw [e, e2, Int.min_eq_right (by omega)]
theorem rayLean_bd (n : Int) : 0 ≤ rayLean n ∧ rayLean n ≤ 200 := by
  unfold rayLean
  split
  · have := pick_bd n (m := 200) (by decide); omega
  · omega
theorem rayWide_bd (n : Int) : 0 ≤ rayWide n ∧ rayWide n ≤ 9000 := by
  unfold rayWide
  split
  · omega
  · split
    · have := pick_bd n (m := 9000) (by decide); omega
    · have := pick_bd n (m := 400) (by decide); omega
theorem sqr_small {a : Iv} (h : ivIn a (-15200) 15200 = true) : ivIn a.sqr 0 3526 = true := by
  obtain ⟨h1, h2, h3⟩ := ivIn_iff.1 h
  have b := right_bd h1
  have n0 : 0 ≤ ivNear a ∧ ivNear a ≤ ivFar a ∧ ivFar a ≤ 15200 := by unfold ivNear ivFar; omega
  have s1 : ivFar a * ivFar a ≤ 15200 * 15200 := Int.mul_le_mul n0.2.2 n0.2.2 (by omega) (by omega)
  have s2 : ivNear a * ivNear a ≤ ivFar a * ivFar a := Int.mul_le_mul n0.2.1 n0.2.1 n0.1 (by omega)
  have s3 : 0 ≤ ivNear a * ivNear a := Int.mul_nonneg n0.1 n0.1
  have l0 : 0 ≤ fl (ivNear a * ivNear a) 65536 := (le_fl_iff (by decide)).2 (by omega)
  have l1 : cl (ivFar a * ivFar a) 65536 ≤ 3526 := (cl_le_iff (by decide)).2 (by omega)
  have l2 : fl (ivNear a * ivNear a) 65536 ≤ cl (ivFar a * ivFar a) 65536 := Int.le_trans (fl_mono (by decide) s2) (fl_le_cl _ _)
  rw [sqr_eq h1, of_eq ⟨⟨numIn_iff.2 (by omega), numIn_iff.2 (by omega)⟩, l2⟩]
  exact ivIn_iff.2 ⟨right_mk' (by omega), l0, l1⟩
theorem unit_right {a : V} (hx : ivIn a.x (-15200) 15200 = true) (hy : ivIn a.y (-15200) 15200 = true) (hz : a.z = ⟨65536, 65536, false⟩) : a.unit.right = true := by
  obtain ⟨x1, x2, x3⟩ := ivIn_iff.1 (sqr_small hx)
  obtain ⟨y1, y2, y3⟩ := ivIn_iff.1 (sqr_small hy)
  have bx := right_bd x1
  have by_ := right_bd y1
  have hxy := add_right_eq x1 y1 (by omega)
  have rxy : (a.x.sqr.add a.y.sqr).right = true := by rw [hxy]; exact right_mk' (by omega)
  have hzz : a.z.sqr = ⟨65536, 65536, false⟩ := by rw [hz]; decide +kernel
  have rzz : a.z.sqr.right = true := by rw [hzz]; decide
  have hl := add_right_eq rxy rzz (by rw [hxy, hzz]; dsimp only; omega)
  have hlen : a.len2 = ⟨a.x.sqr.lo + a.y.sqr.lo + 65536, a.x.sqr.hi + a.y.sqr.hi + 65536, false⟩ := by
    show (a.x.sqr.add a.y.sqr).add a.z.sqr = _
    rw [hl, hxy, hzz]
  have rl : a.len2.right = true := by rw [hlen]; exact right_mk' (by omega)
  have hroot := root_eq rl (by rw [hlen]; dsimp only; omega)
  rw [hlen] at hroot
  dsimp only at hroot
  have q1 : 65536 ≤ isqrt ((a.x.sqr.lo + a.y.sqr.lo + 65536) * 65536) := by
    have := isqrt_mono (n := 65536 * 65536) (m := (a.x.sqr.lo + a.y.sqr.lo + 65536) * 65536) (by decide) (by omega) (by omega)
    rw [show isqrt (65536 * 65536) = 65536 by decide +kernel] at this
    exact this
  have q2 := usqrt_spec (n := (a.x.sqr.hi + a.y.sqr.hi + 65536) * 65536) (by omega) (by omega)
  have q3 : isqrt ((a.x.sqr.hi + a.y.sqr.hi + 65536) * 65536) ≤ 68972 := isqrt_le (by omega) (by omega) (by decide) (by omega)
  have q4 := isqrt_mono (n := (a.x.sqr.lo + a.y.sqr.lo + 65536) * 65536) (m := (a.x.sqr.hi + a.y.sqr.hi + 65536) * 65536) (by omega) (by omega) (by omega)
  have key : ∀ b : Iv, ivIn b (-65536) 65536 = true → (b.div a.len2.root).right = true := by
    intro b hb
    obtain ⟨b1, b2, b3⟩ := ivIn_iff.1 hb
    have bb := right_bd b1
    have rr : a.len2.root.right = true := by rw [hlen, hroot]; exact right_mk' (by omega)
    have h0 : a.len2.root.has 0 = false := by rw [hlen, hroot]; simp [Iv.has]; omega
    rw [div_eq b1 rr h0, hlen, hroot]
    dsimp only
    generalize isqrt ((a.x.sqr.lo + a.y.sqr.lo + 65536) * 65536) = u at *
    generalize usqrt ((a.x.sqr.hi + a.y.sqr.hi + 65536) * 65536) = v at *
    have lo : ∀ x y, -65536 ≤ x → 65536 ≤ y → -65536 ≤ fl (x * 65536) y := fun x y hx hy => (le_fl_iff (by omega)).2 (by omega)
    have hi : ∀ x y, x ≤ 65536 → 65536 ≤ y → cl (x * 65536) y ≤ 65536 := fun x y hx hy => (cl_le_iff (by omega)).2 (by omega)
    have m1 := le_min4 (lo b.lo u (by omega) (by omega)) (lo b.lo v (by omega) (by omega)) (lo b.hi u (by omega) (by omega)) (lo b.hi v (by omega) (by omega))
    have m2 := max4_le (hi b.lo u (by omega) (by omega)) (hi b.lo v (by omega) (by omega)) (hi b.hi u (by omega) (by omega)) (hi b.hi v (by omega) (by omega))
    have m3 := Int.le_trans (min4_le (fl (b.lo * 65536) u) (fl (b.lo * 65536) v) (fl (b.hi * 65536) u) (fl (b.hi * 65536) v)).1 (Int.le_trans (fl_le_cl _ _) (le_max4 (cl (b.lo * 65536) u) (cl (b.lo * 65536) v) (cl (b.hi * 65536) u) (cl (b.hi * 65536) v)).1)
    rw [of_eq ⟨⟨numIn_iff.2 (by omega), numIn_iff.2 (by omega)⟩, m3⟩]
    exact right_mk' (by omega)
  have wx := ivIn_iff.1 hx
  have wy := ivIn_iff.1 hy
  exact vright_iff.2 ⟨key a.x (ivIn_iff.2 ⟨wx.1, by omega, by omega⟩), key a.y (ivIn_iff.2 ⟨wy.1, by omega, by omega⟩), key a.z (by rw [hz]; decide)⟩
theorem rayOf_right (x : RawRay) : (rayOf x).d.right = true := by
  have l := rayLean_bd x.lean
  have u := pick_bd x.u (m := 30000) (by decide)
  have w := pick_bd x.w (m := 30000) (by decide)
  refine unit_right ?_ ?_ rfl
  · dsimp only
    rw [wide_small (by omega) (by omega)]
    exact ivIn_iff.2 ⟨right_mk' (by omega), by dsimp only; omega, by dsimp only; omega⟩
  · dsimp only
    rw [wide_small (by omega) (by omega)]
    exact ivIn_iff.2 ⟨right_mk' (by omega), by dsimp only; omega, by dsimp only; omega⟩
end Go.Proofs.YtlbmjajjldfigaaGreat
