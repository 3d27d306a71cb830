/-
  Laws about what light comes through; in plain Lean.
-/
import Derived.Test.YtliglpiofomelaaGreatPup
import Derived.Test.YtliglpiofomelaaGreatSysF
namespace Go.Proofs.YtliglpiofomelaaGreat
open Go Ev
set_option linter.unusedVariables false
set_option linter.unusedSimpArgs false
def filmOf (x y w : Int) : Iv × Iv :=
  (wide (pick x 1048576 - 524288) (pick w 3000), wide (pick y 1048576 - 524288) (dv (pick w 3000) 3))
def sameC (a : RepV) (b : DRep) : Bool :=
  a.1 == b.1 && (a.2.1 == b.2.1 && (a.2.2.1 == b.2.2.1 && (a.2.2.2.1 == b.2.2.2.1 && (cEq a.2.2.2.2.1.1 a.2.2.2.2.1.2 (cxOf b.2.2.2.2.1).1 (cxOf b.2.2.2.2.1).2 && cEq a.2.2.2.2.2.1 a.2.2.2.2.2.2 (cxOf b.2.2.2.2.2).1 (cxOf b.2.2.2.2.2).2))))
def box20 (p : Pair) : Prop := -100 ≤ p.x ∧ p.x ≤ 100 ∧ -100 ≤ p.y ∧ p.y ≤ 100
theorem CI_box {p : Pair} (h : box20 p) : CI (cxOf p) p := CI_of ⟨by unfold box20 at h; omega, by unfold box20 at h; omega⟩
theorem cEq_self {p : Pair} (h : box20 p) : cEq (cxOf p).1 (cxOf p).2 (cxOf p).1 (cxOf p).2 = true := by rw [cEq_CI (CI_box h) (CI_box h)]; simp
theorem finD_box {r : DRep} (h : DOk r) : box20 (finD r).2.2.2.2.1 ∧ box20 (finD r).2.2.2.2.2 := by
  have h1 := h.lo
  have h2 := h.hi
  unfold finD
  simp only [box16, box20] at *
  split
  · refine ⟨by simp only; omega, ?_⟩
    simp only
    rw [wr (by omega), wr (by omega)]
    omega
  · exact ⟨by omega, by omega⟩
theorem scanOf_box (o : Iv) (l : List Surf) (x y : Iv) (n : Int) : box20 (scanOf o l x y n).1.2.2.2.2.1 ∧ box20 (scanOf o l x y n).1.2.2.2.2.2 := by
  unfold scanOf
  split
  · rename_i h
    exact finD_box (scanFold_ok o l x y (by have := (sizedC_iff.1 h.1).2; omega))
  · exact ⟨by simp [zeroD, box20], by simp [zeroD, box20]⟩
theorem same_self {r : DRep} (h : box20 r.2.2.2.2.1 ∧ box20 r.2.2.2.2.2) : sameC (repC r) r = true := by
  unfold sameC repC
  simp only [cEq_self h.1, cEq_self h.2, beq_self_eq_true, Bool.and_self]

/-! Films -/
theorem wide_right {x w : Int} (hx : -1048576 ≤ x ∧ x ≤ 1048576) (hw : 0 ≤ w ∧ w ≤ 1048576) : (wide x w).right = true ∧ (wide x w).lo = x ∧ (wide x w).hi = x + w := by
  have e1 : within x (-1073741824) 1073741824 = x := by unfold within; omega
  have e2 : w64 (x + w) = x + w := wr (by omega)
  have e : wide x w = ⟨x, x + w, false⟩ := by
    unfold wide
    rw [e1, e2]
    congr 1
    omega
  rw [e]
  exact ⟨right_mk' (by omega), rfl, rfl⟩
theorem film_right (x y w : Int) : ((filmOf x y w).1.right = true ∧ -524288 ≤ (filmOf x y w).1.lo ∧ (filmOf x y w).1.hi ≤ 530000) ∧ ((filmOf x y w).2.right = true ∧ -524288 ≤ (filmOf x y w).2.lo ∧ (filmOf x y w).2.hi ≤ 530000) := by
  have b1 := pick_bd x (m := 1048576) (by decide)
  have b2 := pick_bd y (m := 1048576) (by decide)
  have b3 := pick_bd w (m := 3000) (by decide)
  have b4 : 0 ≤ dv (pick w 3000) 3 ∧ dv (pick w 3000) 3 ≤ 1000 := by
    unfold dv
    rw [Int.tdiv_eq_ediv_of_nonneg b3.1]
    rw [show w64 (pick w 3000 / 3) = pick w 3000 / 3 from wr (by omega)]
    omega
  have h1 := wide_right (x := pick x 1048576 - 524288) (w := pick w 3000) (by omega) (by omega)
  have h2 := wide_right (x := pick y 1048576 - 524288) (w := dv (pick w 3000) 3) (by omega) (by omega)
  unfold filmOf
  simp only
  exact ⟨⟨h1.1, by omega, by omega⟩, ⟨h2.1, by omega, by omega⟩⟩
theorem in_sub {a : Iv} (h : a.right = true) (x y : Int) : (inIv a x y).right = true ∧ Sub (inIv a x y) a := by
  have b := right_bd h
  have p1 := pick_bd x (m := a.hi - a.lo + 1) (by omega)
  have p2 := pick_bd y (m := a.hi - (a.lo + pick x (a.hi - a.lo + 1)) + 1) (by omega)
  have e : inIv a x y = ⟨a.lo + pick x (a.hi - a.lo + 1), a.lo + pick x (a.hi - a.lo + 1) + pick y (a.hi - (a.lo + pick x (a.hi - a.lo + 1)) + 1), false⟩ := by
    unfold inIv; rw [if_pos h]
  rw [e]
  have hr := right_mk' (a := a.lo + pick x (a.hi - a.lo + 1)) (b := a.lo + pick x (a.hi - a.lo + 1) + pick y (a.hi - (a.lo + pick x (a.hi - a.lo + 1)) + 1)) (by omega)
  exact ⟨hr, fun _ => ⟨hr, by simp only; omega, by simp only; omega⟩⟩

/-! Narrower films -/
theorem aimRay_sub {o : Iv} {l : List Surf} {x x' y y' : Iv} (hx : Sub x' x) (hy : Sub y' y) (z : Pair) (n : Int) : SubR (aimRay o l x' y' z n) (aimRay o l x y z n) :=
  ⟨⟨hx, hy, Sub.refl _⟩, unit_sub ⟨sub_sub (Sub.refl _) hx, sub_sub (Sub.refl _) hy, Sub.refl _⟩⟩
theorem aimOf_sub {o : Iv} {l : List Surf} {x x' y y' : Iv} (hx : Sub x' x) (hy : Sub y' y) (z : Pair) (n : Int) (h : (aimOf o l x y z n).2 = true) : (aimOf o l x' y' z n).2 = true ∧ SubR (aimOf o l x' y' z n).1 (aimOf o l x y z n).1 := by
  have hs := aimRay_sub (o := o) (l := l) hx hy z n
  unfold aimOf at h ⊢
  split at h
  · rename_i hc
    rw [if_pos ⟨hc.1, subV_right hs.1 hc.2.1, subV_right hs.2 hc.2.2⟩, if_pos hc]
    exact ⟨rfl, hs⟩
  · cases h
theorem traceGo_sub : ∀ (l : List Surf), (∀ s ∈ l, s.bent = false) → ∀ (i : Int) (q r : Ray), SubR q r → ((traceGo l i r).1 = 1 → (traceGo l i q).1 = 1 ∧ SubR (traceGo l i q).2.2 (traceGo l i r).2.2) ∧ ((traceGo l i r).1 = 2 → (traceGo l i q).1 = 2)
  | [], _, i, q, r, h => ⟨fun _ => ⟨rfl, h⟩, fun e => by simp [traceGo] at e⟩
  | s :: l, hf, i, q, r, h => by
    obtain ⟨k1, k2, k3⟩ := stepOf_sub (hf s (by simp)) h
    unfold traceGo
    by_cases c : (stepOf s r).2 = 1
    · obtain ⟨e1, _, e2⟩ := k1 c
      rw [if_neg (by simp [c]), if_neg (by simp [e1])]
      exact traceGo_sub l (fun t ht => hf t (by simp [ht])) (i + 1) _ _ e2
    · rw [if_pos c]
      refine ⟨fun e => absurd e c, fun e => ?_⟩
      have e' := k2 e
      rw [if_pos (by omega)]
      exact e'
theorem kind_sub {o : Iv} {l : List Surf} (hf : ∀ s ∈ l, s.bent = false) {x x' y y' : Iv} (hx : Sub x' x) (hy : Sub y' y) (z : Pair) (n : Int) :
    (cellKind o l x y z n = 1 → cellKind o l x' y' z n = 1) ∧ (cellKind o l x y z n = 2 → cellKind o l x' y' z n = 2) := by
  unfold cellKind
  by_cases c : (aimOf o l x y z n).2 = true
  · obtain ⟨h1, h2⟩ := aimOf_sub (o := o) (l := l) hx hy z n c
    rw [if_pos c, if_pos h1]
    have := traceGo_sub l hf 0 _ _ h2
    exact ⟨fun e => (this.1 e).1, this.2⟩
  · rw [if_neg c]
    exact ⟨fun e => by omega, fun e => by omega⟩
structure Cnt (r : DRep) (m : Int) : Prop where
  s0 : 0 ≤ r.1
  m0 : 0 ≤ r.2.1
  le : r.1 + r.2.1 ≤ r.2.2.1
  top : r.2.2.1 ≤ m
  some : r.2.2.2.1 = decide (0 < r.1 + r.2.1)
theorem cnt_step {o : Iv} {l : List Surf} {x y : Iv} {n : Int} {r : DRep} {m : Int} (h : Cnt r m) (hm : m ≤ 2000) (z : Pair) : Cnt (scanOne o l x y n r z) (m + 1) := by
  obtain ⟨h1, h2, h3, h4, h5⟩ := h
  unfold scanOne
  split
  · exact ⟨h1, h2, h3, by omega, h5⟩
  · unfold tallyD
    rw [wr (n := r.1 + 1) (by omega), wr (n := r.2.1 + 1) (by omega), wr (n := r.2.2.1 + 1) (by omega)]
    split
    · exact ⟨h1, h2, by simp only; omega, by simp only; omega, h5⟩
    · split
      · exact ⟨by simp only; omega, h2, by simp only; omega, by simp only; omega, by simp only; rw [decide_eq_true (by omega)]⟩
      · exact ⟨h1, by simp only; omega, by simp only; omega, by simp only; omega, by simp only; rw [decide_eq_true (by omega)]⟩
theorem cnt_fold (o : Iv) (l : List Surf) (x y : Iv) (n : Int) : ∀ (q : List Pair) (r : DRep) (m : Int), m + q.length ≤ 2000 → Cnt r m → Cnt (q.foldl (scanOne o l x y n) r) (m + q.length)
  | [], r, m, _, h => by simpa using h
  | z :: q, r, m, hm, h => by
    simp only [List.length_cons, List.foldl_cons] at *
    have := cnt_fold o l x y n q (scanOne o l x y n r z) (m + 1) (by omega) (cnt_step h (by omega) z)
    rwa [show m + 1 + (q.length : Int) = m + ((q.length + 1 : Nat) : Int) by omega] at this
theorem zero_cnt : Cnt zeroD 0 := ⟨by decide, by decide, by decide, by decide, by decide⟩
structure Nar (t r : DRep) : Prop where
  all : t.2.2.1 = r.2.2.1
  sure : r.1 ≤ t.1
  sum : t.1 + t.2.1 ≤ r.1 + r.2.1
  some : t.2.2.2.1 = true → r.2.2.2.1 = true ∧ r.2.2.2.2.1.x ≤ t.2.2.2.2.1.x ∧ r.2.2.2.2.1.y ≤ t.2.2.2.2.1.y ∧ t.2.2.2.2.2.x ≤ r.2.2.2.2.2.x ∧ t.2.2.2.2.2.y ≤ r.2.2.2.2.2.y
theorem keep_nar {t r : DRep} (h : Nar t r) (z : Pair) :
    (keepLo r z).x ≤ (keepLo t z).x ∧ (keepLo r z).y ≤ (keepLo t z).y ∧ (keepHi t z).x ≤ (keepHi r z).x ∧ (keepHi t z).y ≤ (keepHi r z).y := by
  unfold keepLo keepHi
  rcases Bool.eq_false_or_eq_true t.2.2.2.1 with c | c
  · obtain ⟨d, d1, d2, d3, d4⟩ := h.some c
    simp only [c, d, if_true]; omega
  · rcases Bool.eq_false_or_eq_true r.2.2.2.1 with d | d
    · simp only [c, d, if_true, Bool.false_eq_true, if_false]; omega
    · simp only [c, d, Bool.false_eq_true, if_false]; omega
theorem skip_nar {t r : DRep} (h : Nar t r) (z : Pair) (ht : t.2.2.2.1 = true) : (keepLo r z).x ≤ t.2.2.2.2.1.x ∧ (keepLo r z).y ≤ t.2.2.2.2.1.y ∧ t.2.2.2.2.2.x ≤ (keepHi r z).x ∧ t.2.2.2.2.2.y ≤ (keepHi r z).y := by
  obtain ⟨d, d1, d2, d3, d4⟩ := h.some ht
  unfold keepLo keepHi
  simp only [d, if_true]; omega
theorem nar_step {o : Iv} {l : List Surf} (hf : ∀ s ∈ l, s.bent = false) {x x' y y' : Iv} (hx : Sub x' x) (hy : Sub y' y) {n : Int} {t r : DRep} {m : Int} (h : Nar t r) (ct : Cnt t m) (cr : Cnt r m) (hm : m ≤ 2000) (z : Pair) :
    Nar (scanOne o l x' y' n t z) (scanOne o l x y n r z) := by
  have hk := kind_sub (o := o) hf hx hy z n
  obtain ⟨a1, a2, a3, a4, a5⟩ := ct
  obtain ⟨b1, b2, b3, b4, b5⟩ := cr
  have kn := keep_nar h z
  have sn := skip_nar h z
  have h1 := h.all
  have h2 := h.sure
  have h3 := h.sum
  unfold scanOne
  generalize cellKind o l x' y' z n = kt at *
  generalize cellKind o l x y z n = kr at *
  generalize discOf z n = d at *
  by_cases cd : d = 2
  · rw [if_pos cd, if_pos cd]; exact h
  rw [if_neg cd, if_neg cd]
  unfold tallyD
  rw [wr (n := t.1 + 1) (by omega), wr (n := t.2.1 + 1) (by omega), wr (n := t.2.2.1 + 1) (by omega), wr (n := r.1 + 1) (by omega), wr (n := r.2.1 + 1) (by omega), wr (n := r.2.2.1 + 1) (by omega)]
  by_cases k2 : kr = 2
  · rw [if_pos (hk.2 k2), if_pos k2]
    exact ⟨by simp only; omega, h2, h3, h.some⟩
  rw [if_neg k2]
  by_cases k1 : kr = 1
  · have e := hk.1 k1
    rw [if_neg (by omega)]
    by_cases d1 : d = 1
    · rw [if_pos ⟨e, d1⟩, if_pos ⟨k1, d1⟩]
      exact ⟨by simp only; omega, by simp only; omega, by simp only; omega, fun _ => ⟨rfl, kn.1, kn.2.1, kn.2.2.1, kn.2.2.2⟩⟩
    · rw [if_neg (fun q => d1 q.2), if_neg (fun q => d1 q.2)]
      exact ⟨by simp only; omega, by simp only; omega, by simp only; omega, fun _ => ⟨rfl, kn.1, kn.2.1, kn.2.2.1, kn.2.2.2⟩⟩
  rw [if_neg (show ¬ (kr = 1 ∧ d = 1) from fun q => k1 q.1)]
  by_cases t2 : kt = 2
  · rw [if_pos t2]
    exact ⟨by simp only; omega, by simp only; omega, by simp only; omega, fun e => ⟨rfl, (sn e).1, (sn e).2.1, (sn e).2.2.1, (sn e).2.2.2⟩⟩
  rw [if_neg t2]
  split
  · exact ⟨by simp only; omega, by simp only; omega, by simp only; omega, fun _ => ⟨rfl, kn.1, kn.2.1, kn.2.2.1, kn.2.2.2⟩⟩
  · exact ⟨by simp only; omega, by simp only; omega, by simp only; omega, fun _ => ⟨rfl, kn.1, kn.2.1, kn.2.2.1, kn.2.2.2⟩⟩
theorem nar_fold {o : Iv} {l : List Surf} (hf : ∀ s ∈ l, s.bent = false) {x x' y y' : Iv} (hx : Sub x' x) (hy : Sub y' y) (n : Int) : ∀ (q : List Pair) (t r : DRep) (m : Int), m + q.length ≤ 2000 → Cnt t m → Cnt r m → Nar t r → Nar (q.foldl (scanOne o l x' y' n) t) (q.foldl (scanOne o l x y n) r)
  | [], t, r, m, _, _, _, h => h
  | z :: q, t, r, m, hm, ct, cr, h => by
    simp only [List.length_cons, List.foldl_cons] at *
    exact nar_fold hf hx hy n q _ _ (m + 1) (by omega) (cnt_step ct (by omega) z) (cnt_step cr (by omega) z) (nar_step hf hx hy h ct cr (by omega) z)

/-! Quarters -/
theorem times_negk (a : Iv) (k : Int) : a.times (-k) = (a.times k).neg := by
  unfold Iv.times
  rw [numIn_neg]
  split
  · rw [of_neg, Int.neg_mul, Int.neg_mul]
    congr 1 <;> omega
  · rfl
theorem hull_comm (a b : Iv) : a.hull b = b.hull a := by
  unfold Iv.hull Iv.both
  rw [Bool.and_comm, Int.min_comm, Int.max_comm]
theorem hull_neg (a b : Iv) : a.neg.hull b.neg = (a.hull b).neg := by
  unfold Iv.hull Iv.both
  rw [neg_right, neg_right]
  split
  · rename_i h
    simp only [Bool.and_eq_true] at h
    rw [of_neg, neg_right_eq h.1, neg_right_eq h.2]
    congr 1 <;> (simp only; omega)
  · rfl
theorem edge_neg {o : Iv} {q n : Int} (hq : -100 ≤ q ∧ q ≤ 100) : edgeC o (-q - 1) n = (edgeC o q n).neg := by
  unfold edgeC
  rw [wr (n := -q - 1 + 1) (by omega), wr (n := q + 1) (by omega), show -q - 1 = -(q + 1) by omega, show -(q + 1) + 1 = -q by omega, times_negk, times_negk, hull_neg, div_neg_left, hull_comm]
theorem sub_neg (a b : Iv) : a.neg.sub b.neg = (a.sub b).neg := add_neg a b.neg
def rot (z : Pair) : Pair := ⟨-z.y - 1, z.x⟩
def flip (z : Pair) : Pair := ⟨z.x, -z.y - 1⟩
theorem aimRay_rot {o : Iv} {l : List Surf} {a b : Iv} {z : Pair} {n : Int} (hz : box20 z) : aimRay o l b.neg a (rot z) n = (aimRay o l a b z n).map V.quarter := by
  unfold box20 at hz
  unfold aimRay Ray.map rot
  simp only
  rw [edge_neg (by omega), sub_neg]
  congr 1
  exact unit_sym sym_quarter ⟨(edgeC o z.x n).sub a, (edgeC o z.y n).sub b, firstAt l⟩
theorem aimRay_flip {o : Iv} {l : List Surf} {a b : Iv} {z : Pair} {n : Int} (hz : box20 z) : aimRay o l a b.neg (flip z) n = (aimRay o l a b z n).map V.mirror := by
  unfold box20 at hz
  unfold aimRay Ray.map flip
  simp only
  rw [edge_neg (by omega), sub_neg]
  congr 1
  exact unit_sym sym_mirror ⟨(edgeC o z.x n).sub a, (edgeC o z.y n).sub b, firstAt l⟩
theorem aimOf_map {σ : V → V} (hσ : Sym σ) {o : Iv} {l : List Surf} {a b a' b' : Iv} {z z' : Pair} {n : Int} (h : aimRay o l a' b' z' n = (aimRay o l a b z n).map σ) :
    (aimOf o l a' b' z' n).2 = (aimOf o l a b z n).2 ∧ ((aimOf o l a b z n).2 = true → (aimOf o l a' b' z' n).1 = (aimOf o l a b z n).1.map σ) := by
  unfold aimOf
  rw [h]
  have e : ((aimRay o l a b z n).map σ).o.right = (aimRay o l a b z n).o.right := hσ.right _
  have e' : ((aimRay o l a b z n).map σ).d.right = (aimRay o l a b z n).d.right := hσ.right _
  rw [e, e']
  split
  · exact ⟨rfl, fun _ => rfl⟩
  · exact ⟨rfl, fun e => by cases e⟩
theorem kind_map {σ : V → V} (hσ : Sym σ) {o : Iv} {l : List Surf} {a b a' b' : Iv} {z z' : Pair} {n : Int} (h : aimRay o l a' b' z' n = (aimRay o l a b z n).map σ) : cellKind o l a' b' z' n = cellKind o l a b z n := by
  obtain ⟨h1, h2⟩ := aimOf_map hσ h
  unfold cellKind
  rw [h1]
  split
  · rename_i c
    rw [h2 c, traceOf_sym hσ]
  · rfl
abbrev Tl := Bool × Pair × Pair
def keepT (t : Tl) (z : Pair) : Tl := (true, (if t.1 = true then ⟨min t.2.1.x z.x, min t.2.1.y z.y⟩ else z), (if t.1 = true then ⟨max t.2.2.x z.x, max t.2.2.y z.y⟩ else z))
theorem keepT_eq (r : DRep) (z : Pair) : (true, keepLo r z, keepHi r z) = keepT r.2.2.2 z := rfl
theorem keepT_comm (t : Tl) (a b : Pair) : keepT (keepT t a) b = keepT (keepT t b) a := by
  obtain ⟨s, lo, hi⟩ := t
  cases s
  · simp only [keepT, if_true, Bool.false_eq_true, if_false]
    refine Prod.ext rfl (Prod.ext ?_ ?_)
    · simp only [Pair.mk.injEq]; constructor <;> omega
    · simp only [Pair.mk.injEq]; constructor <;> omega
  · simp only [keepT, if_true]
    refine Prod.ext rfl (Prod.ext ?_ ?_)
    · simp only [Pair.mk.injEq]; constructor <;> omega
    · simp only [Pair.mk.injEq]; constructor <;> omega
theorem tally_T (r : DRep) (z : Pair) (d k : Int) : tallyD r z d k = (if k ≠ 2 ∧ k = 1 ∧ d = 1 then IntKind.i64.wrap (r.1 + 1) else r.1, if k ≠ 2 ∧ ¬ (k = 1 ∧ d = 1) then IntKind.i64.wrap (r.2.1 + 1) else r.2.1, IntKind.i64.wrap (r.2.2.1 + 1), if k ≠ 2 then keepT r.2.2.2 z else r.2.2.2) := by
  unfold tallyD
  by_cases c : k = 2
  · rw [if_pos c, if_neg (fun h => h.1 c), if_neg (fun h => h.1 c), if_neg (fun h => h c)]
  · rw [if_neg c, if_pos (show k ≠ 2 from c)]
    by_cases e : k = 1 ∧ d = 1
    · rw [if_pos e, if_pos ⟨c, e⟩, if_neg (fun h => h.2 e), ← keepT_eq]
    · rw [if_neg e, if_neg (fun h => e h.2), if_pos ⟨c, e⟩, ← keepT_eq]
theorem ite_comm' {α : Type} (f : α → α) (g : α → α) (h : ∀ x, f (g x) = g (f x)) (p q : Prop) [Decidable p] [Decidable q] (x : α) : (if q then f (if p then g x else x) else (if p then g x else x)) = (if p then g (if q then f x else x) else (if q then f x else x)) := by
  by_cases c : p <;> by_cases d : q <;> simp [c, d, h]
theorem tally_comm (r : DRep) (a b : Pair) (da db ka kb : Int) : tallyD (tallyD r a da ka) b db kb = tallyD (tallyD r b db kb) a da ka := by
  rw [tally_T, tally_T r a, tally_T (tallyD r b db kb), tally_T r b]
  refine Prod.ext ?_ (Prod.ext ?_ (Prod.ext rfl ?_))
  · exact ite_comm' (fun x : Int => IntKind.i64.wrap (x + 1)) (fun x : Int => IntKind.i64.wrap (x + 1)) (fun _ => rfl) _ _ r.1
  · exact ite_comm' (fun x : Int => IntKind.i64.wrap (x + 1)) (fun x : Int => IntKind.i64.wrap (x + 1)) (fun _ => rfl) _ _ r.2.1
  · exact ite_comm' (fun t : Tl => keepT t b) (fun t : Tl => keepT t a) (fun t => keepT_comm t a b) _ _ r.2.2.2
theorem scan_comm (o : Iv) (l : List Surf) (x y : Iv) (n : Int) (r : DRep) (a b : Pair) : scanOne o l x y n (scanOne o l x y n r a) b = scanOne o l x y n (scanOne o l x y n r b) a := by
  unfold scanOne
  by_cases ca : discOf a n = 2 <;> by_cases cb : discOf b n = 2 <;> simp only [ca, cb, if_true, if_false]
  exact tally_comm _ _ _ _ _ _ _
def rotPerm (n : Int) : Bool := ((cellsP n).map rot).isPerm (cellsP n) && ((cellsP n).all fun z => discOf (rot z) n == discOf z n)
theorem rot_all : rotPerm 1 = true ∧ rotPerm 2 = true ∧ rotPerm 3 = true ∧ rotPerm 4 = true := by decide +kernel
theorem rot_spec {n : Int} (hn : 1 ≤ n ∧ n ≤ 4) : ((cellsP n).map rot).Perm (cellsP n) ∧ ∀ z ∈ cellsP n, discOf (rot z) n = discOf z n := by
  have h : rotPerm n = true := by
    obtain ⟨h1, h2, h3, h4⟩ := rot_all
    have : n = 1 ∨ n = 2 ∨ n = 3 ∨ n = 4 := by omega
    rcases this with rfl | rfl | rfl | rfl <;> assumption
  unfold rotPerm at h
  simp only [Bool.and_eq_true, List.all_eq_true, beq_iff_eq] at h
  exact ⟨List.isPerm_iff.1 h.1, h.2⟩
def rotT (t : Tl) : Tl := (t.1, if t.1 = true then (⟨-t.2.2.y - 1, t.2.1.x⟩, ⟨-t.2.1.y - 1, t.2.2.x⟩) else t.2)
def rotD (r : DRep) : DRep := (r.1, r.2.1, r.2.2.1, rotT r.2.2.2)
theorem keepT_rot (t : Tl) (z : Pair) : keepT (rotT t) (rot z) = rotT (keepT t z) := by
  obtain ⟨s, ⟨a, b⟩, ⟨c, d⟩⟩ := t
  obtain ⟨x, y⟩ := z
  cases s
  · rfl
  · have e1 : min (-d - 1) (-y - 1) = -(max d y) - 1 := by omega
    have e2 : max (-b - 1) (-y - 1) = -(min b y) - 1 := by omega
    simp [keepT, rotT, rot, e1, e2]
theorem tally_rot (r : DRep) (z : Pair) (d k : Int) : tallyD (rotD r) (rot z) d k = rotD (tallyD r z d k) := by
  rw [tally_T, tally_T]
  refine Prod.ext rfl (Prod.ext rfl (Prod.ext rfl ?_))
  simp only [rotD]
  split
  · exact keepT_rot _ _
  · rfl
theorem rot_fold {o : Iv} {l : List Surf} {a b : Iv} {n : Int} : ∀ (q : List Pair) (r : DRep), (∀ z ∈ q, box20 z ∧ discOf (rot z) n = discOf z n) → (q.map rot).foldl (scanOne o l b.neg a n) (rotD r) = rotD (q.foldl (scanOne o l a b n) r)
  | [], r, _ => rfl
  | z :: q, r, h => by
    obtain ⟨h1, h2⟩ := h z (by simp)
    simp only [List.map_cons, List.foldl_cons]
    have e : scanOne o l b.neg a n (rotD r) (rot z) = rotD (scanOne o l a b n r z) := by
      unfold scanOne
      rw [h2, kind_map sym_quarter (aimRay_rot h1)]
      split
      · rfl
      · exact tally_rot _ _ _ _
    rw [e]
    exact rot_fold q _ fun w hw => h w (by simp [hw])
theorem scan_rot {o : Iv} {l : List Surf} {a b : Iv} {n : Int} (hn : 1 ≤ n ∧ n ≤ 4) : scanFold o l b.neg a n = rotD (scanFold o l a b n) := by
  obtain ⟨h1, h2⟩ := rot_spec hn
  unfold scanFold
  rw [← rot_fold (cellsP n) zeroD fun z hz => ⟨by have := cellsP_box (n := n) (by omega) z hz; unfold box20; omega, h2 z hz⟩]
  exact (h1.foldl_eq' (fun x _ y _ r => scan_comm o l b.neg a n r x y) (rotD zeroD)).symm

theorem ordLt {a b : Int} (ha : -200 ≤ a ∧ a ≤ 200) (hb : -200 ≤ b ∧ b ≤ 200) (h : b ≤ a) : (fOrd (fInt a) (fInt b) == some Ordering.lt) = false := by
  rw [ord_FI (FI_int (by omega)) (FI_int (by omega))]
  rcases Int.lt_or_eq_of_le h with h | h
  · rw [Int.compare_eq_gt.2 h]; rfl
  · rw [h, Int.compare_eq_eq.2 rfl]; rfl
theorem ordGt {a b : Int} (ha : -200 ≤ a ∧ a ≤ 200) (hb : -200 ≤ b ∧ b ≤ 200) (h : a ≤ b) : (fOrd (fInt a) (fInt b) == some Ordering.gt) = false := by
  rw [ord_FI (FI_int (by omega)) (FI_int (by omega))]
  rcases Int.lt_or_eq_of_le h with h | h
  · rw [Int.compare_eq_lt.2 h]; rfl
  · rw [h, Int.compare_eq_eq.2 rfl]; rfl
theorem ordEq {a : Int} (ha : -200 ≤ a ∧ a ≤ 200) : (fOrd (fInt a) (fInt a) == some Ordering.eq) = true := by
  rw [ord_FI (FI_int (by omega)) (FI_int (by omega)), Int.compare_eq_eq.2 rfl]; rfl
theorem ordNeg {a b : Int} (ha : -200 ≤ a ∧ a ≤ 200) (hb : b = -a) : (fOrd (fInt b) (Op.negFloat .f64 (fInt a)) == some Ordering.eq) = true := by
  rw [ord_FI (FI_int (by omega)) (FI_neg_int (by omega)), hb, Int.compare_eq_eq.2 rfl]; rfl
structure CountsL (R T Q : DRep × Int) : Prop where
  e : R.2 = 0 ∧ T.2 = 0 ∧ Q.2 = 0
  s0 : 0 ≤ R.1.1
  m0 : 0 ≤ R.1.2.1
  le : R.1.1 + R.1.2.1 ≤ R.1.2.2.1
  top : R.1.2.2.1 ≤ 2000
  some : R.1.2.2.2.1 = decide (0 < R.1.1 + R.1.2.1)
  t0 : 0 ≤ T.1.1 ∧ 0 ≤ T.1.2.1
  all : T.1.2.2.1 = R.1.2.2.1
  sure : R.1.1 ≤ T.1.1
  sum : T.1.1 + T.1.2.1 ≤ R.1.1 + R.1.2.1
  nar : T.1.2.2.2.1 = true → R.1.2.2.2.2.1.x ≤ T.1.2.2.2.2.1.x ∧ R.1.2.2.2.2.1.y ≤ T.1.2.2.2.2.1.y ∧ T.1.2.2.2.2.2.x ≤ R.1.2.2.2.2.2.x ∧ T.1.2.2.2.2.2.y ≤ R.1.2.2.2.2.2.y
  qs : Q.1.1 = R.1.1 ∧ Q.1.2.1 = R.1.2.1
  turn : R.1.2.2.2.1 = true → Q.1.2.2.2.2.1.x = -R.1.2.2.2.2.2.y ∧ Q.1.2.2.2.2.2.x = -R.1.2.2.2.2.1.y ∧ Q.1.2.2.2.2.1.y = R.1.2.2.2.2.1.x ∧ Q.1.2.2.2.2.2.y = R.1.2.2.2.2.2.x
  bR : box20 R.1.2.2.2.2.1 ∧ box20 R.1.2.2.2.2.2
  bT : box20 T.1.2.2.2.2.1 ∧ box20 T.1.2.2.2.2.2
  bQ : box20 Q.1.2.2.2.2.1 ∧ box20 Q.1.2.2.2.2.2
theorem finD_fst (r : DRep) : (finD r).1 = r.1 ∧ (finD r).2.1 = r.2.1 ∧ (finD r).2.2.1 = r.2.2.1 ∧ (finD r).2.2.2.1 = r.2.2.2.1 ∧ (finD r).2.2.2.2.1 = r.2.2.2.2.1 := by
  unfold finD; split <;> exact ⟨rfl, rfl, rfl, rfl, rfl⟩
theorem finD_hi {r : DRep} (h : DOk r) : r.2.2.2.1 = true → (finD r).2.2.2.2.2 = up1 r.2.2.2.2.2 := by
  intro e
  have h2 := h.hi
  unfold box16 at h2
  unfold finD
  rw [if_pos e]
  simp only
  rw [wr (by omega), wr (by omega)]
  rfl
theorem counts_law {o : Iv} {l : List Surf} (hl : l.length ≠ 0) (hf : ∀ s ∈ l, s.bent = false) {a b a' b' : Iv} {n : Int} (ha : a.right = true) (hb : b.right = true) (ha' : a'.right = true ∧ Sub a' a) (hb' : b'.right = true ∧ Sub b' b) (hn : 1 ≤ n ∧ n ≤ 4) :
    CountsL (scanOf o l a b n) (scanOf o l a' b' n) (scanOf o l b.neg a n) := by
  have hs : sizedC l n = true := sizedC_iff.2 ⟨by omega, by omega, by omega⟩
  have eR : scanOf o l a b n = (finD (scanFold o l a b n), 0) := by unfold scanOf; rw [if_pos ⟨hs, ha, hb⟩]
  have eT : scanOf o l a' b' n = (finD (scanFold o l a' b' n), 0) := by unfold scanOf; rw [if_pos ⟨hs, ha'.1, hb'.1⟩]
  have eQ : scanOf o l b.neg a n = (finD (scanFold o l b.neg a n), 0) := by unfold scanOf; rw [if_pos ⟨hs, by rw [neg_right]; exact hb, ha⟩]
  have hlen := cellsP_len (n := n) (by omega)
  have cR : Cnt (scanFold o l a b n) (0 + (cellsP n).length) := cnt_fold o l a b n (cellsP n) zeroD 0 (by omega) zero_cnt
  have cT : Cnt (scanFold o l a' b' n) (0 + (cellsP n).length) := cnt_fold o l a' b' n (cellsP n) zeroD 0 (by omega) zero_cnt
  have hN : Nar (scanFold o l a' b' n) (scanFold o l a b n) := nar_fold hf ha'.2 hb'.2 n (cellsP n) zeroD zeroD 0 (by omega) zero_cnt zero_cnt ⟨rfl, Int.le_refl _, Int.le_refl _, fun e => by cases e⟩
  have hQ := scan_rot (o := o) (l := l) (a := a) (b := b) (n := n) hn
  have oR := scanFold_ok o l a b (n := n) (by omega)
  have oT := scanFold_ok o l a' b' (n := n) (by omega)
  have oQ := scanFold_ok o l b.neg a (n := n) (by omega)
  have bR := scanOf_box o l a b n
  have bT := scanOf_box o l a' b' n
  have bQ := scanOf_box o l b.neg a n
  rw [eR] at bR ⊢
  rw [eT] at bT ⊢
  rw [eQ] at bQ ⊢
  have fR := finD_fst (scanFold o l a b n)
  have fT := finD_fst (scanFold o l a' b' n)
  have fQ := finD_fst (scanFold o l b.neg a n)
  have hR2 := finD_hi oR
  have hT2 := finD_hi oT
  have hQ2 := finD_hi oQ
  generalize scanFold o l b.neg a n = q at *
  subst hQ
  generalize scanFold o l a b n = r at *
  generalize scanFold o l a' b' n = t at *
  obtain ⟨r1, r2, r3, r4, r5⟩ := fR
  obtain ⟨t1, t2, t3, t4, t5⟩ := fT
  obtain ⟨q1, q2, q3, q4, q5⟩ := fQ
  refine ⟨⟨rfl, rfl, rfl⟩, by simp only [r1]; exact cR.s0, by simp only [r2]; exact cR.m0, by simp only [r1, r2, r3]; exact cR.le, by simp only [r3]; have := cR.top; omega, by simp only [r1, r2, r4]; exact cR.some,
    by simp only [t1, t2]; exact ⟨cT.s0, cT.m0⟩, by simp only [r3, t3]; exact hN.all, by simp only [r1, t1]; exact hN.sure, by simp only [r1, r2, t1, t2]; exact hN.sum, ?_, by simp only [q1, q2, r1, r2]; exact ⟨rfl, rfl⟩, ?_, bR, bT, bQ⟩
  · intro e
    simp only [t4] at e
    obtain ⟨d, d1, d2, d3, d4⟩ := hN.some e
    simp only [r5, t5, hT2 e, hR2 d, up1]
    omega
  · intro e
    simp only [r4] at e
    have e' : (rotD r).2.2.2.1 = true := e
    have v1 : (finD (rotD r)).2.2.2.2.1 = ⟨-r.2.2.2.2.2.y - 1, r.2.2.2.2.1.x⟩ := by rw [q5]; simp [rotD, rotT, e]
    have v2 : (finD (rotD r)).2.2.2.2.2 = ⟨-r.2.2.2.2.1.y - 1 + 1, r.2.2.2.2.2.x + 1⟩ := by rw [hQ2 e']; simp [rotD, rotT, e, up1]
    have g2 := hR2 e
    simp only
    rw [v1, v2, r5, g2]
    simp only [up1]
    exact ⟨by omega, by omega, trivial, trivial⟩
end Go.Proofs.YtliglpiofomelaaGreat
