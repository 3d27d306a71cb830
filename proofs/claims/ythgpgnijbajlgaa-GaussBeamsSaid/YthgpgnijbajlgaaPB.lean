/-
  Beams through several matrices; in plain Lean.
-/
import Derived.Test.YthgpgnijbajlgaaMatB
namespace Go.Proofs.Ythgpgnijbajlgaa
open Go Ev
set_option linter.unusedVariables false
set_option linter.unusedSimpArgs false

abbrev PBeam := Pair × Pair
def pOf (b : PBeam) : Beam := (cxOf b.1, cxOf b.2)
def zeroP : PBeam := (⟨0, 0⟩, ⟨0, 0⟩)
def carryP (m : Quad) (b : PBeam) : PBeam := (rowPr m.1 m.2.1 b.1 b.2, rowPr m.2.2.1 m.2.2.2 b.1 b.2)
def bsmall (b : PBeam) (B : Int) : Prop := b.1.small B ∧ b.2.small B
def q3 (m : Quad) : Prop := (-3 ≤ m.1 ∧ m.1 ≤ 3) ∧ (-3 ≤ m.2.1 ∧ m.2.1 ≤ 3) ∧ (-3 ≤ m.2.2.1 ∧ m.2.2.1 ≤ 3) ∧ (-3 ≤ m.2.2.2 ∧ m.2.2.2 ≤ 3)
def qle (m : Quad) (B : Int) : Prop := (-B ≤ m.1 ∧ m.1 ≤ B) ∧ (-B ≤ m.2.1 ∧ m.2.1 ≤ B) ∧ (-B ≤ m.2.2.1 ∧ m.2.2.1 ≤ B) ∧ (-B ≤ m.2.2.2 ∧ m.2.2.2 ≤ B)
theorem mul3 {a x B : Int} (ha : -3 ≤ a ∧ a ≤ 3) (hx : -B ≤ x ∧ x ≤ B) : -(3 * B) ≤ a * x ∧ a * x ≤ 3 * B := by
  have : a = -3 ∨ a = -2 ∨ a = -1 ∨ a = 0 ∨ a = 1 ∨ a = 2 ∨ a = 3 := by omega
  rcases this with h | h | h | h | h | h | h <;> subst h <;> omega
theorem qmul_le {a m : Quad} {B : Int} (ha : q3 a) (hm : qle m B) : qle (qmul a m) (6 * B) := by
  obtain ⟨a1, a2, a3, a4⟩ := ha
  obtain ⟨m1, m2, m3, m4⟩ := hm
  have x1 := mul3 a1 m1
  have x2 := mul3 a2 m3
  have x3 := mul3 a1 m2
  have x4 := mul3 a2 m4
  have x5 := mul3 a3 m1
  have x6 := mul3 a4 m3
  have x7 := mul3 a3 m2
  have x8 := mul3 a4 m4
  unfold qle qmul
  simp only
  omega
theorem qle_in {m : Quad} {B : Int} (h : qle m B) (hB : B ≤ 1048576) : quadIn m = true := by
  obtain ⟨m1, m2, m3, m4⟩ := h
  exact quadIn_iff.2 ⟨by omega, by omega, by omega, by omega⟩
theorem q3_in {m : Quad} (h : q3 m) : quadIn m = true := qle_in (B := 3) h (by decide)
def prodQ : List Quad → Quad → Quad
  | [], m => m
  | a :: t, m => prodQ t (qmul a m)
def carryL : List Quad → PBeam → PBeam
  | [], b => b
  | a :: t, b => carryL t (carryP a b)
def six : Nat → Int
  | 0 => 1
  | k + 1 => 6 * six k
theorem prod_le : ∀ (l : List Quad) (m : Quad) (B : Int), (∀ a ∈ l, q3 a) → qle m B → qle (prodQ l m) (six l.length * B)
  | [], m, B, _, h => by simp only [List.length_nil, six, Int.one_mul]; exact h
  | a :: t, m, B, ha, h => by
    have := prod_le t (qmul a m) (6 * B) (fun x hx => ha x (List.mem_cons_of_mem _ hx)) (qmul_le (ha a List.mem_cons_self) h)
    have e : six (a :: t).length * B = six t.length * (6 * B) := by
      show 6 * six t.length * B = _
      rw [Int.mul_comm 6, Int.mul_assoc]
    rw [e]; exact this
theorem six_pos : ∀ k, 1 ≤ six k
  | 0 => by decide
  | k + 1 => by have := six_pos k; show 1 ≤ 6 * six k; omega
theorem six5 {k : Nat} (h : k ≤ 5) : six k ≤ 7776 := by
  rcases (show k = 0 ∨ k = 1 ∨ k = 2 ∨ k = 3 ∨ k = 4 ∨ k = 5 by omega) with rfl | rfl | rfl | rfl | rfl | rfl <;> decide
theorem mat_prod : ∀ (l : List Quad) (m : Quad) (B : Int), (∀ a ∈ l, q3 a) → qle m B → 0 ≤ B → six l.length * B ≤ 1048576 → matGo l m = (prodQ l m, true)
  | [], _, _, _, _, _, _ => rfl
  | a :: t, m, B, ha, h, h0, hB => by
    have e : six (a :: t).length * B = six t.length * (6 * B) := by
      show 6 * six t.length * B = _
      rw [Int.mul_comm 6, Int.mul_assoc]
    rw [e] at hB
    have hq := qmul_le (ha a List.mem_cons_self) h
    have hs := six_pos t.length
    have h6 : 6 * B ≤ 1048576 := by
      have : 1 * (6 * B) ≤ six t.length * (6 * B) := Int.mul_le_mul_of_nonneg_right hs (by omega)
      omega
    unfold matGo
    rw [if_pos (q3_in (ha a List.mem_cons_self)), if_pos (qle_in hq h6)]
    exact mat_prod t (qmul a m) (6 * B) (fun x hx => ha x (List.mem_cons_of_mem _ hx)) hq (by omega) hB
def oneQ : Quad := (1, 0, 0, 1)
theorem qmul_one (m : Quad) : qmul m oneQ = m := by simp [qmul, oneQ]
theorem one_qmul (m : Quad) : qmul oneQ m = m := by simp [qmul, oneQ]
theorem qmul_assoc (a b c : Quad) : qmul (qmul a b) c = qmul a (qmul b c) := by
  obtain ⟨a1, a2, a3, a4⟩ := a
  obtain ⟨b1, b2, b3, b4⟩ := b
  obtain ⟨c1, c2, c3, c4⟩ := c
  simp only [qmul, Prod.mk.injEq]
  refine ⟨by grind, by grind, by grind, by grind⟩
theorem prod_mul : ∀ (l : List Quad) (m : Quad), prodQ l m = qmul (prodQ l oneQ) m
  | [], m => (one_qmul m).symm
  | a :: t, m => by
    show prodQ t (qmul a m) = qmul (prodQ t (qmul a oneQ)) m
    rw [prod_mul t (qmul a m), prod_mul t (qmul a oneQ), qmul_one, qmul_assoc]
theorem prod_append : ∀ (l r : List Quad) (m : Quad), prodQ (l ++ r) m = prodQ r (prodQ l m)
  | [], _, _ => rfl
  | a :: t, r, m => prod_append t r (qmul a m)
theorem one_le : qle oneQ 1 := ⟨by decide, by decide, by decide, by decide⟩
theorem mat_of {l : List Quad} (hl : ∀ a ∈ l, q3 a) (hn : l.length ≤ 5) : matOf l = (prodQ l oneQ, true) ∧ qle (prodQ l oneQ) 7776 := by
  have h6 := six5 hn
  have hp := prod_le l oneQ 1 hl one_le
  rw [Int.mul_one] at hp
  refine ⟨mat_prod l oneQ 1 hl one_le (by decide) (by omega), ?_⟩
  obtain ⟨a, b, c, d⟩ := hp
  exact ⟨by omega, by omega, by omega, by omega⟩
/-- A product in two parts. -/
theorem parts_law {l : List Quad} (hl : ∀ a ∈ l, q3 a) (hn : l.length ≤ 5) (k : Nat) : (matOf [(matOf (l.take k)).1, (matOf (l.drop k)).1]).1 = (matOf l).1 := by
  obtain ⟨e1, b1⟩ := mat_of (l := l.take k) (fun a ha => hl a (List.mem_of_mem_take ha)) (by simp; omega)
  obtain ⟨e2, b2⟩ := mat_of (l := l.drop k) (fun a ha => hl a (List.mem_of_mem_drop ha)) (by simp; omega)
  obtain ⟨e3, b3⟩ := mat_of hl hn
  have hp : qmul (prodQ (l.drop k) oneQ) (prodQ (l.take k) oneQ) = prodQ l oneQ := by
    rw [← prod_mul, ← prod_append, List.take_append_drop]
  rw [e1, e2, e3]
  dsimp only
  show (matGo [prodQ (l.take k) oneQ, prodQ (l.drop k) oneQ] oneQ).1 = _
  unfold matGo
  rw [if_pos (qle_in b1 (by decide)), qmul_one, if_pos (qle_in b1 (by decide))]
  unfold matGo
  rw [if_pos (qle_in b2 (by decide)), hp, if_pos (qle_in b3 (by decide))]
  rfl
/-! Beams -/
theorem carry_qmul (a m : Quad) (b : PBeam) : carryP (qmul a m) b = carryP a (carryP m b) := by
  obtain ⟨a1, a2, a3, a4⟩ := a
  obtain ⟨m1, m2, m3, m4⟩ := m
  obtain ⟨⟨x, y⟩, ⟨u, v⟩⟩ := b
  simp only [carryP, qmul, rowPr, Prod.mk.injEq, Pair.mk.injEq]
  refine ⟨⟨by grind, by grind⟩, by grind, by grind⟩
theorem carry_one (b : PBeam) : carryP oneQ b = b := by simp [carryP, oneQ, rowPr]
theorem carry_prod : ∀ (l : List Quad) (m : Quad) (b : PBeam), carryP (prodQ l m) b = carryL l (carryP m b)
  | [], _, _ => rfl
  | a :: t, m, b => by
    show carryP (prodQ t (qmul a m)) b = carryL t (carryP a (carryP m b))
    rw [carry_prod t, carry_qmul]
theorem carry_zero (m : Quad) : carryP m zeroP = zeroP := by simp [carryP, zeroP, rowPr]
theorem carryL_zero : ∀ l : List Quad, carryL l zeroP = zeroP
  | [] => rfl
  | a :: t => by show carryL t (carryP a zeroP) = _; rw [carry_zero]; exact carryL_zero t
theorem carry_le {m : Quad} {b : PBeam} {B : Int} (hm : q3 m) (hb : bsmall b B) : bsmall (carryP m b) (6 * B) := by
  obtain ⟨a1, a2, a3, a4⟩ := hm
  obtain ⟨⟨b1, b2⟩, b3, b4⟩ := hb
  have x1 := mul3 a1 b1
  have x2 := mul3 a1 b2
  have x3 := mul3 a2 b3
  have x4 := mul3 a2 b4
  have x5 := mul3 a3 b1
  have x6 := mul3 a3 b2
  have x7 := mul3 a4 b3
  have x8 := mul3 a4 b4
  unfold bsmall carryP rowPr Pair.small
  simp only
  omega
theorem carryL_le : ∀ (l : List Quad) (b : PBeam) (B : Int), (∀ a ∈ l, q3 a) → bsmall b B → bsmall (carryL l b) (six l.length * B)
  | [], b, B, _, h => by simp only [List.length_nil, six, Int.one_mul]; exact h
  | a :: t, b, B, ha, h => by
    have := carryL_le t (carryP a b) (6 * B) (fun x hx => ha x (List.mem_cons_of_mem _ hx)) (carry_le (ha a List.mem_cons_self) h)
    have e : six (a :: t).length * B = six t.length * (6 * B) := by
      show 6 * six t.length * B = _
      rw [Int.mul_comm 6, Int.mul_assoc]
    rw [e]; exact this
theorem right_CI {u v : Cx} {p q : Pair} (hu : CI u p) (hv : CI v q) (hp : p.small 1048576) (hq : q.small 1048576) : cRight (u, v) = decide ((p, q) ≠ zeroP) := by
  have z : CI (0, 0) ⟨0, 0⟩ := ⟨FI_zero, FI_zero⟩
  unfold cRight
  simp only
  rw [whole_CI hu, whole_CI hv, decide_eq_true hp, decide_eq_true hq, cEq_CI hu z, cEq_CI hv z]
  by_cases h1 : p = ⟨0, 0⟩ <;> by_cases h2 : q = ⟨0, 0⟩ <;> simp [h1, h2, zeroP]
theorem small_of {b : PBeam} {B : Int} (h : bsmall b B) (hB : B ≤ 1048576) : bsmall b 1048576 := ⟨small_mono h.1 hB, small_mono h.2 hB⟩
/-- What a beam's call comes to. -/
theorem carry_eq {m : Quad} {b : PBeam} (hm : quadIn m = true) (hb : bsmall b 1048576) (hc : bsmall (carryP m b) 1048576) :
    cCarry (pOf b) m = if carryP m b = zeroP then (zeroBeam, false) else (pOf (carryP m b), true) := by
  have hr : cRight (pOf b) = decide (b ≠ zeroP) := right_CI (CI_small hb.1) (CI_small hb.2) hb.1 hb.2
  unfold cCarry
  by_cases h0 : b = zeroP
  · have : carryP m b = zeroP := by rw [h0]; exact carry_zero m
    rw [if_pos this, if_neg (by rw [hr]; simp [h0])]
  · have h0' : decide (b ≠ zeroP) = true := decide_eq_true h0
    rw [hr, h0', if_pos ⟨hm, rfl⟩]
    simp only [quadIn, Bool.and_eq_true] at hm
    obtain ⟨m1, m2, m3, m4⟩ := hm
    obtain ⟨u, e1, f1⟩ := rowC_CI (CI_small hb.1) (CI_small hb.2) hb.1 hb.2 m1 m2
    obtain ⟨v, e2, f2⟩ := rowC_CI (CI_small hb.1) (CI_small hb.2) hb.1 hb.2 m3 m4
    have e1' : rowC m.1 m.2.1 (pOf b).1 (pOf b).2 = some u := e1
    have e2' : rowC m.2.2.1 m.2.2.2 (pOf b).1 (pOf b).2 = some v := e2
    rw [e1', e2']
    simp only
    rw [right_CI f1 f2 hc.1 hc.2]
    by_cases hz : carryP m b = zeroP
    · have : decide ((rowPr m.1 m.2.1 b.1 b.2, rowPr m.2.2.1 m.2.2.2 b.1 b.2) ≠ zeroP) = false := decide_eq_false (fun h => h hz)
      rw [this, if_pos hz]; rfl
    · have : decide ((rowPr m.1 m.2.1 b.1 b.2, rowPr m.2.2.1 m.2.2.2 b.1 b.2) ≠ zeroP) = true := decide_eq_true hz
      rw [this, if_neg hz, cV_CI f1, cV_CI f2]; rfl
/-! Loops -/
def ent3 (v : Int) : Int := IntKind.i64.wrap (pick v 7 - 3)
theorem ent3_bd (v : Int) : -3 ≤ ent3 v ∧ ent3 v ≤ 3 := by
  have := pick_bd v (m := 7) (by decide)
  unfold ent3
  rw [wr (by omega)]; omega
abbrev RX := (Int × Int × Unit) × (List Int × List Quad × Beam × Unit)
abbrev RY := (Int × Unit) × (List Quad × Beam × Unit)
def rbStep : RX → Option (RX ⊕ RY)
  | ((i, cut, _), (l, m, b, _)) =>
    if 0 ≤ i ∧ i ≤ 1000 then
      if i + 3 < (l.length : Int) ∧ i < 20 then
        match l[i.toNat]?, l[(i + 1).toNat]?, l[(i + 2).toNat]?, l[(i + 3).toNat]? with
        | some v0, some v1, some v2, some v3 =>
          if Ev.lenOk (m ++ [(ent3 v0, ent3 v1, ent3 v2, ent3 v3)]) = true then some (.inl ((i + 4, cut, ()), (l, m ++ [(ent3 v0, ent3 v1, ent3 v2, ent3 v3)], b, ()))) else none
        | _, _, _, _ => none
      else some (.inr ((cut, ()), (m, b, ())))
    else none
def rbM (_ : RX) : Nat := 10
theorem rb_iter (l : List Int) (cut : Int) (b : Beam) : ∀ (k : Nat) (i : Int) (m : List Quad) (j : Nat), 0 ≤ i → i + 4 * k = 20 → (∀ a ∈ m, q3 a) → m.length + k ≤ 5 → k ≤ j →
    ∃ m', Ev.iter rbStep (j + 1) ((i, cut, ()), (l, m, b, ())) = some ((cut, ()), (m', b, ())) ∧ (∀ a ∈ m', q3 a) ∧ m'.length ≤ 5
  | 0, i, m, j, h0, h2, h3, h4, _ => by
    rw [Ev.iter]
    simp only [rbStep, if_pos (show 0 ≤ i ∧ i ≤ 1000 by omega), if_neg (show ¬ (i + 3 < (l.length : Int) ∧ i < 20) by omega)]
    exact ⟨m, rfl, h3, by omega⟩
  | k + 1, i, m, j, h0, h2, h3, h4, hj => by
    obtain ⟨j', rfl⟩ : ∃ j', j = j' + 1 := ⟨j - 1, by omega⟩
    rw [Ev.iter]
    by_cases hc : i + 3 < (l.length : Int) ∧ i < 20
    · obtain ⟨v0, g0⟩ : ∃ v, l[i.toNat]? = some v := ⟨_, List.getElem?_eq_getElem (by omega)⟩
      obtain ⟨v1, g1⟩ : ∃ v, l[(i + 1).toNat]? = some v := ⟨_, List.getElem?_eq_getElem (by omega)⟩
      obtain ⟨v2, g2⟩ : ∃ v, l[(i + 2).toNat]? = some v := ⟨_, List.getElem?_eq_getElem (by omega)⟩
      obtain ⟨v3, g3⟩ : ∃ v, l[(i + 3).toNat]? = some v := ⟨_, List.getElem?_eq_getElem (by omega)⟩
      have hl : Ev.lenOk (m ++ [(ent3 v0, ent3 v1, ent3 v2, ent3 v3)]) = true := lenOk_iff.2 (by simp; omega)
      simp only [rbStep, if_pos (show 0 ≤ i ∧ i ≤ 1000 by omega), if_pos hc, g0, g1, g2, g3, if_pos hl]
      refine rb_iter l cut b k (i + 4) _ j' (by omega) (by omega) (fun a ha => ?_) (by simp; omega) (by omega)
      rcases List.mem_append.1 ha with h | h
      · exact h3 a h
      · rw [List.mem_singleton.1 h]
        exact ⟨ent3_bd _, ent3_bd _, ent3_bd _, ent3_bd _⟩
    · simp only [rbStep, if_pos (show 0 ≤ i ∧ i ≤ 1000 by omega), if_neg hc]
      exact ⟨m, rfl, h3, by omega⟩
theorem rb_run (l : List Int) (cut : Int) (b : Beam) : ∃ m', runBy rbStep rbM ((0, cut, ()), (l, [], b, ())) = some ((cut, ()), (m', b, ())) ∧ (∀ a ∈ m', q3 a) ∧ m'.length ≤ 5 :=
  rb_iter l cut b 5 0 [] 10 (by decide) (by decide) (fun _ h => by cases h) (by decide) (by decide)
abbrev BX := (Int × Int × Bool × Int × Unit) × (List Quad × Quad × Beam × Beam × Unit)
abbrev BY := ((Bool × Int × Unit) × (List Quad × Quad × Beam × Beam × Unit)) ⊕ ((Bool × Unit) × Unit)
def beamStep : BX → Option (BX ⊕ BY)
  | ((i, n, w, cut, _), (l, p, a, c, _)) =>
    if i < n then
      if 0 ≤ i ∧ i < (l.length : Int) then
        match l[i.toNat]? with
        | some q => if (cCarry c q).2 = true then some (.inl ((IntKind.i64.wrap (i + 1), n, w, cut, ()), (l, p, a, (cCarry c q).1, ()))) else some (.inr (.inr ((!w, ()), ())))
        | none => none
      else none
    else some (.inr (.inl ((w, cut, ()), (l, p, a, c, ()))))
def beamM (x : BX) : Nat := x.2.1.length
theorem beam_iter {l : List Quad} (hl : l.length ≤ 5) (hq : ∀ a ∈ l, q3 a) (w : Bool) (cut : Int) (p : Quad) (a : Beam) : ∀ (t pre : List Quad) (b : PBeam) (B : Int) (j : Nat), pre ++ t = l → t.length ≤ j → bsmall b B → 0 ≤ B → six t.length * B ≤ 1048576 → (w = decide (carryL t b ≠ zeroP)) →
    Ev.iter beamStep (j + 1) (((pre.length : Int), (l.length : Int), w, cut, ()), (l, p, a, pOf b, ())) = some (.inl ((w, cut, ()), (l, p, a, pOf (carryL t b), ()))) ∧ (t = [] ∨ carryL t b ≠ zeroP) ∨
    Ev.iter beamStep (j + 1) (((pre.length : Int), (l.length : Int), w, cut, ()), (l, p, a, pOf b, ())) = some (.inr ((true, ()), ()))
  | [], pre, b, B, j, h, _, _, _, _, _ => by
    have : l.length = pre.length := by rw [← h]; simp
    left
    rw [Ev.iter]
    simp only [beamStep, if_neg (show ¬ (pre.length : Int) < (l.length : Int) by omega)]
    simp [carryL]
  | m :: t, pre, b, B, j, h, hj, hb, h0, hB, hw => by
    have hn : l.length = pre.length + (t.length + 1) := by rw [← h]; simp
    obtain ⟨j', rfl⟩ : ∃ j', j = j' + 1 := ⟨j - 1, by simp at hj; omega⟩
    have hg : l[((pre.length : Int)).toNat]? = some m := by
      rw [show ((pre.length : Int)).toNat = pre.length from by omega, ← h, List.getElem?_append_right (by omega)]; simp
    have hm : q3 m := hq m (by rw [← h]; simp)
    have e : six (m :: t).length * B = six t.length * (6 * B) := by
      show 6 * six t.length * B = _
      rw [Int.mul_comm 6, Int.mul_assoc]
    rw [e] at hB
    have hs := six_pos t.length
    have h6 : 6 * B ≤ 1048576 := by
      have : 1 * (6 * B) ≤ six t.length * (6 * B) := Int.mul_le_mul_of_nonneg_right hs (by omega)
      omega
    have hc := carry_le hm hb
    have he := carry_eq (q3_in hm) (small_of hb (by omega)) (small_of hc h6)
    rw [Ev.iter]
    simp only [beamStep, if_pos (show (pre.length : Int) < (l.length : Int) by omega), if_pos (show 0 ≤ (pre.length : Int) ∧ (pre.length : Int) < (l.length : Int) by omega), hg, he]
    by_cases hz : carryP m b = zeroP
    · right
      have : w = false := by
        rw [hw]
        apply decide_eq_false
        show ¬ carryL t (carryP m b) ≠ zeroP
        rw [hz, carryL_zero]; simp
      simp [hz, this]
    · rw [if_neg hz]
      simp only [if_true]
      rw [show IntKind.i64.wrap ((pre.length : Int) + 1) = ((pre ++ [m]).length : Int) from by rw [wr (by omega)]; simp]
      rcases beam_iter hl hq w cut p a t (pre ++ [m]) (carryP m b) (6 * B) j' (by rw [← h]; simp) (by simp at hj; omega) hc (by omega) hB hw with ⟨x, y⟩ | x
      · refine .inl ⟨x, .inr ?_⟩
        rcases y with y | y
        · subst y; exact hz
        · exact y
      · exact .inr x
theorem beam_run {l : List Quad} (hl : l.length ≤ 5) (hq : ∀ a ∈ l, q3 a) (w : Bool) (cut : Int) (p : Quad) (a : Beam) {b : PBeam} (hb : bsmall b 4) (hw : w = decide (carryL l b ≠ zeroP)) :
    runBy beamStep beamM ((0, (l.length : Int), w, cut, ()), (l, p, a, pOf b, ())) = some (.inl ((w, cut, ()), (l, p, a, pOf (carryL l b), ()))) ∧ (l = [] ∨ carryL l b ≠ zeroP) ∨
    runBy beamStep beamM ((0, (l.length : Int), w, cut, ()), (l, p, a, pOf b, ())) = some (.inr ((true, ()), ())) := by
  have := six5 hl
  exact beam_iter hl hq w cut p a l [] b 4 _ rfl (Nat.le_refl _) hb (by decide) (by omega) hw
/-- The product's beam. -/
theorem beam_all {l : List Quad} (hl : l.length ≤ 5) (hq : ∀ a ∈ l, q3 a) {b : PBeam} (hb : bsmall b 4) :
    cCarry (pOf b) (prodQ l oneQ) = if carryL l b = zeroP then (zeroBeam, false) else (pOf (carryL l b), true) := by
  have e : carryP (prodQ l oneQ) b = carryL l b := by rw [carry_prod, carry_one]
  have h6 := six5 hl
  have hs := carryL_le l b 4 hq hb
  have := carry_eq (m := prodQ l oneQ) (b := b) (qle_in (mat_of hq hl).2 (by decide)) (small_of hb (by decide)) (by rw [e]; exact small_of hs (by omega))
  rw [e] at this
  exact this
theorem pOf_eq {b : PBeam} (h : bsmall b 1048576) : (cEq (pOf b).1.1 (pOf b).1.2 (pOf b).1.1 (pOf b).1.2 && cEq (pOf b).2.1 (pOf b).2.2 (pOf b).2.1 (pOf b).2.2) = true := by
  have e1 : cEq (pOf b).1.1 (pOf b).1.2 (pOf b).1.1 (pOf b).1.2 = true := (cEq_CI (CI_small h.1) (CI_small h.1)).trans (by simp)
  have e2 : cEq (pOf b).2.1 (pOf b).2.2 (pOf b).2.1 (pOf b).2.2 = true := (cEq_CI (CI_small h.2) (CI_small h.2)).trans (by simp)
  rw [e1, e2]; rfl
end Go.Proofs.Ythgpgnijbajlgaa
