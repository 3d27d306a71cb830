/-
  Beams as the document says them; in plain Lean.
-/
import Derived.Test.YthgpgnijbajlgaaPB
namespace Go.Proofs.Ythgpgnijbajlgaa
open Go Ev
set_option linter.unusedVariables false
set_option linter.unusedSimpArgs false

def nzD (b : DBeam) : Bool := !(b.1.x == 0 && b.1.y == 0) || !(b.2.x == 0 && b.2.y == 0)
def rightD (b : DBeam) : Bool := small1 b.1.x && (small1 b.1.y && (small1 b.2.x && (small1 b.2.y && nzD b)))
def rowW (a b : Int) (u v : Pair) : Pair := ⟨IntKind.i64.wrap (IntKind.i64.wrap (a * u.x) + IntKind.i64.wrap (b * v.x)), IntKind.i64.wrap (IntKind.i64.wrap (a * u.y) + IntKind.i64.wrap (b * v.y))⟩
def carryW (m : Quad) (b : DBeam) : DBeam := (rowW m.1 m.2.1 b.1 b.2, rowW m.2.2.1 m.2.2.2 b.1 b.2)
def zeroD : DBeam := (⟨0, 0⟩, ⟨0, 0⟩)
def carryD (b : DBeam) (m : Quad) : DBeam × Bool :=
  if quadIn m = true then (if rightD b = true then (if rightD (carryW m b) = true then (carryW m b, true) else (zeroD, false)) else (zeroD, false)) else (zeroD, false)
def canon (z : Cx) : Bool := decide (z = cxOf (cV z)) && cWhole z
theorem canon_of {p : Pair} (h : p.small 1048576) : canon (cxOf p) = true := by
  unfold canon
  rw [cV_CI (CI_small h), whole_CI (CI_small h), decide_eq_true h]
  simp
theorem canon_spec {z : Cx} (h : canon z = true) : ∃ p : Pair, p.small 1048576 ∧ z = cxOf p := by
  unfold canon at h
  simp only [Bool.and_eq_true, decide_eq_true_eq] at h
  obtain ⟨p, hp, hs⟩ := whole_spec h.2
  exact ⟨p, hs, by rw [h.1, cV_CI hp]⟩
def samePz (z : Cx) (p : Pair) (ok : Bool) : Bool := if ok = true then cEq z.1 z.2 (cxOf p).1 (cxOf p).2 else cEq z.1 z.2 0 0
theorem inf_some : ∃ r, Go.floatBits Go.BinOp.quo Go.FloatKind.f64 4607182418800017408 0 = some r ∧ (fOrd r 0 == some Ordering.lt) = false := by
  cases h : Go.floatBits Go.BinOp.quo Go.FloatKind.f64 4607182418800017408 0 with
  | none => exact absurd h (by decide +kernel)
  | some r =>
    refine ⟨r, rfl, ?_⟩
    have : (Go.floatBits Go.BinOp.quo Go.FloatKind.f64 4607182418800017408 0).all (fun r => !(fOrd r 0 == some Ordering.lt)) = true := by decide +kernel
    rw [h] at this
    simpa using this
theorem zero_test {x : Int} (h : x.natAbs < 9007199254740992) : (fOrd (fInt x) 0 == some Ordering.eq) = decide (x = 0) := eq_FI (FI_int h) FI_zero
theorem plain_law {p : Pair} (hp : p.small 1048576) :
    (Tr.br (fOrd (cxOf p).1 0 == some Ordering.eq)
      (Tr.get (Go.floatBits Go.BinOp.quo Go.FloatKind.f64 4607182418800017408 (cxOf p).1) fun a =>
        Tr.br (!fOrd a 0 == some Ordering.lt)
          (Tr.br (fOrd (cxOf p).2 0 == some Ordering.eq)
            (Tr.get (Go.floatBits Go.BinOp.quo Go.FloatKind.f64 4607182418800017408 (cxOf p).2) fun b => Tr.ret (!fOrd b 0 == some Ordering.lt))
            (Tr.ret (!false)))
          (Tr.ret false))
      (Tr.br (fOrd (cxOf p).2 0 == some Ordering.eq)
        (Tr.get (Go.floatBits Go.BinOp.quo Go.FloatKind.f64 4607182418800017408 (cxOf p).2) fun b => Tr.ret (!fOrd b 0 == some Ordering.lt))
        (Tr.ret (!false)))).den = some true := by
  obtain ⟨r, e, g⟩ := inf_some
  have h1 : (fOrd (cxOf p).1 0 == some Ordering.eq) = decide (p.x = 0) := zero_test (by have := hp.1; omega)
  have h2 : (fOrd (cxOf p).2 0 == some Ordering.eq) = decide (p.y = 0) := zero_test (by have := hp.2; omega)
  have z : fInt 0 = 0 := rfl
  rw [h1, h2]
  have tail : (Tr.br (decide (p.y = 0)) (Tr.get (Go.floatBits Go.BinOp.quo Go.FloatKind.f64 4607182418800017408 (cxOf p).2) fun b => Tr.ret (!fOrd b 0 == some Ordering.lt)) (Tr.ret (!false))).den = some true := by
    by_cases c : p.y = 0
    · have : (cxOf p).2 = 0 := by show fInt p.y = 0; rw [c]; rfl
      rw [this, e, decide_eq_true c]
      show some (!fOrd r 0 == some Ordering.lt) = some true
      rw [g]; rfl
    · rw [decide_eq_false c]; rfl
  by_cases c : p.x = 0
  · have : (cxOf p).1 = 0 := by show fInt p.x = 0; rw [c]; rfl
    rw [this, e, decide_eq_true c]
    show (Tr.br (!fOrd r 0 == some Ordering.lt) _ _).den = some true
    rw [g]
    exact tail
  · rw [decide_eq_false c]
    exact tail
instance (b : PBeam) (B : Int) : Decidable (bsmall b B) := by unfold bsmall; infer_instance
theorem nzD_eq (b : PBeam) : nzD b = decide (b ≠ zeroP) := by
  obtain ⟨⟨x, y⟩, ⟨u, v⟩⟩ := b
  by_cases h1 : x = 0 <;> by_cases h2 : y = 0 <;> by_cases h3 : u = 0 <;> by_cases h4 : v = 0 <;> simp [nzD, zeroP, h1, h2, h3, h4]
theorem rightD_eq (b : PBeam) : rightD b = decide (bsmall b 1048576 ∧ b ≠ zeroP) := by
  have hn := nzD_eq b
  by_cases h : bsmall b 1048576
  · obtain ⟨⟨h1, h2⟩, h3, h4⟩ := h
    have hb : bsmall b 1048576 := ⟨⟨h1, h2⟩, h3, h4⟩
    unfold rightD
    rw [small1_iff.2 h1, small1_iff.2 h2, small1_iff.2 h3, small1_iff.2 h4, hn]
    simp [hb]
  · have e : decide (bsmall b 1048576 ∧ b ≠ zeroP) = false := decide_eq_false (fun x => h x.1)
    rw [e]
    cases hr : rightD b with
    | false => rfl
    | true =>
      unfold rightD at hr
      simp only [Bool.and_eq_true, small1_iff] at hr
      exact absurd ⟨⟨hr.1, hr.2.1⟩, hr.2.2.1, hr.2.2.2.1⟩ h
theorem carryW_eq {m : Quad} {b : PBeam} (hm : quadIn m = true) (hb : bsmall b 1048576) : carryW m b = carryP m b := by
  obtain ⟨m1, m2, m3, m4⟩ := quadIn_iff.1 hm
  obtain ⟨⟨b1, b2⟩, b3, b4⟩ := hb
  have w : ∀ {x y u v : Int}, (-1048576 ≤ x ∧ x ≤ 1048576) → (-1048576 ≤ y ∧ y ≤ 1048576) → (-1048576 ≤ u ∧ u ≤ 1048576) → (-1048576 ≤ v ∧ v ≤ 1048576) → IntKind.i64.wrap (IntKind.i64.wrap (x * y) + IntKind.i64.wrap (u * v)) = x * y + u * v := by
    intro x y u v hx hy hu hv
    have a1 := abs_mul_le hx hy
    have a2 := abs_mul_le hu hv
    have e : ((1048576 : Int) * 1048576).natAbs = 1099511627776 := by decide
    rw [e] at a1 a2
    rw [wr (n := x * y) (by omega), wr (n := u * v) (by omega), wr (by omega)]
  unfold carryW carryP rowW rowPr
  rw [w m1 b1 m2 b3, w m1 b2 m2 b4, w m3 b1 m4 b3, w m3 b2 m4 b4]
/-- The program's beam and the document's. -/
theorem carry_same {m : Quad} {b : PBeam} (hb : bsmall b 1048576) : (cCarry (pOf b) m).2 = (carryD b m).2 ∧ (cCarry (pOf b) m).1 = pOf (carryD b m).1 ∧ bsmall (carryD b m).1 1048576 ∧ ((carryD b m).2 = true → (carryD b m).1 = carryP m b ∧ quadIn m = true ∧ b ≠ zeroP ∧ carryP m b ≠ zeroP) := by
  have hz : bsmall zeroD 1048576 := ⟨⟨by decide, by decide⟩, by decide, by decide⟩
  have ez : zeroBeam = pOf zeroD := rfl
  have hr : cRight (pOf b) = decide (b ≠ zeroP) := right_CI (CI_small hb.1) (CI_small hb.2) hb.1 hb.2
  have hd : rightD b = decide (b ≠ zeroP) := by rw [rightD_eq]; simp [hb]
  unfold cCarry carryD
  by_cases hm : quadIn m = true
  · by_cases h0 : b = zeroP
    · rw [if_neg (by rw [hr]; simp [h0]), if_pos hm, if_neg (by rw [hd]; simp [h0])]
      exact ⟨rfl, ez, hz, fun h => by cases h⟩
    · have h0' : decide (b ≠ zeroP) = true := decide_eq_true h0
      rw [hr, h0', if_pos ⟨hm, rfl⟩, if_pos hm, hd, h0', if_pos rfl, carryW_eq hm hb]
      have hm' := hm
      simp only [quadIn, Bool.and_eq_true] at hm'
      obtain ⟨m1, m2, m3, m4⟩ := hm'
      obtain ⟨u, e1, f1⟩ := rowC_CI (CI_small hb.1) (CI_small hb.2) hb.1 hb.2 m1 m2
      obtain ⟨v, e2, f2⟩ := rowC_CI (CI_small hb.1) (CI_small hb.2) hb.1 hb.2 m3 m4
      have e1' : rowC m.1 m.2.1 (pOf b).1 (pOf b).2 = some u := e1
      have e2' : rowC m.2.2.1 m.2.2.2 (pOf b).1 (pOf b).2 = some v := e2
      rw [e1', e2']
      simp only
      have hq : cRight (u, v) = rightD (carryP m b) := by
        rw [rightD_eq]
        by_cases hs : bsmall (carryP m b) 1048576
        · rw [right_CI f1 f2 hs.1 hs.2]
          simp only [hs, true_and]
          rfl
        · have : decide (bsmall (carryP m b) 1048576 ∧ carryP m b ≠ zeroP) = false := decide_eq_false (fun x => hs x.1)
          rw [this]
          unfold cRight
          simp only
          rw [whole_CI f1, whole_CI f2]
          by_cases s1 : (rowPr m.1 m.2.1 b.1 b.2).small 1048576
          · by_cases s2 : (rowPr m.2.2.1 m.2.2.2 b.1 b.2).small 1048576
            · exact absurd ⟨s1, s2⟩ hs
            · simp [s2]
          · simp [s1]
      rw [hq]
      by_cases hc : rightD (carryP m b) = true
      · rw [if_pos hc, if_pos hc, cV_CI f1, cV_CI f2]
        have := hc
        rw [rightD_eq] at this
        have hh := of_decide_eq_true this
        exact ⟨rfl, rfl, hh.1, fun _ => ⟨rfl, hm, h0, hh.2⟩⟩
      · rw [if_neg hc, if_neg hc]
        exact ⟨rfl, ez, hz, fun h => by cases h⟩
  · rw [if_neg (fun h => hm h.1), if_neg hm]
    exact ⟨rfl, ez, hz, fun h => by cases h⟩
end Go.Proofs.Ythgpgnijbajlgaa
