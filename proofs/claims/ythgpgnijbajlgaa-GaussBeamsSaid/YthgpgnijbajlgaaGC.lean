/-
  Beams through rows of raw numbers; in plain Lean.
-/
import Derived.Test.YthgpgnijbajlgaaGB
namespace Go.Proofs.Ythgpgnijbajlgaa
open Go Ev
set_option linter.unusedVariables false
set_option linter.unusedSimpArgs false

def ent23 (v : Int) : Int := if v.tmod 23 = 22 then v else IntKind.i64.wrap (pick v 13 - 6)
abbrev GX := (Int × Unit) × (List Int × Beam × DBeam × Beam × Unit)
abbrev GY := (Unit × Unit) ⊕ ((Bool × Unit) × Unit)
def gbTr (i : Int) (l : List Int) (b : Beam) (c : DBeam) (d : Beam) (m : Quad) : Tr (GX ⊕ GY) :=
  .bind (cCarry b m) fun x => .bind (carryD c m) fun y => .br (!x.2 == y.2) (.ret (.inr (.inr ((false, ()), ()))))
    (.br (canon x.1.1) (.bind (samePz x.1.1 y.1.1 true) fun p => .br (!p) (.ret (.inr (.inr ((false, ()), ()))))
      (.br (canon x.1.2) (.bind (samePz x.1.2 y.1.2 true) fun q => .br (!q) (.ret (.inr (.inr ((false, ()), ()))))
        (.br (!x.2) (.ret (.inr (.inr ((true, ()), ()))))
          (.bind (cCarry d m) fun g => .br g.2 (.bind (cSame x.1 g.1) fun s => .br (!s) (.ret (.inr (.inr ((false, ()), ())))) (.ret (.inl ((IntKind.i64.wrap (i + 4), ()), (l, x.1, y.1, x.1, ())))))
            (.ret (.inl ((IntKind.i64.wrap (i + 4), ()), (l, x.1, y.1, x.1, ()))))))) .fail)) .fail)
def gbMid (i : Int) (l : List Int) (b : Beam) (c : DBeam) (d : Beam) (m : Quad) : Option (GX ⊕ GY) := (gbTr i l b c d m).den
def gbStep : GX → Option (GX ⊕ GY)
  | ((i, _), (l, b, c, d, _)) =>
    if 0 ≤ i ∧ i ≤ 1000 then
      if i + 3 < (l.length : Int) ∧ i < 24 then
        match l[i.toNat]?, l[(i + 1).toNat]?, l[(i + 2).toNat]?, l[(i + 3).toNat]? with
        | some v0, some v1, some v2, some v3 => gbMid i l b c d (ent23 v0, ent23 v1, ent23 v2, ent23 v3)
        | _, _, _, _ => none
      else some (.inr (.inl ((), ())))
    else none
def gbM (_ : GX) : Nat := 10
theorem sameCI {a b : Beam} {q1 q2 r1 r2 : Pair} (h1 : CI a.1 q1) (h2 : CI a.2 q2) (g1 : CI b.1 r1) (g2 : CI b.2 r2) (sq : bsmall (q1, q2) 1048576) (sr : bsmall (r1, r2) 1048576) :
    cSame a b = (decide ((q1, q2) ≠ zeroP) && (decide ((r1, r2) ≠ zeroP) && decide (q1.mul r2 = q2.mul r1))) := by
  obtain ⟨x, ex, fx⟩ := cMul_CI h1 g2 sq.1 sr.2 (by decide)
  obtain ⟨y, ey, fy⟩ := cMul_CI h2 g1 sq.2 sr.1 (by decide)
  have mx : mulO a.1 b.2 = x := by unfold mulO; rw [ex]; rfl
  have my : mulO a.2 b.1 = y := by unfold mulO; rw [ey]; rfl
  have ra : cRight a = decide ((q1, q2) ≠ zeroP) := right_CI h1 h2 sq.1 sq.2
  have rb : cRight b = decide ((r1, r2) ≠ zeroP) := right_CI g1 g2 sr.1 sr.2
  unfold cSame
  rw [ra, rb, mx, my, cEq_CI fx fy]
def timesP (s : Int) (p : Pair) : Pair := ⟨s * p.x, s * p.y⟩
theorem mul_along (s : Int) (p q : Pair) : p.mul (timesP s q) = q.mul (timesP s p) := by
  simp only [Pair.mul, timesP, Pair.mk.injEq]
  constructor <;> grind
theorem row_along (a b s : Int) (p q : Pair) : rowPr a b (timesP s p) (timesP s q) = timesP s (rowPr a b p q) := by
  simp only [rowPr, timesP, Pair.mk.injEq]
  constructor <;> grind
/-- A beam and one along it. -/
structure Along (P : PBeam) (d : Beam) (s : Int) : Prop where
  n : CI d.1 (timesP s P.1)
  d : CI d.2 (timesP s P.2)
theorem along_self {P : PBeam} (h : bsmall P 1048576) : Along P (pOf P) 1 := by
  have e : ∀ p : Pair, timesP 1 p = p := fun p => by simp [timesP]
  exact ⟨by rw [e]; exact CI_small h.1, by rw [e]; exact CI_small h.2⟩
theorem along_carry {P : PBeam} {d : Beam} {s : Int} {m : Quad} (ha : Along P d s) (hs : bsmall (carryP m P) 1048576) (hz : carryP m P ≠ zeroP) (hm : quadIn m = true) (hg : (cCarry d m).2 = true) : cSame (pOf (carryP m P)) (cCarry d m).1 = true := by
  unfold cCarry at hg ⊢
  by_cases hr : cRight d = true
  · rw [if_pos ⟨hm, hr⟩] at hg ⊢
    have hr' := hr
    simp only [cRight, Bool.and_eq_true] at hr'
    have s1 : (timesP s P.1).small 1048576 := by have := hr'.1; rw [whole_CI ha.n] at this; exact of_decide_eq_true this
    have s2 : (timesP s P.2).small 1048576 := by have := hr'.2.1; rw [whole_CI ha.d] at this; exact of_decide_eq_true this
    have hm' := hm
    simp only [quadIn, Bool.and_eq_true] at hm'
    obtain ⟨m1, m2, m3, m4⟩ := hm'
    obtain ⟨u, e1, f1⟩ := rowC_CI ha.n ha.d s1 s2 m1 m2
    obtain ⟨v, e2, f2⟩ := rowC_CI ha.n ha.d s1 s2 m3 m4
    rw [e1, e2] at hg ⊢
    simp only at hg ⊢
    rw [row_along] at f1 f2
    by_cases hc : cRight (u, v) = true
    · rw [if_pos hc]
      have hc' := hc
      simp only [cRight, Bool.and_eq_true] at hc'
      have t1 : (timesP s (rowPr m.1 m.2.1 P.1 P.2)).small 1048576 := by have := hc'.1; rw [whole_CI f1] at this; exact of_decide_eq_true this
      have t2 : (timesP s (rowPr m.2.2.1 m.2.2.2 P.1 P.2)).small 1048576 := by have := hc'.2.1; rw [whole_CI f2] at this; exact of_decide_eq_true this
      have hz2 := hc
      rw [right_CI f1 f2 t1 t2] at hz2
      simp only
      rw [cV_CI f1, cV_CI f2]
      rw [sameCI (a := pOf (carryP m P)) (r1 := timesP s (rowPr m.1 m.2.1 P.1 P.2)) (r2 := timesP s (rowPr m.2.2.1 m.2.2.2 P.1 P.2)) (CI_small hs.1) (CI_small hs.2) (CI_small t1) (CI_small t2) hs ⟨t1, t2⟩, hz2]
      have e : (carryP m P).1.mul (timesP s (rowPr m.2.2.1 m.2.2.2 P.1 P.2)) = (carryP m P).2.mul (timesP s (rowPr m.1 m.2.1 P.1 P.2)) := mul_along s (carryP m P).1 (carryP m P).2
      rw [decide_eq_true e, decide_eq_true (show ((carryP m P).1, (carryP m P).2) ≠ zeroP from hz)]
      rfl
    · rw [if_neg hc] at hg; cases hg
  · rw [if_neg (fun h => hr h.2)] at hg; cases hg
theorem gb_mid {P : PBeam} {d : Beam} {s : Int} (hP : bsmall P 1048576) (ha : Along P d s) (i : Int) (l : List Int) (m : Quad) :
    gbMid i l (pOf P) P d m = some (.inr (.inr ((true, ()), ()))) ∨ ∃ Q : PBeam, bsmall Q 1048576 ∧ gbMid i l (pOf P) P d m = some (.inl ((IntKind.i64.wrap (i + 4), ()), (l, pOf Q, Q, pOf Q, ()))) := by
  obtain ⟨k1, k2, k3, k4⟩ := carry_same (m := m) hP
  have c1 : canon (pOf (carryD P m).1).1 = true := canon_of k3.1
  have c2 : canon (pOf (carryD P m).1).2 = true := canon_of k3.2
  have s1 : samePz (pOf (carryD P m).1).1 (carryD P m).1.1 true = true := by
    unfold samePz; rw [if_pos rfl]; exact (cEq_CI (CI_small k3.1) (CI_small k3.1)).trans (by simp)
  have s2 : samePz (pOf (carryD P m).1).2 (carryD P m).1.2 true = true := by
    unfold samePz; rw [if_pos rfl]; exact (cEq_CI (CI_small k3.2) (CI_small k3.2)).trans (by simp)
  unfold gbMid gbTr
  simp only [den_br, den_bind, den_ret, den_fail, k1, k2, c1, c2, s1, s2, BEq.rfl, Bool.not_true, Bool.false_eq_true, if_false, if_true]
  cases hf : (carryD P m).2
  · left; simp
  · right
    obtain ⟨j1, j2, _, j4⟩ := k4 hf
    refine ⟨(carryD P m).1, k3, ?_⟩
    simp only [Bool.not_true, Bool.false_eq_true, if_false]
    cases hg : (cCarry d m).2
    · simp
    · have := along_carry ha (by rw [← j1]; exact k3) j4 j2 hg
      rw [← j1] at this
      simp [this]
theorem gb_iter (l : List Int) : ∀ (k : Nat) (i : Int) (P : PBeam) (d : Beam) (s : Int) (j : Nat), 0 ≤ i → i + 4 * k = 24 → bsmall P 1048576 → Along P d s → k ≤ j →
    Ev.iter gbStep (j + 1) ((i, ()), (l, pOf P, P, d, ())) = some (.inl ((), ())) ∨ Ev.iter gbStep (j + 1) ((i, ()), (l, pOf P, P, d, ())) = some (.inr ((true, ()), ()))
  | 0, i, P, d, s, j, h0, h2, _, _, _ => by
    left
    rw [Ev.iter]
    simp only [gbStep, if_pos (show 0 ≤ i ∧ i ≤ 1000 by omega), if_neg (show ¬ (i + 3 < (l.length : Int) ∧ i < 24) by omega)]
  | k + 1, i, P, d, s, j, h0, h2, hP, ha, hj => by
    obtain ⟨j', rfl⟩ : ∃ j', j = j' + 1 := ⟨j - 1, by omega⟩
    rw [Ev.iter]
    by_cases hc : i + 3 < (l.length : Int) ∧ i < 24
    · obtain ⟨v0, g0⟩ : ∃ v, l[i.toNat]? = some v := ⟨_, List.getElem?_eq_getElem (by omega)⟩
      obtain ⟨v1, g1⟩ : ∃ v, l[(i + 1).toNat]? = some v := ⟨_, List.getElem?_eq_getElem (by omega)⟩
      obtain ⟨v2, g2⟩ : ∃ v, l[(i + 2).toNat]? = some v := ⟨_, List.getElem?_eq_getElem (by omega)⟩
      obtain ⟨v3, g3⟩ : ∃ v, l[(i + 3).toNat]? = some v := ⟨_, List.getElem?_eq_getElem (by omega)⟩
      simp only [gbStep, if_pos (show 0 ≤ i ∧ i ≤ 1000 by omega), if_pos hc, g0, g1, g2, g3]
      rcases gb_mid hP ha i l (ent23 v0, ent23 v1, ent23 v2, ent23 v3) with e | ⟨Q, hQ, e⟩
      · right; rw [e]
      · rw [e]
        simp only [wr (n := i + 4) (by omega)]
        exact gb_iter l k (i + 4) Q (pOf Q) 1 j' (by omega) (by omega) hQ (along_self hQ) (by omega)
    · left
      simp only [gbStep, if_pos (show 0 ≤ i ∧ i ≤ 1000 by omega), if_neg hc]
theorem gb_run (l : List Int) {P : PBeam} {d : Beam} {s : Int} (hP : bsmall P 1048576) (ha : Along P d s) :
    runBy gbStep gbM ((0, ()), (l, pOf P, P, d, ())) = some (.inl ((), ())) ∨ runBy gbStep gbM ((0, ()), (l, pOf P, P, d, ())) = some (.inr ((true, ()), ())) :=
  gb_iter l 6 0 P d s 10 (by decide) (by decide) hP ha (by decide)
end Go.Proofs.Ythgpgnijbajlgaa
