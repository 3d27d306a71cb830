/-
  Laws of whole numbers in a plane; in plain Lean.
-/
import Derived.Test.YthgpgnijbajlgaaGs
namespace Go.Proofs.Ythgpgnijbajlgaa
open Go Ev
set_option linter.unusedVariables false
set_option linter.unusedSimpArgs false

theorem quarter4 (p : Pair) : p.quarter.quarter.quarter.quarter = p := by simp [Pair.quarter]
theorem turnP_add : ∀ (a b : Nat) (p : Pair), turnP b (turnP a p) = turnP (a + b) p
  | 0, b, p => by rw [Nat.zero_add]; rfl
  | a + 1, b, p => by
    rw [show a + 1 + b = (a + b) + 1 by omega]
    exact turnP_add a b p.quarter
theorem turnP_four (k : Nat) (p : Pair) : turnP (k + 4) p = turnP k p := by
  show turnP k p.quarter.quarter.quarter.quarter = _
  rw [quarter4]
theorem turnP_mod : ∀ (k : Nat) (p : Pair), turnP (k % 4) p = turnP k p := by
  intro k
  induction k using Nat.strongRecOn with
  | ind k ih =>
    intro p
    by_cases h : k < 4
    · rw [Nat.mod_eq_of_lt h]
    · obtain ⟨j, rfl⟩ : ∃ j, k = j + 4 := ⟨k - 4, by omega⟩
      rw [Nat.add_mod_right, turnP_four]
      exact ih j (by omega) p
theorem turn_add (p : Pair) (k j : Int) : (p.turn k).turn j = p.turn (k + j) := by
  unfold Pair.turn
  rw [turnP_add, ← turnP_mod]
  congr 1
  unfold pick
  omega
theorem turn_four (p : Pair) (k : Int) : p.turn (4 * k) = p := by
  unfold Pair.turn pick
  rw [show (4 * k % 4).toNat = 0 by omega]
  rfl
theorem turn_cases (p : Pair) (k : Int) : (pick k 4 = 0 ∧ p.turn k = p) ∨ (pick k 4 = 1 ∧ p.turn k = p.quarter) ∨ (pick k 4 = 2 ∧ p.turn k = p.quarter.quarter) ∨ (pick k 4 = 3 ∧ p.turn k = p.quarter.quarter.quarter) := by
  have hb := pick_bd k (m := 4) (by decide)
  rcases (show pick k 4 = 0 ∨ pick k 4 = 1 ∨ pick k 4 = 2 ∨ pick k 4 = 3 by omega) with h | h | h | h
  · exact .inl ⟨h, by unfold Pair.turn; rw [h]; rfl⟩
  · exact .inr (.inl ⟨h, by unfold Pair.turn; rw [h]; rfl⟩)
  · exact .inr (.inr (.inl ⟨h, by unfold Pair.turn; rw [h]; rfl⟩))
  · exact .inr (.inr (.inr ⟨h, by unfold Pair.turn; rw [h]; rfl⟩))
theorem turn_neg (p : Pair) (k : Int) : (p.turn k).neg = p.neg.turn (-k) := by
  have e : pick (-k) 4 = (4 - pick k 4) % 4 := by unfold pick; omega
  have hm := turn_cases p.neg (-k)
  rcases turn_cases p k with ⟨h, h'⟩ | ⟨h, h'⟩ | ⟨h, h'⟩ | ⟨h, h'⟩ <;> rw [h] at e <;> rcases hm with ⟨g, g'⟩ | ⟨g, g'⟩ | ⟨g, g'⟩ | ⟨g, g'⟩ <;> first | (exfalso; omega) | (rw [h', g']; done) | (rw [h', g']; simp [Pair.quarter, Pair.neg])
theorem neg_neg_pair (p : Pair) : p.neg.neg = p := by simp [Pair.neg]
theorem quarter_norm (p : Pair) : p.quarter.norm = p.norm := by
  have e : -p.y * -p.y = p.y * p.y := Int.neg_mul_neg p.y p.y
  unfold Pair.quarter Pair.norm
  simp only
  omega
theorem turn_norm (p : Pair) (k : Int) : (p.turn k).norm = p.norm := by
  rcases turn_cases p k with ⟨_, h⟩ | ⟨_, h⟩ | ⟨_, h⟩ | ⟨_, h⟩ <;> rw [h] <;> simp only [quarter_norm]
theorem neg_norm (p : Pair) : p.neg.norm = p.norm := by
  have e : -p.y * -p.y = p.y * p.y := Int.neg_mul_neg p.y p.y
  unfold Pair.neg Pair.norm
  simp only
  omega
theorem norm_mul (p q : Pair) : (p.mul q).norm = p.norm * q.norm := by
  unfold Pair.mul Pair.norm
  grind
theorem mul_neg_norm (p : Pair) : p.mul p.neg = ⟨p.norm, 0⟩ := by
  obtain ⟨x, y⟩ := p
  simp only [Pair.mul, Pair.neg, Pair.norm, Pair.mk.injEq]
  constructor <;> grind
theorem turn_one (p : Pair) : p.turn 1 = p.mul ⟨0, 1⟩ := by rw [mul_i]; rfl
def numP (x y : Int) : Pair := ⟨pick x 81 - 40, pick y 81 - 40⟩
theorem numP_small (x y : Int) : (numP x y).small 40 := by
  have h1 := pick_bd x (m := 81) (by decide)
  have h2 := pick_bd y (m := 81) (by decide)
  exact ⟨by simp only [numP]; omega, by simp only [numP]; omega⟩
def numC (x y : Int) : Cx := cxOf (numP x y)
theorem numC_CI (x y : Int) : CI (numC x y) (numP x y) := CI_of (by have := numP_small x y; exact ⟨by have := this.1; omega, by have := this.2; omega⟩)
theorem CI_small {p : Pair} (h : p.small 1048576) : CI (cxOf p) p := CI_of (small_mono h (by decide))
theorem turn_small {p : Pair} {B : Int} (h : p.small B) (k : Int) : (p.turn k).small B := turnP_small _ h
theorem neg_small {p : Pair} {B : Int} (h : p.small B) : p.neg.small B := ⟨h.1, by have := h.2; simp only [Pair.neg]; omega⟩
def cNormW (z : Cx) : Int := if cWhole z = true then cNorm z else 0
theorem cNormW_CI {z : Cx} {p : Pair} (hz : CI z p) (hs : p.small 1048576) : cNormW z = p.norm := by
  unfold cNormW
  rw [whole_CI hz, if_pos (decide_eq_true hs)]
  exact cNorm_CI hz (small_mono hs (by decide))
theorem mul_small {p q : Pair} {A B C : Int} (hp : p.small A) (hq : q.small B) (h : 2 * (A * B).natAbs ≤ C.natAbs) (hC : 0 ≤ C) : (p.mul q).small C := by
  have a1 := abs_mul_le hp.1 hq.1
  have a2 := abs_mul_le hp.2 hq.2
  have a3 := abs_mul_le hp.1 hq.2
  have a4 := abs_mul_le hp.2 hq.1
  exact ⟨by simp only [Pair.mul]; omega, by simp only [Pair.mul]; omega⟩
theorem norm_bd {p : Pair} (h : p.small 40) : 0 ≤ p.norm ∧ p.norm ≤ 3200 := by
  have a1 := abs_mul_le h.1 h.1
  have a2 := abs_mul_le h.2 h.2
  have b1 := sq_bd (a := p.x) (B := 40) h.1 (by decide)
  have b2 := sq_bd (a := p.y) (B := 40) h.2 (by decide)
  have e : ((40 : Int) * 40).natAbs = 1600 := by decide
  rw [e] at a1 a2
  unfold Pair.norm
  omega
theorem norm_mul_bd {p q : Pair} (hp : p.small 40) (hq : q.small 40) : 0 ≤ p.norm * q.norm ∧ p.norm * q.norm ≤ 10240000 := by
  obtain ⟨a, b⟩ := norm_bd hp
  obtain ⟨c, d⟩ := norm_bd hq
  exact ⟨Int.mul_nonneg a c, Int.le_trans (Int.mul_le_mul b d c (by decide)) (by decide)⟩
/-- What the law of turns comes to. -/
theorem turns_law {z w : Cx} {p q : Pair} (hz : CI z p) (hw : CI w q) (hp : p.small 40) (hq : q.small 40) (k j : Int) (hk : -1000 < k ∧ k < 1000) (hj : -1000 < j ∧ j < 1000) :
    (cEq (cTurn (cTurn z k) j).1 (cTurn (cTurn z k) j).2 (cTurn z (IntKind.i64.wrap (k + j))).1 (cTurn z (IntKind.i64.wrap (k + j))).2 = true ∧
    cEq (cTurn z (IntKind.i64.wrap (4 * k))).1 (cTurn z (IntKind.i64.wrap (4 * k))).2 z.1 z.2 = true ∧
    cEq (cMirror (cTurn z k)).1 (cMirror (cTurn z k)).2 (cTurn (cMirror z) (IntKind.i64.wrap (0 - k))).1 (cTurn (cMirror z) (IntKind.i64.wrap (0 - k))).2 = true ∧
    cEq (cMirror (cMirror z)).1 (cMirror (cMirror z)).2 z.1 z.2 = true) ∧
    (∃ r, cMulBits z.1 z.2 w.1 w.2 = some r ∧ cNormW r = IntKind.i64.wrap (cNormW z * cNormW w)) ∧
    cNormW (cTurn z k) = cNormW z ∧ cNormW (cMirror z) = cNormW z ∧
    (∃ r, cMulBits z.1 z.2 0 4607182418800017408 = some r ∧ cEq (cTurn z 1).1 (cTurn z 1).2 r.1 r.2 = true) ∧
    (∃ r, cMulBits z.1 z.2 (cMirror z).1 (cMirror z).2 = some r ∧ cEq (fInt (cNormW z)) 0 r.1 r.2 = true) := by
  have sp := small_mono hp (B := 1048576) (by decide)
  have sq := small_mono hq (B := 1048576) (by decide)
  have ct : ∀ k, cTurn z k = cxOf (p.turn k) := fun k => cTurn_CI k hz sp
  have st : ∀ k, (p.turn k).small 1048576 := fun k => turn_small sp k
  have it : ∀ k, CI (cxOf (p.turn k)) (p.turn k) := fun k => CI_small (st k)
  have cm : cMirror z = cxOf p.neg := cMirror_CI hz sp
  have sn := neg_small sp
  have im : CI (cxOf p.neg) p.neg := CI_small sn
  have w1 : IntKind.i64.wrap (k + j) = k + j := wr (by omega)
  have w2 : IntKind.i64.wrap (4 * k) = 4 * k := wr (by omega)
  have w3 : IntKind.i64.wrap (0 - k) = -k := by rw [wr (by omega)]; omega
  refine ⟨⟨?_, ?_, ?_, ?_⟩, ?_, ?_, ?_, ?_, ?_⟩
  · rw [w1, ct, ct, cTurn_CI j (it k) (st k), turn_add, cEq_CI (it _) (it _)]; simp
  · rw [w2, ct, turn_four, cEq_CI (CI_small sp) hz]; simp
  · rw [w3, ct, cm, cMirror_CI (it k) (st k), cTurn_CI (-k) im sn, turn_neg, cEq_CI (CI_small (turn_small sn _)) (CI_small (turn_small sn _))]; simp
  · rw [cm, cMirror_CI im sn, neg_neg_pair, cEq_CI (CI_small sp) hz]; simp
  · obtain ⟨r, e, f⟩ := cMul_CI hz hw hp hq (by decide)
    have b := norm_mul_bd hp hq
    refine ⟨r, e, ?_⟩
    rw [cNormW_CI hz sp, cNormW_CI hw sq, cNormW_CI f (mul_small hp hq (C := 1048576) (by decide) (by decide)), norm_mul, wr (by omega)]
  · rw [ct, cNormW_CI (it k) (st k), cNormW_CI hz sp, turn_norm]
  · rw [cm, cNormW_CI im sn, cNormW_CI hz sp, neg_norm]
  · obtain ⟨r, e, f⟩ := cMul_CI (w := (0, oneF)) (q := ⟨0, 1⟩) hz ⟨FI_zero, FI_one⟩ (B := 1) hp ⟨by decide, by decide⟩ (by decide)
    refine ⟨r, e, ?_⟩
    rw [ct, turn_one, cEq_CI (CI_small (mul_small hp (B := 1) (q := ⟨0, 1⟩) ⟨by decide, by decide⟩ (by decide) (by decide))) f]; simp
  · rw [cm, cNormW_CI hz sp]
    obtain ⟨r, e, f⟩ := cMul_CI hz im hp (neg_small hp) (by decide)
    refine ⟨r, e, ?_⟩
    rw [mul_neg_norm] at f
    have b := norm_bd hp
    have g : CI (fInt p.norm, 0) ⟨p.norm, 0⟩ := ⟨FI_int (by show p.norm.natAbs < _; omega), FI_zero⟩
    exact (cEq_CI g f).trans (by simp)
end Go.Proofs.Ythgpgnijbajlgaa
