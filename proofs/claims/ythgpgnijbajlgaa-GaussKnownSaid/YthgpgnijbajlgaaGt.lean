/-
  Any float as a place: what the document says of it; in plain Lean.
-/
import Derived.Test.YthgpgnijbajlgaaPup
import Derived.Test.YthgpgnijbajlgaaGsL
namespace Go.Proofs.Ythgpgnijbajlgaa
open Go Ev
set_option linter.unusedVariables false
set_option linter.unusedSimpArgs false
set_option exponentiation.threshold 2000

theorem CIs {p : Pair} (h : p.small 1048576) : CI (cxOf p) p := CI_of (small_mono h (by decide))
def canon (z : Cx) : Bool := decide (z = cxOf (pzOf z)) && cWhole z
theorem canon_of {p : Pair} (h : p.small 1048576) : canon (cxOf p) = true := by
  unfold canon
  rw [cV_CI (CIs h), whole_CI (CIs h), decide_eq_true h]
  simp
theorem canon_spec {z : Cx} (h : canon z = true) : ∃ p : Pair, p.small 1048576 ∧ z = cxOf p := by
  unfold canon at h
  simp only [Bool.and_eq_true, decide_eq_true_eq] at h
  obtain ⟨p, hp, hs⟩ := whole_spec h.2
  exact ⟨p, hs, by rw [h.1, cV_CI hp]⟩
def samePz (z : Cx) (p : Pair) (ok : Bool) : Bool := if ok = true then cEq z.1 z.2 (cxOf p).1 (cxOf p).2 else cEq z.1 z.2 0 0
theorem inf_some : ∃ r, Go.floatBits Go.BinOp.quo Go.FloatKind.f64 4607182418800017408 0 = some r ∧ (fOrd r 0 == some Ordering.lt) = false := by
  cases h : Go.floatBits Go.BinOp.quo Go.FloatKind.f64 4607182418800017408 0 with
  | none => exact absurd h (by decide +kernel)
  | some r =>
    refine ⟨r, rfl, ?_⟩
    have : (Go.floatBits Go.BinOp.quo Go.FloatKind.f64 4607182418800017408 0).all (fun r => !(fOrd r 0 == some Ordering.lt)) = true := by decide +kernel
    rw [h] at this
    simpa using this
theorem zero_test {x : Int} (h : x.natAbs < 9007199254740992) : (fOrd (fInt x) 0 == some Ordering.eq) = decide (x = 0) := eq_FI (FI_int h) FI_zero
theorem plain_law {p : Pair} (hp : p.small 1048576) :
    (Tr.br (fOrd (cxOf p).1 0 == some Ordering.eq)
      (Tr.get (Go.floatBits Go.BinOp.quo Go.FloatKind.f64 4607182418800017408 (cxOf p).1) fun a =>
        Tr.br (!fOrd a 0 == some Ordering.lt)
          (Tr.br (fOrd (cxOf p).2 0 == some Ordering.eq)
            (Tr.get (Go.floatBits Go.BinOp.quo Go.FloatKind.f64 4607182418800017408 (cxOf p).2) fun b => Tr.ret (!fOrd b 0 == some Ordering.lt))
            (Tr.ret (!false)))
          (Tr.ret false))
      (Tr.br (fOrd (cxOf p).2 0 == some Ordering.eq)
        (Tr.get (Go.floatBits Go.BinOp.quo Go.FloatKind.f64 4607182418800017408 (cxOf p).2) fun b => Tr.ret (!fOrd b 0 == some Ordering.lt))
        (Tr.ret (!false)))).den = some true := by
  obtain ⟨r, e, g⟩ := inf_some
  have h1 : (fOrd (cxOf p).1 0 == some Ordering.eq) = decide (p.x = 0) := zero_test (by have := hp.1; omega)
  have h2 : (fOrd (cxOf p).2 0 == some Ordering.eq) = decide (p.y = 0) := zero_test (by have := hp.2; omega)
  have z : fInt 0 = 0 := rfl
  rw [h1, h2]
  have tail : (Tr.br (decide (p.y = 0)) (Tr.get (Go.floatBits Go.BinOp.quo Go.FloatKind.f64 4607182418800017408 (cxOf p).2) fun b => Tr.ret (!fOrd b 0 == some Ordering.lt)) (Tr.ret (!false))).den = some true := by
    by_cases c : p.y = 0
    · have : (cxOf p).2 = 0 := by show fInt p.y = 0; rw [c]; rfl
      rw [this, e, decide_eq_true c]
      show some (!fOrd r 0 == some Ordering.lt) = some true
      rw [g]; rfl
    · rw [decide_eq_false c]; rfl
  by_cases c : p.x = 0
  · have : (cxOf p).1 = 0 := by show fInt p.x = 0; rw [c]; rfl
    rw [this, e, decide_eq_true c]
    show (Tr.br (!fOrd r 0 == some Ordering.lt) _ _).den = some true
    rw [g]
    exact tail
  · rw [decide_eq_false c]
    exact tail

/-! Numbers that are no numbers do not come up -/
theorem word_read (s : Bool) (r : Nat) (h : r ≤ 2047 * 4503599627370496) : ∀ t k, rd (Ieee.double.word s r) ≠ .nan t k := by
  intro t k
  have e1 : Ieee.double.signWeight = 9223372036854775808 := by decide
  have e5 : Ieee.double.binade = 4503599627370496 := by decide
  have e6 : Ieee.double.infRung = 2047 * 4503599627370496 := by decide
  unfold rd Ieee.Format.read Ieee.Format.word
  rw [e1, e5, e6]
  have hm : (if s = true then 9223372036854775808 + r else r) % 9223372036854775808 = r := by cases s <;> simp <;> omega
  simp only [hm]
  split
  · intro c; cases c
  · split
    · intro c; cases c
    · split
      · intro c; cases c
      · omega
theorem nearest_nan (s : Bool) (m : Nat) (p : Int) : ∀ t k, rd (Ieee.double.nearest s m p) ≠ .nan t k := by
  have e6 : Ieee.double.infRung = 2047 * 4503599627370496 := by decide
  unfold Ieee.Format.nearest
  split
  · exact word_read s 0 (by omega)
  · exact word_read s _ (by rw [e6]; exact Nat.min_le_right _ _)
def notNan (b : Nat) : Prop := ∀ t k, rd b ≠ .nan t k
theorem int_notNan (n : Int) : notNan (fInt n) := nearest_nan _ _ _
def threeF : Nat := 4613937818241073152
theorem third_some {b : Nat} (h : notNan b) : ∃ c, floatBits .quo .f64 b threeF = some c := by
  have ht : rd threeF = .number false 6755399441055744 (-51) := by decide +kernel
  show ∃ c, ((rd b).quotient _ (rd threeF)).map _ = some c
  rw [ht]
  cases hb : rd b with
  | nan t k => exact absurd hb (h t k)
  | infinity s => exact ⟨_, rfl⟩
  | number s m e => exact ⟨_, rfl⟩

/-! Whole or not -/
theorem fEq_comm (a b : Nat) : fEq a b = fEq b a := by
  show (fOrd a b == some .eq) = (fOrd b a == some .eq)
  rw [fOrd_rd, fOrd_rd]
  have key : ∀ x y : Int, (some (compare x y) == some Ordering.eq) = (some (compare y x) == some Ordering.eq) := by
    intro x y
    rcases Int.lt_trichotomy x y with h | h | h
    · rw [Int.compare_eq_lt.2 h, Int.compare_eq_gt.2 h]; rfl
    · subst h; rfl
    · rw [Int.compare_eq_gt.2 h, Int.compare_eq_lt.2 h]; rfl
  cases rd a with
  | nan s t => cases rd b <;> rfl
  | infinity s => cases rd b with
    | nan t k => rfl
    | infinity t => cases s <;> cases t <;> rfl
    | number t m e => cases s <;> rfl
  | number s m e => cases rd b with
    | nan t k => rfl
    | infinity t => cases t <;> rfl
    | number t n f =>
      unfold Ieee.Datum.order
      simp only [Int.min_comm f e]
      exact key _ _
theorem zero_sign (d : Ieee.Datum) (e : Int) : d.order (.number true 0 e) = d.order (.number false 0 e) := by
  cases d <;> simp [Ieee.Datum.order, Ieee.signed]
theorem doc_part {b : Nat} (hge : fGe b negFar = true) (hle : fLe b posFar = true) : ∃ n : Int, fTo b = some n ∧ fEq (fInt n) b = fPart b := by
  have hp : fPart b = (match fTrunc b with | some c => fEq b c | none => false) := by unfold fPart; rw [hge, hle]; rfl
  have hfi : ∀ n, FI b n → ∃ n : Int, fTo b = some n ∧ fEq (fInt n) b = fPart b := by
    intro n hn
    have h1 := ord_FI hn FI_negFar
    have h2 := ord_FI hn FI_posFar
    unfold fGe at hge
    unfold fLe at hle
    rw [h1] at hge
    rw [h2] at hle
    have g1 : -1048576 ≤ n := by
      rcases Int.lt_or_le n (-1048576) with c | c
      · rw [Int.compare_eq_lt.2 c] at hge; cases hge
      · exact c
    have g2 : n ≤ 1048576 := by
      rcases Int.lt_or_le 1048576 n with c | c
      · rw [Int.compare_eq_gt.2 c] at hle; cases hle
      · exact c
    refine ⟨n, to_FI hn, ?_⟩
    rw [eq_FI (FI_int (by omega)) hn, part_FI hn, decide_eq_true ⟨g1, g2⟩]
    simp
  have hge0 := hge
  have hle0 := hle
  have rF : rd posFar = .number false 4503599627370496 (-32) := by decide +kernel
  have rN : rd negFar = .number true 4503599627370496 (-32) := by decide +kernel
  unfold fGe at hge
  unfold fLe at hle
  rw [fOrd_rd, rN] at hge
  rw [fOrd_rd, rF] at hle
  have e1 : Ieee.double.signWeight = 9223372036854775808 := by decide
  have e5 : Ieee.double.binade = 4503599627370496 := by decide
  have e6 : Ieee.double.infRung = 2047 * 4503599627370496 := by decide
  have e2 : Ieee.double.leastPlace = -1074 := by decide
  cases hb : rd b with
  | nan s t => rw [hb] at hge; simp [Ieee.Datum.order] at hge
  | infinity s => rw [hb] at hge hle; cases s <;> simp [Ieee.Datum.order] at hge hle
  | number s m e =>
    rw [hb] at hge hle
    have hd : FloatKind.f64.decode b = .number s m e := hb
    rcases Nat.eq_zero_or_pos m with hm | hm
    · subst hm
      have he : e = -1074 := by
        unfold rd Ieee.Format.read at hb
        rw [e1, e5, e6, e2] at hb
        simp only at hb
        split at hb
        · injection hb with _ _ h3; exact h3.symm
        · split at hb
          · injection hb with _ h2 _; omega
          · split at hb <;> cases hb
      subst he
      refine hfi (sg s 0) ⟨s, 0, by decide, ?_, rfl⟩
      rw [hb]
      cases s <;> decide +kernel
    have hform : (e = -1074 ∧ m < 4503599627370496) ∨ (4503599627370496 ≤ m ∧ m < 9007199254740992) := by
      unfold rd Ieee.Format.read at hb
      rw [e1, e5, e6, e2] at hb
      simp only at hb
      split at hb
      · cases hb; exact .inl ⟨rfl, by omega⟩
      · split at hb
        · cases hb; right; omega
        · split at hb <;> cases hb
    have he : e ≤ -32 := by
      rcases Int.lt_or_le (-32) e with hlt | hle'
      · exfalso
        have hm2 : 4503599627370496 ≤ m := by rcases hform with ⟨h1, _⟩ | h1 <;> omega
        have hb1 : min e (-32 : Int) = -32 := by omega
        unfold Ieee.Datum.order at hge hle
        simp only [hb1] at hge hle
        obtain ⟨d, hd⟩ : ∃ d : Nat, (e - -32).toNat = d + 1 := ⟨(e - -32).toNat - 1, by omega⟩
        have hz : (-32 - -32 : Int).toNat = 0 := rfl
        rw [hd, hz] at hge hle
        have hbig : 9007199254740992 ≤ m <<< (d + 1) := by
          rw [Nat.shiftLeft_eq, Nat.pow_succ, ← Nat.mul_assoc]
          have : 1 ≤ 2 ^ d := Nat.one_le_two_pow
          have : 4503599627370496 * 1 ≤ m * 2 ^ d := Nat.mul_le_mul hm2 this
          omega
        unfold Ieee.signed at hge hle
        cases s
        · simp only [Bool.false_eq_true, if_false, Nat.shiftLeft_zero] at hle
          rw [Int.compare_eq_gt.2 (by omega)] at hle
          simp at hle
        · simp only [if_true, Nat.shiftLeft_zero] at hge
          rw [Int.compare_eq_lt.2 (by omega)] at hge
          simp at hge
      · exact hle'
    obtain ⟨j, rfl⟩ : ∃ j : Nat, e = -(j : Int) := ⟨(-e).toNat, by omega⟩
    obtain ⟨v, hv⟩ : ∃ v, v = Ieee.Toward.zero.cut s m j := ⟨_, rfl⟩
    have hint : Ieee.Datum.integral .zero (.number s m (-(j : Int))) = .number s v 0 := by
      show Ieee.Datum.number s (Ieee.Toward.zero.cut s (m <<< (-(j : Int)).toNat) (- -(j : Int)).toNat) 0 = _
      have a1 : (-(j : Int)).toNat = 0 := by omega
      have a2 : (- -(j : Int)).toNat = j := by omega
      rw [a1, a2, Nat.shiftLeft_zero, ← hv]
    have hgap : v = m / (1 <<< min j (m.log2 + 2)) := by
      rw [hv]; unfold Ieee.Toward.cut; simp
    have hvb : v < 9007199254740992 := by
      rw [hgap]
      refine Nat.lt_of_le_of_lt (Nat.div_le_self _ _) ?_
      rcases hform with h1 | h1 <;> omega
    have hw : FloatKind.f64.encode (Ieee.Datum.number s v 0) = wordOf s v := by
      have := nearest_exact s v 0 hvb
      rw [Nat.pow_zero, Nat.mul_one] at this
      exact this
    have htr : fTrunc b = some (wordOf s v) := by
      unfold fTrunc
      rw [hd]
      simp only
      rw [hint, hw]
    have hsg : Ieee.signed s v 0 = sg s v := by
      have := signed_sg s v 0 0
      simpa using this
    have hto : fTo b = some (sg s v) := by
      unfold fTo floatToIntVal
      rw [hd]
      have : Ieee.Datum.toInt .zero (.number s m (-(j : Int))) = some (sg s v) := by
        unfold Ieee.Datum.toInt
        rw [hint]
        simp only [hsg]
      rw [this]
      have hr : IntKind.i64.min ≤ sg s v ∧ sg s v ≤ IntKind.i64.max := by
        have l1 : IntKind.i64.min = -9223372036854775808 := by decide
        have l2 : IntKind.i64.max = 9223372036854775807 := by decide
        rw [l1, l2]
        unfold sg
        split <;> omega
      simp only [if_pos hr]
    refine ⟨sg s v, hto, ?_⟩
    rw [hp, htr]
    simp only
    rw [fEq_comm]
    have ha : (sg s v).natAbs = v := sg_abs s v
    rw [fInt_eq _ (by rw [ha]; exact hvb), ha]
    rcases Nat.eq_zero_or_pos v with h0 | h0
    · subst h0
      have hs0 : decide (sg s 0 < 0) = false := by cases s <;> rfl
      rw [hs0]
      show (fOrd b (wordOf false 0) == some .eq) = (fOrd b (wordOf s 0) == some .eq)
      rw [fOrd_rd, fOrd_rd]
      cases s
      · rfl
      · have z1 : rd (wordOf false 0) = .number false 0 (-1074) := by decide +kernel
        have z2 : rd (wordOf true 0) = .number true 0 (-1074) := by decide +kernel
        rw [z1, z2, zero_sign]
    · have hs0 : decide (sg s v < 0) = s := by
        unfold sg
        cases s
        · simp
        · simp; omega
      rw [hs0]
def ofD (z : Cx) : Pair × Bool := if cWhole z = true then (pzOf z, true) else (⟨0, 0⟩, false)
def inF (b : Nat) : Bool := fGe b negFar && fLe b posFar
theorem part_in {b : Nat} (h : inF b = false) : fPart b = false := by
  unfold inF at h
  unfold fPart
  cases h1 : fGe b negFar
  · rfl
  · rw [h1] at h
    simp only [Bool.true_and] at h ⊢
    rw [h]; rfl

/-! The document's turns -/
abbrev TDX := (Int × Unit) × (Pair × Pair × Unit)
def turnDStep : TDX → Option (TDX ⊕ (Unit × (Pair × Pair × Unit)))
  | ((k, _), (p, q, _)) => if 0 < k then some (.inl ((IntKind.i64.wrap (k - 1), ()), (⟨IntKind.i64.wrap (0 - p.y), p.x⟩, q, ()))) else some (.inr ((), (p, q, ())))
def turnDM (x : TDX) : Nat := x.1.1.toNat
theorem turnD_iter (q : Pair) : ∀ (m : Nat) (p : Pair) (k : Nat), m ≤ 4 → m ≤ k → p.small 1048576 →
    Ev.iter turnDStep (k + 1) (((m : Int), ()), (p, q, ())) = some ((), (turnP m p, q, ()))
  | 0, p, k, _, _, _ => by
    rw [Ev.iter]
    rfl
  | m + 1, p, k, h4, hk, hs => by
    obtain ⟨k', rfl⟩ : ∃ k', k = k' + 1 := ⟨k - 1, by omega⟩
    have hb := hs.2
    rw [Ev.iter]
    simp only [turnDStep, if_pos (show (0 : Int) < ((m + 1 : Nat) : Int) by omega), wr (n := ((m + 1 : Nat) : Int) - 1) (by omega), wr (n := 0 - p.y) (by omega)]
    have := turnD_iter q m p.quarter k' (by omega) (by omega) (quarter_small hs)
    rw [show ((m + 1 : Nat) : Int) - 1 = (m : Int) by omega, show (0 - p.y) = -p.y by omega]
    exact this
theorem turnD_run {p : Pair} (hs : p.small 1048576) (q : Pair) {m : Int} (hm : 0 ≤ m ∧ m ≤ 4) : runBy turnDStep turnDM ((m, ()), (p, q, ())) = some ((), (turnP m.toNat p, q, ())) := by
  obtain ⟨k, rfl⟩ : ∃ k : Nat, m = (k : Int) := ⟨m.toNat, by omega⟩
  exact turnD_iter q k p _ (by omega) (by simp only [turnDM]; omega) hs
theorem small_of20 {p : Pair} (h : pair20 p = true) : p.small 1048576 := by
  simp only [pair20, Bool.and_eq_true, decide_eq_true_eq] at h
  exact h
theorem pair20_of {p : Pair} (h : p.small 1048576) : pair20 p = true := by
  unfold pair20
  rw [decide_eq_true h.1, decide_eq_true h.2]; rfl
theorem pair30_of {p : Pair} (h : p.small 1048576) : pair30 p = true := by
  obtain ⟨h1, h2⟩ := h
  unfold pair30 near30
  rw [decide_eq_true (by omega), decide_eq_true (by omega)]; rfl
theorem turn_neg_arg {k : Int} (h : k.tmod 4 < 0) : IntKind.i64.wrap (k.tmod 4 + 4) = pick k 4 ∧ 0 ≤ pick k 4 ∧ pick k 4 ≤ 4 := by
  have hk := tmod_pick k (m := 4) (by decide)
  have hb := pick_bd k (m := 4) (by decide)
  refine ⟨?_, hb.1, by omega⟩
  rw [wr (by omega), hk.1 h]
theorem turn_pos_arg {k : Int} (h : ¬ k.tmod 4 < 0) : k.tmod 4 = pick k 4 ∧ 0 ≤ pick k 4 ∧ pick k 4 ≤ 4 := by
  have hk := tmod_pick k (m := 4) (by decide)
  have hb := pick_bd k (m := 4) (by decide)
  exact ⟨hk.2.1 (by omega), hb.1, by omega⟩

/-! Numbers from raw ones -/
def halfF : Nat := 4602678819172646912
def fac3 : Nat := 4673975551164153856
def numU (x : Int) : Nat := fInt (pick x 81 - 40)
def numZ (x y b : Int) : Cx :=
  if pick b 9 = 5 then (fInt x, numU y)
  else if pick b 9 = 6 then (numU x, (floatBits .add .f64 (numU y) halfF).getD 0)
  else if pick b 9 = 7 then ((floatBits .mul .f64 (numU x) fac3).getD 0, (floatBits .mul .f64 (numU y) fac3).getD 0)
  else if pick b 9 = 8 then (numU x, (floatBits .quo .f64 (fInt y) threeF).getD 0)
  else (numU x, numU y)
theorem half_all : ∀ i : Fin 81, (floatBits .add .f64 (fInt ((i.1 : Int) - 40)) halfF).isSome = true := by decide +kernel
theorem fac_all : ∀ i : Fin 81, (floatBits .mul .f64 (fInt ((i.1 : Int) - 40)) fac3).isSome = true := by decide +kernel
theorem numU_all {P : Nat → Prop} (h : ∀ i : Fin 81, P (fInt ((i.1 : Int) - 40))) (x : Int) : P (numU x) := by
  have hb := pick_bd x (m := 81) (by decide)
  have := h ⟨(pick x 81).toNat, by omega⟩
  simp only [show (((pick x 81).toNat : Nat) : Int) = pick x 81 by omega] at this
  exact this
theorem half_some (x : Int) : floatBits .add .f64 (numU x) halfF = some ((floatBits .add .f64 (numU x) halfF).getD 0) := by
  have := numU_all (P := fun b => (floatBits .add .f64 b halfF).isSome = true) half_all x
  cases h : floatBits .add .f64 (numU x) halfF with
  | none => rw [h] at this; cases this
  | some r => rfl
theorem fac_some (x : Int) : floatBits .mul .f64 (numU x) fac3 = some ((floatBits .mul .f64 (numU x) fac3).getD 0) := by
  have := numU_all (P := fun b => (floatBits .mul .f64 b fac3).isSome = true) fac_all x
  cases h : floatBits .mul .f64 (numU x) fac3 with
  | none => rw [h] at this; cases this
  | some r => rfl
theorem third_num (y : Int) : floatBits .quo .f64 (fInt y) threeF = some ((floatBits .quo .f64 (fInt y) threeF).getD 0) := by
  obtain ⟨c, hc⟩ := third_some (int_notNan y)
  rw [hc]; rfl

/-! Whole or not, by the document -/
theorem of_run (z : Cx) :
    (Tr.br (fGe z.1 negFar) (Tr.br (fLe z.1 posFar) (Tr.br (fGe z.2 negFar) (Tr.br (!fLe z.2 posFar) (Tr.ret ((⟨0, 0⟩ : Pair), false))
      (Tr.get (fTo z.1) fun a => Tr.get (fTo z.2) fun b => Tr.br (!fEq (fInt a) z.1) (Tr.ret (⟨0, 0⟩, false)) (Tr.br (!fEq (fInt b) z.2) (Tr.ret (⟨0, 0⟩, false)) (Tr.ret (⟨a, b⟩, true)))))
      (Tr.ret (⟨0, 0⟩, false))) (Tr.ret (⟨0, 0⟩, false))) (Tr.ret (⟨0, 0⟩, false))).den = some (ofD z) := by
  have no1 : inF z.1 = false → ofD z = (⟨0, 0⟩, false) := fun h => by
    unfold ofD
    rw [if_neg (by unfold cWhole; rw [part_in h]; simp)]
  have no2 : inF z.2 = false → ofD z = (⟨0, 0⟩, false) := fun h => by
    unfold ofD
    rw [if_neg (by unfold cWhole; rw [part_in h]; simp)]
  simp only [den_br, den_ret]
  by_cases g1 : fGe z.1 negFar = true
  case neg => rw [if_neg g1, no1 (by unfold inF; simp [g1])]
  by_cases g2 : fLe z.1 posFar = true
  case neg => rw [if_pos g1, if_neg g2, no1 (by unfold inF; simp [g2])]
  by_cases g3 : fGe z.2 negFar = true
  case neg => rw [if_pos g1, if_pos g2, if_neg g3, no2 (by unfold inF; simp [g3])]
  by_cases g4 : fLe z.2 posFar = true
  case neg => rw [if_pos g1, if_pos g2, if_pos g3, if_pos (by simp [g4]), no2 (by unfold inF; simp [g4])]
  obtain ⟨a, ea, pa⟩ := doc_part g1 g2
  obtain ⟨b, eb, pb⟩ := doc_part g3 g4
  rw [if_pos g1, if_pos g2, if_pos g3, if_neg (by simp [g4])]
  simp only [ea, eb, den_get, den_br, den_ret, pa, pb, ofD, cWhole, pzOf, fV, Option.getD_some]
  cases fPart z.1 <;> cases fPart z.2 <;> rfl

/-! The law's loop -/
abbrev GtX := (Int × Int × Unit) × (List Cx × List Pair × Unit)
def gtStep : GtX → Option (GtX ⊕ ((Unit × Unit) ⊕ ((Bool × Unit) × Unit)))
  | ((i, m, _), (l, d, _)) =>
    if i < m then (if 0 ≤ i ∧ i < (l.length : Int) then (match l[i.toNat]? with
      | none => none
      | some z => if 0 ≤ i ∧ i < (d.length : Int) then (match d[i.toNat]? with
        | none => none
        | some p => if canon z = true then (if samePz z p true = true then some (.inl ((IntKind.i64.wrap (i + 1), m, ()), (l, d, ()))) else some (.inr (.inr ((false, ()), ())))) else none) else none) else none)
    else some (.inr (.inl ((), ())))
def gtM (x : GtX) : Nat := x.2.1.length - x.1.1.toNat
theorem same_cx {p : Pair} (h : p.small 1048576) : samePz (cxOf p) p true = true := by
  unfold samePz
  rw [if_pos rfl, cEq_CI (CIs h) (CIs h)]; simp
theorem gt_iter (d : List Pair) (hd : ∀ p ∈ d, p.small 1048576) (hl : d.length ≤ 1048576) : ∀ (q i j : Nat), i + q = d.length → q ≤ j →
    Ev.iter gtStep (j + 1) (((i : Int), ((d.map cxOf).length : Int), ()), (d.map cxOf, d, ())) = some (.inl ((), ()))
  | 0, i, j, h, _ => by
    rw [Ev.iter]
    simp only [gtStep, List.length_map, if_neg (show ¬ (i : Int) < (d.length : Int) by omega)]
  | q + 1, i, j, h, hj => by
    obtain ⟨j', rfl⟩ : ∃ j', j = j' + 1 := ⟨j - 1, by omega⟩
    have hi : i < d.length := by omega
    have e1 : d[i]? = some d[i] := List.getElem?_eq_getElem hi
    have e2 : (d.map cxOf)[i]? = some (cxOf d[i]) := by rw [List.getElem?_map, e1]; rfl
    have hs := hd d[i] (List.getElem_mem hi)
    rw [Ev.iter]
    simp only [gtStep, List.length_map, if_pos (show (i : Int) < (d.length : Int) by omega), if_pos (show 0 ≤ (i : Int) ∧ (i : Int) < (d.length : Int) by omega), show ((i : Int)).toNat = i from by omega, e1, e2, canon_of hs, same_cx hs, if_true, wr (n := (i : Int) + 1) (by omega)]
    have := gt_iter d hd hl q (i + 1) j' (by omega) (by omega)
    rw [show ((i + 1 : Nat) : Int) = (i : Int) + 1 from by omega, List.length_map] at this
    exact this
theorem gt_run (n : Int) : runBy gtStep gtM ((0, (((cellsP (cellsR n)).map cxOf).length : Int), ()), ((cellsP (cellsR n)).map cxOf, cellsP (cellsR n), ())) = some (.inl ((), ())) := by
  have hn : 0 ≤ cellsR n ∧ cellsR n ≤ 16 := by unfold cellsR; omega
  exact gt_iter (cellsP (cellsR n)) (fun p hp => by have := cellsP_box hn p hp; unfold Pair.small; omega) (by have := cellsP_len hn; omega) (cellsP (cellsR n)).length 0 _ (by omega) (by show _ ≤ ((cellsP (cellsR n)).map cxOf).length - _; rw [List.length_map]; simp)

/-- What the document's number and the program's come to. -/
theorem tells_one (z : Cx) (k : Int) :
    (ofD z).2 = cWhole z ∧ pair30 (ofD z).1 = true ∧ pair20 (ofD z).1 = true ∧
    canon (cTurn z k) = true ∧ samePz (cTurn z k) ((ofD z).1.turn k) (cWhole z) = true ∧
    canon (cMirror z) = true ∧ samePz (cMirror z) ⟨(ofD z).1.x, IntKind.i64.wrap (0 - (ofD z).1.y)⟩ (cWhole z) = true ∧
    (cWhole z = true → cNorm z = (ofD z).1.norm) ∧ (∀ n, cInDisc z n = if cWhole z = true then discOf (ofD z).1 n else 0) := by
  by_cases hw : cWhole z = true
  · obtain ⟨p, hp, hs⟩ := whole_spec hw
    have ho : ofD z = (p, true) := by unfold ofD; rw [if_pos hw, cV_CI hp]
    have hm := cMirror_CI hp hs
    have hsn : p.neg.small 1048576 := by
      obtain ⟨h1, h2⟩ := hs
      exact ⟨h1, by simp only [Pair.neg]; omega⟩
    have he : (⟨p.x, IntKind.i64.wrap (0 - p.y)⟩ : Pair) = p.neg := by
      have := hs.2
      rw [wr (by omega)]
      simp [Pair.neg]
    have ht := turn_small hs k
    rw [ho, hw, cTurn_CI k hp hs, hm, he]
    refine ⟨rfl, pair30_of hs, pair20_of hs, canon_of ht, same_cx ht, canon_of hsn, same_cx hsn, fun _ => ?_, fun n => ?_⟩
    · have := cNormW_CI hp hs
      unfold cNormW at this
      rwa [if_pos hw] at this
    · unfold cInDisc
      rw [if_pos hw, cV_CI hp]; rfl
  · have hw' : cWhole z = false := by simpa using hw
    have ho : ofD z = (⟨0, 0⟩, false) := by unfold ofD; rw [if_neg hw]
    have ht : cTurn z k = (0, 0) := by unfold cTurn; rw [if_neg hw]
    have hm : cMirror z = (0, 0) := by unfold cMirror; rw [if_neg hw]
    have hc : canon (0, 0) = true := canon_of (p := ⟨0, 0⟩) ⟨by decide, by decide⟩
    have hq : ∀ q, samePz (0, 0) q false = true := fun q => by unfold samePz; rw [if_neg (by decide)]; decide +kernel
    rw [ho, hw', ht, hm]
    refine ⟨rfl, by decide, by decide, hc, hq _, hc, hq _, fun h => (by cases h), fun n => ?_⟩
    unfold cInDisc
    rw [if_neg hw]; rfl
end Go.Proofs.Ythgpgnijbajlgaa
