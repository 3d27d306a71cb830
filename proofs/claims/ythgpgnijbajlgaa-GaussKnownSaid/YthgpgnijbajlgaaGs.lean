/-
  Whole numbers in a plane, as floats; in plain Lean.
-/
import Derived.Test.YthgpgnijbajlgaaFloCod
import Derived.Test.YthgpgnijbajlgaaCore5
namespace Go.Proofs.Ythgpgnijbajlgaa
open Go Ev
set_option linter.unusedVariables false
set_option linter.unusedSimpArgs false

/-! Arithmetic of places -/
theorem abs_mul_le {a b A B : Int} (ha : -A ≤ a ∧ a ≤ A) (hb : -B ≤ b ∧ b ≤ B) : (a * b).natAbs ≤ (A * B).natAbs := by
  rw [Int.natAbs_mul, Int.natAbs_mul]
  exact Nat.mul_le_mul (by omega) (by omega)
def Pair.mul (p q : Pair) : Pair := ⟨p.x * q.x - p.y * q.y, p.x * q.y + p.y * q.x⟩
def Pair.add (p q : Pair) : Pair := ⟨p.x + q.x, p.y + q.y⟩
def Pair.neg (p : Pair) : Pair := ⟨p.x, -p.y⟩
def Pair.quarter (p : Pair) : Pair := ⟨-p.y, p.x⟩
def Pair.norm (p : Pair) : Int := p.x * p.x + p.y * p.y
theorem cMul_CI {z w : Cx} {p q : Pair} (hz : CI z p) (hw : CI w q) {A B : Int} (hp : p.small A) (hq : q.small B) (h : (A * B).natAbs ≤ 2251799813685248) : ∃ r, cMulBits z.1 z.2 w.1 w.2 = some r ∧ CI r (p.mul q) := by
  have a1 := abs_mul_le hp.1 hq.1
  have a2 := abs_mul_le hp.2 hq.2
  have a3 := abs_mul_le hp.1 hq.2
  have a4 := abs_mul_le hp.2 hq.1
  obtain ⟨c1, e1, f1⟩ := mul_FI hz.1 hw.1 (by omega)
  obtain ⟨c2, e2, f2⟩ := mul_FI hz.2 hw.2 (by omega)
  obtain ⟨c3, e3, f3⟩ := sub_FI f1 f2 (by omega)
  obtain ⟨c4, e4, f4⟩ := mul_FI hz.1 hw.2 (by omega)
  obtain ⟨c5, e5, f5⟩ := mul_FI hz.2 hw.1 (by omega)
  obtain ⟨c6, e6, f6⟩ := add_FI f4 f5 (by omega)
  refine ⟨(c3, c6), ?_, f3, f6⟩
  unfold cMulBits
  rw [e1, e2, e4, e5]
  simp only [Option.bind_some]
  rw [e3, e6]
  rfl
theorem cAdd_CI {z w : Cx} {p q : Pair} (hz : CI z p) (hw : CI w q) {B : Int} (hp : p.small B) (hq : q.small B) (h : B ≤ 4503599627370495) : ∃ r, cSumBits .add .f64 z.1 z.2 w.1 w.2 = some r ∧ CI r (p.add q) := by
  obtain ⟨c1, e1, f1⟩ := add_FI hz.1 hw.1 (by have := hp.1; have := hq.1; omega)
  obtain ⟨c2, e2, f2⟩ := add_FI hz.2 hw.2 (by have := hp.2; have := hq.2; omega)
  refine ⟨(c1, c2), ?_, f1, f2⟩
  unfold cSumBits
  rw [e1, e2]
  rfl
theorem cEq_CI {z w : Cx} {p q : Pair} (hz : CI z p) (hw : CI w q) : cEq z.1 z.2 w.1 w.2 = decide (p = q) := by
  unfold cEq
  rw [eq_FI hz.1 hw.1, eq_FI hz.2 hw.2]
  obtain ⟨a, b⟩ := p
  obtain ⟨c, d⟩ := q
  by_cases h1 : a = c <;> by_cases h2 : b = d <;> simp [h1, h2]
theorem FI_zero : FI 0 0 := ⟨false, 0, by decide, by decide +kernel, rfl⟩
def oneF : Nat := 4607182418800017408
theorem FI_one : FI oneF 1 := ⟨false, 1, by decide, by decide +kernel, rfl⟩
theorem small_mono {p : Pair} {A B : Int} (h : p.small A) (hab : A ≤ B) : p.small B := ⟨by have := h.1; omega, by have := h.2; omega⟩
theorem rd_neg (b : Nat) : rd (Op.negFloat .f64 b) = (rd b).opposite := by
  have e1 : Ieee.double.signWeight = 9223372036854775808 := by decide
  show rd (b ^^^ 2 ^ 63) = _
  have d1 : (b ^^^ 2 ^ 63) % 9223372036854775808 = b % 9223372036854775808 := by
    rw [show (9223372036854775808 : Nat) = 2 ^ 63 from rfl, Nat.xor_mod_two_pow, Nat.mod_self, Nat.xor_zero]
  have d2 : ((b ^^^ 2 ^ 63) / 9223372036854775808 % 2 == 1) = !(b / 9223372036854775808 % 2 == 1) := by
    rw [show (9223372036854775808 : Nat) = 2 ^ 63 from rfl, Nat.xor_div_two_pow, Nat.div_self (Nat.two_pow_pos 63)]
    have h := Nat.xor_mod_two_pow (a := b / 2 ^ 63) (b := 1) (n := 1)
    rw [Nat.pow_one] at h
    rw [h]
    rcases Nat.mod_two_eq_zero_or_one (b / 2 ^ 63) with h0 | h0 <;> rw [h0] <;> rfl
  unfold rd Ieee.Format.read
  simp only [e1, d1, d2]
  split
  · rfl
  · split
    · rfl
    · split <;> rfl
theorem FI_neg {b : Nat} {n : Int} (h : FI b n) : FI (Op.negFloat .f64 b) (-n) := by
  obtain ⟨s, v, hv, e, rfl⟩ := h
  refine ⟨!s, v, hv, ?_, sg_not s v⟩
  rw [rd_neg, e, ← rd_neg, neg_word hv]

/-! What the calls come to -/
def cOk (z : Cx) : Bool := (fTo z.1).isSome && (fTo z.2).isSome
theorem cOk_CI {z : Cx} {p : Pair} (h : CI z p) : cOk z = true := by unfold cOk; rw [to_FI h.1, to_FI h.2]; rfl
def cParts (z : Cx) : Int × Int := (fV z.1, fV z.2)
theorem cParts_CI {z : Cx} {p : Pair} (h : CI z p) : cParts z = (p.x, p.y) := by unfold cParts; rw [fV_FI h.1, fV_FI h.2]
def cNorm (z : Cx) : Int := IntKind.i64.wrap (IntKind.i64.wrap (fV z.1 * fV z.1) + IntKind.i64.wrap (fV z.2 * fV z.2))
theorem sq_bd {a B : Int} (h : -B ≤ a ∧ a ≤ B) (hB : B ≤ 1073741824) : 0 ≤ a * a ∧ a * a ≤ 1152921504606846976 := by
  have := abs_mul_le h h
  have h0 : 0 ≤ a * a := by
    rcases Int.lt_or_le a 0 with c | c
    · exact Int.mul_nonneg_of_nonpos_of_nonpos (by omega) (by omega)
    · exact Int.mul_nonneg c c
  have hb : (B * B).natAbs ≤ 1152921504606846976 := by
    rw [Int.natAbs_mul]
    exact Nat.mul_le_mul (show B.natAbs ≤ 1073741824 by omega) (show B.natAbs ≤ 1073741824 by omega)
  omega
theorem cNorm_CI {z : Cx} {p : Pair} (h : CI z p) (hs : p.small 1073741824) : cNorm z = p.norm := by
  have b1 := sq_bd hs.1 (by decide)
  have b2 := sq_bd hs.2 (by decide)
  unfold cNorm
  rw [fV_FI h.1, fV_FI h.2, wr (n := p.x * p.x) (by omega), wr (n := p.y * p.y) (by omega), wr (n := p.x * p.x + p.y * p.y) (by omega)]
  rfl
def nearI (x : Int) : Int := if x < 0 then IntKind.i64.wrap (x + 1) else x

/-! Turns -/
def cturnStep : (Int × Int × Cx × Unit) × Unit → Option (((Int × Int × Cx × Unit) × Unit) ⊕ ((Cx × Unit) × Unit))
  | ((i, n, z, _), _) => if i < n then (match cMulBits z.1 z.2 0 oneF with | some r => some (.inl ((IntKind.i64.wrap (i + 1), n, r, ()), ())) | none => none) else some (.inr ((z, ()), ()))
def cturnM (x : (Int × Int × Cx × Unit) × Unit) : Nat := (x.1.2.1 - x.1.1).toNat
def turnP : Nat → Pair → Pair
  | 0, p => p
  | k + 1, p => turnP k p.quarter
def Pair.turn (p : Pair) (k : Int) : Pair := turnP (pick k 4).toNat p
theorem quarter_small {p : Pair} {B : Int} (h : p.small B) : p.quarter.small B := ⟨by have := h.2; simp only [Pair.quarter]; omega, h.1⟩
theorem turnP_small {B : Int} : ∀ (k : Nat) {p : Pair}, p.small B → (turnP k p).small B
  | 0, _, h => h
  | k + 1, _, h => turnP_small k (quarter_small h)
theorem mul_i (p : Pair) : p.mul ⟨0, 1⟩ = p.quarter := by
  simp [Pair.mul, Pair.quarter]
theorem cturn_iter (n : Int) (hn : n ≤ 1000) : ∀ (m : Nat) (i : Int) (z : Cx) (p : Pair) (k : Nat), 0 ≤ i → n = i + m → m ≤ k → CI z p → p.small 1048576 →
    ∃ z', Ev.iter cturnStep (k + 1) ((i, n, z, ()), ()) = some ((z', ()), ()) ∧ CI z' (turnP m p)
  | 0, i, z, p, k, h0, h1, _, hz, _ => by
    rw [Ev.iter]
    simp only [cturnStep, if_neg (show ¬ i < n by omega)]
    exact ⟨z, rfl, hz⟩
  | m + 1, i, z, p, k, h0, h1, hk, hz, hs => by
    obtain ⟨k', rfl⟩ : ∃ k', k = k' + 1 := ⟨k - 1, by omega⟩
    obtain ⟨r, e1, e2⟩ := cMul_CI (w := (0, oneF)) (q := ⟨0, 1⟩) hz ⟨FI_zero, FI_one⟩ (B := 1) hs ⟨by decide, by decide⟩ (by decide)
    rw [mul_i] at e2
    rw [Ev.iter]
    simp only [cturnStep, if_pos (show i < n by omega)]
    rw [e1]
    simp only [wr (n := i + 1) (by omega)]
    exact cturn_iter n hn m (i + 1) r p.quarter k' (by omega) (by omega) (by omega) e2 (quarter_small hs)
def turns (k : Int) : Int := (IntKind.i64.wrap (k.tmod 4 + 4)).tmod 4
theorem turns_eq (k : Int) : turns k = pick k 4 := by
  have hk := tmod_pick k (m := 4) (by decide)
  have hb := pick_bd k (m := 4) (by decide)
  unfold turns
  rw [wr (by omega), Int.tmod_eq_emod_of_nonneg (by omega)]
  rcases Int.lt_or_le (k.tmod 4) 0 with h | h
  · rw [hk.1 h]; exact Int.emod_eq_of_lt hb.1 hb.2
  · rw [hk.2.1 h]; omega
theorem cturn_run {z : Cx} {p : Pair} (k : Int) (hz : CI z p) (hs : p.small 1048576) : ∃ z', runBy cturnStep cturnM ((0, turns k, z, ()), ()) = some ((z', ()), ()) ∧ CI z' (p.turn k) := by
  have hb := pick_bd k (m := 4) (by decide)
  rw [turns_eq]
  exact cturn_iter (pick k 4) (by omega) (pick k 4).toNat 0 z p _ (by omega) (by omega) (by simp only [cturnM]; omega) hz hs
def cTurn (z : Cx) (k : Int) : Cx := if cWhole z = true then (match runBy cturnStep cturnM ((0, turns k, z, ()), ()) with | some y => cxOf (pzOf y.1.1) | none => (0, 0)) else (0, 0)
theorem cTurn_CI {z : Cx} {p : Pair} (k : Int) (hz : CI z p) (hs : p.small 1048576) : cTurn z k = cxOf (p.turn k) := by
  obtain ⟨z', h1, h2⟩ := cturn_run k hz hs
  unfold cTurn
  rw [whole_CI hz, if_pos (decide_eq_true hs), h1]
  simp only [cV_CI h2]
def cMirror (z : Cx) : Cx := if cWhole z = true then cxOf (pzOf (z.1, Op.negFloat .f64 z.2)) else (0, 0)
theorem cMirror_CI {z : Cx} {p : Pair} (hz : CI z p) (hs : p.small 1048576) : cMirror z = cxOf p.neg := by
  unfold cMirror
  rw [whole_CI hz, if_pos (decide_eq_true hs)]
  have : CI (z.1, Op.negFloat .f64 z.2) p.neg := ⟨hz.1, FI_neg hz.2⟩
  rw [cV_CI this]

/-! Discs -/
def discStep : (Int × Int × Int × Unit) × (List Cx × Unit) → Option (((Int × Int × Int × Unit) × (List Cx × Unit)) ⊕ ((Unit × Unit) ⊕ ((Int × Unit) × Unit)))
  | ((i, m, n, _), (l, _)) =>
    if i < m then
      if 0 ≤ i ∧ i < (l.length : Int) then
        match l[i.toNat]? with
        | some c => if cOk c = true then (if IntKind.i64.wrap (n * n) < cNorm c then some (.inr (.inr ((0, ()), ()))) else some (.inl ((IntKind.i64.wrap (i + 1), m, n, ()), (l, ())))) else none
        | none => none
      else none
    else some (.inr (.inl ((), ())))
def discM (x : (Int × Int × Int × Unit) × (List Cx × Unit)) : Nat := x.2.1.length - x.1.1.toNat
def discR (n : Int) : Int := max 0 (min n 1048576)
def discOf (p : Pair) (n : Int) : Int :=
  if discR n * discR n < Pair.norm ⟨nearI p.x, nearI p.y⟩ then 2
  else if discR n * discR n < p.norm ∨ discR n * discR n < (p.add ⟨1, 0⟩).norm ∨ discR n * discR n < (p.add ⟨0, 1⟩).norm ∨ discR n * discR n < (p.add ⟨1, 1⟩).norm then 0 else 1
def cInDisc (z : Cx) (n : Int) : Int := if cWhole z = true then discOf (pzOf z) n else 0
theorem disc_run {a b c d : Cx} {p q r s : Pair} (ha : CI a p) (hb : CI b q) (hc : CI c r) (hd : CI d s) (sp : p.small 1048577) (sq : q.small 1048577) (sr : r.small 1048577) (ss : s.small 1048577) {n : Int} (hn : 0 ≤ n ∧ n ≤ 1048576) :
    runBy discStep discM ((0, (([a, b, c, d] : List Cx).length : Int), n, ()), ([a, b, c, d], ())) = some (if n * n < p.norm ∨ n * n < q.norm ∨ n * n < r.norm ∨ n * n < s.norm then .inr ((0, ()), ()) else .inl ((), ())) := by
  have hw : IntKind.i64.wrap (n * n) = n * n := wr (by have := sq_bd (a := n) (B := 1048576) (by omega) (by decide); omega)
  have w1 : IntKind.i64.wrap ((0 : Int) + 1) = 1 := wr (by decide)
  have w2 : IntKind.i64.wrap ((1 : Int) + 1) = 2 := wr (by decide)
  have w3 : IntKind.i64.wrap ((2 : Int) + 1) = 3 := wr (by decide)
  have w4 : IntKind.i64.wrap ((3 : Int) + 1) = 4 := wr (by decide)
  have v1 : IntKind.i64.wrap 1 = 1 := by decide +kernel
  have v2 : IntKind.i64.wrap 2 = 2 := by decide +kernel
  have v3 : IntKind.i64.wrap 3 = 3 := by decide +kernel
  have v4 : IntKind.i64.wrap 4 = 4 := by decide +kernel
  have k1 := cNorm_CI ha (small_mono sp (by decide))
  have k2 := cNorm_CI hb (small_mono sq (by decide))
  have k3 := cNorm_CI hc (small_mono sr (by decide))
  have k4 := cNorm_CI hd (small_mono ss (by decide))
  simp only [runBy, discM, List.length_cons, List.length_nil]
  show Ev.iter discStep 5 ((0, 4, n, ()), ([a, b, c, d], ())) = _
  simp only [Ev.iter, discStep, hw, w1, w2, w3, w4, k1, k2, k3, k4, cOk_CI ha, cOk_CI hb, cOk_CI hc, cOk_CI hd, List.length_cons, List.length_nil, if_true]
  by_cases c1 : n * n < p.norm
  · simp [c1, cOk_CI ha, cOk_CI hb, cOk_CI hc, cOk_CI hd, k1, k2, k3, k4, hw, w1, w2, w3, w4, v1, v2, v3, v4]
  by_cases c2 : n * n < q.norm
  · simp [c1, c2, cOk_CI ha, cOk_CI hb, cOk_CI hc, cOk_CI hd, k1, k2, k3, k4, hw, w1, w2, w3, w4, v1, v2, v3, v4]
  by_cases c3 : n * n < r.norm
  · simp [c1, c2, c3, cOk_CI ha, cOk_CI hb, cOk_CI hc, cOk_CI hd, k1, k2, k3, k4, hw, w1, w2, w3, w4, v1, v2, v3, v4]
  by_cases c4 : n * n < s.norm
  · simp [c1, c2, c3, c4, cOk_CI ha, cOk_CI hb, cOk_CI hc, cOk_CI hd, k1, k2, k3, k4, hw, w1, w2, w3, w4, v1, v2, v3, v4]
  · simp [c1, c2, c3, c4, cOk_CI ha, cOk_CI hb, cOk_CI hc, cOk_CI hd, k1, k2, k3, k4, hw, w1, w2, w3, w4, v1, v2, v3, v4]

theorem trunc_some {b c : Nat} (h : fOrd b c ≠ none) : (fTrunc b).isSome = true := by
  unfold fTrunc
  have hd : FloatKind.f64.decode b = rd b := rfl
  rw [hd]
  rw [fOrd_rd] at h
  cases hb : rd b with
  | nan s t => rw [hb] at h; exact absurd rfl h
  | infinity s => rfl
  | number s m e => rfl
theorem trunc_some' {b : Nat} (h : fGe b negFar = true) : (fTrunc b).isSome = true := by
  refine trunc_some (c := negFar) (fun e => ?_)
  unfold fGe at h
  rw [e] at h
  cases h

/-! Cells -/
def cellInStep : (Int × Int × Int × Unit) × (List Cx × Unit) → Option (((Int × Int × Int × Unit) × (List Cx × Unit)) ⊕ ((Int × Int × Unit) × (List Cx × Unit)))
  | ((x, n, y, _), (L, _)) => if x < n then (if Ev.lenOk (L ++ [cxOf ⟨x, y⟩]) = true then some (.inl ((IntKind.i64.wrap (x + 1), n, y, ()), (L ++ [cxOf ⟨x, y⟩], ()))) else none) else some (.inr ((n, y, ()), (L, ())))
def cellInM (x : (Int × Int × Int × Unit) × (List Cx × Unit)) : Nat := (x.1.2.1 - x.1.1).toNat
def cellOutStep : (Int × Int × Unit) × (List Cx × Unit) → Option (((Int × Int × Unit) × (List Cx × Unit)) ⊕ (Unit × (List Cx × Unit)))
  | ((y, n, _), (L, _)) => if y < n then (match runBy cellInStep cellInM ((IntKind.i64.wrap (0 - n), n, y, ()), (L, ())) with | some r => some (.inl ((IntKind.i64.wrap (r.1.2.1 + 1), r.1.1, ()), (r.2.1, ()))) | none => none) else some (.inr ((), (L, ())))
def cellOutM (x : (Int × Int × Unit) × (List Cx × Unit)) : Nat := (x.1.2.1 - x.1.1).toNat
def rowP (x y : Int) (k : Nat) : List Pair := (List.range k).map fun (i : Nat) => (⟨x + i, y⟩ : Pair)
theorem rowP_succ (x y : Int) (k : Nat) : rowP x y (k + 1) = ⟨x, y⟩ :: rowP (x + 1) y k := by
  unfold rowP
  rw [List.range_succ_eq_map, List.map_cons, List.map_map]
  congr 1
  · simp
  · apply List.map_congr_left
    intro i _
    simp only [Function.comp]
    congr 1
    omega
theorem cellIn_iter (n y : Int) : ∀ (k : Nat) (x : Int) (L : List Cx) (j : Nat), -100 ≤ x → n ≤ 100 → n = x + k → k ≤ j → L.length + k ≤ 1048576 →
    Ev.iter cellInStep (j + 1) ((x, n, y, ()), (L, ())) = some ((n, y, ()), (L ++ (rowP x y k).map cxOf, ()))
  | 0, x, L, j, h0, h1, h2, _, _ => by
    rw [Ev.iter]
    simp only [cellInStep, if_neg (show ¬ x < n by omega), rowP, List.range_zero, List.map_nil, List.append_nil]
  | k + 1, x, L, j, h0, h1, h2, hj, hl => by
    obtain ⟨j', rfl⟩ : ∃ j', j = j' + 1 := ⟨j - 1, by omega⟩
    rw [Ev.iter]
    simp only [cellInStep, if_pos (show x < n by omega), if_pos (lenOk_iff.2 (show (L ++ [cxOf ⟨x, y⟩]).length ≤ 1048576 by simp; omega)), wr (n := x + 1) (by omega)]
    have := cellIn_iter n y k (x + 1) (L ++ [cxOf ⟨x, y⟩]) j' (by omega) h1 (by omega) (by omega) (by simp; omega)
    rw [rowP_succ, List.map_cons]
    rw [List.append_assoc] at this
    exact this
def cellsP (n : Int) : List Pair := (List.range (2 * n).toNat).flatMap fun (j : Nat) => rowP (-n) (-n + j) (2 * n).toNat
theorem cellOut_iter (n : Int) (hn : 0 ≤ n ∧ n ≤ 16) : ∀ (k : Nat) (y : Int) (L : List Cx) (j : Nat), -16 ≤ y → n = y + k → k ≤ j → L.length + 32 * k ≤ 1048576 →
    Ev.iter cellOutStep (j + 1) ((y, n, ()), (L, ())) = some ((), (L ++ ((List.range k).flatMap fun (i : Nat) => rowP (-n) (y + i) (2 * n).toNat).map cxOf, ()))
  | 0, y, L, j, h0, h2, _, _ => by
    rw [Ev.iter]
    simp only [cellOutStep, if_neg (show ¬ y < n by omega), List.range_zero, List.flatMap_nil, List.map_nil, List.append_nil]
  | k + 1, y, L, j, h0, h2, hj, hl => by
    obtain ⟨j', rfl⟩ : ∃ j', j = j' + 1 := ⟨j - 1, by omega⟩
    have hin : runBy cellInStep cellInM ((IntKind.i64.wrap (0 - n), n, y, ()), (L, ())) = some ((n, y, ()), (L ++ (rowP (-n) y (2 * n).toNat).map cxOf, ())) := by
      rw [wr (n := 0 - n) (by omega), show 0 - n = -n by omega]
      exact cellIn_iter n y (2 * n).toNat (-n) L _ (by omega) (by omega) (by omega) (by simp only [cellInM]; omega) (by omega)
    rw [Ev.iter]
    simp only [cellOutStep, if_pos (show y < n by omega)]
    rw [hin]
    simp only [wr (n := y + 1) (by omega)]
    have hlen : (rowP (-n) y (2 * n).toNat).length ≤ 32 := by unfold rowP; simp; omega
    have := cellOut_iter n hn k (y + 1) (L ++ (rowP (-n) y (2 * n).toNat).map cxOf) j' (by omega) (by omega) (by omega) (by simp; omega)
    rw [this]
    congr 2
    rw [List.range_succ_eq_map, List.flatMap_cons, List.map_append, List.append_assoc, List.flatMap_map]
    congr 3
    · congr 1; simp
    · congr 2
      funext i
      congr 1; omega
theorem cells_run {n : Int} (hn : 0 ≤ n ∧ n ≤ 16) : runBy cellOutStep cellOutM ((IntKind.i64.wrap (0 - n), n, ()), ([], ())) = some ((), ((cellsP n).map cxOf, ())) := by
  rw [wr (n := 0 - n) (by omega), show 0 - n = -n by omega]
  have := cellOut_iter n hn (2 * n).toNat (-n) [] _ (by omega) (by omega) (Nat.le_refl _) (by simp; omega)
  have e : cellOutM ((-n, n, ()), ([], ())) = (2 * n).toNat := by simp only [cellOutM]; omega
  unfold runBy
  rw [e, this]
  rfl
def cellsR (n : Int) : Int := max 0 (min n 16)

/-! Beams -/
def cRight (b : Beam) : Bool := cWhole b.1 && (cWhole b.2 && (!cEq b.1.1 b.1.2 0 0 || !cEq b.2.1 b.2.2 0 0))
def small1 (n : Int) : Bool := decide (-1048576 ≤ n ∧ n ≤ 1048576)
def quadIn (m : Quad) : Bool := small1 m.1 && (small1 m.2.1 && (small1 m.2.2.1 && small1 m.2.2.2))
def rowC (a b : Int) (u v : Cx) : Option Cx := (cMulBits (cxOf ⟨a, 0⟩).1 (cxOf ⟨a, 0⟩).2 u.1 u.2).bind fun x => (cMulBits (cxOf ⟨b, 0⟩).1 (cxOf ⟨b, 0⟩).2 v.1 v.2).bind fun y => cSumBits .add .f64 x.1 x.2 y.1 y.2
def rowPr (a b : Int) (u v : Pair) : Pair := ⟨a * u.x + b * v.x, a * u.y + b * v.y⟩
theorem rowC_CI {a b : Int} {u v : Cx} {p q : Pair} (hu : CI u p) (hv : CI v q) (hp : p.small 1048576) (hq : q.small 1048576) (ha : small1 a = true) (hb : small1 b = true) : ∃ r, rowC a b u v = some r ∧ CI r (rowPr a b p q) := by
  have ha := of_decide_eq_true ha
  have hb := of_decide_eq_true hb
  obtain ⟨x, e1, f1⟩ := cMul_CI (z := cxOf ⟨a, 0⟩) (p := ⟨a, 0⟩) (CI_of ⟨by simp only; omega, by simp only; omega⟩) hu (A := 1048576) ⟨ha, by simp only; omega⟩ hp (by decide)
  obtain ⟨y, e2, f2⟩ := cMul_CI (z := cxOf ⟨b, 0⟩) (p := ⟨b, 0⟩) (CI_of ⟨by simp only; omega, by simp only; omega⟩) hv (A := 1048576) ⟨hb, by simp only; omega⟩ hq (by decide)
  have g1 : Pair.mul ⟨a, 0⟩ p = ⟨a * p.x, a * p.y⟩ := by simp [Pair.mul]
  have g2 : Pair.mul ⟨b, 0⟩ q = ⟨b * q.x, b * q.y⟩ := by simp [Pair.mul]
  rw [g1] at f1
  rw [g2] at f2
  have s : ∀ {a : Int} {p : Pair}, (-1048576 ≤ a ∧ a ≤ 1048576) → p.small 1048576 → Pair.small ⟨a * p.x, a * p.y⟩ 1099511627776 := by
    intro a p ha hp
    have h1 := abs_mul_le ha hp.1
    have h2 := abs_mul_le ha hp.2
    exact ⟨by simp only; omega, by simp only; omega⟩
  obtain ⟨r, e3, f3⟩ := cAdd_CI f1 f2 (s ha hp) (s hb hq) (by decide)
  refine ⟨r, ?_, f3⟩
  unfold rowC
  rw [e1]
  simp only [Option.bind_some]
  rw [e2]
  simp only [Option.bind_some]
  exact e3
def zeroBeam : Beam := ((0, 0), (0, 0))
def cCarry (b : Beam) (m : Quad) : Beam × Bool :=
  if quadIn m = true ∧ cRight b = true then
    (match rowC m.1 m.2.1 b.1 b.2, rowC m.2.2.1 m.2.2.2 b.1 b.2 with
      | some u, some v => if cRight (u, v) = true then ((cxOf (pzOf u), cxOf (pzOf v)), true) else (zeroBeam, false)
      | _, _ => (zeroBeam, false))
  else (zeroBeam, false)
def mulO (a b : Cx) : Cx := (cMulBits a.1 a.2 b.1 b.2).getD (0, 0)
def cSame (a b : Beam) : Bool := cRight a && (cRight b && cEq (mulO a.1 b.2).1 (mulO a.1 b.2).2 (mulO a.2 b.1).1 (mulO a.2 b.1).2)
end Go.Proofs.Ythgpgnijbajlgaa
