/-
  Discs and cells: the loops of their law; in plain Lean.
-/
import Derived.Test.YthgpgnijbajlgaaGsD
namespace Go.Proofs.Ythgpgnijbajlgaa
open Go Ev
set_option linter.unusedVariables false
set_option linter.unusedSimpArgs false

def inDW (a b i j n : Int) : Bool := decide (IntKind.i64.wrap (IntKind.i64.wrap (IntKind.i64.wrap (IntKind.i64.wrap (10 * a) + i) * IntKind.i64.wrap (IntKind.i64.wrap (10 * a) + i)) + IntKind.i64.wrap (IntKind.i64.wrap (IntKind.i64.wrap (10 * b) + j) * IntKind.i64.wrap (IntKind.i64.wrap (10 * b) + j))) ≤ IntKind.i64.wrap (IntKind.i64.wrap (100 * n) * n))
theorem inDW_eq {a b i j n : Int} (ha : -25 ≤ a ∧ a < 25) (hb : -25 ≤ b ∧ b < 25) (hi : 0 ≤ i ∧ i ≤ 10) (hj : 0 ≤ j ∧ j ≤ 10) (hn : 1 ≤ n ∧ n ≤ 20) : inDW a b i j n = inD a b n i j := by
  have s1 := sq_bd (a := 10 * a + i) (B := 1000) (by omega) (by decide)
  have s2 := sq_bd (a := 10 * b + j) (B := 1000) (by omega) (by decide)
  have s3 := abs_mul_le (a := 100 * n) (b := n) (A := 2000) (B := 20) (by omega) (by omega)
  have e : 100 * n * n = 100 * (n * n) := Int.mul_assoc 100 n n
  unfold inDW inD
  rw [wr (n := 10 * a) (by omega), wr (n := 10 * b) (by omega), wr (n := 10 * a + i) (by omega), wr (n := 10 * b + j) (by omega), wr (n := (10 * a + i) * (10 * a + i)) (by omega), wr (n := (10 * b + j) * (10 * b + j)) (by omega), wr (n := 100 * n) (by omega), wr (n := 100 * n * n) (by omega), wr (n := (10 * a + i) * (10 * a + i) + (10 * b + j) * (10 * b + j)) (by omega), e]
def dBad (d a b i j n : Int) : Prop := (d = 1 ∧ inDW a b i j n = false) ∨ (d = 2 ∧ inDW a b i j n = true)
instance (d a b i j n : Int) : Decidable (dBad d a b i j n) := by unfold dBad; infer_instance
abbrev DinX := (Int × Int × Int × Int × Int × Int × Unit) × Unit
abbrev DinY := ((Int × Int × Int × Int × Int × Unit) × Unit) ⊕ ((Bool × Unit) × Unit)
def dinStep : DinX → Option (DinX ⊕ DinY)
  | ((j, a, b, i, n, d, _), _) =>
    if j ≤ 10 then (if dBad d a b i j n then some (.inr (.inr ((false, ()), ()))) else some (.inl ((IntKind.i64.wrap (j + 1), a, b, i, n, d, ()), ())))
    else some (.inr (.inl ((a, b, i, n, d, ()), ())))
def dinM (_ : DinX) : Nat := 11
theorem din_iter {d a b i n : Int} (h : ∀ j, 0 ≤ j ∧ j ≤ 10 → ¬ dBad d a b i j n) : ∀ (k : Nat) (j : Int) (m : Nat), 0 ≤ j → j + k = 11 → k ≤ m → Ev.iter dinStep (m + 1) ((j, a, b, i, n, d, ()), ()) = some (.inl ((a, b, i, n, d, ()), ()))
  | 0, j, m, h0, h1, _ => by
    rw [Ev.iter]
    simp only [dinStep, if_neg (show ¬ j ≤ 10 by omega)]
  | k + 1, j, m, h0, h1, hk => by
    obtain ⟨m', rfl⟩ : ∃ m', m = m' + 1 := ⟨m - 1, by omega⟩
    rw [Ev.iter]
    simp only [dinStep, if_pos (show j ≤ 10 by omega), if_neg (h j (by omega)), wr (n := j + 1) (by omega)]
    exact din_iter h k (j + 1) m' (by omega) (by omega) (by omega)
theorem din_run {d a b i n : Int} (h : ∀ j, 0 ≤ j ∧ j ≤ 10 → ¬ dBad d a b i j n) : runBy dinStep dinM ((0, a, b, i, n, d, ()), ()) = some (.inl ((a, b, i, n, d, ()), ())) := din_iter h 11 0 11 (by decide) (by decide) (by decide)
abbrev DoutX := (Int × Int × Int × Int × Int × Unit) × Unit
abbrev DoutY := ((Int × Int × Int × Int × Unit) × Unit) ⊕ ((Bool × Unit) × Unit)
def doutStep : DoutX → Option (DoutX ⊕ DoutY)
  | ((i, a, b, n, d, _), _) =>
    if i ≤ 10 then match runBy dinStep dinM ((0, a, b, i, n, d, ()), ()) with
      | some (.inl y) => some (.inl ((IntKind.i64.wrap (y.1.2.2.1 + 1), y.1.1, y.1.2.1, y.1.2.2.2.1, y.1.2.2.2.2.1, ()), ()))
      | some (.inr y) => some (.inr (.inr ((y.1.1, ()), ())))
      | none => none
    else some (.inr (.inl ((a, b, n, d, ()), ())))
def doutM (_ : DoutX) : Nat := 11
theorem dout_iter {d a b n : Int} (h : ∀ i j, 0 ≤ i ∧ i ≤ 10 → 0 ≤ j ∧ j ≤ 10 → ¬ dBad d a b i j n) : ∀ (k : Nat) (i : Int) (m : Nat), 0 ≤ i → i + k = 11 → k ≤ m → Ev.iter doutStep (m + 1) ((i, a, b, n, d, ()), ()) = some (.inl ((a, b, n, d, ()), ()))
  | 0, i, m, h0, h1, _ => by
    rw [Ev.iter]
    simp only [doutStep, if_neg (show ¬ i ≤ 10 by omega)]
  | k + 1, i, m, h0, h1, hk => by
    obtain ⟨m', rfl⟩ : ∃ m', m = m' + 1 := ⟨m - 1, by omega⟩
    rw [Ev.iter]
    simp only [doutStep, if_pos (show i ≤ 10 by omega), din_run (fun j => h i j (by omega)), wr (n := i + 1) (by omega)]
    exact dout_iter h k (i + 1) m' (by omega) (by omega) (by omega)
theorem dout_run {d a b n : Int} (h : ∀ i j, 0 ≤ i ∧ i ≤ 10 → 0 ≤ j ∧ j ≤ 10 → ¬ dBad d a b i j n) : runBy doutStep doutM ((0, a, b, n, d, ()), ()) = some (.inl ((a, b, n, d, ()), ())) := dout_iter h 11 0 11 (by decide) (by decide) (by decide)
theorem inDisc_CI {p : Pair} {n : Int} (hp : p.small 1048576) : cInDisc (cxOf p) n = discOf p n := by
  unfold cInDisc
  rw [whole_CI (CI_small hp), if_pos (decide_eq_true hp), cV_CI (CI_small hp)]
theorem disc_bad {a b n : Int} (ha : -25 ≤ a ∧ a < 25) (hb : -25 ≤ b ∧ b < 25) (hn : 1 ≤ n ∧ n ≤ 20) (i j : Int) (hi : 0 ≤ i ∧ i ≤ 10) (hj : 0 ≤ j ∧ j ≤ 10) : ¬ dBad (discOf ⟨a, b⟩ n) a b i j n := by
  unfold dBad
  rw [inDW_eq ha hb hi hj hn]
  rintro (⟨h1, h2⟩ | ⟨h1, h2⟩)
  · have := inD_yes (disc_yes (by omega) h1) hi hj
    rw [this] at h2; cases h2
  · have := inD_no (p := ⟨a, b⟩) ⟨by simp only; omega, by simp only; omega⟩ (disc_no (by omega) h1) hi hj
    rw [this] at h2; cases h2
/-! Parts -/
abbrev FineX := (Int × Int × Int × Int × Int × Unit) × Unit
abbrev FineY := ((Int × Unit) × Unit) ⊕ ((Bool × Unit) × Unit)
def fineD (k a b n : Int) : Int := cInDisc (fInt (IntKind.i64.wrap (IntKind.i64.wrap (2 * a) + k.tmod 2)), fInt (IntKind.i64.wrap (IntKind.i64.wrap (2 * b) + IntKind.i64.wrap (k.tdiv 2)))) (IntKind.i64.wrap (2 * n))
def fineStep : FineX → Option (FineX ⊕ FineY)
  | ((k, a, b, n, d, _), _) =>
    if k < 4 then (if d ≠ 0 ∧ fineD k a b n ≠ d then some (.inr (.inr ((false, ()), ()))) else some (.inl ((IntKind.i64.wrap (k + 1), a, b, n, d, ()), ())))
    else some (.inr (.inl ((n, ()), ())))
def fineM (_ : FineX) : Nat := 4
theorem fine_ok {a b n : Int} (ha : -25 ≤ a ∧ a < 25) (hb : -25 ≤ b ∧ b < 25) (hn : 1 ≤ n ∧ n ≤ 20) {k : Int} (hk : 0 ≤ k ∧ k < 4) : ¬ (discOf ⟨a, b⟩ n ≠ 0 ∧ fineD k a b n ≠ discOf ⟨a, b⟩ n) := by
  have e1 : k.tmod 2 = k % 2 := Int.tmod_eq_emod_of_nonneg (by omega)
  have e2 : k.tdiv 2 = k / 2 := Int.tdiv_eq_ediv_of_nonneg (by omega)
  have e : fineD k a b n = discOf ⟨2 * a + k % 2, 2 * b + k / 2⟩ (2 * n) := by
    unfold fineD
    rw [e1, e2, wr (n := k / 2) (by omega), wr (n := 2 * a) (by omega), wr (n := 2 * b) (by omega), wr (n := 2 * a + k % 2) (by omega), wr (n := 2 * b + k / 2) (by omega), wr (n := 2 * n) (by omega)]
    exact inDisc_CI (p := ⟨2 * a + k % 2, 2 * b + k / 2⟩) ⟨by simp only; omega, by simp only; omega⟩
  rw [e]
  rintro ⟨h0, h1⟩
  have hc : discOf ⟨a, b⟩ n = 0 ∨ discOf ⟨a, b⟩ n = 1 ∨ discOf ⟨a, b⟩ n = 2 := by
    unfold discOf
    split
    · exact .inr (.inr rfl)
    · split
      · exact .inl rfl
      · exact .inr (.inl rfl)
  have hs : Pair.small ⟨a, b⟩ 100 := ⟨by simp only; omega, by simp only; omega⟩
  rcases hc with h | h | h
  · exact h0 h
  · exact h1 ((fine_yes hs (by omega) (disc_yes (by omega) h) (by omega) (by omega)).trans h.symm)
  · exact h1 ((fine_no hs (by omega) (disc_no (by omega) h) (by omega) (by omega)).trans h.symm)
theorem fine_iter {d a b n : Int} (h : ∀ k, 0 ≤ k ∧ k < 4 → ¬ (d ≠ 0 ∧ fineD k a b n ≠ d)) : ∀ (q : Nat) (k : Int) (m : Nat), 0 ≤ k → k + q = 4 → q ≤ m → Ev.iter fineStep (m + 1) ((k, a, b, n, d, ()), ()) = some (.inl ((n, ()), ()))
  | 0, k, m, h0, h1, _ => by
    rw [Ev.iter]
    simp only [fineStep, if_neg (show ¬ k < 4 by omega)]
  | q + 1, k, m, h0, h1, hk => by
    obtain ⟨m', rfl⟩ : ∃ m', m = m' + 1 := ⟨m - 1, by omega⟩
    rw [Ev.iter]
    simp only [fineStep, if_pos (show k < 4 by omega), if_neg (h k (by omega)), wr (n := k + 1) (by omega)]
    exact fine_iter h q (k + 1) m' (by omega) (by omega) (by omega)
theorem fine_run {a b n : Int} (ha : -25 ≤ a ∧ a < 25) (hb : -25 ≤ b ∧ b < 25) (hn : 1 ≤ n ∧ n ≤ 20) : runBy fineStep fineM ((0, a, b, n, discOf ⟨a, b⟩ n, ()), ()) = some (.inl ((n, ()), ())) :=
  fine_iter (fun _ hk => fine_ok ha hb hn hk) 4 0 4 (by decide) (by decide) (by decide)
/-! Places -/
abbrev PlaX := (Int × Int × Int × Unit) × (List Cx × Unit)
abbrev PlaY := (Unit × Unit) ⊕ ((Bool × Unit) × Unit)
def placeC (i m : Int) : Cx := (fInt (IntKind.i64.wrap (i.tmod (IntKind.i64.wrap (2 * m)) - m)), fInt (IntKind.i64.wrap (IntKind.i64.wrap (i.tdiv (IntKind.i64.wrap (2 * m))) - m)))
def placeStep : PlaX → Option (PlaX ⊕ PlaY)
  | ((i, k, m, _), (l, _)) =>
    if i < k then
      if 0 ≤ i ∧ i < (l.length : Int) then
        match l[i.toNat]? with
        | some z => if IntKind.i64.wrap (2 * m) ≠ 0 then (if cEq z.1 z.2 (placeC i m).1 (placeC i m).2 = true then some (.inl ((IntKind.i64.wrap (i + 1), k, m, ()), (l, ()))) else some (.inr (.inr ((false, ()), ())))) else none
        | none => none
      else none
    else some (.inr (.inl ((), ())))
def placeM (x : PlaX) : Nat := x.2.1.length
theorem place_eq {m i : Nat} (hm : 1 ≤ m ∧ m ≤ 16) (hi : i < 4 * m * m) : placeC (i : Int) (m : Int) = cxOf ⟨(i : Int) % (2 * m) - m, (i : Int) / (2 * m) - m⟩ := by
  have hb : 4 * m * m ≤ 1024 := Nat.le_trans (Nat.mul_le_mul (show 4 * m ≤ 64 by omega) hm.2) (by decide)
  have e1 : (i : Int).tmod (2 * (m : Int)) = (i : Int) % (2 * m) := Int.tmod_eq_emod_of_nonneg (by omega)
  have e2 : (i : Int).tdiv (2 * (m : Int)) = (i : Int) / (2 * m) := Int.tdiv_eq_ediv_of_nonneg (by omega)
  have b1 : 0 ≤ (i : Int) % (2 * m) ∧ (i : Int) % (2 * m) < 2 * m := ⟨Int.emod_nonneg _ (by omega), Int.emod_lt_of_pos _ (by omega)⟩
  have b2 : 0 ≤ (i : Int) / (2 * m) ∧ (i : Int) / (2 * m) ≤ i := ⟨Int.ediv_nonneg (by omega) (by omega), Int.ediv_le_self _ (by omega)⟩
  unfold placeC
  rw [wr (n := 2 * (m : Int)) (by omega), e1, e2, wr (n := (i : Int) / (2 * m)) (by omega), wr (n := (i : Int) % (2 * m) - m) (by omega), wr (n := (i : Int) / (2 * m) - m) (by omega)]
  rfl
theorem place_iter {m : Nat} (hm : 1 ≤ m ∧ m ≤ 16) {l : List Cx} (hl : l = (cellsP (m : Int)).map cxOf) : ∀ (q i : Nat) (j : Nat), i + q = 4 * m * m → q ≤ j → Ev.iter placeStep (j + 1) (((i : Int), (l.length : Int), (m : Int), ()), (l, ())) = some (.inl ((), ()))
  | 0, i, j, h1, _ => by
    have hlen : l.length = 4 * m * m := by
      rw [hl, List.length_map, show cellsP (m : Int) = _ from cells_list ⟨m, by omega⟩]; simp
    rw [Ev.iter]
    simp only [placeStep, if_neg (show ¬ (i : Int) < (l.length : Int) by omega)]
  | q + 1, i, j, h1, hj => by
    have hlen : l.length = 4 * m * m := by
      rw [hl, List.length_map, show cellsP (m : Int) = _ from cells_list ⟨m, by omega⟩]; simp
    have hb : 4 * m * m ≤ 1024 := Nat.le_trans (Nat.mul_le_mul (show 4 * m ≤ 64 by omega) hm.2) (by decide)
    obtain ⟨j', rfl⟩ : ∃ j', j = j' + 1 := ⟨j - 1, by omega⟩
    have hg : l[((i : Int)).toNat]? = some (cxOf ⟨(i : Int) % (2 * m) - m, (i : Int) / (2 * m) - m⟩) := by
      rw [show ((i : Int)).toNat = i from by omega, hl, show cellsP (m : Int) = _ from cells_list ⟨m, by omega⟩]
      rw [List.getElem?_map, List.getElem?_map, List.getElem?_range (show i < 4 * m * m by omega)]
      rfl
    have hc : CI (cxOf ⟨(i : Int) % (2 * m) - m, (i : Int) / (2 * m) - m⟩) ⟨(i : Int) % (2 * m) - m, (i : Int) / (2 * m) - m⟩ := by
      have b1 : 0 ≤ (i : Int) % (2 * m) ∧ (i : Int) % (2 * m) < 2 * m := ⟨Int.emod_nonneg _ (by omega), Int.emod_lt_of_pos _ (by omega)⟩
      have b2 : 0 ≤ (i : Int) / (2 * m) ∧ (i : Int) / (2 * m) ≤ i := ⟨Int.ediv_nonneg (by omega) (by omega), Int.ediv_le_self _ (by omega)⟩
      exact CI_small ⟨by simp only; omega, by simp only; omega⟩
    rw [Ev.iter]
    simp only [placeStep, if_pos (show (i : Int) < (l.length : Int) by omega), if_pos (show 0 ≤ (i : Int) ∧ (i : Int) < (l.length : Int) by omega), hg, if_pos (show IntKind.i64.wrap (2 * (m : Int)) ≠ 0 by rw [wr (by omega)]; omega), place_eq hm (show i < 4 * m * m by omega), cEq_CI hc hc, decide_true, if_true, wr (n := (i : Int) + 1) (by omega)]
    have := place_iter hm hl q (i + 1) j' (by omega) (by omega)
    rw [show ((i + 1 : Nat) : Int) = (i : Int) + 1 from by omega] at this
    exact this
theorem place_run {m : Nat} (hm : 1 ≤ m ∧ m ≤ 16) : runBy placeStep placeM ((0, (((cellsP (m : Int)).map cxOf).length : Int), (m : Int), ()), ((cellsP (m : Int)).map cxOf, ())) = some (.inl ((), ())) := by
  have hlen : ((cellsP (m : Int)).map cxOf).length = 4 * m * m := by
    rw [List.length_map, show cellsP (m : Int) = _ from cells_list ⟨m, by omega⟩]; simp
  exact place_iter hm rfl (4 * m * m) 0 _ (by omega) (by show _ ≤ ((cellsP (m : Int)).map cxOf).length; omega)
theorem cells_len {m : Nat} (hm : 1 ≤ m ∧ m ≤ 16) : (((cellsP (m : Int)).map cxOf).length : Int) = 4 * m * m := by
  rw [List.length_map, show cellsP (m : Int) = _ from cells_list ⟨m, by omega⟩]; simp
end Go.Proofs.Ythgpgnijbajlgaa
