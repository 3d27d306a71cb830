/-
  Parts of what comes through; in plain Lean.
-/
import Derived.Test.YtliglpiofomelaaGreatVig
import Derived.Test.YtliglpiofomelaaGreatPup2
namespace Go.Proofs.YtliglpiofomelaaGreat
open Go Ev
set_option linter.unusedVariables false
set_option linter.unusedSimpArgs false
set_option maxRecDepth 100000
def vpBad (a b : RowV) : Bool := !(b.1.inside a.1) || (!(b.2.1.inside a.2.1) || (decide (a.2.1.lo < 0) || (decide (65536 < a.2.1.hi) || (b.2.2.2.2.1 != a.2.2.2.2.1))))
abbrev VpX := (Int × Int × Unit) × (List RowV × List RowV × Unit)
def vpStep : VpX → Option (VpX ⊕ ((Unit × (List RowV × Unit)) ⊕ ((Bool × Unit) × Unit)))
  | ((i, m, _), (A, B, _)) =>
    if i < m then
      if 0 ≤ IntKind.i64.wrap (i.tdiv 2) ∧ IntKind.i64.wrap (i.tdiv 2) < (A.length : Int) then
        match A[(IntKind.i64.wrap (i.tdiv 2)).toNat]? with
        | some a =>
          if 0 ≤ i ∧ i < (B.length : Int) then
            match B[i.toNat]? with
            | some b => if vpBad a b = true then some (.inr (.inr ((false, ()), ()))) else some (.inl ((IntKind.i64.wrap (i + 1), m, ()), (A, B, ())))
            | none => none
          else none
        | none => none
      else none
    else some (.inr (.inl ((), (A, ()))))
def vpM (x : VpX) : Nat := x.2.2.1.length - x.1.1.toNat
def vqBad (a : RowV) : Bool := decide (IntKind.i64.wrap (a.2.2.1 * 65536) < IntKind.i64.wrap (a.2.1.lo * a.2.2.2.2.1)) || decide (IntKind.i64.wrap (a.2.1.hi * a.2.2.2.2.1) < IntKind.i64.wrap (IntKind.i64.wrap (a.2.2.1 + a.2.2.2.1) * 65536))
abbrev VqX := (Int × Int × Unit) × (List RowV × Unit)
def vqStep : VqX → Option (VqX ⊕ ((Unit × Unit) ⊕ ((Bool × Unit) × Unit)))
  | ((i, m, _), (A, _)) =>
    if i < m then
      if 0 ≤ i ∧ i < (A.length : Int) then
        match A[i.toNat]? with
        | some a => if vqBad a = true then some (.inr (.inr ((false, ()), ()))) else some (.inl ((IntKind.i64.wrap (i + 1), m, ()), (A, ())))
        | none => none
      else none
    else some (.inr (.inl ((), ())))
def vqM (x : VqX) : Nat := x.2.1.length - x.1.1.toNat
theorem vp_run {a0 a1 b0 b1 b2 b3 : RowV} (h0 : vpBad a0 b0 = false) (h1 : vpBad a0 b1 = false) (h2 : vpBad a1 b2 = false) (h3 : vpBad a1 b3 = false) :
    runBy vpStep vpM ((0, (([b0, b1, b2, b3] : List RowV).length : Int), ()), ([a0, a1], [b0, b1, b2, b3], ())) = some (.inl ((), ([a0, a1], ()))) := by
  have w1 : IntKind.i64.wrap ((0 : Int) + 1) = 1 := wr (by decide)
  have w2 : IntKind.i64.wrap ((1 : Int) + 1) = 2 := wr (by decide)
  have w3 : IntKind.i64.wrap ((2 : Int) + 1) = 3 := wr (by decide)
  have w4 : IntKind.i64.wrap ((3 : Int) + 1) = 4 := wr (by decide)
  have z0 : IntKind.i64.wrap 0 = 0 := by decide +kernel
  have z1 : IntKind.i64.wrap 1 = 1 := by decide +kernel
  have z2 : IntKind.i64.wrap 2 = 2 := by decide +kernel
  have z3 : IntKind.i64.wrap 3 = 3 := by decide +kernel
  have z4 : IntKind.i64.wrap 4 = 4 := by decide +kernel
  have t0 : IntKind.i64.wrap ((0 : Int).tdiv 2) = 0 := by decide +kernel
  have t1 : IntKind.i64.wrap ((1 : Int).tdiv 2) = 0 := by decide +kernel
  have t2 : IntKind.i64.wrap ((2 : Int).tdiv 2) = 1 := by decide +kernel
  have t3 : IntKind.i64.wrap ((3 : Int).tdiv 2) = 1 := by decide +kernel
  simp only [runBy, vpM, List.length_cons, List.length_nil]
  show Ev.iter vpStep 5 ((0, 4, ()), ([a0, a1], [b0, b1, b2, b3], ())) = _
  have s0 : vpStep ((0, 4, ()), ([a0, a1], [b0, b1, b2, b3], ())) = some (.inl ((1, 4, ()), ([a0, a1], [b0, b1, b2, b3], ()))) := by simp [vpStep, t0, h0, w1, z0, z1, z2, z3, z4]
  have s1 : vpStep ((1, 4, ()), ([a0, a1], [b0, b1, b2, b3], ())) = some (.inl ((2, 4, ()), ([a0, a1], [b0, b1, b2, b3], ()))) := by simp [vpStep, t1, h1, w2, z0, z1, z2, z3, z4]
  have s2 : vpStep ((2, 4, ()), ([a0, a1], [b0, b1, b2, b3], ())) = some (.inl ((3, 4, ()), ([a0, a1], [b0, b1, b2, b3], ()))) := by simp [vpStep, t2, h2, w3, z0, z1, z2, z3, z4]
  have s3 : vpStep ((3, 4, ()), ([a0, a1], [b0, b1, b2, b3], ())) = some (.inl ((4, 4, ()), ([a0, a1], [b0, b1, b2, b3], ()))) := by simp [vpStep, t3, h3, w4, z0, z1, z2, z3, z4]
  have s4 : vpStep ((4, 4, ()), ([a0, a1], [b0, b1, b2, b3], ())) = some (.inr (.inl ((), ([a0, a1], ())))) := by simp [vpStep]
  simp only [Ev.iter, s0, s1, s2, s3, s4]
theorem vq_run {a0 a1 : RowV} (h0 : vqBad a0 = false) (h1 : vqBad a1 = false) : runBy vqStep vqM ((0, (([a0, a1] : List RowV).length : Int), ()), ([a0, a1], ())) = some (.inl ((), ())) := by
  have w1 : IntKind.i64.wrap ((0 : Int) + 1) = 1 := wr (by decide)
  have w2 : IntKind.i64.wrap ((1 : Int) + 1) = 2 := wr (by decide)
  have z0 : IntKind.i64.wrap 0 = 0 := by decide +kernel
  have z1 : IntKind.i64.wrap 1 = 1 := by decide +kernel
  have z2 : IntKind.i64.wrap 2 = 2 := by decide +kernel
  simp only [runBy, vqM, List.length_cons, List.length_nil]
  show Ev.iter vqStep 3 ((0, 2, ()), ([a0, a1], ())) = _
  have s0 : vqStep ((0, 2, ()), ([a0, a1], ())) = some (.inl ((1, 2, ()), ([a0, a1], ()))) := by simp [vqStep, h0, w1, z0, z1, z2]
  have s1 : vqStep ((1, 2, ()), ([a0, a1], ())) = some (.inl ((2, 2, ()), ([a0, a1], ()))) := by simp [vqStep, h1, w2, z0, z1, z2]
  have s2 : vqStep ((2, 2, ()), ([a0, a1], ())) = some (.inr (.inl ((), ()))) := by simp [vqStep]
  simp only [Ev.iter, s0, s1, s2]

/-! Parts -/
theorem part_spec' {s m A : Int} (hs : 0 ≤ s) (hm : 0 ≤ m) (hle : s + m ≤ A) (hA : 1 ≤ A ∧ A ≤ 2000) :
    ∃ u v : Int, (Iv.of (IntKind.i64.wrap (s * 65536)) (IntKind.i64.wrap (IntKind.i64.wrap (s + m) * 65536))).div (Iv.whole A) = ⟨u, v, false⟩ ∧ 0 ≤ u ∧ u ≤ v ∧ v ≤ 65536 ∧ u * A ≤ s * 65536 ∧ (s + m) * 65536 ≤ v * A ∧
      Iv.of (IntKind.i64.wrap (s * 65536)) (IntKind.i64.wrap (IntKind.i64.wrap (s + m) * 65536)) = ⟨s * 65536, (s + m) * 65536, false⟩ := by
  have e0 : IntKind.i64.wrap (s * 65536) = s * 65536 := wr (by omega)
  have e1 : IntKind.i64.wrap (s + m) = s + m := wr (by omega)
  have e2 : IntKind.i64.wrap ((s + m) * 65536) = (s + m) * 65536 := wr (by omega)
  have ra : (⟨s * 65536, (s + m) * 65536, false⟩ : Iv).right = true := right_iff.2 ⟨rfl, by simp only; omega, by simp only; omega, by simp only; omega⟩
  have rb : (⟨A * 65536, A * 65536, false⟩ : Iv).right = true := right_iff.2 ⟨rfl, by simp only; omega, by simp only; omega, by simp only; omega⟩
  have ea : Iv.of (s * 65536) ((s + m) * 65536) = ⟨s * 65536, (s + m) * 65536, false⟩ := by unfold Iv.of; rw [if_pos ra]
  have eb : Iv.whole A = ⟨A * 65536, A * 65536, false⟩ := by
    unfold Iv.whole Iv.point Iv.of
    rw [if_pos (numIn_iff.2 (by omega)), if_pos rb]
  rw [e0, e1, e2, ea, eb]
  have h0 : (⟨A * 65536, A * 65536, false⟩ : Iv).has 0 = false := by simp [Iv.has, rb]; omega
  rw [div_eq ra rb h0]
  simp only
  have hD : 0 < A * 65536 := by omega
  have l1 : 0 ≤ fl (s * 65536 * 65536) (A * 65536) := (le_fl_iff hD).2 (by omega)
  have l2 : cl ((s + m) * 65536 * 65536) (A * 65536) ≤ 65536 := (cl_le_iff hD).2 (by omega)
  have l3 : fl (s * 65536 * 65536) (A * 65536) ≤ fl ((s + m) * 65536 * 65536) (A * 65536) := fl_mono hD (by omega)
  have l4 : cl (s * 65536 * 65536) (A * 65536) ≤ cl ((s + m) * 65536 * 65536) (A * 65536) := cl_mono hD (by omega)
  have l5 := fl_le_cl (s * 65536 * 65536) (A * 65536)
  have l6 := fl_le (s * 65536 * 65536) hD
  have l7 := (cl_le_iff (q := cl ((s + m) * 65536 * 65536) (A * 65536)) hD).1 (Int.le_refl _)
  generalize fl (s * 65536 * 65536) (A * 65536) = u at *
  generalize cl ((s + m) * 65536 * 65536) (A * 65536) = v at *
  generalize fl ((s + m) * 65536 * 65536) (A * 65536) = u' at *
  generalize cl (s * 65536 * 65536) (A * 65536) = v' at *
  have m1 : min4 u u u' u' = u := by unfold min4; omega
  have m2 : max4 v' v' v v = v := by unfold max4; omega
  rw [m1, m2]
  have rc : (⟨u, v, false⟩ : Iv).right = true := right_iff.2 ⟨rfl, by simp only; omega, by simp only; omega, by simp only; omega⟩
  refine ⟨u, v, by unfold Iv.of; rw [if_pos rc], l1, by omega, l2, ?_, ?_, by first | trivial | rfl⟩
  · have : u * A * 65536 ≤ s * 65536 * 65536 := by rw [Int.mul_assoc]; exact l6
    omega
  · have : (s + m) * 65536 * 65536 ≤ v * A * 65536 := by rw [Int.mul_assoc v]; exact l7
    omega
def outOf (n : Int) (q : List Pair) : Nat := q.countP fun z => !(discOf z n == 2)
theorem outOf_cons (n : Int) (z : Pair) (q : List Pair) : outOf n (z :: q) = outOf n q + if discOf z n = 2 then 0 else 1 := by
  unfold outOf
  rw [List.countP_cons]
  by_cases c : discOf z n = 2 <;> simp [c]
theorem all_fold (o : Iv) (l : List Surf) (x y : Iv) (n : Int) : ∀ (q : List Pair) (r : DRep) (m : Nat), r.2.2.1 = (m : Int) → m + q.length ≤ 2000 → (q.foldl (scanOne o l x y n) r).2.2.1 = ((m + outOf n q : Nat) : Int)
  | [], r, m, h, _ => h
  | z :: q, r, m, h, hm => by
    simp only [List.length_cons, List.foldl_cons] at *
    rw [outOf_cons]
    by_cases d : discOf z n = 2
    · have e : scanOne o l x y n r z = r := by unfold scanOne; rw [if_pos d]
      rw [e, if_pos d, Nat.add_zero]
      exact all_fold o l x y n q r m h (by omega)
    · have e : (scanOne o l x y n r z).2.2.1 = ((m + 1 : Nat) : Int) := by
        unfold scanOne
        rw [if_neg d, tally_T, h]
        simp only
        rw [wr (n := (m : Int) + 1) (by omega)]
        rfl
      rw [if_neg d, show m + (outOf n q + 1) = m + 1 + outOf n q by omega]
      exact all_fold o l x y n q _ (m + 1) e (by omega)
theorem out_all : decide (1 ≤ outOf 1 (cellsP 1)) = true ∧ decide (1 ≤ outOf 2 (cellsP 2)) = true ∧ decide (1 ≤ outOf 3 (cellsP 3)) = true := ⟨by kernel_rfl, by kernel_rfl, by kernel_rfl⟩
theorem out_pos {n : Int} (hn : 1 ≤ n ∧ n ≤ 3) : 1 ≤ outOf n (cellsP n) := by
  obtain ⟨h1, h2, h3⟩ := out_all
  have : n = 1 ∨ n = 2 ∨ n = 3 := by omega
  rcases this with rfl | rfl | rfl
  · exact of_decide_eq_true h1
  · exact of_decide_eq_true h2
  · exact of_decide_eq_true h3
/-- What is so of a band's counts. -/
structure BandL (r : DRep) (n : Int) : Prop where
  s0 : 0 ≤ r.1
  m0 : 0 ≤ r.2.1
  le : r.1 + r.2.1 ≤ r.2.2.1
  all : r.2.2.1 = (outOf n (cellsP n) : Int)
theorem scan_bandL {o : Iv} {l : List Surf} {x y : Iv} {n : Int} (hs : sizedC l n = true) (hx : x.right = true) (hy : y.right = true) : BandL (scanOf o l x y n).1 n := by
  have hn := (sizedC_iff.1 hs).2
  have hlen := cellsP_len (n := n) (by omega)
  have e : scanOf o l x y n = (finD (scanFold o l x y n), 0) := by unfold scanOf; rw [if_pos ⟨hs, hx, hy⟩]
  have c : Cnt (scanFold o l x y n) (0 + (cellsP n).length) := cnt_fold o l x y n (cellsP n) zeroD 0 (by omega) zero_cnt
  have a := all_fold o l x y n (cellsP n) zeroD 0 rfl (by omega)
  rw [Nat.zero_add] at a
  obtain ⟨f1, f2, f3, _⟩ := finD_fst (scanFold o l x y n)
  rw [e]
  exact ⟨by simp only [f1]; exact c.s0, by simp only [f2]; exact c.m0, by simp only [f1, f2, f3]; exact c.le, by simp only [f3]; exact a⟩
theorem scan_narrow {o : Iv} {l : List Surf} (hf : ∀ s ∈ l, s.bent = false) {x x' y : Iv} {n : Int} (hs : sizedC l n = true) (hx : x.right = true) (hx' : x'.right = true) (hy : y.right = true) (hsub : Sub x' x) :
    (scanOf o l x y n).1.1 ≤ (scanOf o l x' y n).1.1 ∧ (scanOf o l x' y n).1.1 + (scanOf o l x' y n).1.2.1 ≤ (scanOf o l x y n).1.1 + (scanOf o l x y n).1.2.1 := by
  have hn := (sizedC_iff.1 hs).2
  have hlen := cellsP_len (n := n) (by omega)
  have e : scanOf o l x y n = (finD (scanFold o l x y n), 0) := by unfold scanOf; rw [if_pos ⟨hs, hx, hy⟩]
  have e' : scanOf o l x' y n = (finD (scanFold o l x' y n), 0) := by unfold scanOf; rw [if_pos ⟨hs, hx', hy⟩]
  have hN : Nar (scanFold o l x' y n) (scanFold o l x y n) := nar_fold hf hsub (Sub.refl y) n (cellsP n) zeroD zeroD 0 (by omega) zero_cnt zero_cnt ⟨rfl, Int.le_refl _, Int.le_refl _, fun e => by cases e⟩
  obtain ⟨f1, f2, _⟩ := finD_fst (scanFold o l x y n)
  obtain ⟨g1, g2, _⟩ := finD_fst (scanFold o l x' y n)
  rw [e, e']
  simp only [f1, f2, g1, g2]
  exact ⟨hN.sure, hN.sum⟩
theorem vp_not {o : Iv} {l : List Surf} (hf : ∀ s ∈ l, s.bent = false) {n h : Int} {i k : Nat} (hs : sizedC l n = true) (hn : n ≤ 3) (hh : 1 ≤ h ∧ h ≤ 500000) (hi : i < 4) (hk : k < 2) (hik : i = 2 * k ∨ i = 2 * k + 1) :
    vpBad (rowVC (bandOf o l (2 * h) n (k : Int))) (rowVC (bandOf o l h n (i : Int))) = false ∧ vqBad (rowVC (bandOf o l (2 * h) n (k : Int))) = false := by
  obtain ⟨ea, ra, a1, a2⟩ := filmK_right (step := 2 * h) (k := k) (by omega) (by omega)
  obtain ⟨eb, rb, b1, b2⟩ := filmK_right (step := h) (k := i) (by omega) (by omega)
  have hn1 := (sizedC_iff.1 hs).2
  have hik2 : (k : Int) * (2 * h) ≤ i * h ∧ (i : Int) * h + h ≤ k * (2 * h) + 2 * h := by
    rcases hik with e | e
    · subst e
      have : ((2 * k : Nat) : Int) * h = k * (2 * h) := by rw [Int.natCast_mul, Int.mul_comm ((2 : Nat) : Int), Int.mul_assoc]; rfl
      omega
    · subst e
      have : ((2 * k + 1 : Nat) : Int) * h = k * (2 * h) + h := by rw [Int.natCast_add, Int.add_mul, Int.natCast_mul, Int.mul_comm ((2 : Nat) : Int), Int.mul_assoc]; simp
      omega
  have hsub : Sub (filmK h i) (filmK (2 * h) k) := fun _ => ⟨rb, by rw [ea, eb]; exact hik2.1, by rw [ea, eb]; simp only; omega⟩
  have la := scan_bandL (o := o) hs ra point0_right
  have lb := scan_bandL (o := o) hs rb point0_right
  have hN := scan_narrow (o := o) hf hs ra rb point0_right hsub
  have hp := out_pos (n := n) (by omega)
  have hle : outOf n (cellsP n) ≤ 1024 := Nat.le_trans List.countP_le_length (cellsP_len (by omega))
  have hfi : (filmK h i).inside (filmK (2 * h) k) = true := sub_inside hsub ra
  unfold vpBad vqBad rowVC bandOf
  simp only [repC]
  generalize (scanOf o l (filmK (2 * h) k) (Iv.point 0) n).1 = R at *
  generalize (scanOf o l (filmK h i) (Iv.point 0) n).1 = T at *
  obtain ⟨s0, m0, le, al⟩ := la
  obtain ⟨t0, u0, le', al'⟩ := lb
  obtain ⟨u, v, e1, p1, p2, p3, p4, p5, e2⟩ := part_spec' s0 m0 le (by omega)
  obtain ⟨u', v', e1', q1, q2, q3, q4, q5, e2'⟩ := part_spec' t0 u0 le' (by omega)
  have hpr : (⟨u, v, false⟩ : Iv).right = true := right_iff.2 ⟨rfl, by simp only; omega, by simp only; omega, by simp only; omega⟩
  have hs2 : Sub (Iv.of (IntKind.i64.wrap (T.1 * 65536)) (IntKind.i64.wrap (IntKind.i64.wrap (T.1 + T.2.1) * 65536))) (Iv.of (IntKind.i64.wrap (R.1 * 65536)) (IntKind.i64.wrap (IntKind.i64.wrap (R.1 + R.2.1) * 65536))) := by
    rw [e2, e2']
    intro _
    exact ⟨right_iff.2 ⟨rfl, by simp only; omega, by simp only; omega, by simp only; omega⟩, by simp only; omega, by simp only; omega⟩
  have hpi : (⟨u', v', false⟩ : Iv).inside ⟨u, v, false⟩ = true := by
    have hd := div_sub hs2 (Sub.refl (Iv.whole R.2.2.1))
    rw [e1, show R.2.2.1 = T.2.2.1 by rw [al, al'], e1'] at hd
    exact sub_inside hd hpr
  have B1 : R.1 + R.2.1 ≤ 1024 := by omega
  rw [al] at p4 p5
  have eR : partOf R = ⟨u, v, false⟩ := e1
  have eT : partOf T = ⟨u', v', false⟩ := e1'
  have w1 : IntKind.i64.wrap (R.1 * 65536) = R.1 * 65536 := wr (by omega)
  have w2 : IntKind.i64.wrap (R.1 + R.2.1) = R.1 + R.2.1 := wr (by omega)
  have w3 : IntKind.i64.wrap ((R.1 + R.2.1) * 65536) = (R.1 + R.2.1) * 65536 := wr (by omega)
  have hu : u * (outOf n (cellsP n) : Int) ≤ R.1 * 65536 := p4
  have hu0 : 0 ≤ u * (outOf n (cellsP n) : Int) := Int.mul_nonneg p1 (by omega)
  have hv : v * (outOf n (cellsP n) : Int) ≤ 65536 * 1024 := Int.mul_le_mul p3 (by omega) (by omega) (by omega)
  have w4 : IntKind.i64.wrap (u * (outOf n (cellsP n) : Int)) = u * (outOf n (cellsP n) : Int) := wr (by omega)
  have w5 : IntKind.i64.wrap (v * (outOf n (cellsP n) : Int)) = v * (outOf n (cellsP n) : Int) := wr (by omega)
  constructor
  · simp [hfi, hpi, eR, eT, al, al']
    omega
  · simp only [eR, al, w1, w2, w3, w4, w5, Bool.or_eq_false_iff, decide_eq_false_iff_not]
    omega
theorem table_two {o : Iv} {l : List Surf} {step n : Int} (h : tabOk l step 2 n = true) : (tableOf o l step 2 n).1.map rowVC = [rowVC (bandOf o l step n ((0 : Nat) : Int)), rowVC (bandOf o l step n ((1 : Nat) : Int))] ∧ (tableOf o l step 2 n).2 = 0 := by
  unfold tableOf; rw [if_pos h]; exact ⟨rfl, rfl⟩
theorem table_four {o : Iv} {l : List Surf} {step n : Int} (h : tabOk l step 4 n = true) : (tableOf o l step 4 n).1.map rowVC = [rowVC (bandOf o l step n ((0 : Nat) : Int)), rowVC (bandOf o l step n ((1 : Nat) : Int)), rowVC (bandOf o l step n ((2 : Nat) : Int)), rowVC (bandOf o l step n ((3 : Nat) : Int))] ∧ (tableOf o l step 4 n).2 = 0 := by
  unfold tableOf; rw [if_pos h]; exact ⟨rfl, rfl⟩
end Go.Proofs.YtliglpiofomelaaGreat
