/-
  Where a ray crosses the axis; in plain Lean.
-/
import Derived.Test.YthdpjmkknodmpaaLess2
import Derived.Test.YthdpjmkknodmpaaCore9
namespace Go.Proofs.Ythdpjmkknodmpaa
open Go
set_option linter.unusedVariables false
set_option linter.unusedSimpArgs false

def lastOf (l : List Surf) : Iv := if l.length = 0 then Iv.none else match l[((l.length : Int) - 1).toNat]? with | some s => s.at_ | none => Iv.none
def axRay (h : Iv) : Ray := ⟨⟨h, Iv.point 0, Iv.point 0⟩, ⟨Iv.point 0, Iv.point 0, Iv.point 65536⟩⟩
def crossOf (l : List Surf) (h f : Iv) : Iv × Int := ((throughOf l (axRay h) ((lastOf l).add f)).1, (throughOf l (axRay h) ((lastOf l).add f)).2.2)
def signIv (x : Iv) (k : Int) : Int := if k = 1 then (if 0 < x.lo then 1 else if x.hi < 0 then -1 else 0) else 0
def signOf (l : List Surf) (h : Iv) (n : Int) : Int := signIv (crossOf l h (Iv.point n)).1 (crossOf l h (Iv.point n)).2
def zeroIv : Iv := ⟨0, 0, false⟩
def halfS : Surf := ⟨false, false, (Iv.whole 1).div (Iv.whole 8), Iv.whole 1, Iv.point 0, Iv.point 0, Iv.whole 10, Iv.whole 9, (Iv.whole 1).div (Iv.whole 2)⟩
def flatS : Surf := { halfS with curve := Iv.point 0, ratio := Iv.whole 1 }

/-! Halves -/
abbrev FocX := (Int × Int × Int × Int × Unit) × (Iv × Iv × Iv × List Surf × Unit)
abbrev FocY := ((Int × Int × Unit) × (Iv × Unit)) ⊕ ((Int × Unit) × (Iv × Unit))
def focStep (md : Int → Int → Int) (ok : Int → Int → Bool) : FocX → Option (FocX ⊕ FocY)
  | ((lo, hi, most, first, _), (o, h, res, l, _)) =>
    if most < IntKind.i64.wrap (hi - lo) then
      if ok lo hi = true then
        if Ev.lenOk l = true then
          if signOf l h (md lo hi) = 0 then some (.inr (.inr ((8, ()), (zeroIv, ()))))
          else if signOf l h (md lo hi) = first then some (.inl ((md lo hi, hi, most, first, ()), (o, h, res, l, ())))
          else some (.inl ((lo, md lo hi, most, first, ()), (o, h, res, l, ())))
        else none
      else none
    else some (.inr (.inl ((lo, hi, ()), (res, ()))))
def focM (x : FocX) : Nat := (x.1.2.1 - x.1.1).toNat
def midA (lo hi : Int) : Int := (IntKind.i64.wrap (lo + hi)).fdiv (2 ^ (min (1 : Int).toNat 64))
def midB (lo hi : Int) : Int := fl (IntKind.i64.wrap (lo + hi)) 2
def okA (_ _ : Int) : Bool := true
def okB (lo hi : Int) : Bool := flOk (IntKind.i64.wrap (lo + hi)) 2
theorem midA_eq {lo hi : Int} (h : -2147483648 ≤ lo + hi ∧ lo + hi ≤ 2147483648) : midA lo hi = (lo + hi) / 2 := by
  unfold midA
  rw [wr (by omega)]
  show (lo + hi).fdiv 2 = _
  exact Int.fdiv_eq_ediv_of_nonneg _ (by decide)
theorem midB_eq {lo hi : Int} (h : -2147483648 ≤ lo + hi ∧ lo + hi ≤ 2147483648) : midB lo hi = (lo + hi) / 2 := by
  unfold midB
  rw [wr (by omega)]
  rfl
theorem okB_eq {lo hi : Int} (h : -2147483648 ≤ lo + hi ∧ lo + hi ≤ 2147483648) : okB lo hi = true := by
  unfold okB
  rw [wr (by omega)]
  simp [flOk]; omega
def focGo (sg : Int → Int) (most first : Int) : Nat → Int → Int → (Int × Int) ⊕ Unit
  | 0, lo, hi => .inl (lo, hi)
  | k + 1, lo, hi =>
    if most < hi - lo then
      if sg ((lo + hi) / 2) = 0 then .inr ()
      else if sg ((lo + hi) / 2) = first then focGo sg most first k ((lo + hi) / 2) hi
      else focGo sg most first k lo ((lo + hi) / 2)
    else .inl (lo, hi)
def focOut (res : Iv) : (Int × Int) ⊕ Unit → FocY
  | .inl x => .inl ((x.1, x.2, ()), (res, ()))
  | .inr _ => .inr ((8, ()), (zeroIv, ()))
theorem foc_iter {md : Int → Int → Int} {ok : Int → Int → Bool} (hmd : ∀ lo hi, -2147483648 ≤ lo + hi ∧ lo + hi ≤ 2147483648 → md lo hi = (lo + hi) / 2 ∧ ok lo hi = true) (o h res : Iv) (l : List Surf) (hl : Ev.lenOk l = true) (most first : Int) (hm : 1 ≤ most) :
    ∀ (k : Nat) (lo hi : Int) (j : Nat), -1073741824 ≤ lo → lo ≤ hi → hi ≤ 1073741824 → (hi - lo).toNat ≤ k → k ≤ j →
      Ev.iter (focStep md ok) (j + 1) ((lo, hi, most, first, ()), (o, h, res, l, ())) = some (focOut res (focGo (signOf l h) most first k lo hi))
  | 0, lo, hi, j, h1, h2, h3, h4, _ => by
    rw [Ev.iter]
    have hw : IntKind.i64.wrap (hi - lo) = hi - lo := wr (by omega)
    simp only [focStep, hw, if_neg (show ¬ most < hi - lo by omega)]
    rfl
  | k + 1, lo, hi, j, h1, h2, h3, h4, hj => by
    obtain ⟨j', rfl⟩ : ∃ j', j = j' + 1 := ⟨j - 1, by omega⟩
    rw [Ev.iter]
    have hw : IntKind.i64.wrap (hi - lo) = hi - lo := wr (by omega)
    obtain ⟨m1, m2⟩ := hmd lo hi (by omega)
    simp only [focStep, hw, focGo]
    by_cases c : most < hi - lo
    · simp only [if_pos c, m1, m2, hl, if_true]
      by_cases c1 : signOf l h ((lo + hi) / 2) = 0
      · simp only [if_pos c1]; rfl
      · simp only [if_neg c1]
        by_cases c2 : signOf l h ((lo + hi) / 2) = first
        · simp only [if_pos c2]
          exact foc_iter hmd o h res l hl most first hm k _ hi j' (by omega) (by omega) h3 (by omega) (by omega)
        · simp only [if_neg c2]
          exact foc_iter hmd o h res l hl most first hm k lo _ j' h1 (by omega) (by omega) (by omega) (by omega)
    · simp only [if_neg c]; rfl
def focusOf (l : List Surf) (h : Iv) (lo hi most : Int) : Iv × Int :=
  if hi ≤ lo ∨ numIn lo = false ∨ numIn hi = false ∨ most < 1 then (zeroIv, 1)
  else if signOf l h lo = 0 ∨ signOf l h hi = 0 then (zeroIv, 8)
  else if signOf l h lo = signOf l h hi then (zeroIv, 7)
  else match focGo (signOf l h) most (signOf l h lo) (hi - lo).toNat lo hi with
    | .inl x => (Iv.of x.1 x.2, 0)
    | .inr _ => (zeroIv, 8)
theorem foc_run {md : Int → Int → Int} {ok : Int → Int → Bool} (hmd : ∀ lo hi, -2147483648 ≤ lo + hi ∧ lo + hi ≤ 2147483648 → md lo hi = (lo + hi) / 2 ∧ ok lo hi = true) (o h res : Iv) {l : List Surf} (hl : Ev.lenOk l = true) {most lo hi : Int} (first : Int) (hc : ¬ (hi ≤ lo ∨ numIn lo = false ∨ numIn hi = false ∨ most < 1)) :
    runBy (focStep md ok) focM ((lo, hi, most, first, ()), (o, h, res, l, ())) = some (focOut res (focGo (signOf l h) most first (hi - lo).toNat lo hi)) := by
  have h1 : numIn lo = true := by cases e : numIn lo <;> simp_all
  have h2 : numIn hi = true := by cases e : numIn hi <;> simp_all
  have h1 := numIn_iff.1 h1
  have h2 := numIn_iff.1 h2
  exact foc_iter hmd o h res l hl most first (by omega) (hi - lo).toNat lo hi _ (by omega) (by omega) (by omega) (Nat.le_refl _) (Nat.le_refl _)
theorem mdA : ∀ lo hi, -2147483648 ≤ lo + hi ∧ lo + hi ≤ 2147483648 → midA lo hi = (lo + hi) / 2 ∧ okA lo hi = true := fun lo hi h => ⟨midA_eq h, rfl⟩
theorem mdB : ∀ lo hi, -2147483648 ≤ lo + hi ∧ lo + hi ≤ 2147483648 → midB lo hi = (lo + hi) / 2 ∧ okB lo hi = true := fun lo hi h => ⟨midB_eq h, okB_eq h⟩

/-! From the other side -/
def V.flip (a : V) : V := ⟨a.x.neg, a.y, a.z⟩
theorem sym_flip : Sym V.flip where
  z a := rfl
  sq a := by simp only [V.flip]; rw [sqr_neg]
  dot a b := by simp only [V.flip]; rw [mul_neg_neg]
  add a b := by simp only [V.flip, V.add, add_neg]
  scale a k := by simp only [V.flip, V.scale, mul_neg_left]
  divs a k := by simp only [V.flip, div_neg_left]
  right a := by simp only [V.flip, V.right, neg_right]
  none := rfl
  zed a w := rfl
  nrm a c w := by simp only [V.flip, mul_neg_right]
  nrmB a c w := by simp only [V.flip, mul_neg_right, times_neg]
theorem axRay_flip (h : Iv) : axRay h.neg = (axRay h).map V.flip := by
  have : (Iv.point 0).neg = Iv.point 0 := by decide +kernel
  simp only [axRay, Ray.map, V.flip, this]
theorem through_flip (l : List Surf) (r : Ray) (z : Iv) : throughOf l (r.map V.flip) z = ((throughOf l r z).1.neg, (throughOf l r z).2.1, (throughOf l r z).2.2) := by
  unfold throughOf
  rw [traceOf_sym sym_flip]
  dsimp only
  by_cases c : (traceOf l r).1 = 1
  · rw [if_pos c, if_pos c]
    have e1 : ((traceOf l r).2.2.map V.flip).o.z = (traceOf l r).2.2.o.z := rfl
    have e2 : ((traceOf l r).2.2.map V.flip).d.z = (traceOf l r).2.2.d.z := rfl
    rw [e1, e2, along_sym sym_flip]
    generalize along (traceOf l r).2.2 ((z.sub (traceOf l r).2.2.o.z).div (traceOf l r).2.2.d.z) = p
    simp only [V.flip, neg_right]
    by_cases d : p.x.right = true ∧ p.y.right = true
    · rw [if_pos d, if_pos d]
    · rw [if_neg d, if_neg d]; rfl
  · rw [if_neg c, if_neg c]; rfl
theorem crossOf_flip (l : List Surf) (h f : Iv) : crossOf l h.neg f = ((crossOf l h f).1.neg, (crossOf l h f).2) := by
  unfold crossOf
  rw [axRay_flip, through_flip]
theorem throughOf_right {l : List Surf} {r : Ray} {z : Iv} (h : (throughOf l r z).2.2 = 1) : (throughOf l r z).1.right = true := by
  unfold throughOf at h ⊢
  by_cases c : (traceOf l r).1 = 1
  · rw [if_pos c] at h ⊢
    generalize along (traceOf l r).2.2 ((z.sub (traceOf l r).2.2.o.z).div (traceOf l r).2.2.d.z) = p at *
    dsimp only at h ⊢
    by_cases d : p.x.right = true ∧ p.y.right = true
    · rw [if_pos d]; exact d.1
    · rw [if_neg d] at h; cases h
  · rw [if_neg c] at h; exact absurd h c
theorem signOf_flip (l : List Surf) (h : Iv) (n : Int) : signOf l h.neg n = -(signOf l h n) := by
  unfold signOf
  rw [crossOf_flip]
  unfold signIv
  dsimp only
  by_cases c : (crossOf l h (Iv.point n)).2 = 1
  · have hr : (crossOf l h (Iv.point n)).1.right = true := throughOf_right c
    have hb := right_bd hr
    rw [if_pos c, if_pos c, neg_right_eq hr]
    dsimp only
    generalize (crossOf l h (Iv.point n)).1 = x at *
    by_cases c1 : 0 < x.lo
    · rw [if_neg (by omega), if_pos (by omega), if_pos c1]
    · by_cases c2 : x.hi < 0
      · rw [if_pos (by omega), if_neg c1, if_pos c2]; rfl
      · rw [if_neg (by omega), if_neg (by omega), if_neg c1, if_neg c2]; rfl
  · rw [if_neg c, if_neg c]; rfl
theorem focGo_flip {sg sg' : Int → Int} (hs : ∀ n, sg' n = -(sg n)) (most first : Int) : ∀ (k : Nat) (lo hi : Int), focGo sg' most (-first) k lo hi = focGo sg most first k lo hi
  | 0, _, _ => rfl
  | k + 1, lo, hi => by
    unfold focGo
    rw [hs]
    by_cases c : most < hi - lo
    · rw [if_pos c, if_pos c]
      by_cases c1 : sg ((lo + hi) / 2) = 0
      · rw [if_pos (by omega), if_pos c1]
      · rw [if_neg (by omega), if_neg c1]
        by_cases c2 : sg ((lo + hi) / 2) = first
        · rw [if_pos (by omega), if_pos c2]; exact focGo_flip hs most first k _ _
        · rw [if_neg (by omega), if_neg c2]; exact focGo_flip hs most first k _ _
    · rw [if_neg c, if_neg c]
theorem focusOf_flip (l : List Surf) (h : Iv) (lo hi most : Int) : focusOf l h.neg lo hi most = focusOf l h lo hi most := by
  unfold focusOf
  rw [signOf_flip, signOf_flip, focGo_flip (signOf_flip l h)]
  by_cases c : hi ≤ lo ∨ numIn lo = false ∨ numIn hi = false ∨ most < 1
  · rw [if_pos c, if_pos c]
  · rw [if_neg c, if_neg c]
    by_cases c1 : signOf l h lo = 0 ∨ signOf l h hi = 0
    · rw [if_pos (by omega), if_pos c1]
    · rw [if_neg (by omega), if_neg c1]
      by_cases c2 : signOf l h lo = signOf l h hi
      · rw [if_pos (by omega), if_pos c2]
      · rw [if_neg (by omega), if_neg c2]

/-! In focus -/
theorem focGo_inv {sg : Int → Int} {most first : Int} (hm : 1 ≤ most) : ∀ (k : Nat) (lo hi a b : Int), lo < hi → (hi - lo).toNat ≤ k → sg lo = first → sg hi ≠ 0 → sg hi ≠ first → focGo sg most first k lo hi = .inl (a, b) →
    sg a = first ∧ sg b ≠ 0 ∧ sg b ≠ first ∧ lo ≤ a ∧ a < b ∧ b ≤ hi ∧ b - a ≤ most
  | 0, lo, hi, a, b, h1, h2, _, _, _, _ => by omega
  | k + 1, lo, hi, a, b, h1, h2, h3, h4, h5, h => by
    unfold focGo at h
    by_cases c : most < hi - lo
    · rw [if_pos c] at h
      by_cases c1 : sg ((lo + hi) / 2) = 0
      · rw [if_pos c1] at h; cases h
      · rw [if_neg c1] at h
        by_cases c2 : sg ((lo + hi) / 2) = first
        · rw [if_pos c2] at h
          have := focGo_inv hm k _ hi a b (by omega) (by omega) c2 h4 h5 h
          omega
        · rw [if_neg c2] at h
          have := focGo_inv hm k lo _ a b (by omega) (by omega) h3 c1 c2 h
          omega
    · rw [if_neg c] at h
      cases h
      exact ⟨h3, h4, h5, by omega, h1, by omega, by omega⟩
theorem throughOf_sub {l : List Surf} {r : Ray} {z z' : Iv} (hz : Sub z z') (h : (throughOf l r z').2.2 = 1) : (throughOf l r z).2.2 = 1 ∧ Sub (throughOf l r z).1 (throughOf l r z').1 := by
  unfold throughOf at h ⊢
  by_cases c : (traceOf l r).1 = 1
  · rw [if_pos c] at h ⊢
    rw [if_pos c]
    have hs : SubV (along (traceOf l r).2.2 ((z.sub (traceOf l r).2.2.o.z).div (traceOf l r).2.2.d.z)) (along (traceOf l r).2.2 ((z'.sub (traceOf l r).2.2.o.z).div (traceOf l r).2.2.d.z)) :=
      along_sub (SubR.refl _) (div_sub (sub_sub hz (Sub.refl _)) (Sub.refl _))
    generalize along (traceOf l r).2.2 ((z.sub (traceOf l r).2.2.o.z).div (traceOf l r).2.2.d.z) = p at *
    generalize along (traceOf l r).2.2 ((z'.sub (traceOf l r).2.2.o.z).div (traceOf l r).2.2.d.z) = q at *
    dsimp only at h ⊢
    by_cases d : q.x.right = true ∧ q.y.right = true
    · have d' : p.x.right = true ∧ p.y.right = true := ⟨(hs.1 d.1).1, (hs.2.1 d.2).1⟩
      rw [if_pos d, if_pos d']
      exact ⟨rfl, hs.1⟩
    · rw [if_neg d] at h; cases h
  · rw [if_neg c] at h; exact absurd h c
theorem crossOf_sub {l : List Surf} {h f f' : Iv} (hf : Sub f f') (hc : (crossOf l h f').2 = 1) : (crossOf l h f).2 = 1 ∧ (crossOf l h f).1.right = true ∧ Sub (crossOf l h f).1 (crossOf l h f').1 := by
  obtain ⟨h1, h2⟩ := throughOf_sub (l := l) (r := axRay h) (add_sub (Sub.refl (lastOf l)) hf) hc
  exact ⟨h1, throughOf_right h1, h2⟩
theorem signIv_cases (x : Iv) (k : Int) : (signIv x k = 1 ∧ k = 1 ∧ 0 < x.lo) ∨ (signIv x k = -1 ∧ k = 1 ∧ x.hi < 0) ∨ signIv x k = 0 := by
  unfold signIv
  by_cases c : k = 1
  · rw [if_pos c]
    by_cases c1 : 0 < x.lo
    · rw [if_pos c1]; exact .inl ⟨rfl, c, c1⟩
    · rw [if_neg c1]
      by_cases c2 : x.hi < 0
      · rw [if_pos c2]; exact .inr (.inl ⟨rfl, c, c2⟩)
      · rw [if_neg c2]; exact .inr (.inr rfl)
  · rw [if_neg c]; exact .inr (.inr rfl)
/-- What is so of a focus that was told. -/
theorem focus_told {l : List Surf} {h : Iv} {lo hi most : Int} {f : Iv} (hh : focusOf l h lo hi most = (f, 0)) :
    (lo ≤ f.lo ∧ f.lo < f.hi ∧ f.hi ≤ hi ∧ f.hi - f.lo ≤ most) ∧ ((crossOf l h (Iv.point f.lo)).2 = 1 ∧ (crossOf l h (Iv.point f.hi)).2 = 1) ∧
      ((0 < (crossOf l h (Iv.point f.lo)).1.lo ∧ (crossOf l h (Iv.point f.hi)).1.hi < 0) ∨ ((crossOf l h (Iv.point f.lo)).1.hi < 0 ∧ 0 < (crossOf l h (Iv.point f.hi)).1.lo)) ∧
      ((crossOf l h f).2 = 1 → (crossOf l h f).1.has 0 = true) := by
  unfold focusOf at hh
  by_cases c : hi ≤ lo ∨ numIn lo = false ∨ numIn hi = false ∨ most < 1
  · rw [if_pos c] at hh; cases hh
  rw [if_neg c] at hh
  by_cases c1 : signOf l h lo = 0 ∨ signOf l h hi = 0
  · rw [if_pos c1] at hh; cases hh
  rw [if_neg c1] at hh
  by_cases c2 : signOf l h lo = signOf l h hi
  · rw [if_pos c2] at hh; cases hh
  rw [if_neg c2] at hh
  split at hh
  · rename_i x hg
    obtain ⟨a, b⟩ := x
    have n1 : numIn lo = true := by cases e : numIn lo <;> simp_all
    have n2 : numIn hi = true := by cases e : numIn hi <;> simp_all
    have n1 := numIn_iff.1 n1
    have n2 := numIn_iff.1 n2
    obtain ⟨g1, g2, g3, g4, g5, g6, g7⟩ := focGo_inv (by omega) _ lo hi a b (by omega) (Nat.le_refl _) rfl (fun e => c1 (.inr e)) (fun e => c2 e.symm) hg
    have hf : f = ⟨a, b, false⟩ := by
      have e : f = Iv.of a b := (congrArg Prod.fst hh).symm
      rw [e]
      exact of_eq ⟨⟨numIn_iff.2 (by omega), numIn_iff.2 (by omega)⟩, by omega⟩
    subst hf
    dsimp only
    have hfr : (⟨a, b, false⟩ : Iv).right = true := right_iff.2 ⟨rfl, by dsimp only; omega, by dsimp only; omega, by dsimp only; omega⟩
    have sa : Sub (Iv.point a) ⟨a, b, false⟩ := by
      have : Iv.point a = ⟨a, a, false⟩ := of_eq ⟨⟨numIn_iff.2 (by omega), numIn_iff.2 (by omega)⟩, Int.le_refl _⟩
      rw [this]; exact fun _ => ⟨right_iff.2 ⟨rfl, by dsimp only; omega, by dsimp only; omega, by dsimp only; omega⟩, by dsimp only; omega, by dsimp only; omega⟩
    have sb : Sub (Iv.point b) ⟨a, b, false⟩ := by
      have : Iv.point b = ⟨b, b, false⟩ := of_eq ⟨⟨numIn_iff.2 (by omega), numIn_iff.2 (by omega)⟩, Int.le_refl _⟩
      rw [this]; exact fun _ => ⟨right_iff.2 ⟨rfl, by dsimp only; omega, by dsimp only; omega, by dsimp only; omega⟩, by dsimp only; omega, by dsimp only; omega⟩
    have ka := signIv_cases (crossOf l h (Iv.point a)).1 (crossOf l h (Iv.point a)).2
    have kb := signIv_cases (crossOf l h (Iv.point b)).1 (crossOf l h (Iv.point b)).2
    have ea : signIv (crossOf l h (Iv.point a)).1 (crossOf l h (Iv.point a)).2 = signOf l h a := rfl
    have eb : signIv (crossOf l h (Iv.point b)).1 (crossOf l h (Iv.point b)).2 = signOf l h b := rfl
    rw [ea] at ka
    rw [eb] at kb
    have hz : (crossOf l h ⟨a, b, false⟩).2 = 1 → ((0 < (crossOf l h (Iv.point a)).1.lo ∧ (crossOf l h (Iv.point b)).1.hi < 0) ∨ ((crossOf l h (Iv.point a)).1.hi < 0 ∧ 0 < (crossOf l h (Iv.point b)).1.lo)) → (crossOf l h ⟨a, b, false⟩).1.has 0 = true := by
      intro hk hs
      obtain ⟨_, ra, ua⟩ := crossOf_sub sa hk
      obtain ⟨_, rb, ub⟩ := crossOf_sub sb hk
      have hr : (crossOf l h ⟨a, b, false⟩).1.right = true := throughOf_right hk
      obtain ⟨_, a1, a2⟩ := ua hr
      obtain ⟨_, b1, b2⟩ := ub hr
      have q1 := right_bd ra
      have q2 := right_bd rb
      simp [Iv.has, hr]
      omega
    rcases ka with ⟨a1, a2, a3⟩ | ⟨a1, a2, a3⟩ | a1
    · rcases kb with ⟨b1, b2, b3⟩ | ⟨b1, b2, b3⟩ | b1
      · exfalso; omega
      · exact ⟨⟨g4, g5, g6, g7⟩, ⟨a2, b2⟩, .inl ⟨a3, b3⟩, fun hk => hz hk (.inl ⟨a3, b3⟩)⟩
      · exfalso; omega
    · rcases kb with ⟨b1, b2, b3⟩ | ⟨b1, b2, b3⟩ | b1
      · exact ⟨⟨g4, g5, g6, g7⟩, ⟨a2, b2⟩, .inr ⟨a3, b3⟩, fun hk => hz hk (.inr ⟨a3, b3⟩)⟩
      · exfalso; omega
      · exfalso; omega
    · exfalso; exact c1 (.inl (by omega))
  · cases hh

theorem focus_not {l : List Surf} {h : Iv} {lo hi most : Int} {f : Iv} {e : Int} (hc : ¬ (hi ≤ lo ∨ numIn lo = false ∨ numIn hi = false ∨ most < 1)) (hh : focusOf l h lo hi most = (f, e)) (he : e ≠ 0) : f = zeroIv ∧ (e = 7 ∨ e = 8) := by
  unfold focusOf at hh
  rw [if_neg hc] at hh
  by_cases c1 : signOf l h lo = 0 ∨ signOf l h hi = 0
  · rw [if_pos c1] at hh; cases hh; exact ⟨rfl, .inr rfl⟩
  rw [if_neg c1] at hh
  by_cases c2 : signOf l h lo = signOf l h hi
  · rw [if_pos c2] at hh; cases hh; exact ⟨rfl, .inl rfl⟩
  rw [if_neg c2] at hh
  split at hh
  · cases hh; exact absurd rfl he
  · cases hh; exact ⟨rfl, .inr rfl⟩

/-! Asked narrower -/
theorem focGo_finer {sg : Int → Int} {most finer first : Int} (hf : finer ≤ most) : ∀ (k : Nat) (lo hi : Int), (hi - lo).toNat ≤ k → 1 ≤ finer →
    (focGo sg most first k lo hi = .inr () → focGo sg finer first k lo hi = .inr ()) ∧
    ∀ a b, focGo sg most first k lo hi = .inl (a, b) → focGo sg finer first k lo hi = .inr () ∨ ∃ c d, focGo sg finer first k lo hi = .inl (c, d) ∧ (lo ≤ hi → a ≤ c ∧ d ≤ b)
  | 0, lo, hi, h, h1 => ⟨fun e => (by cases e), fun a b e => by cases e; exact .inr ⟨_, _, rfl, fun _ => ⟨by omega, by omega⟩⟩⟩
  | k + 1, lo, hi, h, h1 => by
    have inside : ∀ (k : Nat) (lo hi c d : Int), focGo sg finer first k lo hi = .inl (c, d) → lo ≤ hi → lo ≤ c ∧ d ≤ hi := by
      intro k
      induction k with
      | zero => intro lo hi c d e _; cases e; omega
      | succ k ih =>
        intro lo hi c d e hle
        unfold focGo at e
        by_cases c0 : finer < hi - lo
        · rw [if_pos c0] at e
          by_cases c1 : sg ((lo + hi) / 2) = 0
          · rw [if_pos c1] at e; cases e
          · rw [if_neg c1] at e
            by_cases c2 : sg ((lo + hi) / 2) = first
            · rw [if_pos c2] at e; have := ih _ _ _ _ e (by omega); omega
            · rw [if_neg c2] at e; have := ih _ _ _ _ e (by omega); omega
        · rw [if_neg c0] at e; cases e; omega
    by_cases c : most < hi - lo
    · have c' : finer < hi - lo := by omega
      unfold focGo
      rw [if_pos c, if_pos c']
      by_cases c1 : sg ((lo + hi) / 2) = 0
      · rw [if_pos c1, if_pos c1]
        exact ⟨fun _ => rfl, fun a b e => by cases e⟩
      · rw [if_neg c1, if_neg c1]
        by_cases c2 : sg ((lo + hi) / 2) = first
        · rw [if_pos c2, if_pos c2]
          obtain ⟨i1, i2⟩ := focGo_finer hf k ((lo + hi) / 2) hi (by omega) h1
          refine ⟨i1, fun a b e => ?_⟩
          rcases i2 a b e with j | ⟨c, d, j1, j2⟩
          · exact .inl j
          · exact .inr ⟨c, d, j1, fun _ => j2 (by omega)⟩
        · rw [if_neg c2, if_neg c2]
          obtain ⟨i1, i2⟩ := focGo_finer hf k lo ((lo + hi) / 2) (by omega) h1
          refine ⟨i1, fun a b e => ?_⟩
          rcases i2 a b e with j | ⟨c, d, j1, j2⟩
          · exact .inl j
          · exact .inr ⟨c, d, j1, fun _ => j2 (by omega)⟩
    · have e0 : focGo sg most first (k + 1) lo hi = .inl (lo, hi) := by unfold focGo; rw [if_neg c]
      rw [e0]
      refine ⟨fun e => (by cases e), fun a b e => ?_⟩
      cases e
      cases hfin : focGo sg finer first (k + 1) lo hi with
      | inl x => exact .inr ⟨x.1, x.2, rfl, fun hle => inside _ _ _ _ _ hfin hle⟩
      | inr u => exact .inl rfl
end Go.Proofs.Ythdpjmkknodmpaa
