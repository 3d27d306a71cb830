/-
  Near the axis; in plain Lean.
-/
import Derived.Test.YthgpgnijbajlgaaLess2
import Derived.Test.YthgpgnijbajlgaaEvMore
import Derived.Test.YthgpgnijbajlgaaCore9
namespace Go.Proofs.Ythgpgnijbajlgaa
open Go
set_option linter.unusedVariables false
set_option linter.unusedSimpArgs false

abbrev Card := Iv × Iv × Iv × Iv
def Ev.ccCard : Ev.CC Card := Ev.ccTwo Ev.ccIv (Ev.ccTwo Ev.ccIv (Ev.ccTwo Ev.ccIv Ev.ccIv))
theorem Ev.ccCard_ok : Ev.ccCard.Ok 12 := Ev.ccTwo_ok Ev.ccIv_ok (Ev.ccTwo_ok Ev.ccIv_ok (Ev.ccTwo_ok Ev.ccIv_ok Ev.ccIv_ok))
def Ev.cCard : Ev.Cod Card := Ev.ccCard.agg Ev.ccCard_ok

def paraU (one : Iv) (f : Surf) (y u : Iv) : Iv := if f.stop = true then u else (f.ratio.mul u).sub ((y.mul f.curve).mul (one.sub f.ratio))
def paraY (f : Surf) (y u : Iv) : Option Surf → Iv
  | some g => y.add (u.mul (g.at_.sub f.at_))
  | none => y
def paraGo (one : Iv) : List Surf → Iv → Iv → Iv × Iv
  | [], y, u => (y, u)
  | f :: t, y, u => paraGo one t (paraY f y (paraU one f y u) t.head?) (paraU one f y u)
def cardOf (o : Iv) (r : Iv × Iv) : Card :=
  (((Iv.point 65536).div r.2).neg, (r.1.div r.2).neg, ((r.1.div r.2).neg).sub (((Iv.point 65536).div r.2).neg), (((Iv.point 65536).div r.2).neg).div (o.times 2))
def paraxOf (o : Iv) (l : List Surf) : Card := cardOf o (paraGo (Iv.point 65536) l (Iv.point 65536) (Iv.point 0))

/-! Loops -/
abbrev ParX := (Int × Int × Unit) × (Iv × Card × Iv × Iv × Iv × List Surf × Unit)
abbrev ParX2 := (Int × Unit) × (Iv × Card × Iv × Iv × Iv × List Surf × Unit)
abbrev ParY := Unit × (Iv × Card × Iv × Iv × Iv × List Surf × Unit)
def parNext (l : List Surf) (i : Int) (f : Surf) (y u : Iv) : Option Iv :=
  if IntKind.i64.wrap (i + 1) < (l.length : Int) then
    if 0 ≤ IntKind.i64.wrap (i + 1) ∧ IntKind.i64.wrap (i + 1) < (l.length : Int) then
      match l[(IntKind.i64.wrap (i + 1)).toNat]? with
      | some g => some (y.add (u.mul (g.at_.sub f.at_)))
      | none => none
    else none
  else some y
def parStep : ParX → Option (ParX ⊕ ParY)
  | ((i, n, _), (o, c, one, y, u, l, _)) =>
    if i < n then
      if 0 ≤ i ∧ i < (l.length : Int) then
        match l[i.toNat]? with
        | some f => match parNext l i f y (paraU one f y u) with
          | some y' => some (.inl ((IntKind.i64.wrap (i + 1), n, ()), (o, c, one, y', paraU one f y u, l, ())))
          | none => none
        | none => none
      else none
    else some (.inr ((), (o, c, one, y, u, l, ())))
def parStep2 : ParX2 → Option (ParX2 ⊕ ParY)
  | ((i, _), (o, c, one, y, u, l, _)) =>
    if i < (l.length : Int) then
      if 0 ≤ i ∧ i < (l.length : Int) then
        match l[i.toNat]? with
        | some f => match parNext l i f y (paraU one f y u) with
          | some y' => some (.inl ((IntKind.i64.wrap (i + 1), ()), (o, c, one, y', paraU one f y u, l, ())))
          | none => none
        | none => none
      else none
    else some (.inr ((), (o, c, one, y, u, l, ())))
def parM (x : ParX) : Nat := x.2.2.2.2.2.2.1.length
def parM2 (x : ParX2) : Nat := x.2.2.2.2.2.2.1.length
theorem parNext_eq {l : List Surf} (hl : l.length ≤ 1048576) {pre t : List Surf} {f : Surf} (h : pre ++ f :: t = l) (y u : Iv) : parNext l pre.length f y u = some (paraY f y u t.head?) := by
  have hw : IntKind.i64.wrap ((pre.length : Int) + 1) = (pre.length : Int) + 1 := by
    have : l.length = pre.length + (t.length + 1) := by rw [← h]; simp
    exact wr (by omega)
  have hn : l.length = pre.length + (t.length + 1) := by rw [← h]; simp
  unfold parNext
  rw [hw]
  cases t with
  | nil => rw [if_neg (by simp at hn; omega)]; rfl
  | cons g t =>
    have hn' : l.length = pre.length + (t.length + 1 + 1) := by rw [hn]; simp
    rw [if_pos (by omega), if_pos (by omega)]
    have : l[((pre.length : Int) + 1).toNat]? = some g := by
      rw [show ((pre.length : Int) + 1).toNat = pre.length + 1 from by omega, ← h]
      rw [List.getElem?_append_right (by omega)]
      simp
    rw [this]; rfl
theorem par_iter {l : List Surf} (hl : l.length ≤ 1048576) (o : Iv) (c : Card) (one : Iv) : ∀ (t pre : List Surf) (y u : Iv) (j : Nat), pre ++ t = l → t.length ≤ j →
    Ev.iter parStep (j + 1) (((pre.length : Int), (l.length : Int), ()), (o, c, one, y, u, l, ())) = some ((), (o, c, one, (paraGo one t y u).1, (paraGo one t y u).2, l, ()))
  | [], pre, y, u, j, h, _ => by
    have : l.length = pre.length := by rw [← h]; simp
    rw [Ev.iter]
    simp only [parStep, if_neg (show ¬ (pre.length : Int) < (l.length : Int) by omega)]
    rfl
  | f :: t, pre, y, u, j, h, hj => by
    have hn : l.length = pre.length + (t.length + 1) := by rw [← h]; simp
    obtain ⟨j', rfl⟩ : ∃ j', j = j' + 1 := ⟨j - 1, by simp at hj; omega⟩
    have hg : l[((pre.length : Int)).toNat]? = some f := by
      rw [show ((pre.length : Int)).toNat = pre.length from by omega, ← h, List.getElem?_append_right (by omega)]; simp
    rw [Ev.iter]
    simp only [parStep, if_pos (show (pre.length : Int) < (l.length : Int) by omega), if_pos (show 0 ≤ (pre.length : Int) ∧ (pre.length : Int) < (l.length : Int) by omega), hg, parNext_eq hl h]
    have hw : IntKind.i64.wrap ((pre.length : Int) + 1) = ((pre ++ [f]).length : Int) := by
      rw [wr (by omega)]; simp
    rw [hw]
    exact par_iter hl o c one t (pre ++ [f]) _ _ j' (by rw [← h]; simp) (by simp at hj; omega)
theorem par_run {l : List Surf} (hl : l.length ≤ 1048576) (o : Iv) (c : Card) (one y u : Iv) : runBy parStep parM ((0, (l.length : Int), ()), (o, c, one, y, u, l, ())) = some ((), (o, c, one, (paraGo one l y u).1, (paraGo one l y u).2, l, ())) :=
  par_iter hl o c one l [] y u _ rfl (Nat.le_refl _)
theorem par_iter2 {l : List Surf} (hl : l.length ≤ 1048576) (o : Iv) (c : Card) (one : Iv) : ∀ (t pre : List Surf) (y u : Iv) (j : Nat), pre ++ t = l → t.length ≤ j →
    Ev.iter parStep2 (j + 1) (((pre.length : Int), ()), (o, c, one, y, u, l, ())) = some ((), (o, c, one, (paraGo one t y u).1, (paraGo one t y u).2, l, ()))
  | [], pre, y, u, j, h, _ => by
    have : l.length = pre.length := by rw [← h]; simp
    rw [Ev.iter]
    simp only [parStep2, if_neg (show ¬ (pre.length : Int) < (l.length : Int) by omega)]
    rfl
  | f :: t, pre, y, u, j, h, hj => by
    have hn : l.length = pre.length + (t.length + 1) := by rw [← h]; simp
    obtain ⟨j', rfl⟩ : ∃ j', j = j' + 1 := ⟨j - 1, by simp at hj; omega⟩
    have hg : l[((pre.length : Int)).toNat]? = some f := by
      rw [show ((pre.length : Int)).toNat = pre.length from by omega, ← h, List.getElem?_append_right (by omega)]; simp
    rw [Ev.iter]
    simp only [parStep2, if_pos (show (pre.length : Int) < (l.length : Int) by omega), if_pos (show 0 ≤ (pre.length : Int) ∧ (pre.length : Int) < (l.length : Int) by omega), hg, parNext_eq hl h]
    have hw : IntKind.i64.wrap ((pre.length : Int) + 1) = ((pre ++ [f]).length : Int) := by
      rw [wr (by omega)]; simp
    rw [hw]
    exact par_iter2 hl o c one t (pre ++ [f]) _ _ j' (by rw [← h]; simp) (by simp at hj; omega)
theorem par_run2 {l : List Surf} (hl : l.length ≤ 1048576) (o : Iv) (c : Card) (one y u : Iv) : runBy parStep2 parM2 ((0, ()), (o, c, one, y, u, l, ())) = some ((), (o, c, one, (paraGo one l y u).1, (paraGo one l y u).2, l, ())) :=
  par_iter2 hl o c one l [] y u _ rfl (Nat.le_refl _)

/-! Of less -/
structure SubS (f g : Surf) : Prop where
  stop : f.stop = g.stop
  curve : Sub f.curve g.curve
  ratio : Sub f.ratio g.ratio
  at_ : Sub f.at_ g.at_
inductive SubL : List Surf → List Surf → Prop
  | nil : SubL [] []
  | cons {f g : Surf} {l m : List Surf} : SubS f g → SubL l m → SubL (f :: l) (g :: m)
theorem paraU_sub {one : Iv} {f g : Surf} (h : SubS f g) {y y' u u' : Iv} (hy : Sub y y') (hu : Sub u u') : Sub (paraU one f y u) (paraU one g y' u') := by
  unfold paraU
  rw [h.stop]
  by_cases c : g.stop = true
  · rw [if_pos c, if_pos c]; exact hu
  · rw [if_neg c, if_neg c]
    exact sub_sub (mul_sub h.ratio hu) (mul_sub (mul_sub hy h.curve) (sub_sub (Sub.refl _) h.ratio))
theorem paraGo_sub (one : Iv) {l m : List Surf} (h : SubL l m) : ∀ {y y' u u' : Iv}, Sub y y' → Sub u u' → Sub (paraGo one l y u).1 (paraGo one m y' u').1 ∧ Sub (paraGo one l y u).2 (paraGo one m y' u').2 := by
  induction h with
  | nil => exact fun hy hu => ⟨hy, hu⟩
  | @cons f g l m hf hl ih =>
    intro y y' u u' hy hu
    have h1 := paraU_sub (one := one) hf hy hu
    refine ih ?_ h1
    cases hl with
    | nil => exact hy
    | cons hg _ => exact add_sub hy (mul_sub h1 (sub_sub hg.at_ hf.at_))
def flatAt (z : Int) : Surf := ⟨false, false, Iv.point 0, Iv.whole 1, Iv.point 0, Iv.point 0, Iv.whole z, Iv.whole 100, Iv.whole 1⟩
def inCard (a b : Iv) : Bool := !b.right || a.inside b
theorem inCard_sub {a b : Iv} (h : Sub a b) : inCard a b = true := by
  unfold inCard
  cases hb : b.right
  · rfl
  · obtain ⟨h1, h2, h3⟩ := h hb
    simp [Iv.inside, Iv.both, h1, hb, h2, h3]

/-! Wider -/
def widen (m n : Int) (i : Int) (f : Surf) : Surf := ⟨f.stop, f.bent, f.curve.hull (f.curve.add (Iv.point (pick (IntKind.i64.wrap (m.tdiv (IntKind.i64.wrap (i + 1)))) 9))), f.conic, f.a4, f.a6, f.at_, f.open2, f.ratio.hull (f.ratio.sub (Iv.point (pick (IntKind.i64.wrap (n.tdiv (IntKind.i64.wrap (i + 1)))) 9)))⟩
theorem hull_subset {a b : Iv} : Sub a (a.hull b) := fun h => by
  unfold Iv.hull at h ⊢
  by_cases c : Iv.both a b = true
  · rw [if_pos c] at h ⊢
    obtain ⟨hb, e⟩ := of_right h
    rw [e]
    have ha : a.right = true := by simp [Iv.both] at c; exact c.1
    exact ⟨ha, by dsimp only; omega, by dsimp only; omega⟩
  · rw [if_neg c] at h; cases h
theorem widen_sub (m n i : Int) (f : Surf) : SubS f (widen m n i f) := ⟨rfl, hull_subset, hull_subset, Sub.refl _⟩
abbrev WideX := (Int × Int × Int × Int × Unit) × (List Surf × Iv × Iv × List Surf × Unit)
abbrev WideY := Unit × (Iv × Iv × List Surf × List Surf × Unit)
def wideStep : WideX → Option (WideX ⊕ WideY)
  | ((i, k, m, n, _), (l, o, p, w, _)) =>
    if i < k then
      if 0 ≤ i ∧ i < (l.length : Int) then
        match l[i.toNat]? with
        | some f =>
          if IntKind.i64.wrap (i + 1) ≠ 0 then
            if Ev.lenOk (w ++ [widen m n i f]) = true then some (.inl ((IntKind.i64.wrap (i + 1), k, m, n, ()), (l, o, p, w ++ [widen m n i f], ()))) else none
          else none
        | none => none
      else none
    else some (.inr ((), (o, p, l, w, ())))
def wideM (x : WideX) : Nat := x.2.1.length
def wideGo (m n : Int) (i : Nat) : List Surf → List Surf
  | [] => []
  | f :: t => widen m n i f :: wideGo m n (i + 1) t
theorem wideGo_sub (m n : Int) : ∀ (l : List Surf) (i : Nat), SubL l (wideGo m n i l)
  | [], _ => .nil
  | f :: t, i => .cons (widen_sub m n i f) (wideGo_sub m n t (i + 1))
theorem wideGo_len (m n : Int) : ∀ (l : List Surf) (i : Nat), (wideGo m n i l).length = l.length
  | [], _ => rfl
  | f :: t, i => by simp [wideGo, wideGo_len m n t (i + 1)]
theorem wide_iter {l : List Surf} (hl : l.length ≤ 1048576) (m n : Int) (o p : Iv) : ∀ (t pre w : List Surf) (j : Nat), pre ++ t = l → w.length = pre.length → t.length ≤ j →
    Ev.iter wideStep (j + 1) (((pre.length : Int), (l.length : Int), m, n, ()), (l, o, p, w, ())) = some ((), (o, p, l, w ++ wideGo m n pre.length t, ()))
  | [], pre, w, j, h, _, _ => by
    have : l.length = pre.length := by rw [← h]; simp
    rw [Ev.iter]
    simp only [wideStep, if_neg (show ¬ (pre.length : Int) < (l.length : Int) by omega), wideGo, List.append_nil]
  | f :: t, pre, w, j, h, hw', hj => by
    have hn : l.length = pre.length + (t.length + 1) := by rw [← h]; simp
    obtain ⟨j', rfl⟩ : ∃ j', j = j' + 1 := ⟨j - 1, by simp at hj; omega⟩
    have hg : l[((pre.length : Int)).toNat]? = some f := by
      rw [show ((pre.length : Int)).toNat = pre.length from by omega, ← h, List.getElem?_append_right (by omega)]; simp
    have hw : IntKind.i64.wrap ((pre.length : Int) + 1) = ((pre ++ [f]).length : Int) := by
      rw [wr (by omega)]; simp
    have hne : IntKind.i64.wrap ((pre.length : Int) + 1) ≠ 0 := by rw [wr (by omega)]; omega
    have hlo : Ev.lenOk (w ++ [widen m n pre.length f]) = true := lenOk_iff.2 (by simp; omega)
    rw [Ev.iter]
    simp only [wideStep, if_pos (show (pre.length : Int) < (l.length : Int) by omega), if_pos (show 0 ≤ (pre.length : Int) ∧ (pre.length : Int) < (l.length : Int) by omega), hg, hw, if_pos hlo, if_pos (show ((pre ++ [f]).length : Int) ≠ 0 by simp; omega)]
    rw [wide_iter hl m n o p t (pre ++ [f]) (w ++ [widen m n pre.length f]) j' (by rw [← h]; simp) (by simp; omega) (by simp at hj; omega)]
    simp [wideGo]
theorem wide_run {l : List Surf} (hl : l.length ≤ 1048576) (m n : Int) (o p : Iv) : runBy wideStep wideM ((0, (l.length : Int), m, n, ()), (l, o, p, [], ())) = some ((), (o, p, l, wideGo m n 0 l, ())) :=
  wide_iter hl m n o p l [] [] _ rfl rfl (Nat.le_refl _)
theorem paraxOf_sub {l m : List Surf} (o : Iv) (h : SubL l m) : Sub (paraxOf o l).1 (paraxOf o m).1 ∧ Sub (paraxOf o l).2.1 (paraxOf o m).2.1 ∧ Sub (paraxOf o l).2.2.1 (paraxOf o m).2.2.1 ∧ Sub (paraxOf o l).2.2.2 (paraxOf o m).2.2.2 := by
  obtain ⟨h1, h2⟩ := paraGo_sub (Iv.point 65536) h (Sub.refl (Iv.point 65536)) (Sub.refl (Iv.point 0))
  have e := neg_sub (div_sub (Sub.refl (Iv.point 65536)) h2)
  have b := neg_sub (div_sub h1 h2)
  exact ⟨e, b, sub_sub b e, div_sub e (Sub.refl _)⟩
end Go.Proofs.Ythgpgnijbajlgaa
