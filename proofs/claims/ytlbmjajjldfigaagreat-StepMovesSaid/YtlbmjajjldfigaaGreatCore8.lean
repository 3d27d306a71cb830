/-
  The document's faces and traces against the program's; raw rays; in plain Lean.
-/
import Derived.Test.YtlbmjajjldfigaaGreatCore7
namespace Go.Proofs.YtlbmjajjldfigaaGreat
open Go

theorem solveGo_kind (F : Iv → Iv × Iv) : ∀ n t s, (solveGo F n t s).2 = 0 ∨ (solveGo F n t s).2 = 1 ∨ (solveGo F n t s).2 = 2
  | 0, t, s => by unfold solveGo; split <;> simp
  | n + 1, t, s => by
    unfold solveGo
    split
    · exact solveGo_kind F n _ _
    · rename_i r hr
      unfold solveRound at hr
      split at hr
      · split at hr
        · cases hr
        · split at hr
          · cases hr
          · cases hr; simp
      · split at hr
        · cases hr; simp
        · split at hr
          · cases hr; split <;> simp
          · cases hr
theorem solve_kind (F : Iv → Iv × Iv) (t : Iv) (n : Int) : (solve F t n).2 = 0 ∨ (solve F t n).2 = 1 ∨ (solve F t n).2 = 2 := by
  unfold solve
  split
  · exact solveGo_kind F _ _ _
  · simp
/-- Where a ray meets a face, case by case. -/
def hitCases (bent : Bool) (R S : Iv × Int) (q : Ray) : Iv × V × Int :=
  if bent = true then
    if R.2 = 1 then
      if S.2 = 1 then (if (along q S.1).right = true then (S.1, along q S.1, 1) else (Iv.none, V.none, 0)) else (Iv.none, V.none, 0)
    else (Iv.none, V.none, R.2)
  else if R.2 = 1 then (if (along q R.1).right = true then (R.1, along q R.1, 1) else (Iv.none, V.none, 0)) else (Iv.none, V.none, R.2)
theorem hitOf_cases (s : Surf) (r : Ray) : hitOf s r = hitCases s.bent (hitRound s (r.back s.at_).o (r.back s.at_).d) (solve (faceAt s (r.back s.at_)) (bentT (hitRound s (r.back s.at_).o (r.back s.at_).d).1) 20) (r.back s.at_) := by
  unfold hitOf hitCases hitAt hitBent hitEnd
  by_cases hb : s.bent = true
  · by_cases hr : (hitRound s (r.back s.at_).o (r.back s.at_).d).2 = 1
    · by_cases hs : (solve (faceAt s (r.back s.at_)) (bentT (hitRound s (r.back s.at_).o (r.back s.at_).d).1) 20).2 = 1
      · by_cases c : (along (r.back s.at_) (solve (faceAt s (r.back s.at_)) (bentT (hitRound s (r.back s.at_).o (r.back s.at_).d).1) 20).1).right = true <;> simp [hb, hr, hs, c]
      · simp [hb, hr, hs]
    · simp [hb, hr]
  · by_cases hr : (hitRound s (r.back s.at_).o (r.back s.at_).d).2 = 1
    · by_cases c : (along (r.back s.at_) (hitRound s (r.back s.at_).o (r.back s.at_).d).1).right = true <;> simp [hb, hr, c]
    · simp [hb, hr]
def kindOf (t : Int) : Int := if t = 2 then 2 else 3
theorem no_right (a : Iv) (h : (!a.right) = a.no) : a.no = !a.right := h.symm
theorem dot_no (a b : V) : (!(a.dot b).right) = (a.dot b).no := no_add _ _

/-! Raw rays -/
def rayWide (w : Int) : Int := if w.tmod 5 = 3 then 0 else if w.tmod 5 = 4 then pick w 9000 else pick w 400
def rayLean (n : Int) : Int := if n.tmod 3 = 2 then pick n 200 else 0
def rayOf (x : RawRay) : Ray :=
  ⟨⟨wide (pick x.x 655360 - 327680) (rayWide x.wide), wide (pick x.y 655360 - 327680) (rayWide x.wide), ⟨0, 0, false⟩⟩,
    V.unit ⟨wide (pick x.u 30000 - 15000) (rayLean x.lean), wide (pick x.w 30000 - 15000) (rayLean x.lean), ⟨65536, 65536, false⟩⟩⟩

def V.zero : V := ⟨⟨0, 0, false⟩, ⟨0, 0, false⟩, ⟨0, 0, false⟩⟩
def Ray.zero : Ray := ⟨V.zero, V.zero⟩

/-! Through all faces -/
abbrev Res := Int × Int × Ray
abbrev TraceS := Ray × Res × Iv × List Surf × Unit
def traceStep : (Int × Int × Unit) × TraceS → Option (((Int × Int × Unit) × TraceS) ⊕ ((Unit × TraceS) ⊕ (Unit × (Res × Unit))))
  | ((i, n, _), (r, z, o, l, _)) =>
    if i < n then
      if 0 ≤ i ∧ i < (l.length : Int) then
        match l[i.toNat]? with
        | some s => if (stepOf s r).2 ≠ 1 then some (.inr (.inr ((), (((stepOf s r).2, i, (stepOf s r).1), ())))) else some (.inl ((IntKind.i64.wrap (i + 1), n, ()), ((stepOf s r).1, z, o, l, ())))
        | none => none
      else none
    else some (.inr (.inl ((), (r, z, o, l, ()))))
def traceM (x : (Int × Int × Unit) × TraceS) : Nat := x.2.2.2.2.1.length
def traceStep2 : (Int × Unit) × TraceS → Option (((Int × Unit) × TraceS) ⊕ ((Unit × TraceS) ⊕ (Unit × (Res × Unit))))
  | ((i, _), (r, z, o, l, _)) =>
    if i < (l.length : Int) then
      if 0 ≤ i ∧ i < (l.length : Int) then
        match l[i.toNat]? with
        | some s => if (stepOf s r).2 ≠ 1 then some (.inr (.inr ((), (((stepOf s r).2, i, Ray.none), ())))) else some (.inl ((IntKind.i64.wrap (i + 1), ()), ((stepOf s r).1, z, o, l, ())))
        | none => none
      else none
    else some (.inr (.inl ((), (r, z, o, l, ()))))
def traceM2 (x : (Int × Unit) × TraceS) : Nat := x.2.2.2.2.1.length
/-- The faces from the i-th on. -/
def traceGo : List Surf → Int → Ray → Res
  | [], i, r => (1, i, r)
  | s :: l, i, r => if (stepOf s r).2 ≠ 1 then ((stepOf s r).2, i, (stepOf s r).1) else traceGo l (i + 1) (stepOf s r).1
def traceOf (l : List Surf) (r : Ray) : Res := traceGo l 0 r
def lost3 : Iv × Iv × Int := (Iv.none, Iv.none, 3)
def throughOf (l : List Surf) (r : Ray) (z : Iv) : Iv × Iv × Int :=
  if (traceOf l r).1 = 1 then
    (fun p : V => if p.x.right = true ∧ p.y.right = true then (p.x, p.y, 1) else lost3) (along (traceOf l r).2.2 ((z.sub (traceOf l r).2.2.o.z).div (traceOf l r).2.2.d.z))
  else (Iv.none, Iv.none, (traceOf l r).1)

theorem stepOf_lost {s : Surf} {r : Ray} (h : (stepOf s r).2 ≠ 1) : (stepOf s r).1 = Ray.none := by
  have key : ∀ (s : Surf) (d : V) (h : Iv × V × Int) (n : V), (stepEnd s d h n).2 ≠ 1 → (stepEnd s d h n).1 = Ray.none := by
    intro s d h n hh
    unfold stepEnd at hh ⊢
    split
    · rfl
    · split
      · rfl
      · split
        · rfl
        · split
          · rename_i h1 h2 h3 h4
            rw [if_neg h1, if_neg h2, if_neg h3, if_pos h4] at hh
            exact absurd rfl hh
          · split
            · rfl
            · rename_i h1 h2 h3 h4 h5
              rw [if_neg h1, if_neg h2, if_neg h3, if_neg h4, if_neg h5] at hh
              exact absurd rfl hh
  exact key _ _ _ _ h
def traceOut (z : Res) (o : Iv) (l : List Surf) (x : Res) : (Unit × TraceS) ⊕ (Unit × (Res × Unit)) := if x.1 = 1 then .inl ((), (x.2.2, z, o, l, ())) else .inr ((), (x, ()))
theorem trace_run (z : Res) (o : Iv) (l : List Surf) (hl : l.length ≤ 1048576) (r : Ray) : runBy traceStep traceM ((0, (l.length : Int), ()), (r, z, o, l, ())) = some (traceOut z o l (traceOf l r)) := by
  have key : ∀ (s : List Surf) (i : Nat) (r : Ray), l.drop i = s → i ≤ l.length → ∀ k, s.length ≤ k → Ev.iter traceStep (k + 1) (((i : Int), (l.length : Int), ()), (r, z, o, l, ())) = some (traceOut z o l (traceGo s i r)) := by
    intro s
    induction s with
    | nil =>
      intro i r hs hi k _
      have : l.length ≤ i := List.drop_eq_nil_iff.1 hs
      rw [Ev.iter]
      simp only [traceStep, traceGo, traceOut, if_neg (show ¬ (i : Int) < (l.length : Int) by omega), if_true]
    | cons a s ih =>
      intro i r hs hi k hk
      have hlt : i < l.length := by
        rcases Nat.lt_or_ge i l.length with h | h
        · exact h
        · rw [List.drop_eq_nil_of_le h] at hs; cases hs
      have hg : l[((i : Nat) : Int).toNat]? = some a := by
        have : l[i]? = (l.drop i)[0]? := by simp
        rw [show ((i : Nat) : Int).toNat = i from rfl, this, hs]; rfl
      have hw : IntKind.i64.wrap ((i : Int) + 1) = ((i + 1 : Nat) : Int) := by rw [wr (by omega)]; omega
      have hd : l.drop (i + 1) = s := by rw [← List.drop_drop, hs]; rfl
      rw [Ev.iter]
      simp only [traceStep, traceGo, if_pos (show (i : Int) < (l.length : Int) by omega), if_pos (show 0 ≤ (i : Int) ∧ (i : Int) < (l.length : Int) by omega), hg, hw]
      by_cases h1 : (stepOf a r).2 = 1
      · rw [if_neg (not_not_intro h1), if_neg (not_not_intro h1)]
        obtain ⟨k', rfl⟩ : ∃ k', k = k' + 1 := ⟨k - 1, by simp at hk; omega⟩
        have := ih (i + 1) (stepOf a r).1 hd hlt k' (by simp at hk; omega)
        rw [show ((i : Int) + 1) = ((i + 1 : Nat) : Int) by omega]
        exact this
      · rw [if_pos h1, if_pos h1]
        simp only [traceOut, if_neg h1]
  exact key l 0 r rfl (Nat.zero_le _) _ (Nat.le_refl _)
theorem trace_run2 (z : Res) (o : Iv) (l : List Surf) (hl : l.length ≤ 1048576) (r : Ray) : runBy traceStep2 traceM2 ((0, ()), (r, z, o, l, ())) = some (traceOut z o l (traceOf l r)) := by
  have key : ∀ (s : List Surf) (i : Nat) (r : Ray), l.drop i = s → i ≤ l.length → ∀ k, s.length ≤ k → Ev.iter traceStep2 (k + 1) (((i : Int), ()), (r, z, o, l, ())) = some (traceOut z o l (traceGo s i r)) := by
    intro s
    induction s with
    | nil =>
      intro i r hs hi k _
      have : l.length ≤ i := List.drop_eq_nil_iff.1 hs
      rw [Ev.iter]
      simp only [traceStep2, traceGo, traceOut, if_neg (show ¬ (i : Int) < (l.length : Int) by omega), if_true]
    | cons a s ih =>
      intro i r hs hi k hk
      have hlt : i < l.length := by
        rcases Nat.lt_or_ge i l.length with h | h
        · exact h
        · rw [List.drop_eq_nil_of_le h] at hs; cases hs
      have hg : l[((i : Nat) : Int).toNat]? = some a := by
        have : l[i]? = (l.drop i)[0]? := by simp
        rw [show ((i : Nat) : Int).toNat = i from rfl, this, hs]; rfl
      have hw : IntKind.i64.wrap ((i : Int) + 1) = ((i + 1 : Nat) : Int) := by rw [wr (by omega)]; omega
      have hd : l.drop (i + 1) = s := by rw [← List.drop_drop, hs]; rfl
      rw [Ev.iter]
      simp only [traceStep2, traceGo, if_pos (show (i : Int) < (l.length : Int) by omega), if_pos (show 0 ≤ (i : Int) ∧ (i : Int) < (l.length : Int) by omega), hg, hw]
      by_cases h1 : (stepOf a r).2 = 1
      · rw [if_neg (not_not_intro h1), if_neg (not_not_intro h1)]
        obtain ⟨k', rfl⟩ : ∃ k', k = k' + 1 := ⟨k - 1, by simp at hk; omega⟩
        have := ih (i + 1) (stepOf a r).1 hd hlt k' (by simp at hk; omega)
        rw [show ((i : Int) + 1) = ((i + 1 : Nat) : Int) by omega]
        exact this
      · rw [if_pos h1, if_pos h1, ← stepOf_lost h1]
        simp only [traceOut, if_neg h1]
  exact key l 0 r rfl (Nat.zero_le _) _ (Nat.le_refl _)
theorem traceGo_at : ∀ (l : List Surf) (i : Int) (r : Ray), (traceGo l i r).1 = 1 → (traceGo l i r).2.1 = i + l.length
  | [], i, r, _ => by simp [traceGo]
  | s :: l, i, r, h => by
    unfold traceGo at h ⊢
    split
    · rename_i h1
      rw [if_pos h1] at h
      exact absurd h h1
    · rename_i h1
      rw [if_neg h1] at h
      rw [traceGo_at l (i + 1) _ h, List.length_cons]; omega
theorem traceOf_eta {l : List Surf} {r : Ray} (h : (traceOf l r).1 = 1) : traceOf l r = (1, (l.length : Int), (traceOf l r).2.2) := by
  have := traceGo_at l 0 r h
  obtain ⟨⟨a, b, c⟩, hx⟩ : ∃ q, traceOf l r = q := ⟨_, rfl⟩
  have hx' : traceGo l 0 r = (a, b, c) := hx
  rw [hx'] at this
  rw [hx] at h ⊢
  simp only at h this
  rw [h, this]; simp

/-! Loops over a system's faces -/
section
variable {A B : Type}
def allStep (bad : A → B → Surf → Bool) : (Int × Int × A) × (List Surf × B) → Option (((Int × Int × A) × (List Surf × B)) ⊕ ((Unit × Unit) ⊕ ((Bool × Unit) × Unit)))
  | ((i, n, a), (l, b)) =>
    if i < n then
      if 0 ≤ i ∧ i < (l.length : Int) then
        match l[i.toNat]? with
        | some f => if bad a b f = true then some (.inr (.inr ((false, ()), ()))) else some (.inl ((IntKind.i64.wrap (i + 1), n, a), (l, b)))
        | none => none
      else none
    else some (.inr (.inl ((), ())))
def allM (x : (Int × Int × A) × (List Surf × B)) : Nat := (x.2.1.length : Int).toNat - x.1.1.toNat
theorem all_run {bad : A → B → Surf → Bool} {a : A} {b : B} {l : List Surf} (hl : l.length ≤ 1048576) (hb : ∀ f ∈ l, bad a b f = false) : runBy (allStep bad) allM ((0, (l.length : Int), a), (l, b)) = some (.inl ((), ())) := by
  obtain ⟨y, hy, hp⟩ := iter_total (step := allStep bad) (fun x => x.1.2.1 = (l.length : Int) ∧ x.1.2.2 = a ∧ x.2.1 = l ∧ x.2.2 = b ∧ 0 ≤ x.1.1 ∧ x.1.1 ≤ (l.length : Int)) (fun y => y = .inl ((), ())) allM (by
    rintro ⟨⟨i, n, a'⟩, ⟨l', b'⟩⟩ ⟨h0, h1, h2, h3, h4, h5⟩
    dsimp only at h0 h1 h2 h3 h4 h5
    subst h0; subst h1; subst h2; subst h3
    simp only [allStep]
    by_cases hi : i < (l'.length : Int)
    · have hge : l'[i.toNat]? = some (l'[i.toNat]'(by omega)) := List.getElem?_eq_getElem (by omega)
      have hw : IntKind.i64.wrap (i + 1) = i + 1 := wr (by omega)
      rw [if_pos hi, if_pos ⟨h4, hi⟩, hge, hw]
      dsimp only
      rw [hb _ (List.getElem_mem _)]
      exact .inr ⟨_, rfl, ⟨rfl, rfl, rfl, rfl, by dsimp only; omega, by dsimp only; omega⟩, by simp only [allM]; omega⟩
    · rw [if_neg hi]; exact .inl ⟨_, rfl, rfl⟩) ((0, (l.length : Int), a), (l, b)) ⟨rfl, rfl, rfl, rfl, by simp, by simp⟩
  rw [← hp]; exact hy
end
end Go.Proofs.YtlbmjajjldfigaaGreat
