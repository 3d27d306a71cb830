/-
  Where a sum of powers is asked for, and how often; in plain Lean.
-/
import Derived.Test.YtlbmjajjldfigaaCore5
import Derived.Test.YtlbmjajjldfigaaNewtM
namespace Go.Proofs.Ytlbmjajjldfigaa
open Go
set_option linter.unusedVariables false
set_option linter.unusedSimpArgs false

abbrev AskR := List Int × List Iv × Unit × Iv × Int × Bool × Iv × Iv × Iv × Iv × Iv × Iv × Iv × Iv × Iv × Unit
abbrev AskX := (Bool × Int × Unit) × AskR
abbrev AskY := ((Bool × Unit) × AskR) ⊕ (((Int × Unit) × AskR) ⊕ (Unit × AskR))
theorem wideA_right {x w : Int} (hx : -1048576 ≤ x ∧ x ≤ 1048576) (hw : 0 ≤ w ∧ w ≤ 1048576) : (wide x w).right = true := by
  have h : within x (-1073741824) 1073741824 = x := by unfold within; omega
  unfold wide
  rw [h, w64_of (by omega) (by omega)]
  exact right_iff.2 ⟨rfl, by dsimp only; omega, by dsimp only; omega, by dsimp only; omega⟩
/-- What a round finds: the place lies in the beginning, and no question went beyond it. -/
def askOk (p : List Iv) (T : Iv) (o : Bool) (t : Iv) : Bool := Ev.lenOk p && (Ev.lenOk (slope p) && (!o && (t.right && t.inside T)))
def ask2 (c : Int) : Int := IntKind.i64.wrap (IntKind.i64.wrap (c + 1) + 1)
def ask3 (c : Int) : Int := IntKind.i64.wrap (ask2 c + 1)
def ask4 (c : Int) : Int := IntKind.i64.wrap (ask3 c + 1)
def askStep : AskX → Option (AskX ⊕ AskY)
  | ((sure, k, _), (l, p, q, T, c, o, t, res, n, m, u, a, b, v, s, _)) =>
    if 0 < k then
      if askOk p T o t = true then
        if (nextN (polyAt p) t).no = true then
          if without (polyAt p) t.split.1 = true then some (.inl ((sure, IntKind.i64.wrap (k - 1), ()), (l, p, q, T, ask3 c, false, t.split.2, res, nextN (polyAt p) t, Iv.point t.mid, u, t.split.1, t.split.2, (polyAt p (Iv.point t.mid)).1, (polyAt p t).2, ())))
          else if without (polyAt p) t.split.2 = true then some (.inl ((sure, IntKind.i64.wrap (k - 1), ()), (l, p, q, T, ask4 c, false, t.split.1, res, nextN (polyAt p) t, Iv.point t.mid, u, t.split.1, t.split.2, (polyAt p (Iv.point t.mid)).1, (polyAt p t).2, ())))
          else some (.inr (.inr (.inr ((), (l, p, q, T, ask4 c, false, t, res, nextN (polyAt p) t, Iv.point t.mid, u, t.split.1, t.split.2, (polyAt p (Iv.point t.mid)).1, (polyAt p t).2, ())))))
        else if (t.meet (nextN (polyAt p) t)).no = true then some (.inr (.inr (.inl ((2, ()), (l, p, q, T, ask2 c, false, t, Iv.none, nextN (polyAt p) t, Iv.point t.mid, t.meet (nextN (polyAt p) t), a, b, (polyAt p (Iv.point t.mid)).1, (polyAt p t).2, ())))))
        else if ivEq (t.meet (nextN (polyAt p) t)) t = true then some (.inr (.inl ((solveSure (polyAt p) t sure, ()), (l, p, q, T, ask2 c, false, t, res, nextN (polyAt p) t, Iv.point t.mid, t.meet (nextN (polyAt p) t), a, b, (polyAt p (Iv.point t.mid)).1, (polyAt p t).2, ()))))
        else some (.inl ((solveSure (polyAt p) t sure, IntKind.i64.wrap (k - 1), ()), (l, p, q, T, ask2 c, false, t.meet (nextN (polyAt p) t), res, nextN (polyAt p) t, Iv.point t.mid, t.meet (nextN (polyAt p) t), a, b, (polyAt p (Iv.point t.mid)).1, (polyAt p t).2, ())))
      else none
    else some (.inr (.inl ((sure, ()), (l, p, q, T, c, o, t, res, n, m, u, a, b, v, s, ()))))
def askM (x : AskX) : Nat := x.1.2.1.toNat
def askRun (x : AskX) : Option AskY := runBy askStep askM x
theorem askRun_ok : ∀ x y, askRun x = some y → ∃ k, Ev.iter askStep k x = some y := runBy_ok _ _
/-- Of a count and a flag: nothing went beyond, and so often it was asked. -/
def AskP (k0 : Int) (r : AskR) : Prop := r.2.2.2.2.2.1 = false ∧ 0 ≤ r.2.2.2.2.1 ∧ r.2.2.2.2.1 ≤ 4 * k0 ∧ (0 < k0 → 0 < r.2.2.2.2.1)
def AskPost (k0 : Int) (T : Iv) : AskY → Prop
  | .inl (_, r) => AskP k0 r
  | .inr (.inl (_, r)) => AskP k0 r
  | .inr (.inr (_, r)) => AskP k0 r
theorem inside_bd {a b : Iv} (h : a.inside b = true) : a.right = true ∧ b.right = true ∧ b.lo ≤ a.lo ∧ a.hi ≤ b.hi := by
  simp [Iv.inside, Iv.both] at h
  exact ⟨h.1.1, h.1.2, h.2.1, h.2.2⟩
theorem inside_mk {a b : Iv} (ha : a.right = true) (hb : b.right = true) (h : b.lo ≤ a.lo ∧ a.hi ≤ b.hi) : a.inside b = true := by simp [Iv.inside, Iv.both, ha, hb, h]
/-- The middle, the halves, what meets lie in the beginning, too. -/
theorem ask_in {t T : Iv} (ht : t.right = true) (h : t.inside T = true) : (Iv.point t.mid).inside T = true ∧ t.split.1.inside T = true ∧ t.split.2.inside T = true ∧ t.split.1.right = true ∧ t.split.2.right = true := by
  obtain ⟨_, hT, h1, h2⟩ := inside_bd h
  obtain ⟨m0, m1, m2, m3⟩ := mid_in ht
  obtain ⟨_, s1, s2⟩ := split_in m1
  have b := right_bd ht
  have e : Iv.point t.mid = ⟨t.mid, t.mid, false⟩ := of_eq ⟨⟨numIn_iff.2 (by omega), numIn_iff.2 (by omega)⟩, by omega⟩
  have e1 : t.split.1 = ⟨t.lo, t.mid, false⟩ := by
    unfold Iv.split; rw [if_pos ht]; exact of_eq ⟨⟨numIn_iff.2 (by omega), numIn_iff.2 (by omega)⟩, by omega⟩
  have e2 : t.split.2 = ⟨t.mid, t.hi, false⟩ := by
    unfold Iv.split; rw [if_pos ht]; exact of_eq ⟨⟨numIn_iff.2 (by omega), numIn_iff.2 (by omega)⟩, by omega⟩
  refine ⟨inside_mk m0.1 hT (by rw [e]; dsimp only; omega), inside_mk s1 hT (by rw [e1]; dsimp only; omega), inside_mk s2 hT (by rw [e2]; dsimp only; omega), s1, s2⟩
theorem ask_meet {t n T : Iv} (h : t.inside T = true) (hn : ¬ (t.meet n).no = true) : (t.meet n).right = true ∧ (t.meet n).inside T = true := by
  obtain ⟨_, hT, h1, h2⟩ := inside_bd h
  have r := clean_right (meet_clean t n) (by simpa using hn)
  refine ⟨r, inside_mk r hT ?_⟩
  unfold Iv.meet at r ⊢
  split at r
  · rename_i hb
    rw [if_pos hb, (of_right r).2]
    dsimp only
    omega
  · cases r
theorem ask_run (l : List Int) (p : List Iv) (q : Unit) (T : Iv) (k0 : Int) (res n m u a b v s : Iv) (hp : Ev.lenOk p = true) (hs : Ev.lenOk (slope p) = true) (hT : T.right = true) (hk : 0 ≤ k0 ∧ k0 ≤ 40) :
    ∃ y, askRun ((false, k0, ()), (l, p, q, T, 0, false, T, res, n, m, u, a, b, v, s, ())) = some y ∧ AskPost k0 T y := by
  refine iter_total (step := askStep) (fun x => 0 ≤ x.1.2.1 ∧ x.1.2.1 ≤ k0 ∧ x.2.2.1 = p ∧ x.2.2.2.2.1 = T ∧ x.2.2.2.2.2.2.1 = false ∧ (x.2.2.2.2.2.2.2.1.right = true ∧ x.2.2.2.2.2.2.2.1.inside T = true) ∧
    0 ≤ x.2.2.2.2.2.1 ∧ x.2.2.2.2.2.1 ≤ 4 * (k0 - x.1.2.1) ∧ (x.1.2.1 < k0 → 0 < x.2.2.2.2.2.1)) (AskPost k0 T) askM ?_ _ ?_
  · rintro ⟨⟨sure, k, _⟩, ⟨l, p', q, T', c, o, t, res, n, m, u, a, b, v, s, _⟩⟩ ⟨h0, h1, h2, h3, h4, ⟨h5, h6⟩, h7, h8, h9⟩
    dsimp only at h0 h1 h2 h3 h4 h5 h6 h7 h8 h9
    subst h2; subst h3; subst h4
    have e2 : ask2 c = c + 2 := by unfold ask2; rw [wr (n := c + 1) (by omega), wr (by omega)]; omega
    have e3 : ask3 c = c + 3 := by unfold ask3; rw [e2, wr (by omega)]; omega
    have e4 : ask4 c = c + 4 := by unfold ask4; rw [e3, wr (by omega)]; omega
    simp only [askStep]
    by_cases hk0 : 0 < k
    · have hw : IntKind.i64.wrap (k - 1) = k - 1 := wr (by omega)
      have ok : askOk p' T' false t = true := by simp [askOk, hp, hs, h5, h6]
      obtain ⟨i1, i2, i3, i4, i5⟩ := ask_in h5 h6
      rw [if_pos hk0, if_pos ok, hw, e2, e3, e4]
      by_cases c1 : (nextN (polyAt p') t).no = true
      · rw [if_pos c1]
        by_cases c2 : without (polyAt p') t.split.1 = true
        · rw [if_pos c2]
          exact .inr ⟨_, rfl, ⟨by dsimp only; omega, by dsimp only; omega, rfl, rfl, rfl, ⟨i5, i3⟩, by dsimp only; omega, by dsimp only; omega, by dsimp only; omega⟩, by simp only [askM]; omega⟩
        · rw [if_neg c2]
          by_cases c3 : without (polyAt p') t.split.2 = true
          · rw [if_pos c3]
            exact .inr ⟨_, rfl, ⟨by dsimp only; omega, by dsimp only; omega, rfl, rfl, rfl, ⟨i4, i2⟩, by dsimp only; omega, by dsimp only; omega, by dsimp only; omega⟩, by simp only [askM]; omega⟩
          · rw [if_neg c3]
            exact .inl ⟨_, rfl, rfl, by dsimp only; omega, by dsimp only; omega, by dsimp only; omega⟩
      · rw [if_neg c1]
        by_cases c2 : (t.meet (nextN (polyAt p') t)).no = true
        · rw [if_pos c2]
          exact .inl ⟨_, rfl, rfl, by dsimp only; omega, by dsimp only; omega, by dsimp only; omega⟩
        · rw [if_neg c2]
          obtain ⟨j1, j2⟩ := ask_meet h6 c2
          by_cases c3 : ivEq (t.meet (nextN (polyAt p') t)) t = true
          · rw [if_pos c3]
            exact .inl ⟨_, rfl, rfl, by dsimp only; omega, by dsimp only; omega, by dsimp only; omega⟩
          · rw [if_neg c3]
            exact .inr ⟨_, rfl, ⟨by dsimp only; omega, by dsimp only; omega, rfl, rfl, rfl, ⟨j1, j2⟩, by dsimp only; omega, by dsimp only; omega, by dsimp only; omega⟩, by simp only [askM]; omega⟩
    · rw [if_neg hk0]
      exact .inl ⟨_, rfl, rfl, by dsimp only; omega, by dsimp only; omega, by dsimp only; omega⟩
  · exact ⟨by dsimp only; omega, by dsimp only; omega, rfl, rfl, rfl, ⟨hT, inside_mk hT hT ⟨Int.le_refl _, Int.le_refl _⟩⟩, by dsimp only; omega, by dsimp only; omega, by dsimp only; omega⟩
end Go.Proofs.Ytlbmjajjldfigaa
