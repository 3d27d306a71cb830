/-
  The middle of where light falls; in plain Lean.
-/
import Derived.Test.YtliglpiofomelaaGreatVig
import Derived.Test.YtliglpiofomelaaGreatPup2
namespace Go.Proofs.YtliglpiofomelaaGreat
open Go Ev
set_option linter.unusedVariables false
set_option linter.unusedSimpArgs false
set_option maxRecDepth 100000
def filmS (x y w : Int) : Iv × Iv :=
  (wide (pick x 393216 - 196608) (pick w 500), wide (pick y 393216 - 196608) (dv (pick w 500) 3))
theorem filmS_right (x y w : Int) : (filmS x y w).1.right = true ∧ (filmS x y w).2.right = true := by
  have b1 := pick_bd x (m := 393216) (by decide)
  have b2 := pick_bd y (m := 393216) (by decide)
  have b3 := pick_bd w (m := 500) (by decide)
  have b4 : 0 ≤ dv (pick w 500) 3 ∧ dv (pick w 500) 3 ≤ 1000 := by
    unfold dv
    rw [Int.tdiv_eq_ediv_of_nonneg b3.1]
    rw [show w64 (pick w 500 / 3) = pick w 500 / 3 from wr (by omega)]
    omega
  exact ⟨(wide_right (x := pick x 393216 - 196608) (w := pick w 500) (by omega) (by omega)).1, (wide_right (x := pick y 393216 - 196608) (w := dv (pick w 500) 3) (by omega) (by omega)).1⟩
abbrev SmA := Int × Bool × Iv
def smOne (o : Iv) (l : List Surf) (x y : Iv) (n : Int) (f : Iv) (s : SmA) (z : Pair) : SmA :=
  if discOf z n ≠ 1 then s
  else if (aimOf o l x y z n).2 = true ∧ (throughOf l (aimOf o l x y z n).1 ((lastOf l).add f)).2.2 = 1 then
    (IntKind.i64.wrap (s.1 + 1), s.2.1 && (throughOf l (aimOf o l x y z n).1 ((lastOf l).add f)).1.right, if s.1 = 0 then (throughOf l (aimOf o l x y z n).1 ((lastOf l).add f)).1 else s.2.2.hull (throughOf l (aimOf o l x y z n).1 ((lastOf l).add f)).1)
  else s
abbrev SmX := (Int × Int × Int × Bool × Int × Unit) × (List Cx × Iv × Iv × Iv × Iv × Iv × SpotV × List Surf × Unit)
def smStep : SmX → Option (SmX ⊕ ((Int × Bool × Unit) × (Iv × SpotV × Unit)))
  | ((i, m, c, wh, n, _), (L, o, x, y, f, al, p, l, _)) =>
    if i < m then
      if 0 ≤ i ∧ i < (L.length : Int) then
        match L[i.toNat]? with
        | some z =>
          if cInDisc z n ≠ 1 then some (.inl ((IntKind.i64.wrap (i + 1), m, c, wh, n, ()), (L, o, x, y, f, al, p, l, ())))
          else if (aimP o l x y z n).2 = false then some (.inl ((IntKind.i64.wrap (i + 1), m, c, wh, n, ()), (L, o, x, y, f, al, p, l, ())))
          else if Ev.lenOk l = true then
            if (throughOf l (aimP o l x y z n).1 ((lastOf l).add f)).2.2 ≠ 1 then some (.inl ((IntKind.i64.wrap (i + 1), m, c, wh, n, ()), (L, o, x, y, f, al, p, l, ())))
            else some (.inl ((IntKind.i64.wrap (i + 1), m, IntKind.i64.wrap (c + 1), wh && (throughOf l (aimP o l x y z n).1 ((lastOf l).add f)).1.right, n, ()), (L, o, x, y, f, (if c = 0 then (throughOf l (aimP o l x y z n).1 ((lastOf l).add f)).1 else al.hull (throughOf l (aimP o l x y z n).1 ((lastOf l).add f)).1), p, l, ())))
          else none
        | none => none
      else none
    else some (.inr ((c, wh, ()), (al, p, ())))
def smM (x : SmX) : Nat := x.2.1.length - x.1.1.toNat
theorem sm_iter (o : Iv) (l : List Surf) (x y f : Iv) (n : Int) (p : SpotV) (hl : Ev.lenOk l = true) (L : List Cx) (hL : L.length ≤ 1024) : ∀ (q : List Pair) (pre : List Cx) (s : SmA) (j : Nat), (∀ z ∈ q, box16 z) → L = pre ++ q.map cxOf → q.length ≤ j →
    Ev.iter smStep (j + 1) (((pre.length : Int), (L.length : Int), s.1, s.2.1, n, ()), (L, o, x, y, f, s.2.2, p, l, ())) = some (((q.foldl (smOne o l x y n f) s).1, (q.foldl (smOne o l x y n f) s).2.1, ()), ((q.foldl (smOne o l x y n f) s).2.2, p, ()))
  | [], pre, s, j, _, hp, _ => by
    rw [Ev.iter]
    have : L.length = pre.length := by rw [hp]; simp
    simp only [smStep, if_neg (show ¬ (pre.length : Int) < (L.length : Int) by omega), List.foldl_nil]
  | z :: q, pre, s, j, hq, hp, hj => by
    obtain ⟨j', rfl⟩ : ∃ j', j = j' + 1 := ⟨j - 1, by simp at hj; omega⟩
    have hlen : L.length = pre.length + (q.length + 1) := by rw [hp]; simp
    have hz := hq z (by simp)
    have hg : L[((pre.length : Int)).toNat]? = some (cxOf z) := by rw [hp]; simp
    have hn := sm_iter o l x y f n p hl L hL q (pre ++ [cxOf z]) (smOne o l x y n f s z) j' (fun w hw => hq w (by simp [hw])) (by rw [hp]; simp) (by simp at hj; omega)
    have hw : IntKind.i64.wrap ((pre.length : Int) + 1) = (((pre ++ [cxOf z]).length : Nat) : Int) := by rw [wr (by omega)]; simp
    rw [Ev.iter]
    simp only [smStep, if_pos (show (pre.length : Int) < (L.length : Int) by omega), if_pos (show (0 : Int) ≤ (pre.length : Int) ∧ (pre.length : Int) < (L.length : Int) by omega), hg, inDisc_cx hz, aimP_cx hz, hl, if_true]
    rw [List.foldl_cons, ← hn, ← hw]
    by_cases c1 : discOf z n = 1
    · rcases Bool.eq_false_or_eq_true (aimOf o l x y z n).2 with c2 | c2
      · by_cases c3 : (throughOf l (aimOf o l x y z n).1 ((lastOf l).add f)).2.2 = 1
        · simp only [c1, c2, c3, ne_eq, not_true_eq_false, if_false, if_true, smOne, and_self, Bool.true_eq_false]
        · simp only [c1, c2, c3, ne_eq, not_true_eq_false, not_false_eq_true, if_false, if_true, smOne, and_false, Bool.true_eq_false]
      · simp only [c1, c2, ne_eq, not_true_eq_false, if_false, if_true, smOne, false_and, Bool.false_eq_true]
    · simp only [c1, ne_eq, not_false_eq_true, if_true, smOne]
theorem sm_run {o : Iv} {l : List Surf} {x y f : Iv} {n : Int} {p : SpotV} (hl : Ev.lenOk l = true) (hn : 1 ≤ n ∧ n ≤ 16) :
    runBy smStep smM ((0, (((cellsP (cellsR n)).map cxOf).length : Int), 0, true, n, ()), ((cellsP (cellsR n)).map cxOf, o, x, y, f, Iv.none, p, l, ())) =
      some ((((cellsP n).foldl (smOne o l x y n f) (0, true, Iv.none)).1, ((cellsP n).foldl (smOne o l x y n f) (0, true, Iv.none)).2.1, ()), (((cellsP n).foldl (smOne o l x y n f) (0, true, Iv.none)).2.2, p, ())) := by
  rw [cellsR_eq hn]
  have := sm_iter o l x y f n p hl ((cellsP n).map cxOf) (by rw [List.length_map]; exact cellsP_len (by omega)) (cellsP n) [] (0, true, Iv.none) ((cellsP n).map cxOf).length (cells_box16 (by omega)) rfl (by simp)
  unfold runBy
  exact this
theorem through_right {l : List Surf} {r : Ray} {z : Iv} (h : (throughOf l r z).2.2 = 1) : (throughOf l r z).1.right = true ∧ (throughOf l r z).2.1.right = true := by
  unfold throughOf at h ⊢
  split at h
  · rename_i h1
    rw [if_pos h1]
    simp only at h ⊢
    split at h
    · rename_i h2
      rw [if_pos h2]; exact h2
    · simp [lost3] at h
  · rename_i h1
    exact absurd h h1
/-- What the hull is of. -/
structure SmI (s : SmA) (a : Acc2) : Prop where
  c : s.1 = (a.1.length : Int)
  w : s.2.1 = true
  r : a.1 ≠ [] → s.2.2.right = true ∧ ∀ p ∈ a.1, s.2.2.lo ≤ p.1.lo ∧ p.1.hi ≤ s.2.2.hi
theorem sm_step_inv {o : Iv} {l : List Surf} {x y f : Iv} {n : Int} {s : SmA} {a : Acc2} (h : SmI s a) (ha : a.1.length ≤ 2000) (z : Pair) : SmI (smOne o l x y n f s z) (spotOne o l x y n ((lastOf l).add f) a z) := by
  unfold smOne spotOne
  by_cases c1 : discOf z n = 1
  · have c1' : ¬ discOf z n ≠ 1 := not_not_intro c1
    rw [if_neg c1', if_neg c1']
    by_cases c2 : (aimOf o l x y z n).2 = true ∧ (throughOf l (aimOf o l x y z n).1 ((lastOf l).add f)).2.2 = 1
    · rw [if_pos c2, if_pos c2]
      obtain ⟨hr, _⟩ := through_right c2.2
      have hb := right_bd hr
      generalize (throughOf l (aimOf o l x y z n).1 ((lastOf l).add f)).1 = u at *
      refine ⟨?_, by simp only [h.w, hr]; rfl, fun _ => ?_⟩
      · simp only [h.c]
        rw [wr (by omega)]; simp
      · have hc := h.c
        by_cases e : a.1 = []
        · have : s.1 = 0 := by rw [hc, e]; rfl
          simp only [this, if_true]
          refine ⟨hr, fun p hp => ?_⟩
          rw [e] at hp
          simp at hp
          subst hp
          exact ⟨Int.le_refl _, Int.le_refl _⟩
        · have : ¬ s.1 = 0 := by
            rw [hc]
            cases hq : a.1 with
            | nil => exact absurd hq e
            | cons _ _ => simp; omega
          simp only [this, if_false]
          obtain ⟨h1, h2⟩ := h.r e
          have hb2 := right_bd h1
          have hh : s.2.2.hull u = ⟨min s.2.2.lo u.lo, max s.2.2.hi u.hi, false⟩ := by
            unfold Iv.hull Iv.both Iv.of
            rw [h1, hr]
            simp only [Bool.and_self, if_true]
            rw [if_pos (right_mk' (by omega))]
          rw [hh]
          refine ⟨right_mk' (by omega), fun p hp => ?_⟩
          rcases List.mem_append.1 hp with hp | hp
          · have := h2 p hp
            simp only; omega
          · simp at hp
            subst hp
            simp only; omega
    · rw [if_neg c2, if_neg c2]
      exact ⟨h.c, h.w, h.r⟩
  · have c1' : discOf z n ≠ 1 := c1
    rw [if_pos c1', if_pos c1']
    exact h
theorem sm_fold_inv (o : Iv) (l : List Surf) (x y f : Iv) (n : Int) : ∀ (q : List Pair) (s : SmA) (a : Acc2), SmI s a → a.1.length + q.length ≤ 2000 → SmI (q.foldl (smOne o l x y n f) s) (q.foldl (spotOne o l x y n ((lastOf l).add f)) a)
  | [], s, a, h, _ => h
  | z :: q, s, a, h, hm => by
    simp only [List.length_cons, List.foldl_cons] at *
    have := spotOne_len (o := o) (l := l) (x := x) (y := y) (n := n) (at_ := (lastOf l).add f) a z
    exact sm_fold_inv o l x y f n q _ _ (sm_step_inv h (by omega) z) (by omega)

/-! Sums -/
theorem add_parts {a b : Iv} (h : (a.add b).right = true) : a.right = true ∧ b.right = true ∧ (a.add b).lo = a.lo + b.lo ∧ (a.add b).hi = a.hi + b.hi := by
  obtain ⟨h1, h2⟩ := add_right h
  refine ⟨h1, h2, ?_⟩
  unfold Iv.add Iv.both at h ⊢
  rw [h1, h2] at h ⊢
  simp only [Bool.and_self, if_true] at h ⊢
  obtain ⟨_, e⟩ := of_right h
  rw [e]
  exact ⟨rfl, rfl⟩
theorem sum_bounds (f : Ivp → Iv) : ∀ (q : List Ivp) (s : Iv), (q.foldl (fun s p => s.add (f p)) s).right = true → s.right = true ∧ ∀ m M : Int, (∀ p ∈ q, (f p).right = true → m ≤ (f p).lo ∧ (f p).hi ≤ M) →
    s.lo + q.length * m ≤ (q.foldl (fun s p => s.add (f p)) s).lo ∧ (q.foldl (fun s p => s.add (f p)) s).hi ≤ s.hi + q.length * M
  | [], s, h => ⟨h, fun m M _ => by simp⟩
  | p :: q, s, h => by
    simp only [List.foldl_cons] at h ⊢
    obtain ⟨h1, h2⟩ := sum_bounds f q _ h
    obtain ⟨r1, r2, e1, e2⟩ := add_parts h1
    refine ⟨r1, fun m M hm => ?_⟩
    have h3 := h2 m M fun w hw => hm w (by simp [hw])
    have h4 := hm p (by simp) r2
    rw [e1, e2] at h3
    simp only [List.length_cons]
    have e3 : ((q.length + 1 : Nat) : Int) * m = q.length * m + m := by rw [Int.natCast_add, Int.add_mul]; simp
    have e4 : ((q.length + 1 : Nat) : Int) * M = q.length * M + M := by rw [Int.natCast_add, Int.add_mul]; simp
    omega
theorem sum_hi (f : Ivp → Iv) : ∀ (q : List Ivp) (s : Iv), (q.foldl (fun s p => s.add (f p)) s).right = true → (∀ p ∈ q, (f p).right = true → 0 ≤ (f p).hi) → s.hi ≤ (q.foldl (fun s p => s.add (f p)) s).hi
  | [], s, h, _ => Int.le_refl _
  | p :: q, s, h, hm => by
    simp only [List.foldl_cons] at h ⊢
    have h1 := (sum_bounds f q _ h).1
    obtain ⟨r1, r2, e1, e2⟩ := add_parts h1
    have h3 := sum_hi f q _ h fun w hw => hm w (by simp [hw])
    have h4 := hm p (by simp) r2
    omega
theorem mean_parts {f : Ivp → Iv} {q : List Ivp} (hq : q.length ≤ 2000) (h : (meanOf f q).right = true) :
    (q.foldl (fun s p => s.add (f p)) (Iv.point 0)).right = true ∧ 0 < (q.length : Int) ∧
      (meanOf f q).lo = fl ((q.foldl (fun s p => s.add (f p)) (Iv.point 0)).lo * 65536) (q.length * 65536) ∧ (meanOf f q).hi = cl ((q.foldl (fun s p => s.add (f p)) (Iv.point 0)).hi * 65536) (q.length * 65536) := by
  unfold meanOf at h ⊢
  obtain ⟨r1, r2, r3⟩ := div_right h
  have rb : (⟨q.length * 65536, q.length * 65536, false⟩ : Iv).right = true := right_mk' (by omega)
  have eb : Iv.whole (q.length : Int) = ⟨q.length * 65536, q.length * 65536, false⟩ := by
    unfold Iv.whole Iv.point Iv.of
    rw [if_pos (numIn_iff.2 (by omega)), if_pos rb]
  rw [eb] at r3 h ⊢
  have hpos : 0 < (q.length : Int) := by
    have := has0 rb r3
    simp only at this
    omega
  have b1 := right_bd r1
  rw [div_eq r1 rb r3] at h ⊢
  simp only at h ⊢
  have hD : 0 < (q.length : Int) * 65536 := by omega
  have l3 := fl_mono hD (show (q.foldl (fun s p => s.add (f p)) (Iv.point 0)).lo * 65536 ≤ (q.foldl (fun s p => s.add (f p)) (Iv.point 0)).hi * 65536 by omega)
  have l4 := cl_mono hD (show (q.foldl (fun s p => s.add (f p)) (Iv.point 0)).lo * 65536 ≤ (q.foldl (fun s p => s.add (f p)) (Iv.point 0)).hi * 65536 by omega)
  refine ⟨r1, hpos, ?_⟩
  generalize q.foldl (fun s p => s.add (f p)) (Iv.point 0) = S at *
  obtain ⟨_, e⟩ := of_right h
  rw [e]
  unfold min4 max4
  exact ⟨by simp only; omega, by simp only; omega⟩
theorem mean_in {f : Ivp → Iv} {q : List Ivp} (hq : q.length ≤ 2000) (h : (meanOf f q).right = true) {m M : Int} (hm : ∀ p ∈ q, (f p).right = true → m ≤ (f p).lo ∧ (f p).hi ≤ M) : m ≤ (meanOf f q).lo ∧ (meanOf f q).hi ≤ M := by
  obtain ⟨r1, hpos, e1, e2⟩ := mean_parts hq h
  obtain ⟨_, hb⟩ := sum_bounds f q _ r1
  obtain ⟨b1, b2⟩ := hb m M hm
  have p0 : (Iv.point 0).lo = 0 ∧ (Iv.point 0).hi = 0 := by decide
  rw [p0.1, Int.zero_add] at b1
  rw [p0.2, Int.zero_add] at b2
  have hD : 0 < (q.length : Int) * 65536 := by omega
  rw [e1, e2]
  constructor
  · refine (le_fl_iff hD).2 ?_
    rw [← Int.mul_assoc, Int.mul_comm m]
    omega
  · refine (cl_le_iff hD).2 ?_
    rw [← Int.mul_assoc, Int.mul_comm M]
    omega
theorem sq_hi {sp : SpotV} {p : Ivp} (h : (sqOf sp p).right = true) : 0 ≤ (sqOf sp p).hi := by
  unfold sqOf at h ⊢
  obtain ⟨r1, r2, e1, e2⟩ := add_parts h
  have key : ∀ a : Iv, a.sqr.right = true → 0 ≤ a.sqr.hi := by
    intro a ha
    have hr := sqr_right ha
    have hb := right_bd ha
    rw [sqr_eq hr] at ha hb ⊢
    obtain ⟨_, e⟩ := of_right ha
    rw [e] at hb ⊢
    have h0 : 0 ≤ ivNear a * ivNear a := Int.mul_nonneg (by unfold ivNear; omega) (by unfold ivNear; omega)
    have h1 : 0 ≤ fl (ivNear a * ivNear a) 65536 := (le_fl_iff (by decide)).2 (by omega)
    simp only at hb ⊢
    omega
  have := key _ r1
  have := key _ r2
  omega
theorem mean_sq_hi {sp : SpotV} {q : List Ivp} (hq : q.length ≤ 2000) : 0 ≤ (meanOf (sqOf sp) q).hi := by
  rcases div_clean (q.foldl (fun s p => s.add (sqOf sp p)) (Iv.point 0)) (Iv.whole (q.length : Int)) with h | h
  · obtain ⟨r1, hpos, e1, e2⟩ := mean_parts (f := sqOf sp) hq h
    have h3 := sum_hi (sqOf sp) q _ r1 fun p _ hp => sq_hi hp
    have p0 : (Iv.point 0).hi = 0 := by decide
    rw [p0] at h3
    have hD : 0 < (q.length : Int) * 65536 := by omega
    have h4 : 0 ≤ fl ((q.foldl (fun s p => s.add (sqOf sp p)) (Iv.point 0)).hi * 65536) (q.length * 65536) := (le_fl_iff hD).2 (by omega)
    have h5 := fl_le_cl ((q.foldl (fun s p => s.add (sqOf sp p)) (Iv.point 0)).hi * 65536) (q.length * 65536)
    rw [e2]
    omega
  · unfold meanOf
    rw [h]
    decide

/-! Turned by a quarter -/
def okC (o : Iv) (l : List Surf) (x y : Iv) (n : Int) (at_ : Iv) (z : Pair) : Bool := (aimOf o l x y z n).2 && ((throughOf l (aimOf o l x y z n).1 at_).2.2 == 1)
def st1 (o : Iv) (l : List Surf) (x y : Iv) (n : Int) (at_ : Iv) (z : Pair) : Bool := discOf z n == 1 && okC o l x y n at_ z
def st2 (o : Iv) (l : List Surf) (x y : Iv) (n : Int) (at_ : Iv) (z : Pair) : Bool := discOf z n == 1 && !okC o l x y n at_ z
theorem spot_st (o : Iv) (l : List Surf) (x y : Iv) (n : Int) (at_ : Iv) : ∀ (q : List Pair) (a : Acc2) (m : Nat), a.2 = (m : Int) → m + q.length ≤ 2000 →
    (q.foldl (spotOne o l x y n at_) a).1.length = a.1.length + q.countP (st1 o l x y n at_) ∧ (q.foldl (spotOne o l x y n at_) a).2 = ((m + q.countP (st2 o l x y n at_) : Nat) : Int)
  | [], a, m, h, _ => ⟨rfl, h⟩
  | z :: q, a, m, h, hm => by
    simp only [List.length_cons, List.foldl_cons] at *
    rw [List.countP_cons, List.countP_cons]
    by_cases d : discOf z n = 1
    · by_cases c : (aimOf o l x y z n).2 = true ∧ (throughOf l (aimOf o l x y z n).1 at_).2.2 = 1
      · have e : spotOne o l x y n at_ a z = (a.1 ++ [((throughOf l (aimOf o l x y z n).1 at_).1, (throughOf l (aimOf o l x y z n).1 at_).2.1)], a.2) := by unfold spotOne; rw [if_neg (by simp [d]), if_pos c]
        have s1 : st1 o l x y n at_ z = true := by simp [st1, okC, d, c.1, c.2]
        have s2 : st2 o l x y n at_ z = false := by simp [st2, okC, d, c.1, c.2]
        obtain ⟨i1, i2⟩ := spot_st o l x y n at_ q (spotOne o l x y n at_ a z) m (by rw [e]; exact h) (by omega)
        rw [i1, i2, s1, s2, e]
        exact ⟨by simp; omega, by simp⟩
      · have e : spotOne o l x y n at_ a z = (a.1, IntKind.i64.wrap (a.2 + 1)) := by unfold spotOne; rw [if_neg (by simp [d]), if_neg c]
        have hk : okC o l x y n at_ z = false := by
          unfold okC
          cases hc : (aimOf o l x y z n).2
          · rfl
          · have : ¬ (throughOf l (aimOf o l x y z n).1 at_).2.2 = 1 := fun e => c ⟨hc, e⟩
            simp [this]
        have s1 : st1 o l x y n at_ z = false := by simp [st1, hk]
        have s2 : st2 o l x y n at_ z = true := by simp [st2, hk, d]
        obtain ⟨i1, i2⟩ := spot_st o l x y n at_ q (spotOne o l x y n at_ a z) (m + 1) (by rw [e, h]; simp only; rw [wr (by omega)]; rfl) (by omega)
        rw [i1, i2, s1, s2, e]
        exact ⟨by simp, by simp; omega⟩
    · have e : spotOne o l x y n at_ a z = a := by unfold spotOne; rw [if_pos d]
      have s1 : st1 o l x y n at_ z = false := by simp [st1, d]
      have s2 : st2 o l x y n at_ z = false := by simp [st2, d]
      obtain ⟨i1, i2⟩ := spot_st o l x y n at_ q (spotOne o l x y n at_ a z) m (by rw [e]; exact h) (by omega)
      rw [i1, i2, s1, s2, e]
      exact ⟨by simp, by simp⟩
theorem through_quarter (l : List Surf) (r : Ray) (z : Iv) : (throughOf l (r.map V.quarter) z).2.2 = (throughOf l r z).2.2 := by
  unfold throughOf
  rw [traceOf_sym sym_quarter]
  simp only
  by_cases c : (traceOf l r).1 = 1
  · rw [if_pos c, if_pos c]
    have e : along ((traceOf l r).2.2.map V.quarter) ((z.sub ((traceOf l r).2.2.map V.quarter).o.z).div ((traceOf l r).2.2.map V.quarter).d.z) = (along (traceOf l r).2.2 ((z.sub (traceOf l r).2.2.o.z).div (traceOf l r).2.2.d.z)).quarter := along_sym sym_quarter _ _
    rw [e]
    generalize along (traceOf l r).2.2 ((z.sub (traceOf l r).2.2.o.z).div (traceOf l r).2.2.d.z) = p
    simp only [V.quarter, neg_right]
    by_cases c1 : p.x.right = true <;> by_cases c2 : p.y.right = true <;> simp [c1, c2]
  · rw [if_neg c, if_neg c]
theorem ok_rot {o : Iv} {l : List Surf} {a b : Iv} {n : Int} {at_ : Iv} {z : Pair} (hz : box20 z) : okC o l b.neg a n at_ (rot z) = okC o l a b n at_ z := by
  obtain ⟨h1, h2⟩ := aimOf_map sym_quarter (aimRay_rot (o := o) (l := l) (a := a) (b := b) (n := n) hz)
  unfold okC
  rw [h1]
  rcases Bool.eq_false_or_eq_true (aimOf o l a b z n).2 with c | c
  · rw [h2 c, through_quarter]
  · rw [c]; rfl
theorem spot_rot {o : Iv} {l : List Surf} {a b : Iv} {n : Int} {f : Iv} (hn : 1 ≤ n ∧ n ≤ 4) (hs : sizedC l n = true) (ha : a.right = true) (hb : b.right = true) :
    (spotOf o l b.neg a n f).2 = 0 ∧ (spotOf o l a b n f).2 = 0 ∧ (spotOf o l b.neg a n f).1.1 = (spotOf o l a b n f).1.1 ∧ (spotOf o l b.neg a n f).1.2.1 = (spotOf o l a b n f).1.2.1 := by
  have e : spotOf o l a b n f = (spotEnd (spotFold o l a b n ((lastOf l).add f)), 0) := by unfold spotOf; rw [if_pos ⟨hs, ha, hb⟩]
  have e' : spotOf o l b.neg a n f = (spotEnd (spotFold o l b.neg a n ((lastOf l).add f)), 0) := by unfold spotOf; rw [if_pos ⟨hs, by rw [neg_right]; exact hb, ha⟩]
  have hlen := cellsP_len (n := n) (by omega)
  obtain ⟨h1, h2⟩ := rot_spec hn
  have hb20 : ∀ z ∈ cellsP n, box20 z := fun z hz => by have := cellsP_box (n := n) (by omega) z hz; unfold box20; omega
  obtain ⟨p1, p2⟩ := spot_st o l a b n ((lastOf l).add f) (cellsP n) ([], 0) 0 rfl (by omega)
  obtain ⟨q1, q2⟩ := spot_st o l b.neg a n ((lastOf l).add f) (cellsP n) ([], 0) 0 rfl (by omega)
  have c1 : (cellsP n).countP (st1 o l b.neg a n ((lastOf l).add f)) = (cellsP n).countP (st1 o l a b n ((lastOf l).add f)) := by
    rw [← h1.countP_eq, List.countP_map]
    refine List.countP_congr fun z hz => ?_
    simp only [Function.comp, st1, h2 z hz, ok_rot (hb20 z hz)]
  have c2 : (cellsP n).countP (st2 o l b.neg a n ((lastOf l).add f)) = (cellsP n).countP (st2 o l a b n ((lastOf l).add f)) := by
    rw [← h1.countP_eq, List.countP_map]
    refine List.countP_congr fun z hz => ?_
    simp only [Function.comp, st2, h2 z hz, ok_rot (hb20 z hz)]
  rw [e, e']
  refine ⟨rfl, rfl, ?_, ?_⟩
  · show (((spotFold o l b.neg a n ((lastOf l).add f)).1.length : Nat) : Int) = _
    unfold spotFold spotEnd
    simp only
    rw [q1, p1, c1]
  · show (spotFold o l b.neg a n ((lastOf l).add f)).2 = (spotFold o l a b n ((lastOf l).add f)).2
    unfold spotFold
    rw [q2, p2, c2]
structure MeansL (p q : SpotV × Int) (S : SmA) : Prop where
  e : p.2 = 0 ∧ q.2 = 0
  c : q.1.1 = p.1.1 ∧ q.1.2.1 = p.1.2.1
  m : ¬ p.1.2.2.2.2.hi < 0
  s : S.1 = p.1.1 ∧ 0 ≤ S.1
  z : S.1 = 0 → p.1.2.2.1 = Iv.none
  r : S.1 ≠ 0 → p.1.2.2.1.right = true → S.2.1 = true ∧ IntKind.i64.wrap (S.2.2.lo - 1) ≤ p.1.2.2.1.lo ∧ p.1.2.2.1.hi ≤ IntKind.i64.wrap (S.2.2.hi + 1)
theorem means_law {o : Iv} {l : List Surf} {a b : Iv} {n : Int} {f : Iv} (hn : 1 ≤ n ∧ n ≤ 4) (hs : sizedC l n = true) (ha : a.right = true) (hb : b.right = true) :
    MeansL (spotOf o l a b n f) (spotOf o l b.neg a n f) ((cellsP n).foldl (smOne o l a b n f) (0, true, Iv.none)) := by
  obtain ⟨h1, h2, h3, h4⟩ := spot_rot (o := o) (l := l) (f := f) hn hs ha hb
  have hlen := cellsP_len (n := n) (by omega)
  have hI := sm_fold_inv o l a b f n (cellsP n) (0, true, Iv.none) ([], 0) ⟨rfl, rfl, fun h => absurd rfl h⟩ (by simp; omega)
  have hlen2 := spotFold_len o l a b (n := n) ((lastOf l).add f) (by omega)
  have e : spotOf o l a b n f = (spotEnd (spotFold o l a b n ((lastOf l).add f)), 0) := by unfold spotOf; rw [if_pos ⟨hs, ha, hb⟩]
  have hI' : SmI ((cellsP n).foldl (smOne o l a b n f) (0, true, Iv.none)) (spotFold o l a b n ((lastOf l).add f)) := hI
  refine ⟨⟨h2, h1⟩, ⟨h3, h4⟩, ?_, ?_, ?_, ?_⟩
  · rw [e]
    have := mean_sq_hi (sp := (((spotFold o l a b n ((lastOf l).add f)).1.length : Int), (spotFold o l a b n ((lastOf l).add f)).2, meanOf Prod.fst (spotFold o l a b n ((lastOf l).add f)).1, meanOf Prod.snd (spotFold o l a b n ((lastOf l).add f)).1, ⟨0, 0, false⟩)) (q := (spotFold o l a b n ((lastOf l).add f)).1) (by omega)
    unfold spotEnd
    simp only
    omega
  · rw [e, hI'.c]
    exact ⟨rfl, Int.natCast_nonneg _⟩
  · rw [e, hI'.c]
    intro h
    have h0 : (spotFold o l a b n ((lastOf l).add f)).1 = [] := List.eq_nil_of_length_eq_zero (by omega)
    unfold spotEnd
    simp only [h0]
    decide
  · rw [e]
    intro h hr
    have h0 : (spotFold o l a b n ((lastOf l).add f)).1 ≠ [] := by
      intro h0
      rw [hI'.c, h0] at h
      exact h rfl
    obtain ⟨r1, r2⟩ := hI'.r h0
    have hb2 := right_bd r1
    have hm := mean_in (f := Prod.fst) (q := (spotFold o l a b n ((lastOf l).add f)).1) (by omega) hr (m := ((cellsP n).foldl (smOne o l a b n f) (0, true, Iv.none)).2.2.lo) (M := ((cellsP n).foldl (smOne o l a b n f) (0, true, Iv.none)).2.2.hi) fun p hp _ => r2 p hp
    refine ⟨hI'.w, ?_, ?_⟩
    · rw [wr (by omega)]
      have := hm.1
      unfold spotEnd
      simp only
      omega
    · rw [wr (by omega)]
      have := hm.2
      unfold spotEnd
      simp only
      omega
end Go.Proofs.YtliglpiofomelaaGreat
