/-
  Regions that draw their order: every order comes to what the text's order comes to.
-/
import Derived.Test.YtlbmjajjldfigaaGreatEvDraw
namespace Go.Proofs.YtlbmjajjldfigaaGreat.Ev
open Go Go.RowKit
universe u

section
variable {P : Program} {E : Env} {ρ : Type} {r : ρ} {B : Nat} {w0 : World}

theorem restM_box {keep : List Nat} {M : List Row} {c : Nat} {r : Row} (h : nth (restM keep 0 M) c = some r) : r = .dead ∨ (nth M c = some r ∧ (r.hid = true → c ∈ keep)) := by
  rcases restM_spec keep M 0 c r h with h1 | ⟨h1, h2⟩
  · exact .inl h1
  · exact .inr ⟨h1, fun hc => by have := h2 hc; rwa [Nat.zero_add] at this⟩

/-- All of the facts of the text's order. -/
structure Facts (P : Program) (ops : Array Oper) (s s0 : St) (xs : List Acc) (st sg : Nat → St) (g : Nat → Bool) (mm : Nat → Nat) : Prop where
  lex : Lex P ops ops.toList s0 xs st sg g mm xs.length
  le : xs.length ≤ ops.toList.length
  chk : Checked' s.n s.mem.length s0.mem ops.toList xs
  wr : ∀ (c j : Nat) (y : Acc) (p : Row), xs[j]? = some y → y.did = .fresh c p → p.hid = true
  n0 : s0.n = s.n
  t0 : s0.tmps = s.tmps

variable {ops : Array Oper} {s s0 : St} {xs : List Acc} {st sg : Nat → St} {g : Nat → Bool} {mm : Nat → Nat}

theorem Facts.acc (_ : Facts P ops s s0 xs st sg g mm) {i : Nat} (h : i < xs.length) : ∃ x, xs[i]? = some x := ⟨xs[i], List.getElem?_eq_getElem h⟩
theorem Facts.at (F : Facts P ops s s0 xs st sg g mm) {i : Nat} (h : i < xs.length) : ∃ o, ops.toList[i]? = some o := ⟨ops.toList[i]'(Nat.lt_of_lt_of_le h F.le), List.getElem?_eq_getElem _⟩

theorem Facts.sg_n (F : Facts P ops s s0 xs st sg g mm) : ∀ i, i ≤ xs.length → (st i).n = s.n
  | 0, _ => by rw [F.lex.init, F.n0]
  | i + 1, h => by
    obtain ⟨o, ho⟩ := F.at (i := i) (by omega)
    obtain ⟨x, hx⟩ := F.acc (i := i) (by omega)
    have ih := F.sg_n i (by omega)
    have h2 := (F.lex.mem i (by omega)).2
    rw [F.lex.next i _ x (by omega) ho hx]
    split <;> simp [St.put, h2, ih]

theorem Facts.rows (F : Facts P ops s s0 xs st sg g mm) : ∀ i, i ≤ xs.length → (st i).mem.length = s0.mem.length ∧ ∀ c, RowS s0.mem xs (fun j => decide (j < i)) c (nth (st i).mem c)
  | 0, _ => by
    rw [F.lex.init]
    exact ⟨rfl, fun c => .inr (.inr ⟨fun i x _ h => by simp at h, rfl⟩)⟩
  | i + 1, h => by
    obtain ⟨o, ho⟩ := F.at (i := i) (by omega)
    obtain ⟨x, hx⟩ := F.acc (i := i) (by omega)
    obtain ⟨ih1, ih2⟩ := F.rows i (by omega)
    have h2 := (F.lex.mem i (by omega)).1
    have hm : (st (i + 1)).mem = x.did.app (st i).mem := by
      rw [F.lex.next i _ x (by omega) ho hx]
      split <;> simp [St.put, h2]
    rw [hm]
    refine ⟨by rw [length_app, ih1], RowS.step F.chk ih1 hx (by simp) (fun j => ?_) ?_ ih2⟩
    · have : decide (j < i + 1) = (decide (j < i) || decide (j = i)) := by
        by_cases h1 : j < i
        · simp [h1]; omega
        · by_cases h2 : j = i
          · simp [h2]
          · simp [h1, h2]; omega
      exact this
    · intro m cs j y q hd hy hyd
      by_cases e : j = i
      · subst e; simp
      · have := (F.chk.sf j i y x hy hx e m q cs hyd hd).1
        simp; omega

/-- Where an entry of the frame comes from. -/
def From (s : St) (ops : List Oper) (xs : List Acc) (i t : Nat) (x : AV) : Prop :=
  ∃ y, (∀ N, x.val N = y.val N) ∧
    ((∃ j o z, j < i ∧ ops[j]? = some o ∧ xs[j]? = some z ∧ o.dst = some t ∧ y = z.res) ∨
     ((∀ j o, j < i → ops[j]? = some o → o.dst ≠ some t) ∧ Ev.look s.tmps t = some y))

theorem Facts.from_sg (F : Facts P ops s s0 xs st sg g mm) {i : Nat} (hi : i < xs.length) (h : ∀ t x, Ev.look (st i).tmps t = some x → From s ops.toList xs i t x) :
    ∀ t x, Ev.look (sg i).tmps t = some x → From s ops.toList xs i t x := by
  intro t x hx
  rcases F.lex.gd i hi with e | ⟨d, b, e, hb⟩
  · rw [e] at hx; exact h t x hx
  · rw [e] at hx
    simp only [St.put, look_cons] at hx
    by_cases hd : d = t
    · subst hd
      simp at hx; subst hx
      obtain ⟨y, h1, h2⟩ := h d _ hb
      exact ⟨y, fun N => (show _ = (AV.c (.v (.bool b))).val N from rfl).trans (h1 N), h2⟩
    · simp [hd] at hx
      exact h t x hx

theorem Facts.from_st (F : Facts P ops s s0 xs st sg g mm) : ∀ i, i ≤ xs.length → ∀ t x, Ev.look (st i).tmps t = some x → From s ops.toList xs i t x
  | 0, _, t, x, hx => by
    rw [F.lex.init, F.t0] at hx
    exact ⟨x, fun N => rfl, .inr ⟨fun j o hj => by omega, hx⟩⟩
  | i + 1, h, t, x, hx => by
    obtain ⟨oi, ho⟩ := F.at (i := i) (by omega)
    obtain ⟨z, hz⟩ := F.acc (i := i) (by omega)
    have ih := F.from_sg (i := i) (by omega) (F.from_st i (by omega))
    have up : ∀ t x, oi.dst ≠ some t → From s ops.toList xs i t x → From s ops.toList xs (i + 1) t x := by
      rintro t x hn ⟨y, h1, h2⟩
      refine ⟨y, h1, h2.imp ?_ ?_⟩
      · rintro ⟨j, o, z, h1, h2⟩; exact ⟨j, o, z, by omega, h2⟩
      · rintro ⟨h1, h2⟩
        refine ⟨fun j o hj ho' => ?_, h2⟩
        by_cases e : j = i
        · subst e; rw [ho] at ho'; cases ho'; exact hn
        · exact h1 j o (by omega) ho'
    rw [F.lex.next i _ z (by omega) ho hz] at hx
    split at hx
    · rename_i d hd
      simp only [St.put, look_cons] at hx
      by_cases e : d = t
      · subst e
        simp at hx; subst hx
        exact ⟨_, fun N => rfl, .inl ⟨i, _, z, by omega, ho, hz, hd, rfl⟩⟩
      · simp [e] at hx
        exact up t x (by rw [hd]; simpa using e) (ih t x hx)
    · rename_i hd
      exact up t x (by rw [hd]; simp) (ih t x hx)

/-- What stands while the operations of S have come up. -/
structure Inv (B : Nat) (w0 : World) (N0 : List Nm) (ops : List Oper) (s s0 : St) (xs : List Acc) (S : Nat → Bool) (N : List Nm) (M : List Row) (a : Act) (w : World) : Prop where
  le : NLe N0 N
  lenM : M.length = s0.mem.length
  rows : ∀ c, RowS s0.mem xs S c (nth M c)
  rel : RelM B w0 N M w
  defers : a.defers = []
  size : a.tmps.size = s.n
  done : ∀ i o x, ops[i]? = some o → xs[i]? = some x → S i = true → ∀ d, o.dst = some d → ∃ v, x.res.val N = some v ∧ a.tmps[d]? = some v
  base : ∀ t, (∀ i o, ops[i]? = some o → S i = true → o.dst ≠ some t) → ∀ y, Ev.look s.tmps t = some y → ∃ v, y.val N = some v ∧ a.tmps[t]? = some v
  sup : ∀ i, S i = true → i < xs.length
  free : ∀ i x m cs, xs[i]? = some x → S i = false → x.did = .fresh m cs → nth N m = some .none
  closed : ∀ i o, ops[i]? = some o → S i = true → ∀ e ∈ o.after, Region.binds .any e = true → S e.on = true

variable {N0 N : List Nm} {M : List Row} {a : Act} {w : World} {S : Nat → Bool}

theorem Path.closed {ops : List Oper} {S : Nat → Bool} (hc : ∀ i o, ops[i]? = some o → S i = true → ∀ e ∈ o.after, Region.binds .any e = true → S e.on = true) {i j : Nat} (h : Path ops i j) (hi : S i = true) : S j = true := by
  induction h with
  | one ho he hb => exact hc _ _ ho hi _ he hb
  | snoc _ ho he hb ih => exact hc _ _ ho ih _ he hb
theorem Path.comes {ops : List Oper} {S : Nat → Bool} (hc : ∀ i o, ops[i]? = some o → S i = true → ∀ e ∈ o.after, Region.binds .any e = true → S e.on = true) {i j : Nat} {o : Oper} (hi : ops[i]? = some o) (he : ∀ e ∈ o.after, Region.binds .any e = true → S e.on = true) (h : Path ops i j) : S j = true := by
  induction h with
  | one ho he' hb => rw [hi] at ho; cases ho; exact he _ he' hb
  | snoc _ ho he hb ih => exact hc _ _ ho ih _ he hb
/-- Where the order is fixed, what has come up is what comes up before in the text. -/
theorem Inv.ord (I : Inv B w0 N0 ops.toList s s0 xs S N M a w) {i : Nat} {o : Oper} (ho : ops.toList[i]? = some o) (hi : S i = false) (he : ∀ e ∈ o.after, Region.binds .any e = true → S e.on = true) {j : Nat} (h : Ord ops.toList i j) : S j = decide (j < i) := by
  rcases h with ⟨hlt, hp⟩ | ⟨hlt, hp⟩
  · rw [Path.comes (fun k o ho hk => I.closed k o ho hk) ho he hp]; simp [hlt]
  · have : ¬ j < i := by omega
    simp only [this, decide_false]
    cases hS : S j with
    | false => rfl
    | true =>
      have := Path.closed (fun k o ho hk => I.closed k o ho hk) hp hS
      rw [hi] at this; cases this

theorem Inv.look (F : Facts P ops s s0 xs st sg g mm) (I : Inv B w0 N0 ops.toList s s0 xs S N M a w) {i : Nat} {o : Oper} (hlt : i < xs.length) (ho : ops.toList[i]? = some o) (hi : S i = false) (he : ∀ e ∈ o.after, Region.binds .any e = true → S e.on = true)
    {t : Nat} (ht : t ∈ looks ops.toList o) {x : AV} (hx : From s ops.toList xs i t x) : ∃ v, x.val N = some v ∧ a.tmps[t]? = some v := by
  obtain ⟨y, h1, ⟨j, oj, z, hj, hoj, hz, hd, rfl⟩ | ⟨hno, hy⟩⟩ := hx
  · have hO := F.chk.look i j o oj hlt (by omega) ho hoj (by omega) t hd ht
    have hS := I.ord ho hi he hO
    simp only [hj, decide_true] at hS
    obtain ⟨v, h2, h3⟩ := I.done j oj z hoj hz hS t hd
    exact ⟨v, by rw [h1]; exact h2, h3⟩
  · obtain ⟨v, h2, h3⟩ := I.base t (fun j oj hoj hS hd => by
      have hne : i ≠ j := by rintro rfl; rw [hi] at hS; cases hS
      have hO := F.chk.look i j o oj hlt (I.sup j hS) ho hoj hne t hd ht
      have h4 := I.ord ho hi he hO
      rw [hS] at h4
      have hlt : j < i := by simpa using h4.symm
      exact hno j oj hlt hoj hd) y hy
    exact ⟨v, by rw [h1]; exact h2, h3⟩

theorem Inv.relT (F : Facts P ops s s0 xs st sg g mm) (I : Inv B w0 N0 ops.toList s s0 xs S N M a w) {i : Nat} {o : Oper} (hlt : i < xs.length) (ho : ops.toList[i]? = some o) (hi : S i = false) (he : ∀ e ∈ o.after, Region.binds .any e = true → S e.on = true) : RelT N (rest ops.toList (sg i) o) a := by
  refine ⟨I.defers, ?_, fun t x hx => ?_⟩
  · rw [I.size]; simp only [rest]; rw [(F.lex.mem i hlt).2, F.sg_n i (by omega)]
  · obtain ⟨h1, h2⟩ := look_restT _ _ _ _ hx
    exact I.look F hlt ho hi he h1 (F.from_sg hlt (F.from_st i (by omega)) t x h2)

theorem Inv.row (F : Facts P ops s s0 xs st sg g mm) (I : Inv B w0 N0 ops.toList s s0 xs S N M a w) {i : Nat} {o : Oper} (hlt : i < xs.length) (ho : ops.toList[i]? = some o) (hi : S i = false) (he : ∀ e ∈ o.after, Region.binds .any e = true → S e.on = true)
    {x : Acc} (hx : xs[i]? = some x) (htouch : x.touch = touchOf (sg i) o.op) {c : Nat} {q : Row} (h : nth (rest ops.toList (sg i) o).mem c = some q) : q = .dead ∨ nth M c = some q := by
  have hm := (F.lex.mem i hlt).1
  obtain ⟨_, hrows⟩ := F.rows i (by omega)
  rcases restM_box h with h1 | ⟨h1, h2⟩
  · exact .inl h1
  rw [hm] at h1
  have hst := hrows c
  rw [h1] at hst
  cases hw : q.hid with
  | true =>
    right
    refine RowS.agree F.chk (fun j y hy hrow => ?_) (I.rows c) hst
    by_cases e : i = j
    · subst e; simp [hi]
    · exact I.ord ho hi he (F.chk.touch i j x y hx hy e c hrow (by rw [htouch]; exact h2 hw))
  | false =>
    by_cases hdd : q = .dead
    · exact .inl hdd
    right
    have hf : ∀ (j : Nat) (y : Acc) (p : Row), xs[j]? = some y → y.did = .fresh c p → p.hid = true := F.wr c
    have h0 : nth s0.mem c = some q := by
      rcases hst with ⟨j, y, p, _, _, _, hb⟩ | ⟨_, j, y, p, hy, _, hyd, hb⟩ | ⟨_, hb⟩
      · cases hb; cases hw
      · cases hb; rw [hf j y q hy hyd] at hw; cases hw
      · exact hb.symm
    rcases I.rows c with ⟨j, y, p, hy, _, hyd, _⟩ | ⟨_, j, y, p, hy, _, hyd, _⟩ | ⟨_, hb⟩
    · rcases (F.chk.store j y hy c p hyd).2 with ⟨_, h3⟩ | h3
      · rw [h0] at h3; cases h3; cases hw
      · rw [h0] at h3; cases h3; exact absurd rfl hdd
    · have h3 := (F.chk.fresh j y hy c p hyd).1; rw [h0] at h3; cases h3; exact absurd rfl hdd
    · rw [hb, h0]

/-- A ready operation: those that may come up next. -/
structure Rdy (ops : List Oper) (S S' : Nat → Bool) (i : Nat) (o : Oper) : Prop where
  op : ops[i]? = some o
  un : S i = false
  ed : ∀ e ∈ o.after, Region.binds .any e = true → S e.on = true
  nx : ∀ j, S' j = (S j || decide (j = i))

theorem Rdy.at {ops : List Oper} {S S' : Nat → Bool} {i : Nat} {o : Oper} (R : Rdy ops S S' i o) : S' i = true := by rw [R.nx]; simp
theorem Rdy.off {ops : List Oper} {S S' : Nat → Bool} {i : Nat} {o : Oper} (R : Rdy ops S S' i o) {j : Nat} (h : j ≠ i) : S' j = S j := by rw [R.nx]; simp [h]
theorem Rdy.sub {ops : List Oper} {S S' : Nat → Bool} {i : Nat} {o : Oper} (R : Rdy ops S S' i o) {j : Nat} (h : S j = true) : S' j = true := by rw [R.nx]; simp [h]
theorem Rdy.cases {ops : List Oper} {S S' : Nat → Bool} {i : Nat} {o : Oper} (R : Rdy ops S S' i o) {j : Nat} (h : S' j = true) : j = i ∨ (j ≠ i ∧ S j = true) := by
  by_cases e : j = i
  · exact .inl e
  · exact .inr ⟨e, by rw [R.off e] at h; exact h⟩

/-- One operation has come up. -/
theorem Inv.next (F : Facts P ops s s0 xs st sg g mm) (I : Inv B w0 N0 ops.toList s s0 xs S N M a w) {S' : Nat → Bool} {i : Nat} {o : Oper} (hlt : i < xs.length) (R : Rdy ops.toList S S' i o) {x : Acc} (hx : xs[i]? = some x)
    {N' : List Nm} {w' : World} {v : Value} (hle : NLe N N') (hrel : RelM B w0 N' (x.did.app M) w') (hv : x.res.val N' = some v)
    (hfree : ∀ j y m cs, xs[j]? = some y → j ≠ i → y.did = .fresh m cs → nth N m = some .none → nth N' m = some .none) :
    Inv B w0 N0 ops.toList s s0 xs S' N' (x.did.app M) (a.put o.dst v) w' where
  le := I.le.trans hle
  lenM := by rw [length_app]; exact I.lenM
  rows := by
    refine RowS.step F.chk I.lenM hx R.un R.nx ?_ I.rows
    intro m cs j y q hd hy hyd
    cases hS : S j with
    | false => rfl
    | true =>
      have hne : j ≠ i := by rintro rfl; rw [R.un] at hS; cases hS
      obtain ⟨_, o', ho', e, he, hb, heq⟩ := F.chk.sf j i y x hy hx hne m q cs hyd hd
      have := I.closed j o' ho' hS e he hb
      rw [heq, R.un] at this; cases this
  rel := hrel
  defers := by cases o.dst <;> exact I.defers
  size := by cases h : o.dst <;> simp [Act.put, I.size]
  done := by
    intro j oj z hoj hz hS d hd
    rcases R.cases hS with rfl | ⟨hne, hS⟩
    · rw [R.op] at hoj; cases hoj
      rw [hx] at hz; cases hz
      refine ⟨v, hv, ?_⟩
      have := F.chk.dst j o hlt R.op d hd
      simp [hd, Act.put, I.size, this]
    · obtain ⟨u, h1, h2⟩ := I.done j oj z hoj hz hS d hd
      refine ⟨u, av_mono hle h1, ?_⟩
      cases hdo : o.dst with
      | none => exact h2
      | some d' =>
        have : d' ≠ d := by
          rintro rfl
          exact F.chk.ssa i j o oj hlt (I.sup j hS) R.op hoj (Ne.symm hne) d' hd hdo
        simp [Act.put, this, h2]
  base := by
    intro t ht y hy
    obtain ⟨u, h1, h2⟩ := I.base t (fun j oj hoj hS => ht j oj hoj (R.sub hS)) y hy
    refine ⟨u, av_mono hle h1, ?_⟩
    have hno := ht i o R.op R.at
    cases hdo : o.dst with
    | none => exact h2
    | some d' =>
      have : d' ≠ t := by rintro rfl; exact hno hdo
      simp [Act.put, this, h2]
  sup := by
    intro j hS
    rcases R.cases hS with rfl | ⟨_, hS⟩
    · exact hlt
    · exact I.sup j hS
  free := by
    intro j y m cs hy hS hd
    have hne : j ≠ i := by rintro rfl; rw [R.at] at hS; cases hS
    exact hfree j y m cs hy hne hd (I.free j y m cs hy (by rw [R.off hne] at hS; exact hS) hd)
  closed := by
    intro j oj hoj hS e he hb
    rcases R.cases hS with rfl | ⟨hne, hS⟩
    · rw [R.op] at hoj; cases hoj
      exact R.sub (R.ed e he hb)
    · exact R.sub (I.closed j oj hoj hS e he hb)

theorem Inv.step (F : Facts P ops s s0 xs st sg g mm) (I : Inv B w0 N0 ops.toList s s0 xs S N M a w) {S' : Nat → Bool} {i : Nat} {o : Oper} (hlt : i < xs.length) (R : Rdy ops.toList S S' i o) {Q : Exit → Act → World → Prop} {K : Act → World → Prop}
    (hK : ∀ N' M' a' w', Inv B w0 N0 ops.toList s s0 xs S' N' M' a' w' → K a' w') : wpOp P ops Q i K a w := by
  have hop : ops[i]? = some o := by have := R.op; simpa using this
  obtain ⟨x, hx⟩ := F.acc hlt
  obtain ⟨hA1, hA2⟩ := F.lex.acc i o x hlt R.op hx
  have hw : Region.wanted o (yielded ops a.tmps) = g i := by
    refine F.lex.guard i o hlt R.op a fun j want hg oj hj d hd y hy v hv => ?_
    have ht : d ∈ looks ops.toList o := by
      have hj' : nth ops.toList j = some oj := by rw [nth_eq]; simpa using hj
      simp [looks, hg, hj', hd]
    obtain ⟨u, h1, h2⟩ := I.look F hlt R.op R.un R.ed ht (F.from_st i (by omega) d y hy)
    rw [hv N] at h1; cases h1; exact h2
  have hT := I.relT F hlt R.op R.un R.ed
  unfold wpOp
  simp only [hop, hw]
  cases hg : g i with
  | false =>
    simp only [Bool.false_eq_true, if_false]
    have := hA2 hg
    subst this
    exact hK _ _ _ _ (I.next F hlt R hx (NLe.refl N) I.rel rfl fun _ _ _ _ _ _ _ h => h)
  | true =>
    simp only [if_true]
    left
    have hM : x.touch = touchOf (sg i) o.op → RelM B w0 N (rest ops.toList (sg i) o).mem w := by
      intro ht
      refine I.rel.restrict ?_ fun c q hq => I.row F hlt R.op R.un R.ed hx ht hq
      simp only [rest, length_restM]
      rw [(F.lex.mem i hlt).1, (F.rows i (by omega)).1, I.lenM]
    rcases hA1 hg with ⟨hd, ht, hA⟩ | ⟨r', hdid, ht, _, hA⟩ | ⟨b, q, hxe, hA⟩
    · obtain ⟨v, h1, h2⟩ := hA B w0 N a w (hM ht) hT
      refine wp_of_quietAt h2 (Below.refl _ w) fun w' hw' => ?_
      refine hK _ _ _ _ (I.next F hlt R hx (NLe.refl N) ?_ h1 fun _ _ _ _ _ _ _ h => h)
      rw [hd]
      exact I.rel.keep hw'
    · have hN : nth N (mm i) = some .none := I.free i x (mm i) r' hx R.un hdid
      have hMm : nth M (mm i) = some .dead := by
        rcases I.rows (mm i) with ⟨j, y, p, hy, hS, hyd, _⟩ | ⟨_, j, y, p, hy, hS, hyd, _⟩ | ⟨_, hb⟩
        · have hne : j ≠ i := by rintro rfl; rw [R.un] at hS; cases hS
          obtain ⟨_, o', ho', e, he, hb, heq⟩ := F.chk.sf j i y x hy hx hne (mm i) p r' hyd hdid
          have := I.closed j o' ho' hS e he hb
          rw [heq, R.un] at this; cases this
        · have hne : j ≠ i := by rintro rfl; rw [R.un] at hS; cases hS
          exact absurd hdid (F.chk.ff j i y x hy hx hne (mm i) p r' hyd)
        · rw [hb]; exact (F.chk.fresh i x hx (mm i) r' hdid).1
      refine hA B w0 N a w (hM ht) hT (nth_lt hN) K _ fun nm v w' hbel hnew hval => ?_
      have hnew' : RowNew w w' N M (mm i) nm r' := fun N1 h1 h2 => by
        obtain ⟨k1, k2⟩ := hnew N1 h1 h2
        refine ⟨k1, fun b hb => ?_⟩
        rcases k2 b hb with k3 | ⟨k3, i0, q0, k4, k5, k6⟩
        · exact .inl k3
        · rcases I.row F hlt R.op R.un R.ed hx ht k4 with rfl | k7
          · simp [blkOf] at k6
          · exact .inr ⟨k3, i0, q0, k7, k5, k6⟩
      obtain ⟨hle, hrel⟩ := I.rel.fresh hN hMm hbel hnew'
      refine hK _ _ _ _ (I.next F hlt R hx hle ?_ (hval _ hle (nth_setNth_self hN _)) ?_)
      · rw [hdid]; exact hrel
      · intro j y m cs' hy hne hd hnn
        have : mm i ≠ m := by
          rintro rfl
          exact F.chk.ff j i y x hy hx hne _ _ _ hd hdid
        rw [nth_setNth_ne this]; exact hnn
    · have hdid : x.did = .store b q := by rw [hxe]
      have htch : x.touch = touchOf (sg i) o.op := by rw [hxe]
      obtain ⟨bk, T, vs, w', cs, e0, e1, e2, e3, e4, e5, e6, e7, e8, e9⟩ := hA B w0 N a w (hM htch) hT
      have hMb : nth M b = some (.box cs) := by
        rcases I.row F hlt R.op R.un R.ed hx htch e0 with h | h
        · cases h
        · exact h
      refine op_wp_skip e3 (hK _ _ _ _ (I.next F hlt R hx (NLe.refl N) ?_ ?_ fun _ _ _ _ _ _ _ h => h))
      · rw [hdid]
        exact I.rel.store hMb e1 e2 e4 e5 e6 e7 e8 e9
      · rw [hxe]; rfl

/-- How many have not come up. -/
def left (L : Array Bool) : Nat := L.toList.count false
theorem left_set {L : Array Bool} {i : Nat} (h : L.getD i true = false) : left (L.setIfInBounds i true) + 1 = left L := by
  have hi : i < L.size := by
    rcases Nat.lt_or_ge i L.size with h' | h'
    · exact h'
    · simp [Array.getElem?_eq_none h'] at h
  have hv : L.toList[i]'(by simpa using hi) = false := by simp [hi] at h; simpa using h
  unfold left
  rw [Array.toList_setIfInBounds, List.count_set (by simpa using hi), hv]
  have h0 : false ∈ L.toList := by
    have := List.getElem_mem (l := L.toList) (n := i) (by simpa using hi)
    rwa [hv] at this
  have := List.count_pos_iff.2 h0
  have e1 : ((false == false) : Bool) = true := rfl
  have e2 : ((true == false) : Bool) = false := rfl
  rw [e1, e2]
  simp only [if_true, Bool.false_eq_true, if_false]
  omega

theorem ready_nil {L : Array Bool} (hs : L.size = ops.size) (he : ∀ i o, ops.toList[i]? = some o → ∀ e ∈ o.after, Region.binds .any e = true → e.on < i)
    (h : Region.ready .any ops L = []) : ∀ i, i < ops.size → L.getD i false = true := by
  intro i
  induction i using Nat.strongRecOn with
  | _ i ih =>
    intro hi
    cases hL : L.getD i false with
    | true => rfl
    | false =>
      have ho : ops[i]? = some ops[i] := Array.getElem?_eq_getElem hi
      have hsz : i < L.size := hs ▸ hi
      have : i ∈ Region.ready .any ops L := mem_ready.2 ⟨getD_in hsz hL, ops[i], ho, fun e hee hb => ?_⟩
      · rw [h] at this; cases this
      · have hlt := he i ops[i] (by simp [ho]) e hee hb
        exact ih e.on hlt (Nat.lt_trans hlt hi)

theorem left_zero {L : Array Bool} (h : left L = 0) (i : Nat) : L.getD i true = true := by
  cases hL : L.getD i true with
  | true => rfl
  | false => have := left_set hL; omega

/-! The part that comes in the text's order -/

theorem edgesOf_mem {o : Oper} {i : Nat} : i ∈ edgesOf o ↔ ∃ e ∈ o.after, Region.binds .any e = true ∧ e.on = i := by
  unfold edgesOf
  simp only [List.mem_map, List.mem_filter, Array.mem_toList_iff]
  constructor
  · rintro ⟨e, ⟨h1, h2⟩, h3⟩; exact ⟨e, h1, h2, h3⟩
  · rintro ⟨e, h1, h2, h3⟩; exact ⟨e, ⟨h1, h2⟩, h3⟩
theorem ancB_spec {ops : List Oper} {S : Nat → Bool} (hc : ∀ i o, ops[i]? = some o → S i = true → ∀ e ∈ o.after, Region.binds .any e = true → S e.on = true) :
    ∀ (j : Nat) (R : List Nat), ancB ops j R = true → (∀ i ∈ R, S i = true) → ∀ i, i < j → S i = true
  | 0, R, _, _, i, hi => by omega
  | j + 1, R, h, hR, i, hi => by
    simp only [ancB] at h
    split at h
    · rename_i hm
      have hj : S j = true := hR j ((memNat_iff _ _).1 hm)
      by_cases e : i = j
      · rw [e]; exact hj
      · refine ancB_spec hc j _ h (fun k hk => ?_) i (by omega)
        rcases List.mem_append.1 hk with hk | hk
        · split at hk
          · rename_i o ho
            rw [nth_eq] at ho
            obtain ⟨e, he, hb, rfl⟩ := edgesOf_mem.1 hk
            exact hc j o ho hj e he hb
          · cases hk
        · exact hR k hk
    · cases h
theorem tailB_spec {ops : List Oper} : ∀ (l : List Oper) (j : Nat), tailB ops j l = true → ∀ k o, l[k]? = some o → (∀ e ∈ o.after, Region.binds .any e = true → e.on < j + k) ∧ ancB ops (j + k) (edgesOf o) = true
  | [], j, _, k, o, ho => by simp at ho
  | x :: l, j, h, k, o, ho => by
    simp only [tailB] at h
    split at h
    · rename_i h1
      split at h
      · rename_i h2
        cases k with
        | zero =>
          simp at ho; subst ho
          refine ⟨fun e he hb => ?_, h2⟩
          unfold edgesB at h1
          have := Array.all_eq_true_iff_forall_mem.1 h1 e he
          simp only [hb, Bool.not_true, Bool.false_or] at this
          exact Nat.le_of_ble_eq_true this
        | succ k =>
          have := tailB_spec l (j + 1) h k o (by simpa using ho)
          rwa [show j + 1 + k = j + (k + 1) by omega] at this
      · cases h
    · cases h

theorem seq_sound (hE : EnvOK P E) {Q : Exit → Act → World → Prop} {k : St → Tr ρ} {N1 : List Nm} (hk : ∀ N' s' a' w', NLe N1 N' → Rel B w0 N' s' a' w' → (k s').den = some r → Q .normal a' w')
    (hed : ∀ i o, ops.toList[i]? = some o → ∀ e ∈ o.after, Region.binds .any e = true → e.on < i) :
    ∀ (n q fuel : Nat) (L : Array Bool) {N : List Nm} {s : St} {a : Act} {w : World}, q + n = ops.size → L.size = ops.size → left L = fuel → (∀ i, i < ops.size → L.getD i false = decide (i < q)) →
      (∀ j o, q ≤ j → ops.toList[j]? = some o → ancB ops.toList j (edgesOf o) = true) →
      NLe N1 N → Rel B w0 N s a w → (evOps P E ops.toList (ops.toList.drop q) s k).den = some r → wpAny P .any ops Q fuel L a w
  | 0, q, fuel, L, N, s, a, w, hq, hs, hl, hL, hanc, hle, hR, h => by
    have hd : ops.toList.drop q = [] := List.drop_eq_nil_of_le (by simp; omega)
    rw [hd] at h
    simp only [evOps] at h
    have hfin := hk _ _ _ _ hle hR h
    have hnone : ∀ i, i ∉ Region.ready .any ops L := by
      intro i hi
      obtain ⟨h1, o, ho, _⟩ := mem_ready.1 hi
      have hi' : i < ops.size := (Array.getElem?_eq_some_iff.1 ho).1
      have := hL i hi'
      rw [getD_both h1] at this
      simp at this; omega
    have hnil := List.eq_nil_iff_forall_not_mem.2 hnone
    cases fuel with
    | zero => exact ⟨hnil, hfin⟩
    | succ f => exact ⟨fun _ => hfin, fun i hi => absurd hi (hnone i)⟩
  | n + 1, q, fuel, L, N, s, a, w, hq, hs, hl, hL, hanc, hle, hR, h => by
    have hqs : q < ops.size := by omega
    have hLq : L.getD q false = false := by rw [hL q hqs]; simp
    have hLt : L.getD q true = false := getD_in (hs ▸ hqs) hLq
    have hoq : ops[q]? = some ops[q] := Array.getElem?_eq_getElem hqs
    have hd : ops.toList.drop q = ops[q] :: ops.toList.drop (q + 1) := by
      rw [List.drop_eq_getElem_cons (by simpa using hqs)]; simp
    rw [hd] at h
    simp only [evOps] at h
    cases fuel with
    | zero => have := left_set hLt; omega
    | succ f =>
      refine ⟨fun hnil => ?_, fun i hi => ?_⟩
      · have := ready_nil hs hed hnil q hqs
        rw [hLq] at this; cases this
      · obtain ⟨h1, o, ho, h2⟩ := mem_ready.1 hi
        have hi' : i < ops.size := (Array.getElem?_eq_some_iff.1 ho).1
        have hiq : i = q := by
          have h3 : q ≤ i := by
            have := hL i hi'
            rw [getD_both h1] at this
            simp at this; exact this
          rcases Nat.lt_or_ge q i with hlt | hge
          · have hcl : ∀ k p, ops.toList[k]? = some p → L.getD k false = true → ∀ e ∈ p.after, Region.binds .any e = true → L.getD e.on false = true := by
              intro k p hkp hk1 e he hb
              have h5 := hed k p hkp e he hb
              have hks : k < ops.size := by simpa using (List.getElem?_eq_some_iff.1 hkp).1
              rw [hL k hks] at hk1
              rw [hL e.on (by omega)]
              simp at hk1 ⊢; omega
            have := ancB_spec (S := fun i => L.getD i false) hcl i _ (hanc i o h3 (by simpa using ho)) (fun k hk => by
              obtain ⟨e, he, hb, rfl⟩ := edgesOf_mem.1 hk
              exact h2 e he hb) q hlt
            rw [hLq] at this; cases this
          · omega
        subst hiq
        rw [hoq] at ho; cases ho
        have next : ∀ (N' : List Nm) (s' : St) (a' : Act) (w' : World), NLe N1 N' → Rel B w0 N' s' a' w' → (evOps P E ops.toList (ops.toList.drop (i + 1)) s' k).den = some r → wpAny P .any ops Q f (L.setIfInBounds i true) a' w' := by
          intro N' s' a' w' hle' hR' h'
          refine seq_sound hE hk hed n (i + 1) f _ (by omega) (by simpa using hs) (by have := left_set h1; omega) (fun j hj => ?_) (fun j o hj ho => hanc j o (by omega) ho) hle' hR' h'
          by_cases e : j = i
          · subst e; simp [hs, hj]
          · rw [getD_set_ne false (Ne.symm e), hL j hj]
            have : (j < i) ↔ (j < i + 1) := by omega
            simp [this]
        unfold wpOp
        simp only [hoq]
        rcases guard_sound hR.t h with ⟨hw, s1, e1, e2, e3, e4⟩ | ⟨hw, s1, e1, e2, e3, e4⟩
        · rw [if_pos hw]
          exact .inl (op_sound (s := s1) ⟨by rw [e1]; exact hR.m, e3⟩ hE e4 fun N' s' a' w' hle' hR' h' => next N' s' a' w' (hle.trans hle') hR' h')
        · rw [if_neg (by simp [hw])]
          obtain ⟨s2, f1, f2, f3, f4⟩ := skip_sound e3 e4
          exact next N s2 _ w hle ⟨by rw [f1, e1]; exact hR.m, f3⟩ f4

theorem Inv.any (F : Facts P ops s s0 xs st sg g mm) {Q : Exit → Act → World → Prop} (hed : ∀ i o, ops.toList[i]? = some o → ∀ e ∈ o.after, Region.binds .any e = true → e.on < i)
    (hanc : ∀ j o, xs.length ≤ j → ops.toList[j]? = some o → ancB ops.toList j (edgesOf o) = true)
    (hQ : ∀ N M a w fuel (L : Array Bool), L.size = ops.size → left L = fuel → (∀ i, i < ops.size → L.getD i false = decide (i < xs.length)) → Inv B w0 N0 ops.toList s s0 xs (fun i => L.getD i false) N M a w → wpAny P .any ops Q fuel L a w) :
    ∀ (n fuel : Nat) (L : Array Bool) (N : List Nm) (M : List Row) (a : Act) (w : World), L.size = ops.size → left L = fuel → fuel ≤ n → Inv B w0 N0 ops.toList s s0 xs (fun i => L.getD i false) N M a w → wpAny P .any ops Q fuel L a w := by
  intro n
  induction n with
  | zero =>
    intro fuel L N M a w hs hl hn I
    have hall : ∀ i, i < ops.size → L.getD i false = true := by
      intro i hi
      cases hL : L.getD i false with
      | true => rfl
      | false => have := left_set (getD_in (hs ▸ hi) hL); omega
    refine hQ N M a w fuel L hs hl (fun i hi => ?_) I
    rw [hall i hi]
    have := I.sup i (hall i hi)
    simp [this]
  | succ n ih =>
    intro fuel L N M a w hs hl hn I
    by_cases hall : ∀ i, i < xs.length → L.getD i false = true
    · refine hQ N M a w fuel L hs hl (fun i hi => ?_) I
      by_cases hi2 : i < xs.length
      · rw [hall i hi2]; simp [hi2]
      · cases hL : L.getD i false with
        | true => exact absurd (I.sup i hL) hi2
        | false => simp [hi2]
    · obtain ⟨i0, hi0, hni0⟩ : ∃ i, i < xs.length ∧ L.getD i false = false := by
        refine Classical.byContradiction fun hc => hall fun i hi => ?_
        cases hL : L.getD i false with
        | true => rfl
        | false => exact absurd ⟨i, hi, hL⟩ hc
      have hsz : xs.length ≤ ops.size := by have := F.le; simpa using this
      cases fuel with
      | zero => have := left_set (getD_in (by rw [hs]; omega) hni0); omega
      | succ f =>
        refine ⟨fun hnil => ?_, fun i hi => ?_⟩
        · have := ready_nil hs hed hnil i0 (by omega)
          rw [hni0] at this; cases this
        · obtain ⟨h1, o, ho, h2⟩ := mem_ready.1 hi
          have hlt : i < L.size := by
            rcases Nat.lt_or_ge i L.size with h' | h'
            · exact h'
            · simp [Array.getElem?_eq_none h'] at h1
          have hip : i < xs.length := by
            rcases Nat.lt_or_ge i xs.length with h' | h'
            · exact h'
            · have := ancB_spec (S := fun i => L.getD i false) I.closed i _ (hanc i o h' (by simpa using ho)) (fun k hk => by
                obtain ⟨e, he, hb, rfl⟩ := edgesOf_mem.1 hk
                exact h2 e he hb) i0 (by omega)
              rw [hni0] at this; cases this
          refine I.step F hip (S' := fun j => (L.setIfInBounds i true).getD j false) ⟨by simp [ho], getD_both h1, h2, fun j => ?_⟩ fun N' M' a' w' I' => ?_
          · by_cases e : j = i
            · subst e; simp [hlt]
            · rw [getD_set_ne false (Ne.symm e)]; simp [e]
          · exact ih f _ N' M' a' w' (by simpa using hs) (by have := left_set h1; omega) (by omega) I'

theorem takeL_eq {α : Type u} : ∀ (n : Nat) (l : List α), takeL n l = l.take n
  | 0, l => rfl
  | n + 1, [] => rfl
  | n + 1, a :: l => by simp [takeL, takeL_eq n l]

theorem acc_writable (hL : Lex P ops ops.toList s0 xs st sg g mm xs.length) (hle : xs.length ≤ ops.toList.length) : ∀ (c j : Nat) (y : Acc) (p : Row), xs[j]? = some y → y.did = .fresh c p → p.hid = true := by
  intro c j y p hy hd
  have hj := (List.getElem?_eq_some_iff.1 hy).1
  obtain ⟨h1, h2⟩ := hL.acc j _ y hj (List.getElem?_eq_getElem (by omega)) hy
  cases hg : g j with
  | false => rw [h2 hg] at hd; cases hd
  | true =>
    rcases h1 hg with ⟨h3, _⟩ | ⟨r', h3, _, h4, _⟩ | ⟨b, q, h3, _⟩
    · rw [h3] at hd; cases hd
    · rw [h3] at hd; cases hd; exact h4
    · rw [h3] at hd; cases hd

theorem draw_any (hE : EnvOK P E) {Q : Exit → Act → World → Prop} {k : St → Tr ρ} (hR : Rel B w0 N s a w)
    (h : (evOpsD P E ops.toList (takeL (cutAt ops.toList) ops.toList) s.mem.length { s with mem := s.mem ++ deads (freshN (takeL (cutAt ops.toList) ops.toList)) } [] fun s' acc =>
          match checkD s.n s.mem.length (s.mem ++ deads (freshN (takeL (cutAt ops.toList) ops.toList))) ops.toList acc with
          | true => match tailB ops.toList (cutAt ops.toList) (dropN (cutAt ops.toList) ops.toList) with
            | true => evOps P E ops.toList (dropN (cutAt ops.toList) ops.toList) s' k
            | false => .fail
          | false => .fail).den = some r)
    (hk : ∀ N' s' a' w', NLe N N' → Rel B w0 N' s' a' w' → (k s').den = some r → Q .normal a' w') : wpAny P .any ops Q ops.size (Array.replicate ops.size false) a { w with drawn := w.drawn + 1 } := by
  generalize hp : cutAt ops.toList = p at h
  rw [takeL_eq, dropN_eq] at h
  generalize hpre : ops.toList.take p = pre at h
  have hL0 : Lex P ops ops.toList { s with mem := s.mem ++ deads (freshN pre) } [] (fun _ => { s with mem := s.mem ++ deads (freshN pre) }) (fun _ => s) (fun _ => true) (fun _ => 0) ([] : List Oper).length :=
    ⟨rfl, rfl, fun i hi => by simp at hi, fun i hi => by simp at hi, fun i o hi => by simp at hi, fun i o x hi => by simp at hi, fun i o x hi => by simp at hi⟩
  obtain ⟨xs, st, sg, g, mm, hL, h'⟩ := evOpsD_sound hE (tl := ops.toList.drop p) pre [] s.mem.length _ [] (by rw [← hpre]; simp) hL0 rfl h
  simp only [List.length_nil, Nat.zero_add] at hL h'
  have hxl : xs.length = pre.length := hL.len
  have hpl : pre.length ≤ ops.toList.length := by rw [← hpre, List.length_take]; omega
  rw [← hxl] at hL h'
  split at h'
  · rename_i hc
    split at h'
    · rename_i ht
      have F : Facts P ops s { s with mem := s.mem ++ deads (freshN pre) } xs st sg g mm := ⟨hL, by omega, checkD_spec (by omega) hc, acc_writable hL (by omega), rfl, rfl⟩
      have htl := tailB_spec _ _ ht
      have hpx : ops.toList.length ≤ p ∨ xs.length = p := by rw [hxl, ← hpre, List.length_take]; omega
      have hsplit : ∀ i o, ops.toList[i]? = some o → xs.length ≤ i → p ≤ i ∧ (ops.toList.drop p)[i - p]? = some o := by
        intro i o ho hi
        have hlt := (List.getElem?_eq_some_iff.1 ho).1
        rcases hpx with h1 | h1
        · have : xs.length = ops.toList.length := by rw [hxl, ← hpre, List.length_take]; omega
          omega
        · refine ⟨by omega, ?_⟩
          rw [List.getElem?_drop, show p + (i - p) = i by omega]; exact ho
      have hed : ∀ i o, ops.toList[i]? = some o → ∀ e ∈ o.after, Region.binds .any e = true → e.on < i := by
        intro i o ho e he hb
        rcases Nat.lt_or_ge i xs.length with hi | hi
        · exact F.chk.edge i o hi ho e he hb
        · obtain ⟨h1, h2⟩ := hsplit i o ho hi
          have := (htl (i - p) o h2).1 e he hb
          omega
      have hanc : ∀ j o, xs.length ≤ j → ops.toList[j]? = some o → ancB ops.toList j (edgesOf o) = true := by
        intro i o hi ho
        obtain ⟨h1, h2⟩ := hsplit i o ho hi
        have := (htl (i - p) o h2).2
        rwa [show p + (i - p) = i by omega] at this
      have hM0 : RelM B w0 (N ++ List.replicate (freshN pre) .none) (s.mem ++ deads (freshN pre)) { w with drawn := w.drawn + 1 } := (hR.m.room _).drew
      refine Inv.any F (N0 := N ++ List.replicate (freshN pre) .none) hed hanc ?_ ops.size ops.size _ _ _ a _ (by simp) (by simp [left]) (Nat.le_refl _) ⟨NLe.refl _, rfl, fun c => .inr (.inr ⟨fun i x _ h => ?_, rfl⟩), hM0, hR.t.defers, hR.t.size, ?_, ?_, ?_, ?_, ?_⟩
      · intro N' M' a' w' fuel L hs hl hLx I
        have hsz : xs.length ≤ ops.size := by have := F.le; simpa using this
        have hmem : M' = (st xs.length).mem := by
          obtain ⟨h1, h2⟩ := F.rows xs.length (Nat.le_refl _)
          have hcell : ∀ c, nth M' c = nth (st xs.length).mem c := by
            intro c
            refine RowS.agree F.chk (fun j y hy _ => ?_) (I.rows c) (h2 c)
            have := (List.getElem?_eq_some_iff.1 hy).1
            exact hLx j (by omega)
          refine List.ext_getElem? fun c => ?_
          rw [← nth_eq, ← nth_eq]; exact hcell c
        have hRel : Rel B w0 N' (st xs.length) a' w' := by
          refine ⟨by rw [← hmem]; exact I.rel, I.defers, by rw [I.size, F.sg_n _ (Nat.le_refl _)], fun t x hx => ?_⟩
          obtain ⟨y, h1, ⟨j, oj, z, hj, hoj, hz, hd, rfl⟩ | ⟨hno, hy⟩⟩ := F.from_st _ (Nat.le_refl _) t x hx
          · obtain ⟨v, h2, h3⟩ := I.done j oj z hoj hz (by rw [hLx j (by omega)]; simp [hj]) t hd
            exact ⟨v, by rw [h1]; exact h2, h3⟩
          · obtain ⟨v, h2, h3⟩ := I.base t (fun j oj hoj hS => hno j oj (I.sup j hS) hoj) y hy
            exact ⟨v, by rw [h1]; exact h2, h3⟩
        have hdrop : ops.toList.drop p = ops.toList.drop xs.length := by
          rcases hpx with h1 | h1
          · rw [List.drop_eq_nil_of_le h1, List.drop_eq_nil_of_le (by rw [hxl, ← hpre, List.length_take]; omega)]
          · rw [h1]
        rw [hdrop] at h'
        exact seq_sound hE hk hed (ops.size - xs.length) xs.length fuel L (by omega) hs hl hLx hanc ((NLe.append _ _).trans I.le) hRel h'
      · dsimp only at h; rw [getD_replicate_false] at h; cases h
      · intro i o x ho hx hS; rw [getD_replicate_false] at hS; cases hS
      · intro t _ y hy
        obtain ⟨v, h1, h2⟩ := hR.t.look t y hy
        exact ⟨v, av_mono (NLe.append _ _) h1, h2⟩
      · intro i hS; rw [getD_replicate_false] at hS; cases hS
      · intro i x m cs hx _ hd
        obtain ⟨h1, h2⟩ := F.chk.fresh i x hx m cs hd
        have h3 := nth_lt h1
        have h4 := hR.m.len
        rw [← hM0.len] at h3
        simp at h3
        rw [nth_eq, List.getElem?_append_right (by omega), List.getElem?_replicate]
        simp; omega
      · intro i o ho hS; rw [getD_replicate_false] at hS; cases hS
    · simp [Tr.den] at h'
  · simp [Tr.den] at h'
theorem draw_sound (hE : EnvOK P E) (hm : P.follows .mixedOrders = true) {id : Nat} {Q : Exit → Act → World → Prop} {k : St → Tr ρ} (hR : Rel B w0 N s a w)
    (h : (evOpsD P E ops.toList (takeL (cutAt ops.toList) ops.toList) s.mem.length { s with mem := s.mem ++ deads (freshN (takeL (cutAt ops.toList) ops.toList)) } [] fun s' acc =>
          match checkD s.n s.mem.length (s.mem ++ deads (freshN (takeL (cutAt ops.toList) ops.toList))) ops.toList acc with
          | true => match tailB ops.toList (cutAt ops.toList) (dropN (cutAt ops.toList) ops.toList) with
            | true => evOps P E ops.toList (dropN (cutAt ops.toList) ops.toList) s' k
            | false => .fail
          | false => .fail).den = some r)
    (hk : ∀ N' s' a' w', NLe N N' → Rel B w0 N' s' a' w' → (k s').den = some r → Q .normal a' w') : (Code.region id ops true).wp P Q a w :=
  wp_region_any hm (draw_any hE hR h hk)
end
end Go.Proofs.YtlbmjajjldfigaaGreat.Ev
