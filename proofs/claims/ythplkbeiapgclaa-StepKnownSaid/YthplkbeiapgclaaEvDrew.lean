/-
  Regions that draw their order: every order comes to what the text's order comes to.
-/
import Derived.Test.YthplkbeiapgclaaEvDraw
namespace Go.Proofs.Ythplkbeiapgclaa.Ev
open Go Go.RowKit
universe u

section
variable {P : Program} {E : Env} {ρ : Type} {r : ρ} {B : Nat} {w0 : World}

theorem restM_box {keep : List Nat} {M : List Row} {c : Nat} {r : Row} (h : nth (restM keep 0 M) c = some r) : r = .dead ∨ (nth M c = some r ∧ ∀ cs, r = .box cs → c ∈ keep) := by
  rcases restM_spec keep M 0 c r h with h1 | ⟨h1, h2⟩
  · exact .inl h1
  · exact .inr ⟨h1, fun cs hc => by have := h2 cs hc; rwa [Nat.zero_add] at this⟩

/-- All of the facts of the text's order. -/
structure Facts (P : Program) (ops : Array Oper) (s s0 : St) (xs : List Acc) (st sg : Nat → St) (g : Nat → Bool) (mm : Nat → Nat) : Prop where
  lex : Lex P ops ops.toList s0 xs st sg g mm ops.toList.length
  chk : Checked' s.n s.mem.length s0.mem ops.toList xs
  n0 : s0.n = s.n
  t0 : s0.tmps = s.tmps

variable {ops : Array Oper} {s s0 : St} {xs : List Acc} {st sg : Nat → St} {g : Nat → Bool} {mm : Nat → Nat}

theorem Facts.acc (F : Facts P ops s s0 xs st sg g mm) {i : Nat} {o : Oper} (h : ops.toList[i]? = some o) : ∃ x, xs[i]? = some x := by
  have := (List.getElem?_eq_some_iff.1 h).1
  exact ⟨xs[i]'(by rw [F.lex.len]; exact this), List.getElem?_eq_getElem _⟩
theorem Facts.op (F : Facts P ops s s0 xs st sg g mm) {i : Nat} {x : Acc} (h : xs[i]? = some x) : ∃ o, ops.toList[i]? = some o := by
  have := (List.getElem?_eq_some_iff.1 h).1
  rw [F.lex.len] at this
  exact ⟨ops.toList[i], List.getElem?_eq_getElem _⟩

theorem Facts.sg_n (F : Facts P ops s s0 xs st sg g mm) : ∀ i, i ≤ ops.toList.length → (st i).n = s.n
  | 0, _ => by rw [F.lex.init, F.n0]
  | i + 1, h => by
    have ho : ops.toList[i]? = some ops.toList[i] := List.getElem?_eq_getElem (by omega)
    obtain ⟨x, hx⟩ := F.acc ho
    have ih := F.sg_n i (by omega)
    have h2 := (F.lex.mem i (by omega)).2
    rw [F.lex.next i _ x (by omega) ho hx]
    split <;> simp [St.put, h2, ih]

theorem Facts.rows (F : Facts P ops s s0 xs st sg g mm) : ∀ i, i ≤ ops.toList.length → (st i).mem.length = s0.mem.length ∧ ∀ c, RowS s0.mem xs (fun j => decide (j < i)) c (nth (st i).mem c)
  | 0, _ => by
    rw [F.lex.init]
    exact ⟨rfl, fun c => .inr (.inr ⟨fun i x _ h => by simp at h, rfl⟩)⟩
  | i + 1, h => by
    have ho : ops.toList[i]? = some ops.toList[i] := List.getElem?_eq_getElem (by omega)
    obtain ⟨x, hx⟩ := F.acc ho
    obtain ⟨ih1, ih2⟩ := F.rows i (by omega)
    have h2 := (F.lex.mem i (by omega)).1
    have hm : (st (i + 1)).mem = x.did.app (st i).mem := by
      rw [F.lex.next i _ x (by omega) ho hx]
      split <;> simp [St.put, h2]
    rw [hm]
    refine ⟨by rw [length_app, ih1], RowS.step F.chk ih1 hx (by simp) (fun j => ?_) ?_ ih2⟩
    · have : decide (j < i + 1) = (decide (j < i) || decide (j = i)) := by
        by_cases h1 : j < i
        · simp [h1]; omega
        · by_cases h2 : j = i
          · simp [h2]
          · simp [h1, h2]; omega
      exact this
    · intro m cs j y q hd hy hyd
      by_cases e : j = i
      · subst e; simp
      · have := (F.chk.sf j i y x hy hx e m q cs hyd hd).1
        simp; omega

/-- Where an entry of the frame comes from. -/
def From (s : St) (ops : List Oper) (xs : List Acc) (i t : Nat) (x : AV) : Prop :=
  ∃ y, (∀ N, x.val N = y.val N) ∧
    ((∃ j o z, j < i ∧ ops[j]? = some o ∧ xs[j]? = some z ∧ o.dst = some t ∧ y = z.res) ∨
     ((∀ j o, j < i → ops[j]? = some o → o.dst ≠ some t) ∧ Ev.look s.tmps t = some y))

theorem Facts.from_sg (F : Facts P ops s s0 xs st sg g mm) {i : Nat} (hi : i < ops.toList.length) (h : ∀ t x, Ev.look (st i).tmps t = some x → From s ops.toList xs i t x) :
    ∀ t x, Ev.look (sg i).tmps t = some x → From s ops.toList xs i t x := by
  intro t x hx
  rcases F.lex.gd i hi with e | ⟨d, b, e, hb⟩
  · rw [e] at hx; exact h t x hx
  · rw [e] at hx
    simp only [St.put, look_cons] at hx
    by_cases hd : d = t
    · subst hd
      simp at hx; subst hx
      obtain ⟨y, h1, h2⟩ := h d _ hb
      exact ⟨y, fun N => (show _ = (AV.c (.v (.bool b))).val N from rfl).trans (h1 N), h2⟩
    · simp [hd] at hx
      exact h t x hx

theorem Facts.from_st (F : Facts P ops s s0 xs st sg g mm) : ∀ i, i ≤ ops.toList.length → ∀ t x, Ev.look (st i).tmps t = some x → From s ops.toList xs i t x
  | 0, _, t, x, hx => by
    rw [F.lex.init, F.t0] at hx
    exact ⟨x, fun N => rfl, .inr ⟨fun j o hj => by omega, hx⟩⟩
  | i + 1, h, t, x, hx => by
    have ho : ops.toList[i]? = some ops.toList[i] := List.getElem?_eq_getElem (by omega)
    obtain ⟨z, hz⟩ := F.acc ho
    have ih := F.from_sg (i := i) (by omega) (F.from_st i (by omega))
    have up : ∀ t x, ops.toList[i].dst ≠ some t → From s ops.toList xs i t x → From s ops.toList xs (i + 1) t x := by
      rintro t x hn ⟨y, h1, h2⟩
      refine ⟨y, h1, h2.imp ?_ ?_⟩
      · rintro ⟨j, o, z, h1, h2⟩; exact ⟨j, o, z, by omega, h2⟩
      · rintro ⟨h1, h2⟩
        refine ⟨fun j o hj ho' => ?_, h2⟩
        by_cases e : j = i
        · subst e; rw [ho] at ho'; cases ho'; exact hn
        · exact h1 j o (by omega) ho'
    rw [F.lex.next i _ z (by omega) ho hz] at hx
    split at hx
    · rename_i d hd
      simp only [St.put, look_cons] at hx
      by_cases e : d = t
      · subst e
        simp at hx; subst hx
        exact ⟨_, fun N => rfl, .inl ⟨i, _, z, by omega, ho, hz, hd, rfl⟩⟩
      · simp [e] at hx
        exact up t x (by rw [hd]; simpa using e) (ih t x hx)
    · rename_i hd
      exact up t x (by rw [hd]; simp) (ih t x hx)

/-- What stands while the operations of S have come up. -/
structure Inv (B : Nat) (w0 : World) (N0 : List Nm) (ops : List Oper) (s s0 : St) (xs : List Acc) (S : Nat → Bool) (N : List Nm) (M : List Row) (a : Act) (w : World) : Prop where
  le : NLe N0 N
  lenM : M.length = s0.mem.length
  rows : ∀ c, RowS s0.mem xs S c (nth M c)
  rel : RelM B w0 N M w
  defers : a.defers = []
  size : a.tmps.size = s.n
  done : ∀ i o x, ops[i]? = some o → xs[i]? = some x → S i = true → ∀ d, o.dst = some d → ∃ v, x.res.val N = some v ∧ a.tmps[d]? = some v
  base : ∀ t, (∀ i o, ops[i]? = some o → S i = true → o.dst ≠ some t) → ∀ y, Ev.look s.tmps t = some y → ∃ v, y.val N = some v ∧ a.tmps[t]? = some v
  free : ∀ i x m cs, xs[i]? = some x → S i = false → x.did = .fresh m cs → nth N m = some .none
  closed : ∀ i o, ops[i]? = some o → S i = true → ∀ e ∈ o.after, Region.binds .any e = true → S e.on = true

variable {N0 N : List Nm} {M : List Row} {a : Act} {w : World} {S : Nat → Bool}

/-- Where the order is fixed, what has come up is what comes up before in the text. -/
theorem Inv.ord (I : Inv B w0 N0 ops.toList s s0 xs S N M a w) {i : Nat} {o : Oper} (ho : ops.toList[i]? = some o) (hi : S i = false) (he : ∀ e ∈ o.after, Region.binds .any e = true → S e.on = true) {j : Nat} (h : Ord ops.toList i j) : S j = decide (j < i) := by
  rcases h with ⟨hlt, o', ho', e, he', hb, rfl⟩ | ⟨hlt, o', ho', e, he', hb, heq⟩
  · rw [ho] at ho'; cases ho'
    rw [he e he' hb]; simp [hlt]
  · have : ¬ j < i := by omega
    simp only [this, decide_false]
    cases hS : S j with
    | false => rfl
    | true =>
      have := I.closed j o' ho' hS e he' hb
      rw [heq, hi] at this; cases this

theorem Inv.look (F : Facts P ops s s0 xs st sg g mm) (I : Inv B w0 N0 ops.toList s s0 xs S N M a w) {i : Nat} {o : Oper} (ho : ops.toList[i]? = some o) (hi : S i = false) (he : ∀ e ∈ o.after, Region.binds .any e = true → S e.on = true)
    {t : Nat} (ht : t ∈ looks ops.toList o) {x : AV} (hx : From s ops.toList xs i t x) : ∃ v, x.val N = some v ∧ a.tmps[t]? = some v := by
  obtain ⟨y, h1, ⟨j, oj, z, hj, hoj, hz, hd, rfl⟩ | ⟨hno, hy⟩⟩ := hx
  · have hO := F.chk.look i j o oj ho hoj (by omega) t hd ht
    have hS := I.ord ho hi he hO
    simp only [hj, decide_true] at hS
    obtain ⟨v, h2, h3⟩ := I.done j oj z hoj hz hS t hd
    exact ⟨v, by rw [h1]; exact h2, h3⟩
  · obtain ⟨v, h2, h3⟩ := I.base t (fun j oj hoj hS hd => by
      have hne : i ≠ j := by rintro rfl; rw [hi] at hS; cases hS
      have hO := F.chk.look i j o oj ho hoj hne t hd ht
      have h4 := I.ord ho hi he hO
      rw [hS] at h4
      have hlt : j < i := by simpa using h4.symm
      exact hno j oj hlt hoj hd) y hy
    exact ⟨v, by rw [h1]; exact h2, h3⟩

theorem Inv.relT (F : Facts P ops s s0 xs st sg g mm) (I : Inv B w0 N0 ops.toList s s0 xs S N M a w) {i : Nat} {o : Oper} (ho : ops.toList[i]? = some o) (hi : S i = false) (he : ∀ e ∈ o.after, Region.binds .any e = true → S e.on = true) : RelT N (rest ops.toList (sg i) o) a := by
  have hlt := (List.getElem?_eq_some_iff.1 ho).1
  refine ⟨I.defers, ?_, fun t x hx => ?_⟩
  · rw [I.size]; simp only [rest]; rw [(F.lex.mem i hlt).2, F.sg_n i (by omega)]
  · obtain ⟨h1, h2⟩ := look_restT _ _ _ _ hx
    exact I.look F ho hi he h1 (F.from_sg hlt (F.from_st i (by omega)) t x h2)

theorem Inv.row (F : Facts P ops s s0 xs st sg g mm) (I : Inv B w0 N0 ops.toList s s0 xs S N M a w) {i : Nat} {o : Oper} (ho : ops.toList[i]? = some o) (hi : S i = false) (he : ∀ e ∈ o.after, Region.binds .any e = true → S e.on = true)
    {x : Acc} (hx : xs[i]? = some x) (htouch : touchOf (sg i) o.op = [] ∨ x.touch = touchOf (sg i) o.op) {c : Nat} {q : Row} (h : nth (rest ops.toList (sg i) o).mem c = some q) : q = .dead ∨ nth M c = some q := by
  have hlt := (List.getElem?_eq_some_iff.1 ho).1
  have hm := (F.lex.mem i hlt).1
  obtain ⟨_, hrows⟩ := F.rows i (by omega)
  rcases restM_box h with h1 | ⟨h1, h2⟩
  · exact .inl h1
  rw [hm] at h1
  have hst := hrows c
  rw [h1] at hst
  have agree : (∀ cs, q = .box cs → c ∈ x.touch) → ∀ cs, q = .box cs → nth M c = some q := by
    intro ht cs hcs
    refine RowS.agree F.chk (fun j y hy hrow => ?_) (I.rows c) hst
    by_cases e : i = j
    · subst e; simp [hi]
    · exact I.ord ho hi he (F.chk.touch i j x y hx hy e c hrow (ht cs hcs))
  cases hq : q with
  | dead => exact .inl rfl
  | box cs =>
    right
    rw [← hq]
    refine agree (fun cs hcs => ?_) cs hq
    rcases htouch with ht | ht
    · have := h2 cs hcs; rw [ht] at this; cases this
    · rw [ht]; exact h2 cs hcs
  | list L =>
    right
    rw [hq] at hst
    have h0 : nth s0.mem c = some (.list L) := by
      rcases hst with ⟨j, y, p, _, _, _, hb⟩ | ⟨_, j, y, p, _, _, _, hb⟩ | ⟨_, hb⟩
      · cases hb
      · cases hb
      · exact hb.symm
    rcases I.rows c with ⟨j, y, p, hy, _, hyd, _⟩ | ⟨_, j, y, p, hy, _, hyd, _⟩ | ⟨_, hb⟩
    · rcases (F.chk.store j y hy c p hyd).2 with ⟨_, h3⟩ | h3 <;> (rw [h0] at h3; cases h3)
    · have h3 := (F.chk.fresh j y hy c p hyd).1; rw [h0] at h3; cases h3
    · rw [hb, h0]
  | grow L e =>
    right
    rw [hq] at hst
    have h0 : nth s0.mem c = some (.grow L e) := by
      rcases hst with ⟨j, y, p, _, _, _, hb⟩ | ⟨_, j, y, p, _, _, _, hb⟩ | ⟨_, hb⟩
      · cases hb
      · cases hb
      · exact hb.symm
    rcases I.rows c with ⟨j, y, p, hy, _, hyd, _⟩ | ⟨_, j, y, p, hy, _, hyd, _⟩ | ⟨_, hb⟩
    · rcases (F.chk.store j y hy c p hyd).2 with ⟨_, h3⟩ | h3 <;> (rw [h0] at h3; cases h3)
    · have h3 := (F.chk.fresh j y hy c p hyd).1; rw [h0] at h3; cases h3
    · rw [hb, h0]

/-- A ready operation: those that may come up next. -/
structure Rdy (ops : List Oper) (S S' : Nat → Bool) (i : Nat) (o : Oper) : Prop where
  op : ops[i]? = some o
  un : S i = false
  ed : ∀ e ∈ o.after, Region.binds .any e = true → S e.on = true
  nx : ∀ j, S' j = (S j || decide (j = i))

theorem Rdy.at {ops : List Oper} {S S' : Nat → Bool} {i : Nat} {o : Oper} (R : Rdy ops S S' i o) : S' i = true := by rw [R.nx]; simp
theorem Rdy.off {ops : List Oper} {S S' : Nat → Bool} {i : Nat} {o : Oper} (R : Rdy ops S S' i o) {j : Nat} (h : j ≠ i) : S' j = S j := by rw [R.nx]; simp [h]
theorem Rdy.sub {ops : List Oper} {S S' : Nat → Bool} {i : Nat} {o : Oper} (R : Rdy ops S S' i o) {j : Nat} (h : S j = true) : S' j = true := by rw [R.nx]; simp [h]
theorem Rdy.cases {ops : List Oper} {S S' : Nat → Bool} {i : Nat} {o : Oper} (R : Rdy ops S S' i o) {j : Nat} (h : S' j = true) : j = i ∨ (j ≠ i ∧ S j = true) := by
  by_cases e : j = i
  · exact .inl e
  · exact .inr ⟨e, by rw [R.off e] at h; exact h⟩

/-- One operation has come up. -/
theorem Inv.next (F : Facts P ops s s0 xs st sg g mm) (I : Inv B w0 N0 ops.toList s s0 xs S N M a w) {S' : Nat → Bool} {i : Nat} {o : Oper} (R : Rdy ops.toList S S' i o) {x : Acc} (hx : xs[i]? = some x)
    {N' : List Nm} {w' : World} {v : Value} (hle : NLe N N') (hrel : RelM B w0 N' (x.did.app M) w') (hv : x.res.val N' = some v)
    (hfree : ∀ j y m cs, xs[j]? = some y → j ≠ i → y.did = .fresh m cs → nth N m = some .none → nth N' m = some .none) :
    Inv B w0 N0 ops.toList s s0 xs S' N' (x.did.app M) (a.put o.dst v) w' where
  le := I.le.trans hle
  lenM := by rw [length_app]; exact I.lenM
  rows := by
    refine RowS.step F.chk I.lenM hx R.un R.nx ?_ I.rows
    intro m cs j y q hd hy hyd
    cases hS : S j with
    | false => rfl
    | true =>
      have hne : j ≠ i := by rintro rfl; rw [R.un] at hS; cases hS
      obtain ⟨_, o', ho', e, he, hb, heq⟩ := F.chk.sf j i y x hy hx hne m q cs hyd hd
      have := I.closed j o' ho' hS e he hb
      rw [heq, R.un] at this; cases this
  rel := hrel
  defers := by cases o.dst <;> exact I.defers
  size := by cases h : o.dst <;> simp [Act.put, I.size]
  done := by
    intro j oj z hoj hz hS d hd
    rcases R.cases hS with rfl | ⟨hne, hS⟩
    · rw [R.op] at hoj; cases hoj
      rw [hx] at hz; cases hz
      refine ⟨v, hv, ?_⟩
      have := F.chk.dst j o R.op d hd
      simp [hd, Act.put, I.size, this]
    · obtain ⟨u, h1, h2⟩ := I.done j oj z hoj hz hS d hd
      refine ⟨u, av_mono hle h1, ?_⟩
      cases hdo : o.dst with
      | none => exact h2
      | some d' =>
        have : d' ≠ d := by
          rintro rfl
          exact F.chk.ssa i j o oj R.op hoj (Ne.symm hne) d' hd hdo
        simp [Act.put, this, h2]
  base := by
    intro t ht y hy
    obtain ⟨u, h1, h2⟩ := I.base t (fun j oj hoj hS => ht j oj hoj (R.sub hS)) y hy
    refine ⟨u, av_mono hle h1, ?_⟩
    have hno := ht i o R.op R.at
    cases hdo : o.dst with
    | none => exact h2
    | some d' =>
      have : d' ≠ t := by rintro rfl; exact hno hdo
      simp [Act.put, this, h2]
  free := by
    intro j y m cs hy hS hd
    have hne : j ≠ i := by rintro rfl; rw [R.at] at hS; cases hS
    exact hfree j y m cs hy hne hd (I.free j y m cs hy (by rw [R.off hne] at hS; exact hS) hd)
  closed := by
    intro j oj hoj hS e he hb
    rcases R.cases hS with rfl | ⟨hne, hS⟩
    · rw [R.op] at hoj; cases hoj
      exact R.sub (R.ed e he hb)
    · exact R.sub (I.closed j oj hoj hS e he hb)

theorem Inv.step (F : Facts P ops s s0 xs st sg g mm) (I : Inv B w0 N0 ops.toList s s0 xs S N M a w) {S' : Nat → Bool} {i : Nat} {o : Oper} (R : Rdy ops.toList S S' i o) {Q : Exit → Act → World → Prop} {K : Act → World → Prop}
    (hK : ∀ N' M' a' w', Inv B w0 N0 ops.toList s s0 xs S' N' M' a' w' → K a' w') : wpOp P ops Q i K a w := by
  have hlt := (List.getElem?_eq_some_iff.1 R.op).1
  have hop : ops[i]? = some o := by have := R.op; simpa using this
  obtain ⟨x, hx⟩ := F.acc R.op
  obtain ⟨hA1, hA2⟩ := F.lex.acc i o x hlt R.op hx
  have hw : Region.wanted o (yielded ops a.tmps) = g i := by
    refine F.lex.guard i o hlt R.op a fun j want hg oj hj d hd y hy v hv => ?_
    have ht : d ∈ looks ops.toList o := by
      have hj' : nth ops.toList j = some oj := by rw [nth_eq]; simpa using hj
      simp [looks, hg, hj', hd]
    obtain ⟨u, h1, h2⟩ := I.look F R.op R.un R.ed ht (F.from_st i (by omega) d y hy)
    rw [hv N] at h1; cases h1; exact h2
  have hT := I.relT F R.op R.un R.ed
  unfold wpOp
  simp only [hop, hw]
  cases hg : g i with
  | false =>
    simp only [Bool.false_eq_true, if_false]
    have := hA2 hg
    subst this
    exact hK _ _ _ _ (I.next F R hx (NLe.refl N) I.rel rfl fun _ _ _ _ _ _ _ h => h)
  | true =>
    simp only [if_true]
    left
    have hM : (touchOf (sg i) o.op = [] ∨ x.touch = touchOf (sg i) o.op) → RelM B w0 N (rest ops.toList (sg i) o).mem w := by
      intro ht
      refine I.rel.restrict ?_ fun c q hq => I.row F R.op R.un R.ed hx ht hq
      simp only [rest, length_restM]
      rw [(F.lex.mem i hlt).1, (F.rows i (by omega)).1, I.lenM]
    rcases hA1 hg with ⟨hd, ht, hA⟩ | ⟨cs, hxe, ht, hA⟩ | ⟨b, q, hxe, hA⟩
    · obtain ⟨v, h1, h2⟩ := hA B w0 N a w (hM (.inr ht)) hT
      refine wp_of_quietAt h2 (Below.refl _ w) fun w' hw' => ?_
      refine hK _ _ _ _ (I.next F R hx (NLe.refl N) ?_ h1 fun _ _ _ _ _ _ _ h => h)
      rw [hd]
      exact I.rel.keep hw'
    · obtain ⟨vs, T, h1, h2⟩ := hA B w0 N a w (hM (.inl ht)) hT
      have hdid : x.did = .fresh (mm i) cs := by rw [hxe]
      have hN : nth N (mm i) = some .none := I.free i x (mm i) cs hx R.un hdid
      have hMm : nth M (mm i) = some .dead := by
        rcases I.rows (mm i) with ⟨j, y, p, hy, hS, hyd, _⟩ | ⟨_, j, y, p, hy, hS, hyd, _⟩ | ⟨_, hb⟩
        · have hne : j ≠ i := by rintro rfl; rw [R.un] at hS; cases hS
          obtain ⟨_, o', ho', e, he, hb, heq⟩ := F.chk.sf j i y x hy hx hne (mm i) p cs hyd hdid
          have := I.closed j o' ho' hS e he hb
          rw [heq, R.un] at this; cases this
        · have hne : j ≠ i := by rintro rfl; rw [R.un] at hS; cases hS
          exact absurd hdid (F.chk.ff j i y x hy hx hne (mm i) p cs hyd)
        · rw [hb]; exact (F.chk.fresh i x hx (mm i) cs hdid).1
      obtain ⟨hle, hrel⟩ := I.rel.fresh hN hMm h1 T
      refine op_wp_value h2 (hK _ _ _ _ (I.next F R hx hle ?_ ?_ ?_))
      · rw [hdid]; exact hrel
      · rw [hxe]
        simp [AV.val, CV.val, nth_setNth_self hN]
      · intro j y m cs' hy hne hd hnn
        have : mm i ≠ m := by
          rintro rfl
          exact F.chk.ff j i y x hy hx hne _ _ _ hd hdid
        rw [nth_setNth_ne this]; exact hnn
    · have hdid : x.did = .store b q := by rw [hxe]
      have htch : x.touch = touchOf (sg i) o.op := by rw [hxe]
      obtain ⟨bk, T, vs, w', cs, e0, e1, e2, e3, e4, e5, e6, e7, e8, e9⟩ := hA B w0 N a w (hM (.inr htch)) hT
      have hMb : nth M b = some (.box cs) := by
        rcases I.row F R.op R.un R.ed hx (.inr htch) e0 with h | h
        · cases h
        · exact h
      refine op_wp_skip e3 (hK _ _ _ _ (I.next F R hx (NLe.refl N) ?_ ?_ fun _ _ _ _ _ _ _ h => h))
      · rw [hdid]
        exact I.rel.store hMb e1 e2 e4 e5 e6 e7 e8 e9
      · rw [hxe]; rfl

/-- How many have not come up. -/
def left (L : Array Bool) : Nat := L.toList.count false
theorem left_set {L : Array Bool} {i : Nat} (h : L.getD i true = false) : left (L.setIfInBounds i true) + 1 = left L := by
  have hi : i < L.size := by
    rcases Nat.lt_or_ge i L.size with h' | h'
    · exact h'
    · simp [Array.getElem?_eq_none h'] at h
  have hv : L.toList[i]'(by simpa using hi) = false := by simp [hi] at h; simpa using h
  unfold left
  rw [Array.toList_setIfInBounds, List.count_set (by simpa using hi), hv]
  have h0 : false ∈ L.toList := by
    have := List.getElem_mem (l := L.toList) (n := i) (by simpa using hi)
    rwa [hv] at this
  have := List.count_pos_iff.2 h0
  have e1 : ((false == false) : Bool) = true := rfl
  have e2 : ((true == false) : Bool) = false := rfl
  rw [e1, e2]
  simp only [if_true, Bool.false_eq_true, if_false]
  omega

theorem ready_nil {L : Array Bool} (hs : L.size = ops.size) (he : ∀ i o, ops.toList[i]? = some o → ∀ e ∈ o.after, Region.binds .any e = true → e.on < i)
    (h : Region.ready .any ops L = []) : ∀ i, i < ops.size → L.getD i false = true := by
  intro i
  induction i using Nat.strongRecOn with
  | _ i ih =>
    intro hi
    cases hL : L.getD i false with
    | true => rfl
    | false =>
      have ho : ops[i]? = some ops[i] := Array.getElem?_eq_getElem hi
      have hsz : i < L.size := hs ▸ hi
      have : i ∈ Region.ready .any ops L := mem_ready.2 ⟨getD_in hsz hL, ops[i], ho, fun e hee hb => ?_⟩
      · rw [h] at this; cases this
      · have hlt := he i ops[i] (by simp [ho]) e hee hb
        exact ih e.on hlt (Nat.lt_trans hlt hi)

theorem left_zero {L : Array Bool} (h : left L = 0) (i : Nat) : L.getD i true = true := by
  cases hL : L.getD i true with
  | true => rfl
  | false => have := left_set hL; omega

theorem Inv.any (F : Facts P ops s s0 xs st sg g mm) {Q : Exit → Act → World → Prop} (hQ : ∀ N M a w S, (∀ i, i < ops.size → S i = true) → Inv B w0 N0 ops.toList s s0 xs S N M a w → Q .normal a w) :
    ∀ (fuel : Nat) (L : Array Bool) (N : List Nm) (M : List Row) (a : Act) (w : World), L.size = ops.size → left L = fuel → Inv B w0 N0 ops.toList s s0 xs (fun i => L.getD i false) N M a w → wpAny P .any ops Q fuel L a w
  | 0, L, N, M, a, w, hs, hl, I => by
    have hnil : Region.ready .any ops L = [] := by
      apply List.eq_nil_iff_forall_not_mem.2
      intro i hi
      have h1 := (mem_ready.1 hi).1
      rw [left_zero hl i] at h1; cases h1
    exact ⟨hnil, hQ _ _ _ _ _ (ready_nil hs F.chk.edge hnil) I⟩
  | fuel + 1, L, N, M, a, w, hs, hl, I => by
    refine ⟨fun hnil => hQ _ _ _ _ _ (ready_nil hs F.chk.edge hnil) I, fun i hi => ?_⟩
    obtain ⟨h1, o, ho, h2⟩ := mem_ready.1 hi
    have hlt : i < L.size := by
      rcases Nat.lt_or_ge i L.size with h' | h'
      · exact h'
      · simp [Array.getElem?_eq_none h'] at h1
    refine I.step F (S' := fun j => (L.setIfInBounds i true).getD j false) ⟨by simp [ho], getD_both h1, h2, fun j => ?_⟩ fun N' M' a' w' I' => ?_
    · by_cases e : j = i
      · subst e; simp [hlt]
      · rw [getD_set_ne false (Ne.symm e)]; simp [e]
    · exact Inv.any F hQ fuel _ N' M' a' w' (by simpa using hs) (by have := left_set h1; omega) I'

theorem draw_sound (hE : EnvOK P E) (hm : P.follows .mixedOrders = true) {id : Nat} {Q : Exit → Act → World → Prop} {k : St → Tr ρ} (hR : Rel B w0 N s a w)
    (h : (evOpsD P E ops.toList ops.toList s.mem.length { s with mem := s.mem ++ deads (freshN ops.toList) } [] fun s' acc =>
          match checkD s.n s.mem.length (s.mem ++ deads (freshN ops.toList)) ops.toList acc with
          | true => k s'
          | false => .fail).den = some r)
    (hk : ∀ N' s' a' w', Rel B w0 N' s' a' w' → (k s').den = some r → Q .normal a' w') : (Code.region id ops true).wp P Q a w := by
  have hL0 : Lex P ops ops.toList { s with mem := s.mem ++ deads (freshN ops.toList) } [] (fun _ => { s with mem := s.mem ++ deads (freshN ops.toList) }) (fun _ => s) (fun _ => true) (fun _ => 0) ([] : List Oper).length :=
    ⟨rfl, rfl, fun i hi => by simp at hi, fun i hi => by simp at hi, fun i o hi => by simp at hi, fun i o x hi => by simp at hi, fun i o x hi => by simp at hi⟩
  obtain ⟨xs, st, sg, g, mm, hL, h'⟩ := evOpsD_sound hE ops.toList [] s.mem.length _ [] (by simp) hL0 rfl h
  split at h'
  · rename_i hc
    have F : Facts P ops s { s with mem := s.mem ++ deads (freshN ops.toList) } xs st sg g mm := ⟨hL, checkD_spec hL.len hc, rfl, rfl⟩
    refine wp_region_any hm ?_
    have hM0 : RelM B w0 (N ++ List.replicate (freshN ops.toList) .none) (s.mem ++ deads (freshN ops.toList)) { w with drawn := w.drawn + 1 } := (hR.m.room _).drew
    refine Inv.any F (N0 := N ++ List.replicate (freshN ops.toList) .none) ?_ ops.size _ _ _ a _ (by simp) (by simp [left]) ⟨NLe.refl _, rfl, fun c => .inr (.inr ⟨fun i x _ h => ?_, rfl⟩), hM0, hR.t.defers, hR.t.size, ?_, ?_, ?_, ?_⟩
    · intro N' M' a' w' S hall I
      have hlen : ops.toList.length = ops.size := by simp
      have hmem : M' = (st ops.toList.length).mem := by
        obtain ⟨h1, h2⟩ := F.rows ops.toList.length (Nat.le_refl _)
        have hcell : ∀ c, nth M' c = nth (st ops.toList.length).mem c := by
          intro c
          refine RowS.agree F.chk (fun j y hy _ => ?_) (I.rows c) (h2 c)
          have := (List.getElem?_eq_some_iff.1 hy).1
          rw [F.lex.len] at this
          rw [hall j (by omega)]; simp; omega
        refine List.ext_getElem? fun c => ?_
        rw [← nth_eq, ← nth_eq]; exact hcell c
      refine hk N' (st ops.toList.length) a' w' ⟨by rw [← hmem]; exact I.rel, I.defers, by rw [I.size, F.sg_n _ (Nat.le_refl _)], fun t x hx => ?_⟩ h'
      obtain ⟨y, h1, ⟨j, oj, z, hj, hoj, hz, hd, rfl⟩ | ⟨hno, hy⟩⟩ := F.from_st _ (Nat.le_refl _) t x hx
      · obtain ⟨v, h2, h3⟩ := I.done j oj z hoj hz (hall j (by omega)) t hd
        exact ⟨v, by rw [h1]; exact h2, h3⟩
      · obtain ⟨v, h2, h3⟩ := I.base t (fun j oj hoj _ => hno j oj ((List.getElem?_eq_some_iff.1 hoj).1) hoj) y hy
        exact ⟨v, by rw [h1]; exact h2, h3⟩
    · dsimp only at h; rw [getD_replicate_false] at h; cases h
    · intro i o x ho hx hS; rw [getD_replicate_false] at hS; cases hS
    · intro t _ y hy
      obtain ⟨v, h1, h2⟩ := hR.t.look t y hy
      exact ⟨v, av_mono (NLe.append _ _) h1, h2⟩
    · intro i x m cs hx _ hd
      obtain ⟨h1, h2⟩ := F.chk.fresh i x hx m cs hd
      have h3 := nth_lt h1
      have h4 := hR.m.len
      rw [← hM0.len] at h3
      simp at h3
      rw [nth_eq, List.getElem?_append_right (by omega), List.getElem?_replicate]
      simp; omega
    · intro i o ho hS; rw [getD_replicate_false] at hS; cases hS
  · simp [Tr.den] at h'
end
end Go.Proofs.Ythplkbeiapgclaa.Ev
