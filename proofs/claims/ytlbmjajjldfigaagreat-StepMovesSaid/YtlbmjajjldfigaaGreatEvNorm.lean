/-
  A state made plain: the same world fits it.
-/
import Derived.Test.YtlbmjajjldfigaaGreatEvThree
namespace Go.Proofs.YtlbmjajjldfigaaGreat.Ev
open Go Go.RowKit
universe u

def names (N : List Nm) (m : List Nat) : List Nm := m.map fun i => (nth N i).getD .none

/-- What is longer. -/
def Pre (m m' : List Nat) : Prop := ∃ r, m' = m ++ r
theorem Pre.refl (m : List Nat) : Pre m m := ⟨[], by simp⟩
theorem Pre.trans {a b c : List Nat} (h : Pre a b) (k : Pre b c) : Pre a c := by
  obtain ⟨x, rfl⟩ := h; obtain ⟨y, rfl⟩ := k; exact ⟨x ++ y, by simp⟩
theorem Pre.nth {m m' : List Nat} (h : Pre m m') {j i : Nat} (hj : Ev.nth m j = some i) : Ev.nth m' j = some i := by
  obtain ⟨r, rfl⟩ := h; exact nth_append hj

theorem idx_spec (i : Nat) : ∀ (l : List Nat) (k j : Nat), idx i l k = some j → k ≤ j ∧ Ev.nth l (j - k) = some i
  | [], k, j, h => by cases h
  | a :: r, k, j, h => by
    simp only [idx] at h
    split at h
    · rename_i hb
      have := Nat.eq_of_beq_eq_true hb
      subst this; simp at h; subst h
      exact ⟨Nat.le_refl _, by simp [Ev.nth]⟩
    · obtain ⟨h1, h2⟩ := idx_spec i r (k + 1) j h
      refine ⟨by omega, ?_⟩
      rw [show j - k = (j - (k + 1)) + 1 by omega]
      exact h2
theorem idx_none (i : Nat) : ∀ (l : List Nat) (k : Nat), idx i l k = none → i ∉ l
  | [], k, h => by simp
  | a :: r, k, h => by
    simp only [idx] at h
    split at h
    · cases h
    · rename_i hb
      have hne : a ≠ i := fun e => by subst e; rw [Nat.beq_refl] at hb; cases hb
      have := idx_none i r (k + 1) h
      simp [this, Ne.symm hne]
theorem reach_spec {m m' : List Nat} {i j : Nat} (h : reach m i = (j, m')) : Pre m m' ∧ Ev.nth m' j = some i ∧ (m.Nodup → m'.Nodup) := by
  unfold reach at h
  split at h
  · rename_i k hk
    simp at h; obtain ⟨rfl, rfl⟩ := h
    exact ⟨Pre.refl _, (idx_spec i m 0 k hk).2, id⟩
  · rename_i hk
    simp at h; obtain ⟨rfl, rfl⟩ := h
    refine ⟨⟨[i], rfl⟩, nth_last m i, fun hn => ?_⟩
    have := idx_none i m 0 hk
    rw [List.nodup_append]
    exact ⟨hn, by simp, by intro a ha b hb; simp at hb; subst hb; exact fun e => this (e ▸ ha)⟩

theorem nth_names {N : List Nm} {m : List Nat} {j i : Nat} (h : Ev.nth m j = some i) : Ev.nth (names N m) j = some ((Ev.nth N i).getD .none) := by
  rw [nth_eq] at *
  simp [names, h]

/-- Renamed, and the same. -/
structure Same (m m' : List Nat) (v v' : List Nm → Option Value) : Prop where
  pre : Pre m m'
  nodup : m.Nodup → m'.Nodup
  val : ∀ (N : List Nm) (mf : List Nat), Pre m' mf → v' (names N mf) = v N

theorem CV.ren_same {m m' : List Nat} {x y : CV} (h : x.ren m = (y, m')) : Same m m' x.val y.val := by
  cases x with
  | v z => simp [CV.ren] at h; obtain ⟨rfl, rfl⟩ := h; exact ⟨Pre.refl _, id, fun _ _ _ => rfl⟩
  | k z => simp [CV.ren] at h; obtain ⟨rfl, rfl⟩ := h; exact ⟨Pre.refl _, id, fun _ _ _ => rfl⟩
  | b z => simp [CV.ren] at h; obtain ⟨rfl, rfl⟩ := h; exact ⟨Pre.refl _, id, fun _ _ _ => rfl⟩
  | own i off =>
    simp only [CV.ren, Prod.mk.injEq] at h; obtain ⟨rfl, rfl⟩ := h
    obtain ⟨h1, h2, h3⟩ := reach_spec (show reach m i = ((reach m i).1, (reach m i).2) from rfl)
    refine ⟨h1, h3, fun N mf hp => ?_⟩
    simp only [CV.val, nth_names (N := N) (hp.nth h2)]
    cases Ev.nth N i with
    | none => rfl
    | some n => cases n <;> rfl
  | el i e sz off =>
    simp only [CV.ren, Prod.mk.injEq] at h; obtain ⟨rfl, rfl⟩ := h
    obtain ⟨h1, h2, h3⟩ := reach_spec (show reach m i = ((reach m i).1, (reach m i).2) from rfl)
    refine ⟨h1, h3, fun N mf hp => ?_⟩
    simp only [CV.val, nth_names (N := N) (hp.nth h2)]
    cases Ev.nth N i with
    | none => rfl
    | some n => cases n with
      | sv a n c => cases a <;> rfl
      | _ => rfl
  | sl i =>
    simp only [CV.ren, Prod.mk.injEq] at h; obtain ⟨rfl, rfl⟩ := h
    obtain ⟨h1, h2, h3⟩ := reach_spec (show reach m i = ((reach m i).1, (reach m i).2) from rfl)
    refine ⟨h1, h3, fun N mf hp => ?_⟩
    simp only [CV.val, nth_names (N := N) (hp.nth h2)]
    cases Ev.nth N i with
    | none => rfl
    | some n => cases n <;> rfl

theorem CV.rens_same : ∀ {l : List CV} {m m' : List Nat} {q : List CV}, CV.rens m l = (q, m') → Pre m m' ∧ (m.Nodup → m'.Nodup) ∧ ∀ (N : List Nm) (mf : List Nat), Pre m' mf → CV.vals (names N mf) q = CV.vals N l
  | [], m, m', q, h => by simp [CV.rens] at h; obtain ⟨rfl, rfl⟩ := h; exact ⟨Pre.refl _, id, fun _ _ _ => rfl⟩
  | x :: r, m, m', q, h => by
    simp only [CV.rens, Prod.mk.injEq] at h; obtain ⟨rfl, rfl⟩ := h
    have s1 := CV.ren_same (show x.ren m = ((x.ren m).1, (x.ren m).2) from rfl)
    obtain ⟨p2, n2, v2⟩ := CV.rens_same (show CV.rens (x.ren m).2 r = ((CV.rens (x.ren m).2 r).1, (CV.rens (x.ren m).2 r).2) from rfl)
    refine ⟨s1.pre.trans p2, fun hn => n2 (s1.nodup hn), fun N mf hp => ?_⟩
    simp only [CV.vals, s1.val N mf (p2.trans hp), v2 N mf hp]

theorem AV.ren_same : ∀ {x y : AV} {m m' : List Nat}, x.ren m = (y, m') → Same m m' x.val y.val
  | .c x, y, m, m', h => by
    simp only [AV.ren, Prod.mk.injEq] at h; obtain ⟨rfl, rfl⟩ := h
    exact CV.ren_same (show x.ren m = ((x.ren m).1, (x.ren m).2) from rfl)
  | .agg l, y, m, m', h => by
    simp only [AV.ren, Prod.mk.injEq] at h; obtain ⟨rfl, rfl⟩ := h
    obtain ⟨p, n, v⟩ := CV.rens_same (show CV.rens m l = ((CV.rens m l).1, (CV.rens m l).2) from rfl)
    exact ⟨p, n, fun N mf hp => by simp only [AV.val, v N mf hp]⟩
  | .clo f l, y, m, m', h => by
    simp only [AV.ren, Prod.mk.injEq] at h; obtain ⟨rfl, rfl⟩ := h
    obtain ⟨p, n, v⟩ := CV.rens_same (show CV.rens m l = ((CV.rens m l).1, (CV.rens m l).2) from rfl)
    exact ⟨p, n, fun N mf hp => by simp only [AV.val, v N mf hp]⟩
  | .tup2 a b, y, m, m', h => by
    simp only [AV.ren, Prod.mk.injEq] at h; obtain ⟨rfl, rfl⟩ := h
    have s1 := AV.ren_same (show a.ren m = ((a.ren m).1, (a.ren m).2) from rfl)
    have s2 := AV.ren_same (show b.ren (a.ren m).2 = ((b.ren (a.ren m).2).1, (b.ren (a.ren m).2).2) from rfl)
    exact ⟨s1.pre.trans s2.pre, fun hn => s2.nodup (s1.nodup hn), fun N mf hp => by simp only [AV.val, s1.val N mf (s2.pre.trans hp), s2.val N mf hp]⟩
  | .tup3 a b d, y, m, m', h => by
    simp only [AV.ren, Prod.mk.injEq] at h; obtain ⟨rfl, rfl⟩ := h
    have s1 := AV.ren_same (show a.ren m = ((a.ren m).1, (a.ren m).2) from rfl)
    have s2 := AV.ren_same (show b.ren (a.ren m).2 = ((b.ren (a.ren m).2).1, (b.ren (a.ren m).2).2) from rfl)
    have s3 := AV.ren_same (show d.ren (b.ren (a.ren m).2).2 = ((d.ren (b.ren (a.ren m).2).2).1, (d.ren (b.ren (a.ren m).2).2).2) from rfl)
    exact ⟨s1.pre.trans (s2.pre.trans s3.pre), fun hn => s3.nodup (s2.nodup (s1.nodup hn)), fun N mf hp => by
      simp only [AV.val, s1.val N mf (s2.pre.trans (s3.pre.trans hp)), s2.val N mf (s3.pre.trans hp), s3.val N mf hp]⟩

theorem normT_same {l : List (Nat × AV)} : ∀ {ts : List Nat} {m m' : List Nat} {q : List (Nat × AV)}, normT l m ts = some (q, m') →
    Pre m m' ∧ (m.Nodup → m'.Nodup) ∧ ∀ (N : List Nm) (mf : List Nat), Pre m' mf → ∀ t y, Ev.look q t = some y → ∃ x, Ev.look l t = some x ∧ y.val (names N mf) = x.val N
  | [], m, m', q, h => by
    simp [normT] at h; obtain ⟨rfl, rfl⟩ := h
    exact ⟨Pre.refl _, id, fun _ _ _ t y hy => by simp [Ev.look] at hy⟩
  | t :: r, m, m', q, h => by
    simp only [normT] at h
    split at h
    · rename_i x hx
      split at h
      · rename_i q2 m2 h2
        simp at h; obtain ⟨rfl, rfl⟩ := h
        have s1 := AV.ren_same (show x.ren m = ((x.ren m).1, (x.ren m).2) from rfl)
        obtain ⟨p2, n2, v2⟩ := normT_same h2
        refine ⟨s1.pre.trans p2, fun hn => n2 (s1.nodup hn), fun N mf hp u z hz => ?_⟩
        rw [look_cons] at hz
        by_cases e : t = u
        · subst e
          simp at hz; subst hz
          exact ⟨x, hx, s1.val N mf (p2.trans hp)⟩
        · simp [e] at hz
          exact v2 N mf hp u z hz
      · cases h
    · cases h

/-- A row, renamed. -/
def RowSame (N : List Nm) (mf : List Nat) (r r' : Row) : Prop :=
  (∃ cs cs', r = .box cs ∧ r' = .box cs' ∧ CV.vals (names N mf) cs' = CV.vals N cs) ∨ (∃ cs cs', r = .ro cs ∧ r' = .ro cs' ∧ CV.vals (names N mf) cs' = CV.vals N cs) ∨ (((∀ cs, r ≠ .box cs) ∧ ∀ cs, r ≠ .ro cs) ∧ r' = r)

theorem normM_same {M : List Row} : ∀ {n k : Nat} {m m' : List Nat} {q : List Row}, normM M n k m = some (q, m') → k ≤ m.length →
    Pre m m' ∧ (m.Nodup → m'.Nodup) ∧ k + q.length = m'.length ∧ ∀ (N : List Nm) (mf : List Nat), Pre m' mf → ∀ j r', Ev.nth q j = some r' → ∃ i r, Ev.nth m' (k + j) = some i ∧ Ev.nth M i = some r ∧ RowSame N mf r r'
  | 0, k, m, m', q, h, _ => by simp [normM] at h
  | n + 1, k, m, m', q, h, hk => by
    simp only [normM] at h
    split at h
    · rename_i hn
      simp at h; obtain ⟨rfl, rfl⟩ := h
      refine ⟨Pre.refl _, id, ?_, fun _ _ _ j r' hj => by simp [Ev.nth] at hj⟩
      rw [nth_eq] at hn
      have := List.getElem?_eq_none_iff.1 hn
      simp; omega
    · rename_i i hi
      have hlt := nth_lt hi
      split at h
      · rename_i cs hcs
        split at h
        · rename_i q2 m2 h2
          simp at h; obtain ⟨rfl, rfl⟩ := h
          obtain ⟨p1, n1, v1⟩ := CV.rens_same (show CV.rens m cs = ((CV.rens m cs).1, (CV.rens m cs).2) from rfl)
          obtain ⟨p2, n2, l2, v2⟩ := normM_same h2 (by obtain ⟨r, hr⟩ := p1; rw [hr]; simp; omega)
          refine ⟨p1.trans p2, fun hn => n2 (n1 hn), by simp; omega, fun N mf hp j r' hj => ?_⟩
          cases j with
          | zero =>
            simp [Ev.nth] at hj; subst hj
            exact ⟨i, _, (p1.trans p2).nth hi, hcs, .inl ⟨cs, _, rfl, rfl, v1 N mf (p2.trans hp)⟩⟩
          | succ j =>
            obtain ⟨i', r, e1, e2, e3⟩ := v2 N mf hp j r' (by simpa [Ev.nth] using hj)
            exact ⟨i', r, by rwa [show k + (j + 1) = k + 1 + j by omega], e2, e3⟩
        · cases h
      · rename_i cs hcs
        split at h
        · rename_i q2 m2 h2
          simp at h; obtain ⟨rfl, rfl⟩ := h
          obtain ⟨p1, n1, v1⟩ := CV.rens_same (show CV.rens m cs = ((CV.rens m cs).1, (CV.rens m cs).2) from rfl)
          obtain ⟨p2, n2, l2, v2⟩ := normM_same h2 (by obtain ⟨r, hr⟩ := p1; rw [hr]; simp; omega)
          refine ⟨p1.trans p2, fun hn => n2 (n1 hn), by simp; omega, fun N mf hp j r' hj => ?_⟩
          cases j with
          | zero =>
            simp [Ev.nth] at hj; subst hj
            exact ⟨i, _, (p1.trans p2).nth hi, hcs, .inr (.inl ⟨cs, _, rfl, rfl, v1 N mf (p2.trans hp)⟩)⟩
          | succ j =>
            obtain ⟨i', r, e1, e2, e3⟩ := v2 N mf hp j r' (by simpa [Ev.nth] using hj)
            exact ⟨i', r, by rwa [show k + (j + 1) = k + 1 + j by omega], e2, e3⟩
        · cases h
      · rename_i r hnb hnr hr
        split at h
        · rename_i q2 m2 h2
          simp at h; obtain ⟨rfl, rfl⟩ := h
          obtain ⟨p2, n2, l2, v2⟩ := normM_same h2 (by omega)
          refine ⟨p2, n2, by simp; omega, fun N mf hp j r' hj => ?_⟩
          cases j with
          | zero =>
            simp [Ev.nth] at hj; subst hj
            exact ⟨i, r, p2.nth hi, hr, .inr (.inr ⟨⟨hnb, hnr⟩, rfl⟩)⟩
          | succ j =>
            obtain ⟨i', r, e1, e2, e3⟩ := v2 N mf hp j r' (by simpa [Ev.nth] using hj)
            exact ⟨i', r, by rwa [show k + (j + 1) = k + 1 + j by omega], e2, e3⟩
        · cases h
      · cases h

theorem blkOf_same {N N' : List Nm} {i j : Nat} {r : Row} (h : Ev.nth N' j = Ev.nth N i) : blkOf N' j r = blkOf N i r := by
  cases r <;> simp only [blkOf, h]
theorem rowOK_same {B : Nat} {N N' : List Nm} {w : World} {i j : Nat} {r r' : Row} (h : Ev.nth N' j = Ev.nth N i)
    (hr : (∃ cs cs', r = .box cs ∧ r' = .box cs' ∧ CV.vals N' cs' = CV.vals N cs) ∨ (∃ cs cs', r = .ro cs ∧ r' = .ro cs' ∧ CV.vals N' cs' = CV.vals N cs) ∨ (((∀ cs, r ≠ .box cs) ∧ ∀ cs, r ≠ .ro cs) ∧ r' = r)) (ho : RowOK B N w i r) : RowOK B N' w j r' := by
  rcases hr with ⟨cs, cs', rfl, rfl, hv⟩ | ⟨cs, cs', rfl, rfl, hv⟩ | ⟨⟨hn, hm⟩, rfl⟩
  · obtain ⟨b, T, vs, e1, e2, e3, e4⟩ := ho
    exact ⟨b, T, vs, by rw [h]; exact e1, e2, by rw [hv]; exact e3, e4⟩
  · obtain ⟨b, T, vs, e1, e3, e4⟩ := ho
    exact ⟨b, T, vs, by rw [h]; exact e1, by rw [hv]; exact e3, e4⟩
  · cases r' with
    | box cs => exact absurd rfl (hn cs)
    | ro cs => exact absurd rfl (hm cs)
    | list L => obtain ⟨a, n, cap, e1, e2⟩ := ho; exact ⟨a, n, cap, by rw [h]; exact e1, e2⟩
    | grow L e => obtain ⟨a, n, cap, e1, e2⟩ := ho; exact ⟨a, n, cap, by rw [h]; exact e1, e2⟩
    | nilr => show Ev.nth N' j = _; rw [h]; exact ho
    | dead => trivial

variable {B : Nat} {w0 : World} {N : List Nm} {s s' : St} {a : Act} {w : World}

theorem norm0_sound {ts : List Nat} (h : norm0 ts s = some s') (hR : Rel B w0 N s a w) : ∃ N', Rel B w0 N' s' a w := by
  unfold norm0 at h
  split at h
  · rename_i t m ht
    split at h
    · rename_i q m2 hq
      simp at h; subst h
      obtain ⟨p1, n1, v1⟩ := normT_same ht
      obtain ⟨p2, n2, l2, v2⟩ := normM_same hq (Nat.zero_le _)
      have hnd := n2 (n1 (by simp))
      refine ⟨names N m2, ⟨?_, ?_⟩⟩
      · have hrow : ∀ j r', Ev.nth q j = some r' → ∃ i r, Ev.nth m2 j = some i ∧ Ev.nth s.mem i = some r ∧ RowSame N m2 r r' ∧ Ev.nth (names N m2) j = Ev.nth N i := by
          intro j r' hj
          obtain ⟨i, r, e1, e2, e3⟩ := v2 N m2 (Pre.refl _) j r' hj
          rw [Nat.zero_add] at e1
          refine ⟨i, r, e1, e2, e3, ?_⟩
          rw [nth_names e1]
          have hi : i < N.length := by rw [hR.m.len]; exact nth_lt e2
          have : Ev.nth N i = some N[i] := by rw [nth_eq]; simp [hi]
          rw [this]; rfl
        refine ⟨hR.m.below, hR.m.base, by simp [names]; omega, ?_, ?_⟩
        · intro j r' hj
          obtain ⟨i, r, e1, e2, e3, e4⟩ := hrow j r' hj
          exact rowOK_same e4 e3 (hR.m.row i r e2)
        · intro j1 j2 r1 r2 b h1 h2 hne hw hb hb'
          obtain ⟨i1, q1, a1, a2, a3, a4⟩ := hrow j1 r1 h1
          obtain ⟨i2, q2, b1, b2, b3, b4⟩ := hrow j2 r2 h2
          have hi : i1 ≠ i2 := by
            rintro rfl
            rw [nth_eq] at a1 b1
            have l1 := (List.getElem?_eq_some_iff.1 a1).1
            have l2 := (List.getElem?_eq_some_iff.1 b1).1
            exact hne ((List.getElem?_inj l1 hnd).1 (a1.trans b1.symm))
          have conv : ∀ {j i : Nat} {r r' : Row}, RowSame N m2 r r' → Ev.nth (names N m2) j = Ev.nth N i → blkOf (names N m2) j r' = blkOf N i r ∧ r'.writable = r.writable := by
            rintro j i r r' (⟨cs, cs', rfl, rfl, _⟩ | ⟨cs, cs', rfl, rfl, _⟩ | ⟨_, rfl⟩) he
            · exact ⟨by simp only [blkOf, he], rfl⟩
            · exact ⟨by simp only [blkOf, he], rfl⟩
            · exact ⟨blkOf_same he, rfl⟩
          obtain ⟨c1, c2⟩ := conv a3 a4
          obtain ⟨d1, d2⟩ := conv b3 b4
          exact hR.m.sep i1 i2 q1 q2 b a2 b2 hi (c2 ▸ hw) (c1 ▸ hb) (d1 ▸ hb')
      · refine ⟨hR.t.defers, hR.t.size, fun u y hy => ?_⟩
        obtain ⟨x, e1, e2⟩ := v1 N m2 p2 u y hy
        obtain ⟨v, e3, e4⟩ := hR.t.look u x e1
        exact ⟨v, by rw [e2]; exact e3, e4⟩
    · cases h
  · cases h

/-! Slices that are nil become rows -/

def NilIn (n n' : Nat) (N : List Nm) : Prop := ∀ i, n ≤ i → i < n' → nth N i = some (.sv none 0 0)
theorem NilIn.sub {n n' m m' : Nat} {N : List Nm} (h : NilIn n n' N) (h1 : n ≤ m) (h2 : m' ≤ n') : NilIn m m' N := fun i a b => h i (by omega) (by omega)

theorem CV.up_val {n n' : Nat} {x y : CV} (h : x.up n = (y, n')) : n ≤ n' ∧ ∀ {N N' : List Nm} {v : Value}, NLe N N' → NilIn n n' N' → x.val N = some v → y.val N' = some v := by
  unfold CV.up at h
  split at h
  · simp at h; obtain ⟨rfl, rfl⟩ := h
    refine ⟨by omega, fun {N N' v} _ hn hv => ?_⟩
    simp [CV.val] at hv; subst hv
    simp [CV.val, hn n (Nat.le_refl _) (by omega)]
  · simp at h; obtain ⟨rfl, rfl⟩ := h
    exact ⟨Nat.le_refl _, fun hN _ hv => cv_mono hN hv⟩
theorem CV.ups_val : ∀ {l : List CV} {n n' : Nat} {q : List CV}, CV.ups n l = (q, n') → n ≤ n' ∧ ∀ {N N' : List Nm} {vs : List Value}, NLe N N' → NilIn n n' N' → CV.vals N l = some vs → CV.vals N' q = some vs
  | [], n, n', q, h => by simp [CV.ups] at h; obtain ⟨rfl, rfl⟩ := h; exact ⟨Nat.le_refl _, fun _ _ hv => hv⟩
  | x :: r, n, n', q, h => by
    simp only [CV.ups, Prod.mk.injEq] at h; obtain ⟨rfl, rfl⟩ := h
    obtain ⟨l1, v1⟩ := CV.up_val (show x.up n = ((x.up n).1, (x.up n).2) from rfl)
    obtain ⟨l2, v2⟩ := CV.ups_val (show CV.ups (x.up n).2 r = ((CV.ups (x.up n).2 r).1, (CV.ups (x.up n).2 r).2) from rfl)
    refine ⟨by omega, fun {N N' vs} hN hn hv => ?_⟩
    simp only [CV.vals] at hv ⊢
    split at hv
    · rename_i v hv1
      split at hv
      · rename_i l hl
        rw [v1 hN (hn.sub (Nat.le_refl _) l2) hv1, v2 hN (hn.sub l1 (Nat.le_refl _)) hl]; exact hv
      · cases hv
    · cases hv
theorem AV.up_val {n n' : Nat} {x y : AV} (h : x.up n = (y, n')) : n ≤ n' ∧ ∀ {N N' : List Nm} {v : Value}, NLe N N' → NilIn n n' N' → x.val N = some v → y.val N' = some v := by
  cases x with
  | c x =>
    simp only [AV.up, Prod.mk.injEq] at h; obtain ⟨rfl, rfl⟩ := h
    exact CV.up_val (show x.up n = ((x.up n).1, (x.up n).2) from rfl)
  | agg l =>
    simp only [AV.up, Prod.mk.injEq] at h; obtain ⟨rfl, rfl⟩ := h
    obtain ⟨l1, v1⟩ := CV.ups_val (show CV.ups n l = ((CV.ups n l).1, (CV.ups n l).2) from rfl)
    refine ⟨l1, fun {N N' v} hN hn hv => ?_⟩
    simp only [AV.val] at hv ⊢
    split at hv
    · rename_i q hq; rw [v1 hN hn hq]; exact hv
    · cases hv
  | clo f l =>
    simp only [AV.up, Prod.mk.injEq] at h; obtain ⟨rfl, rfl⟩ := h
    obtain ⟨l1, v1⟩ := CV.ups_val (show CV.ups n l = ((CV.ups n l).1, (CV.ups n l).2) from rfl)
    refine ⟨l1, fun {N N' v} hN hn hv => ?_⟩
    simp only [AV.val] at hv ⊢
    split at hv
    · rename_i q hq; rw [v1 hN hn hq]; exact hv
    · cases hv
  | tup2 a b => simp [AV.up] at h; obtain ⟨rfl, rfl⟩ := h; exact ⟨Nat.le_refl _, fun hN _ hv => av_mono hN hv⟩
  | tup3 a b d => simp [AV.up] at h; obtain ⟨rfl, rfl⟩ := h; exact ⟨Nat.le_refl _, fun hN _ hv => av_mono hN hv⟩
theorem upT_val {l : List (Nat × AV)} : ∀ {ts : List Nat} {n n' : Nat} {q : List (Nat × AV)}, upT l n ts = some (q, n') →
    n ≤ n' ∧ ∀ {N N' : List Nm}, NLe N N' → NilIn n n' N' → ∀ t y, Ev.look q t = some y → ∃ x, Ev.look l t = some x ∧ ∀ v, x.val N = some v → y.val N' = some v
  | [], n, n', q, h => by
    simp [upT] at h; obtain ⟨rfl, rfl⟩ := h
    exact ⟨Nat.le_refl _, fun _ _ t y hy => by simp [Ev.look] at hy⟩
  | t :: r, n, n', q, h => by
    simp only [upT] at h
    split at h
    · rename_i x hx
      split at h
      · rename_i q2 n2 h2
        simp at h; obtain ⟨rfl, rfl⟩ := h
        obtain ⟨l1, v1⟩ := AV.up_val (show x.up n = ((x.up n).1, (x.up n).2) from rfl)
        obtain ⟨l2, v2⟩ := upT_val h2
        refine ⟨by omega, fun {N N'} hN hn u z hz => ?_⟩
        rw [look_cons] at hz
        by_cases e : t = u
        · subst e
          simp at hz; subst hz
          exact ⟨x, hx, fun v hv => v1 hN (hn.sub (Nat.le_refl _) l2) hv⟩
        · simp [e] at hz
          exact v2 hN (hn.sub l1 (Nat.le_refl _)) u z hz
      · cases h
    · cases h
def RowUp (N N' : List Nm) (r r' : Row) : Prop :=
  (∃ cs cs', r = .box cs ∧ r' = .box cs' ∧ ∀ vs, CV.vals N cs = some vs → CV.vals N' cs' = some vs) ∨ (∃ cs cs', r = .ro cs ∧ r' = .ro cs' ∧ ∀ vs, CV.vals N cs = some vs → CV.vals N' cs' = some vs) ∨ r' = r
theorem upM_val : ∀ {M : List Row} {n n' : Nat} {M' : List Row}, upM n M = (M', n') →
    n ≤ n' ∧ M'.length = M.length ∧ ∀ {N N' : List Nm}, NLe N N' → NilIn n n' N' → ∀ i r', Ev.nth M' i = some r' → ∃ r, Ev.nth M i = some r ∧ RowUp N N' r r'
  | [], n, n', M', h => by simp [upM] at h; obtain ⟨rfl, rfl⟩ := h; exact ⟨Nat.le_refl _, rfl, fun _ _ i r' hi => by simp [Ev.nth] at hi⟩
  | x :: M, n, n', M', h => by
    have key : ∀ (x' : Row) (n1 : Nat), n ≤ n1 → (∀ {N N' : List Nm}, NLe N N' → NilIn n n1 N' → RowUp N N' x x') → (upM n (x :: M) = (x' :: (upM n1 M).1, (upM n1 M).2)) →
        n ≤ n' ∧ M'.length = (x :: M).length ∧ ∀ {N N' : List Nm}, NLe N N' → NilIn n n' N' → ∀ i r', Ev.nth M' i = some r' → ∃ r, Ev.nth (x :: M) i = some r ∧ RowUp N N' r r' := by
      intro x' n1 l1 v1 he
      rw [he] at h
      simp at h; obtain ⟨rfl, rfl⟩ := h
      obtain ⟨l2, k2, v2⟩ := upM_val (show upM n1 M = ((upM n1 M).1, (upM n1 M).2) from rfl)
      refine ⟨by omega, by simp [k2], fun {N N'} hN hn i r' hi => ?_⟩
      cases i with
      | zero => simp [Ev.nth] at hi; subst hi; exact ⟨x, rfl, v1 hN (hn.sub (Nat.le_refl _) l2)⟩
      | succ i => exact v2 hN (hn.sub l1 (Nat.le_refl _)) i r' (by simpa [Ev.nth] using hi)
    cases x with
    | box cs =>
      obtain ⟨l1, v1⟩ := CV.ups_val (show CV.ups n cs = ((CV.ups n cs).1, (CV.ups n cs).2) from rfl)
      exact key (.box (CV.ups n cs).1) _ l1 (fun hN hn => .inl ⟨cs, _, rfl, rfl, fun vs hv => v1 hN hn hv⟩) rfl
    | ro cs =>
      obtain ⟨l1, v1⟩ := CV.ups_val (show CV.ups n cs = ((CV.ups n cs).1, (CV.ups n cs).2) from rfl)
      exact key (.ro (CV.ups n cs).1) _ l1 (fun hN hn => .inr (.inl ⟨cs, _, rfl, rfl, fun vs hv => v1 hN hn hv⟩)) rfl
    | list L => exact key _ n (Nat.le_refl _) (fun _ _ => .inr (.inr rfl)) rfl
    | grow L e => exact key _ n (Nat.le_refl _) (fun _ _ => .inr (.inr rfl)) rfl
    | nilr => exact key _ n (Nat.le_refl _) (fun _ _ => .inr (.inr rfl)) rfl
    | dead => exact key _ n (Nat.le_refl _) (fun _ _ => .inr (.inr rfl)) rfl

theorem nilrs_nth : ∀ (k i : Nat) (r : Row), Ev.nth (nilrs k) i = some r → r = .nilr ∧ i < k
  | 0, i, r, h => by simp [nilrs, Ev.nth] at h
  | k + 1, 0, r, h => by simp [nilrs, Ev.nth] at h; exact ⟨h.symm, by omega⟩
  | k + 1, i + 1, r, h => by
    obtain ⟨h1, h2⟩ := nilrs_nth k i r (by simpa [nilrs, Ev.nth] using h)
    exact ⟨h1, by omega⟩
theorem nilrs_length : ∀ (k : Nat), (nilrs k).length = k
  | 0 => rfl
  | k + 1 => by simp [nilrs, nilrs_length k]
theorem up_sound {ts : List Nat} (h : up ts s = some s') (hR : Rel B w0 N s a w) : ∃ N', Rel B w0 N' s' a w := by
  unfold up at h
  split at h
  · rename_i t n ht
    obtain ⟨l1, v1⟩ := upT_val ht
    simp only [Option.some.injEq] at h
    obtain ⟨l2, k2, v2⟩ := upM_val (show upM n s.mem = ((upM n s.mem).1, (upM n s.mem).2) from rfl)
    subst h
    generalize (upM n s.mem).1 = M' at *
    generalize (upM n s.mem).2 = n' at *
    have hN : NLe N (N ++ List.replicate (n' - s.mem.length) (Nm.sv none 0 0)) := NLe.append _ _
    have hnil : NilIn s.mem.length n' (N ++ List.replicate (n' - s.mem.length) (Nm.sv none 0 0)) := by
      intro i h1 h2
      rw [nth_eq, List.getElem?_append_right (by rw [hR.m.len]; exact h1), List.getElem?_replicate]
      rw [if_pos (by rw [hR.m.len]; omega)]
    have hrow : ∀ i r', Ev.nth (M' ++ nilrs (n' - s.mem.length)) i = some r' → (∃ r, Ev.nth s.mem i = some r ∧ RowUp N (N ++ List.replicate (n' - s.mem.length) (Nm.sv none 0 0)) r r') ∨ (r' = .nilr ∧ s.mem.length ≤ i ∧ i < n') := by
      intro i r' hi
      rcases nth_app hi with hi | ⟨h1, h2⟩
      · exact .inl (v2 hN (hnil.sub l1 (Nat.le_refl _)) i r' hi)
      · obtain ⟨h3, h4⟩ := nilrs_nth _ _ _ h2
        exact .inr ⟨h3, by omega, by omega⟩
    refine ⟨N ++ List.replicate (n' - s.mem.length) (Nm.sv none 0 0), ⟨hR.m.below, hR.m.base, by simp [k2, nilrs_length, hR.m.len], ?_, ?_⟩, hR.t.defers, hR.t.size, ?_⟩
    · intro i r' hi
      rcases hrow i r' hi with ⟨r, e1, e2⟩ | ⟨rfl, e1, e2⟩
      · have ho := hR.m.row i r e1
        rcases e2 with ⟨cs, cs', rfl, rfl, hv⟩ | ⟨cs, cs', rfl, rfl, hv⟩ | rfl
        · obtain ⟨b, T, vs, f1, f2, f3, f4⟩ := ho
          exact ⟨b, T, vs, hN _ _ f1 (by simp), f2, hv _ f3, f4⟩
        · obtain ⟨b, T, vs, f1, f3, f4⟩ := ho
          exact ⟨b, T, vs, hN _ _ f1 (by simp), hv _ f3, f4⟩
        · exact ho.keep hN (Nat.le_refl _) fun _ _ => rfl
      · exact hnil i e1 e2
    · intro i j r q b hi hj hij hw hb hb'
      have back : ∀ {i : Nat} {r' : Row} {b : Nat}, Ev.nth (M' ++ nilrs (n' - s.mem.length)) i = some r' → blkOf (N ++ List.replicate (n' - s.mem.length) (Nm.sv none 0 0)) i r' = some b →
          ∃ r, Ev.nth s.mem i = some r ∧ r.writable = r'.writable ∧ blkOf N i r = some b := by
        intro i r' b hi hb
        rcases hrow i r' hi with ⟨r, e1, e2⟩ | ⟨rfl, e1, e2⟩
        · rcases e2 with ⟨cs, cs', rfl, rfl, hv⟩ | ⟨cs, cs', rfl, rfl, hv⟩ | rfl
          · exact ⟨_, e1, rfl, blkOf_back hN (hR.m.row _ _ e1) (r := .box cs) hb⟩
          · exact ⟨_, e1, rfl, blkOf_back hN (hR.m.row _ _ e1) (r := .ro cs) hb⟩
          · exact ⟨_, e1, rfl, blkOf_back hN (hR.m.row _ _ e1) hb⟩
        · simp [blkOf] at hb
      obtain ⟨r1, a1, a2, a3⟩ := back hi hb
      obtain ⟨q1, b1, b2, b3⟩ := back hj hb'
      exact hR.m.sep i j r1 q1 b a1 b1 hij (a2.trans hw) a3 b3
    · intro t' y hy
      obtain ⟨x, e1, e2⟩ := v1 hN (hnil.sub (Nat.le_refl _) l2) t' y hy
      obtain ⟨v, e3, e4⟩ := hR.t.look t' x e1
      exact ⟨v, e2 v e3, e4⟩
  · cases h

theorem norm_sound {ts : List Nat} (h : norm ts s = some s') (hR : Rel B w0 N s a w) : ∃ N', Rel B w0 N' s' a w := by
  unfold norm at h
  split at h
  · rename_i s1 hs1
    obtain ⟨N1, hR1⟩ := up_sound hs1 hR
    exact norm0_sound h hR1
  · cases h
end Go.Proofs.YtlbmjajjldfigaaGreat.Ev
