/-
  Contracts of calls whose arguments are boxes, lists, closures: the call's state made plain, its boxes to be read only.
-/
import Derived.Test.YtlbmjajjldfigaaGreatEvLoop
namespace Go.Proofs.YtlbmjajjldfigaaGreat.Ev
open Go Go.RowKit
universe u

/-- Rows as a callee sees them. -/
def weakM : List Row → List Row
  | [] => []
  | .box cs :: r => .ro cs :: weakM r
  | .grow L _ :: r => .list L :: weakM r
  | x :: r => x :: weakM r

theorem weakM_length : ∀ (M : List Row), (weakM M).length = M.length
  | [] => rfl
  | .box _ :: r => by simp [weakM, weakM_length r]
  | .ro _ :: r => by simp [weakM, weakM_length r]
  | .grow _ _ :: r => by simp [weakM, weakM_length r]
  | .list _ :: r => by simp [weakM, weakM_length r]
  | .nilr :: r => by simp [weakM, weakM_length r]
  | .dead :: r => by simp [weakM, weakM_length r]
theorem weakM_nth : ∀ (M : List Row) (i : Nat) (r : Row), nth (weakM M) i = some r → (∃ cs, nth M i = some (.box cs) ∧ r = .ro cs) ∨ (∃ L e, nth M i = some (.grow L e) ∧ r = .list L) ∨ (nth M i = some r ∧ r.writable = false)
  | [], i, r, h => by simp [weakM, nth] at h
  | x :: M, 0, r, h => by
    cases x <;> simp [weakM, nth] at h <;> subst h <;> simp [nth, Row.writable]
  | x :: M, i + 1, r, h => by
    have : nth (weakM M) i = some r := by cases x <;> simpa [weakM, nth] using h
    simpa [nth] using weakM_nth M i r this

theorem RelM.weak {B : Nat} {w0 : World} {N : List Nm} {M : List Row} {w : World} (h : RelM B w0 N M w) : RelM w.heap.size w N (weakM M) w where
  below := BelowO.refl _ w
  base := Nat.le_refl _
  len := h.len.trans (weakM_length M).symm
  row := by
    intro i r hi
    rcases weakM_nth M i r hi with ⟨cs, h1, rfl⟩ | ⟨L, e, h1, rfl⟩ | ⟨h1, hw⟩
    · obtain ⟨b, T, vs, e1, e2, e3, e4⟩ := h.row i _ h1
      exact ⟨b, T, vs, e1, e3, e4⟩
    · obtain ⟨a, n, cap, e1, e2⟩ := lst_at (M := M) (i := i) (L := L) h (by simp [lstOf, h1])
      exact ⟨a, n, cap, e1, e2⟩
    · have := h.row i r h1
      cases r with
      | box cs => simp [Row.writable] at hw
      | grow L e => simp [Row.writable] at hw
      | ro cs => exact this
      | list L => exact this
      | nilr => exact this
      | dead => trivial
  sep := by
    intro i j r q b hi hj hij hw
    rcases weakM_nth M i r hi with ⟨cs, h1, rfl⟩ | ⟨L, e, h1, rfl⟩ | ⟨h1, hw'⟩
    · simp [Row.writable] at hw
    · simp [Row.writable] at hw
    · rw [hw'] at hw; cases hw

theorem vals_of_look {N : List Nm} {arr : Array Value} : ∀ (l : List (Nat × AV)) (k : Nat), l.map Prod.fst = List.range' k l.length → (∀ t y, Ev.look l t = some y → ∃ v, y.val N = some v ∧ arr[t]? = some v) →
    ∃ vs, AV.vals N (l.map Prod.snd) = some vs ∧ vs.length = l.length ∧ ∀ i, i < l.length → vs[i]? = arr[k + i]?
  | [], k, _, _ => ⟨[], rfl, rfl, fun i hi => by simp at hi⟩
  | (d, x) :: r, k, hk, hl => by
    simp only [List.map_cons, List.length_cons, List.range'_succ, List.cons.injEq] at hk
    obtain ⟨hd, hr⟩ := hk
    subst hd
    obtain ⟨v, h1, h2⟩ := hl d x (by rw [look_cons]; simp)
    have hrest : ∀ t y, Ev.look r t = some y → ∃ v, y.val N = some v ∧ arr[t]? = some v := by
      intro t y hy
      refine hl t y ?_
      rw [look_cons]
      have : t ∈ r.map Prod.fst := by
        clear hl hr
        induction r with
        | nil => simp [Ev.look] at hy
        | cons p q ih =>
          obtain ⟨a, b⟩ := p
          rw [look_cons] at hy
          by_cases e : a = t
          · simp [e]
          · simp [e] at hy; simp [ih hy]
      rw [hr] at this
      have := (List.mem_range'_1.1 this).1
      have hne : ¬ d = t := by omega
      simp [hne, hy]
    obtain ⟨vs, g1, g2, g3⟩ := vals_of_look r (d + 1) hr hrest
    refine ⟨v :: vs, by simp [AV.vals, h1, g1], by simp [g2], fun i hi => ?_⟩
    cases i with
    | zero => simp [h2]
    | succ i => rw [List.getElem?_cons_succ, g3 i (by simpa using hi)]; congr 1; omega

/-- A contract on calls made plain. -/
def FS {X ρ : Type} (c : SC X) (cr : Cod ρ) (q : X → Bool) (g : X → ρ) : List AV → List Row → Option CallR := fun args M =>
  match Nat.beq args.length c.ts.length with
  | true => match norm c.ts { n := args.length, tmps := argTmps 0 args, mem := weakM M } with
    | some s => match c.dec s with
      | some x => some (.pre (q x) ρ (g x) cr.enc)
      | none => none
    | none => none
  | false => none

theorem all2_keys {l m : List (Nat × AV)} (h : All2 TF l m) : l.map Prod.fst = m.map Prod.fst := by
  induction h with
  | nil => rfl
  | cons hab _ ih => simp [ih, hab.1]
theorem normT_keys {l : List (Nat × AV)} : ∀ {ts : List Nat} {m m' : List Nat} {q : List (Nat × AV)}, normT l m ts = some (q, m') → q.map Prod.fst = ts
  | [], m, m', q, h => by simp [normT] at h; obtain ⟨rfl, _⟩ := h; rfl
  | t :: r, m, m', q, h => by
    simp only [normT] at h
    split at h
    · split at h
      · rename_i q2 m2 h2
        simp at h; obtain ⟨rfl, _⟩ := h
        simp [normT_keys h2]
      · cases h
    · cases h
theorem norm_keys {ts : List Nat} {s s' : St} (h : norm ts s = some s') : s'.tmps.map Prod.fst = ts := by
  unfold norm at h
  split at h
  case h_2 => cases h
  unfold norm0 at h
  split at h
  · rename_i t m ht
    split at h
    · simp at h; subst h; exact normT_keys ht
    · cases h
  · cases h

/-- What such a contract asks of a function. -/
def PlainS {X ρ : Type} (P : Program) (f : FuncId) (c : SC X) (cr : Cod ρ) (q : X → Bool) (g : X → ρ) : Prop :=
  ∀ x, q x = true → ∀ (N : List Nm) (w : World) (vs : List Value), RelM w.heap.size w N (c.enc x).mem w → AV.vals N ((c.enc x).tmps.map Prod.snd) = some vs →
    Calls P f vs.toArray w fun e w' => e = .returned (cr.enc (g x)) ∧ Below w.heap.size w w'

theorem specS {X ρ : Type} {P : Program} {f : FuncId} {c : SC X} {cr : Cod ρ} {q : X → Bool} {g : X → ρ} (hts : c.ts = List.range c.ts.length) (hc : ∀ vs w, (callFunc f vs).run P w = .ok (.enter f vs) w) (h : PlainS P f c cr q g) : Spec P f (FS c cr q g) := by
  refine ⟨hc, ?_, ?_, ?_⟩
  · intro args M α x val he
    unfold FS at he
    split at he
    · split at he
      · split at he
        · simp at he
        · cases he
      · cases he
    · cases he
  · intro args M α x val he B w0 N w vs hM hv
    unfold FS at he
    split at he
    · rename_i hlen
      have hlen := Nat.eq_of_beq_eq_true hlen
      split at he
      · rename_i s hs
        split at he
        · rename_i z hz
          simp at he
          obtain ⟨hq, rfl, he1, he2⟩ := he
          cases he1; cases he2
          have hR := start_rel (n := args.length) hv (Nat.le_refl _) hM.weak
          obtain ⟨N', hR'⟩ := norm_sound hs hR
          have hF := c.ok hz
          have hk : (c.enc z).tmps.map Prod.fst = List.range' 0 (c.enc z).tmps.length := by
            rw [← all2_keys hF.t, norm_keys hs, hts, List.range_eq_range']
            have := congrArg List.length (all2_keys hF.t)
            rw [norm_keys hs] at this
            simp at this
            simp [this]
          have hl : (c.enc z).tmps.length = args.length := by
            have := congrArg List.length (all2_keys hF.t)
            rw [norm_keys hs] at this
            simp at this; omega
          have hR2 := hF.rel hR'
          obtain ⟨us, g1, g2, g3⟩ := vals_of_look (c.enc z).tmps 0 hk hR2.t.look
          have hvl := avs_length hv
          have : us = vs := by
            apply List.ext_getElem?
            intro i
            rcases Nat.lt_or_ge i args.length with hi | hi
            · rw [g3 i (by omega)]
              rw [Nat.zero_add, Array.getElem?_append_left (by simp; omega)]
              simp
            · rw [List.getElem?_eq_none (by omega), List.getElem?_eq_none (by omega)]
          subst this
          exact h z hq N' w us hR2.m g1
        · cases he
      · cases he
    · cases he
  · intro args M α' x av rows he
    unfold FS at he
    split at he
    · split at he
      · split at he
        · simp at he
        · cases he
      · cases he
    · cases he
end Go.Proofs.YtlbmjajjldfigaaGreat.Ev
