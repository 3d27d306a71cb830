/-
  From the evaluator's tree to a call's contract; contracts put together into an environment.
-/
import Derived.Test.YtlbmjajjldfigaaGreatEvRun
namespace Go.Proofs.YtlbmjajjldfigaaGreat.Ev
open Go Go.RowKit
universe u

/-- How a kind of data lies in a value. -/
structure Cod (α : Type) where
  enc : α → Value
  dec : AV → Option α
  ok : ∀ {a x}, dec a = some x → ∀ N, a.val N = some (enc x)

section
variable {P : Program} {E : Env} {LE : Laws} {ρ : Type} {r : ρ} {B : Nat} {w0 : World} {N : List Nm} {s : St} {a : Act} {w : World}

/-- What a result variable is read by. -/
def resF (tmps : Array Value) : ResultVar → Sem Value
  | .tmp t => Pure.pure (tmps.getD t undef)
  | .cell p t => do loadVar t (← asAddr (tmps.getD p undef))

theorem results_eq (fn : Func) (tmps : Array Value) : results fn tmps = (do
    let vs ← fn.results.mapM (resF tmps)
    Pure.pure (if h : vs.size = 1 then vs[0] else .tuple vs)) := by
  unfold results
  congr 1

theorem res1_sound (hR : Rel B w0 N s a w) {v : ResultVar} {x : AV} (h : res1 P s v = some x) :
    ∃ u, x.val N = some u ∧ (resF a.tmps v).run P w = .ok u w := by
  cases v with
  | tmp t =>
    obtain ⟨u, h1, h2⟩ := hR.t.look t x h
    exact ⟨u, h1, by simp [resF, h2]⟩
  | cell p t =>
    simp only [res1] at h
    split at h
    · rename_i i off hl
      split at h
      · rename_i cs hm
        obtain ⟨v, h1, h2⟩ := hR.t.look p _ hl
        simp only [AV.val, CV.val] at h1
        split at h1
        · rename_i bk hb
          simp at h1; subst h1
          obtain ⟨_, T, vs, hn, _, hvs, hh⟩ := hR.m.row i _ hm
          rw [hb] at hn; cases hn
          obtain ⟨u, e1, e2⟩ := readCells_sound h hvs
          have := e2 w bk 0 (box_cells hh)
          refine ⟨u, e1, ?_⟩
          simp only [Nat.zero_add] at this
          simp [resF, h2, asAddr, this]
        · cases h1
      · cases h
    · cases h

theorem resV_sound (hR : Rel B w0 N s a w) {fn : Func} {x : AV} (h : resV P s fn.results.toList = some x) : ∃ u, x.val N = some u ∧ (results fn a.tmps).run P w = .ok u w := by
  rw [results_eq, Array.mapM_eq_mapM_toList]
  generalize fn.results.toList = l at h
  unfold resV at h
  split at h
  · rename_i p
    obtain ⟨u, h1, h2⟩ := res1_sound hR h
    refine ⟨u, h1, ?_⟩
    simp [List.mapM_cons, h2]
  · rename_i p q
    split at h
    · rename_i y hy
      split at h
      · rename_i z hz
        simp at h; subst h
        obtain ⟨u, h1, h2⟩ := res1_sound hR hy
        obtain ⟨v, h3, h4⟩ := res1_sound hR hz
        refine ⟨.tuple #[u, v], by simp [AV.val, h1, h3], ?_⟩
        simp [List.mapM_cons, h2, h4]
      · cases h
    · cases h
  · rename_i p q t
    split at h
    · rename_i y hy
      split at h
      · rename_i z hz
        split at h
        · rename_i c hc
          simp at h; subst h
          obtain ⟨u, h1, h2⟩ := res1_sound hR hy
          obtain ⟨v, h3, h4⟩ := res1_sound hR hz
          obtain ⟨g, h5, h6⟩ := res1_sound hR hc
          refine ⟨.tuple #[u, v, g], by simp [AV.val, h1, h3, h5], ?_⟩
          simp [List.mapM_cons, h2, h4, h6]
        · cases h
      · cases h
    · cases h
  · cases h

theorem look_args : ∀ (l : List AV) (i t : Nat) (x : AV), look (argTmps i l) t = some x → i ≤ t ∧ l[t - i]? = some x
  | [], i, t, x, h => by simp [argTmps, look] at h
  | y :: r, i, t, x, h => by
    simp only [argTmps, look_cons] at h
    by_cases e : i = t
    · subst e; simp at h; subst h; simp
    · simp [e] at h
      obtain ⟨h1, h2⟩ := look_args r (i + 1) t x h
      refine ⟨by omega, ?_⟩
      have : t - i = (t - (i + 1)) + 1 := by omega
      rw [this]; simpa using h2

theorem avs_nth : ∀ {l : List AV} {vs : List Value} {i : Nat} {x : AV}, AV.vals N l = some vs → l[i]? = some x → ∃ v, x.val N = some v ∧ vs[i]? = some v
  | [], _, _, _, _, hx => by simp at hx
  | y :: q, vs, i, x, h, hx => by
    simp only [AV.vals] at h
    split at h
    · rename_i v hv
      split at h
      · rename_i u hu
        simp at h; subst h
        cases i with
        | zero => simp at hx; subst hx; exact ⟨v, hv, by simp⟩
        | succ i => obtain ⟨z, h1, h2⟩ := avs_nth (i := i) hu (by simpa using hx); exact ⟨z, h1, by simpa using h2⟩
      · cases h
    · cases h
theorem avs_length : ∀ {l : List AV} {vs : List Value}, AV.vals N l = some vs → vs.length = l.length
  | [], _, h => by simp [AV.vals] at h; subst h; rfl
  | y :: q, vs, h => by
    simp only [AV.vals] at h
    split at h
    · split at h
      · rename_i u hu; simp at h; subst h; simp [avs_length hu]
      · cases h
    · cases h

theorem start_rel {args : List AV} {vs : List Value} {M : List Row} {n : Nat} (hv : AV.vals N args = some vs) (hlen : args.length ≤ n) (hM : RelM B w0 N M w) :
    Rel B w0 N { n := n, tmps := argTmps 0 args, mem := M } { tmps := vs.toArray ++ Array.replicate (n - vs.toArray.size) undef, defers := [] } w := by
  refine ⟨hM, rfl, ?_, ?_⟩
  · have := avs_length hv
    simp; omega
  · intro t x hx
    obtain ⟨_, h2⟩ := look_args _ _ _ _ hx
    obtain ⟨v, h3, h4⟩ := avs_nth hv h2
    refine ⟨v, h3, ?_⟩
    simp only [Nat.sub_zero] at h4
    have hlt : t < vs.length := (List.getElem?_eq_some_iff.1 h4).1
    rw [Array.getElem?_append_left (by simpa using hlt)]
    simpa using h4

/-- The laws of a function's loops. -/
def LFn (P : Program) (LE : Laws) (fn : Func) : Prop := ∀ c, fn.body = some c → LAll P LE c
def Laws.nil : Laws := fun _ => none
theorem LFn.nil {P : Program} {fn : Func} : LFn P Laws.nil fn := fun c _ b _ i R _ h => by cases h

/-- A call, by its tree. -/
theorem calls_of_tree (hE : EnvOK P E) {f : FuncId} {fn : Func} (hf : P.funcs[f]? = some fn) {args : List AV} {vs : List Value} (hv : AV.vals N args = some vs) (hlen : args.length ≤ fn.ntmps) (hL : LFn P LE fn)
    {M : List Row} (hM : RelM w.heap.size w N M w) (cr : Cod ρ) {n : Nat} {x : ρ} (h : (evFn P E LE n fn args M cr.dec).den = some x) :
    Calls P f vs.toArray w fun e w' => e = .returned (cr.enc x) ∧ Below w.heap.size w w' := by
  unfold evFn at h
  split at h
  · rename_i c hc
    refine calls_of_wp hf hc ?_
    refine (ev_sound (B := w.heap.size) (w0 := w) hE n).1 c (hL c hc) (start_rel hv hlen hM) h ?_
    intro e N' s' a' w' hR h'
    have done : ∀ {y : AV}, resV P s' fn.results.toList = some y → (match cr.dec y with | some r => Tr.ret r | none => Tr.fail).den = some x →
        a'.defers = [] ∧ ∃ v, (results fn a'.tmps).run P w' = .ok v w' ∧ (Ending.returned v = .returned (cr.enc x) ∧ Below w.heap.size w w') := by
      intro y hy hx
      obtain ⟨u, h1, h2⟩ := resV_sound hR hy
      split at hx
      · rename_i q hq
        simp [Tr.den] at hx; subst hx
        rw [cr.ok hq N'] at h1; cases h1
        exact ⟨hR.t.defers, _, h2, rfl, hR.m.below.toBelow⟩
      · simp [Tr.den] at hx
    unfold endK at h'
    cases e with
    | normal =>
      dsimp only at h'
      split at h'
      · rename_i y hy; exact done hy h'
      · simp [Tr.den] at h'
    | ret =>
      dsimp only at h'
      split at h'
      · rename_i y hy; exact done hy h'
      · simp [Tr.den] at h'
    | exit i => simp [Tr.den] at h'
    | goto l => simp [Tr.den] at h'
    | panic ch => simp [Tr.den] at h'
    | outgrown => simp [Tr.den] at h'
  · simp [Tr.den] at h
end

/-! ### Environments -/

/-- What a contract says. -/
structure Spec (P : Program) (f : FuncId) (F : List AV → List Row → Option CallR) : Prop where
  call : ∀ vs w, (callFunc f vs).run P w = .ok (.enter f vs) w
  pure : ∀ args M α x val, F args M = some (.pure α x val) → ∀ B w0 N w vs, RelM B w0 N M w → AV.vals N args = some vs →
    Calls P f vs.toArray w fun e w' => e = .returned (val x) ∧ Below w.heap.size w w'
  pre : ∀ args M α x val, F args M = some (.pre true α x val) → ∀ B w0 N w vs, RelM B w0 N M w → AV.vals N args = some vs →
    Calls P f vs.toArray w fun e w' => e = .returned (val x) ∧ Below w.heap.size w w'
  rows : ∀ args M α x av rows, F args M = some (.rows true α x av rows) → growsB (rows x) = true ∧ ∀ B w0 N w vs, RelM B w0 N M w → AV.vals N args = some vs →
    Calls P f vs.toArray w fun e w' => ∃ N2 v, (∀ N0 : List Nm, (av N0.length x).val (N0 ++ N2) = some v) ∧ e = .returned v ∧ RelM w.heap.size w N2 (rows x) w'

def Env.nil : Env := fun _ _ _ => none
def Env.add (f : FuncId) (F : List AV → List Row → Option CallR) (E : Env) : Env := fun g a M =>
  match Nat.beq f g with
  | true => match F a M with
    | some (.tree _) => E g a M
    | some r => some r
    | none => E g a M
  | false => E g a M

theorem EnvOK.nil {P : Program} : EnvOK P Env.nil := ⟨fun _ _ _ _ h => by simp [Env.nil] at h, fun _ _ _ _ _ _ h => by simp [Env.nil] at h, fun _ _ _ _ _ _ h => by simp [Env.nil] at h, fun _ _ _ _ _ _ _ h => by simp [Env.nil] at h, fun _ _ _ _ h => by simp [Env.nil] at h⟩
theorem Env.add_some {f g : FuncId} {F : List AV → List Row → Option CallR} {E : Env} {a : List AV} {M : List Row} {q : CallR} (h : Env.add f F E g a M = some q) :
    (f = g ∧ F a M = some q ∧ ∀ T, q ≠ .tree T) ∨ E g a M = some q := by
  unfold Env.add at h
  cases hb : Nat.beq f g with
  | false => rw [hb] at h; exact .inr h
  | true =>
    rw [hb] at h
    cases hF : F a M with
    | none => rw [hF] at h; exact .inr h
    | some r =>
      rw [hF] at h
      cases r with
      | tree T => exact .inr h
      | pure α x val => cases h; exact .inl ⟨Nat.eq_of_beq_eq_true hb, rfl, fun T e => by cases e⟩
      | pre b α x val => cases h; exact .inl ⟨Nat.eq_of_beq_eq_true hb, rfl, fun T e => by cases e⟩
      | rows b α x av rows => cases h; exact .inl ⟨Nat.eq_of_beq_eq_true hb, rfl, fun T e => by cases e⟩
theorem EnvOK.add {P : Program} {f : FuncId} {F : List AV → List Row → Option CallR} {E : Env} (hs : Spec P f F) (hE : EnvOK P E) : EnvOK P (Env.add f F E) := by
  refine ⟨?_, ?_, ?_, ?_, ?_⟩
  · intro g a M q h
    rcases Env.add_some h with ⟨rfl, _, _⟩ | h
    · exact hs.call
    · exact hE.call _ _ _ _ h
  · intro g a M α x val h
    rcases Env.add_some h with ⟨rfl, hF, _⟩ | h
    · exact hs.pure _ _ _ _ _ hF
    · exact hE.pure _ _ _ _ _ _ h
  · intro g a M α x val h
    rcases Env.add_some h with ⟨rfl, hF, _⟩ | h
    · exact hs.pre _ _ _ _ _ hF
    · exact hE.pre _ _ _ _ _ _ h
  · intro g a M α x av rows h
    rcases Env.add_some h with ⟨rfl, hF, _⟩ | h
    · exact hs.rows _ _ _ _ _ _ hF
    · exact hE.rows _ _ _ _ _ _ _ h
  · intro g a M T h
    rcases Env.add_some h with ⟨_, _, hn⟩ | h
    · exact absurd rfl (hn T)
    · exact hE.tree _ _ _ _ h

/-- A contract without lists: its answer is a function of its arguments. -/
def F0 {ρ : Type}  (cr : Cod ρ) (g : ρ) : List AV → List Row → Option CallR
  | [], _ => some (.pure ρ g cr.enc)
  | _, _ => none
def F1 {α ρ : Type} (c0 : Cod α) (cr : Cod ρ) (g : α → ρ) : List AV → List Row → Option CallR
  | [a0], _ => match c0.dec a0 with | some x0 => (some (.pure ρ (g x0) cr.enc)) | none => none
  | _, _ => none
def F1p {α ρ : Type} (c0 : Cod α) (cr : Cod ρ) (q : α → Bool) (g : α → ρ) : List AV → List Row → Option CallR
  | [a0], _ => match c0.dec a0 with | some x0 => (some (.pre (q x0) ρ (g x0) cr.enc)) | none => none
  | _, _ => none
def F2 {α β ρ : Type} (c0 : Cod α) (c1 : Cod β) (cr : Cod ρ) (g : α → β → ρ) : List AV → List Row → Option CallR
  | [a0, a1], _ => match c0.dec a0 with | some x0 => (match c1.dec a1 with | some x1 => (some (.pure ρ (g x0 x1) cr.enc)) | none => none) | none => none
  | _, _ => none
def F2p {α β ρ : Type} (c0 : Cod α) (c1 : Cod β) (cr : Cod ρ) (q : α → β → Bool) (g : α → β → ρ) : List AV → List Row → Option CallR
  | [a0, a1], _ => match c0.dec a0 with | some x0 => (match c1.dec a1 with | some x1 => (some (.pre (q x0 x1) ρ (g x0 x1) cr.enc)) | none => none) | none => none
  | _, _ => none
def F3 {α β γ ρ : Type} (c0 : Cod α) (c1 : Cod β) (c2 : Cod γ) (cr : Cod ρ) (g : α → β → γ → ρ) : List AV → List Row → Option CallR
  | [a0, a1, a2], _ => match c0.dec a0 with | some x0 => (match c1.dec a1 with | some x1 => (match c2.dec a2 with | some x2 => (some (.pure ρ (g x0 x1 x2) cr.enc)) | none => none) | none => none) | none => none
  | _, _ => none
def F3p {α β γ ρ : Type} (c0 : Cod α) (c1 : Cod β) (c2 : Cod γ) (cr : Cod ρ) (q : α → β → γ → Bool) (g : α → β → γ → ρ) : List AV → List Row → Option CallR
  | [a0, a1, a2], _ => match c0.dec a0 with | some x0 => (match c1.dec a1 with | some x1 => (match c2.dec a2 with | some x2 => (some (.pre (q x0 x1 x2) ρ (g x0 x1 x2) cr.enc)) | none => none) | none => none) | none => none
  | _, _ => none
def F4 {α β γ δ ρ : Type} (c0 : Cod α) (c1 : Cod β) (c2 : Cod γ) (c3 : Cod δ) (cr : Cod ρ) (g : α → β → γ → δ → ρ) : List AV → List Row → Option CallR
  | [a0, a1, a2, a3], _ => match c0.dec a0 with | some x0 => (match c1.dec a1 with | some x1 => (match c2.dec a2 with | some x2 => (match c3.dec a3 with | some x3 => (some (.pure ρ (g x0 x1 x2 x3) cr.enc)) | none => none) | none => none) | none => none) | none => none
  | _, _ => none
def F4p {α β γ δ ρ : Type} (c0 : Cod α) (c1 : Cod β) (c2 : Cod γ) (c3 : Cod δ) (cr : Cod ρ) (q : α → β → γ → δ → Bool) (g : α → β → γ → δ → ρ) : List AV → List Row → Option CallR
  | [a0, a1, a2, a3], _ => match c0.dec a0 with | some x0 => (match c1.dec a1 with | some x1 => (match c2.dec a2 with | some x2 => (match c3.dec a3 with | some x3 => (some (.pre (q x0 x1 x2 x3) ρ (g x0 x1 x2 x3) cr.enc)) | none => none) | none => none) | none => none) | none => none
  | _, _ => none
def F5 {α β γ δ ε ρ : Type} (c0 : Cod α) (c1 : Cod β) (c2 : Cod γ) (c3 : Cod δ) (c4 : Cod ε) (cr : Cod ρ) (g : α → β → γ → δ → ε → ρ) : List AV → List Row → Option CallR
  | [a0, a1, a2, a3, a4], _ => match c0.dec a0 with | some x0 => (match c1.dec a1 with | some x1 => (match c2.dec a2 with | some x2 => (match c3.dec a3 with | some x3 => (match c4.dec a4 with | some x4 => (some (.pure ρ (g x0 x1 x2 x3 x4) cr.enc)) | none => none) | none => none) | none => none) | none => none) | none => none
  | _, _ => none
def F5p {α β γ δ ε ρ : Type} (c0 : Cod α) (c1 : Cod β) (c2 : Cod γ) (c3 : Cod δ) (c4 : Cod ε) (cr : Cod ρ) (q : α → β → γ → δ → ε → Bool) (g : α → β → γ → δ → ε → ρ) : List AV → List Row → Option CallR
  | [a0, a1, a2, a3, a4], _ => match c0.dec a0 with | some x0 => (match c1.dec a1 with | some x1 => (match c2.dec a2 with | some x2 => (match c3.dec a3 with | some x3 => (match c4.dec a4 with | some x4 => (some (.pre (q x0 x1 x2 x3 x4) ρ (g x0 x1 x2 x3 x4) cr.enc)) | none => none) | none => none) | none => none) | none => none) | none => none
  | _, _ => none
def F6 {α β γ δ ε ζ ρ : Type} (c0 : Cod α) (c1 : Cod β) (c2 : Cod γ) (c3 : Cod δ) (c4 : Cod ε) (c5 : Cod ζ) (cr : Cod ρ) (g : α → β → γ → δ → ε → ζ → ρ) : List AV → List Row → Option CallR
  | [a0, a1, a2, a3, a4, a5], _ => match c0.dec a0 with | some x0 => (match c1.dec a1 with | some x1 => (match c2.dec a2 with | some x2 => (match c3.dec a3 with | some x3 => (match c4.dec a4 with | some x4 => (match c5.dec a5 with | some x5 => (some (.pure ρ (g x0 x1 x2 x3 x4 x5) cr.enc)) | none => none) | none => none) | none => none) | none => none) | none => none) | none => none
  | _, _ => none
def F6p {α β γ δ ε ζ ρ : Type} (c0 : Cod α) (c1 : Cod β) (c2 : Cod γ) (c3 : Cod δ) (c4 : Cod ε) (c5 : Cod ζ) (cr : Cod ρ) (q : α → β → γ → δ → ε → ζ → Bool) (g : α → β → γ → δ → ε → ζ → ρ) : List AV → List Row → Option CallR
  | [a0, a1, a2, a3, a4, a5], _ => match c0.dec a0 with | some x0 => (match c1.dec a1 with | some x1 => (match c2.dec a2 with | some x2 => (match c3.dec a3 with | some x3 => (match c4.dec a4 with | some x4 => (match c5.dec a5 with | some x5 => (some (.pre (q x0 x1 x2 x3 x4 x5) ρ (g x0 x1 x2 x3 x4 x5) cr.enc)) | none => none) | none => none) | none => none) | none => none) | none => none) | none => none
  | _, _ => none
def F7 {α β γ δ ε ζ η ρ : Type} (c0 : Cod α) (c1 : Cod β) (c2 : Cod γ) (c3 : Cod δ) (c4 : Cod ε) (c5 : Cod ζ) (c6 : Cod η) (cr : Cod ρ) (g : α → β → γ → δ → ε → ζ → η → ρ) : List AV → List Row → Option CallR
  | [a0, a1, a2, a3, a4, a5, a6], _ => match c0.dec a0 with | some x0 => (match c1.dec a1 with | some x1 => (match c2.dec a2 with | some x2 => (match c3.dec a3 with | some x3 => (match c4.dec a4 with | some x4 => (match c5.dec a5 with | some x5 => (match c6.dec a6 with | some x6 => (some (.pure ρ (g x0 x1 x2 x3 x4 x5 x6) cr.enc)) | none => none) | none => none) | none => none) | none => none) | none => none) | none => none) | none => none
  | _, _ => none
def F7p {α β γ δ ε ζ η ρ : Type} (c0 : Cod α) (c1 : Cod β) (c2 : Cod γ) (c3 : Cod δ) (c4 : Cod ε) (c5 : Cod ζ) (c6 : Cod η) (cr : Cod ρ) (q : α → β → γ → δ → ε → ζ → η → Bool) (g : α → β → γ → δ → ε → ζ → η → ρ) : List AV → List Row → Option CallR
  | [a0, a1, a2, a3, a4, a5, a6], _ => match c0.dec a0 with | some x0 => (match c1.dec a1 with | some x1 => (match c2.dec a2 with | some x2 => (match c3.dec a3 with | some x3 => (match c4.dec a4 with | some x4 => (match c5.dec a5 with | some x5 => (match c6.dec a6 with | some x6 => (some (.pre (q x0 x1 x2 x3 x4 x5 x6) ρ (g x0 x1 x2 x3 x4 x5 x6) cr.enc)) | none => none) | none => none) | none => none) | none => none) | none => none) | none => none) | none => none
  | _, _ => none
def F8 {α β γ δ ε ζ η θ ρ : Type} (c0 : Cod α) (c1 : Cod β) (c2 : Cod γ) (c3 : Cod δ) (c4 : Cod ε) (c5 : Cod ζ) (c6 : Cod η) (c7 : Cod θ) (cr : Cod ρ) (g : α → β → γ → δ → ε → ζ → η → θ → ρ) : List AV → List Row → Option CallR
  | [a0, a1, a2, a3, a4, a5, a6, a7], _ => match c0.dec a0 with | some x0 => (match c1.dec a1 with | some x1 => (match c2.dec a2 with | some x2 => (match c3.dec a3 with | some x3 => (match c4.dec a4 with | some x4 => (match c5.dec a5 with | some x5 => (match c6.dec a6 with | some x6 => (match c7.dec a7 with | some x7 => (some (.pure ρ (g x0 x1 x2 x3 x4 x5 x6 x7) cr.enc)) | none => none) | none => none) | none => none) | none => none) | none => none) | none => none) | none => none) | none => none
  | _, _ => none
def F8p {α β γ δ ε ζ η θ ρ : Type} (c0 : Cod α) (c1 : Cod β) (c2 : Cod γ) (c3 : Cod δ) (c4 : Cod ε) (c5 : Cod ζ) (c6 : Cod η) (c7 : Cod θ) (cr : Cod ρ) (q : α → β → γ → δ → ε → ζ → η → θ → Bool) (g : α → β → γ → δ → ε → ζ → η → θ → ρ) : List AV → List Row → Option CallR
  | [a0, a1, a2, a3, a4, a5, a6, a7], _ => match c0.dec a0 with | some x0 => (match c1.dec a1 with | some x1 => (match c2.dec a2 with | some x2 => (match c3.dec a3 with | some x3 => (match c4.dec a4 with | some x4 => (match c5.dec a5 with | some x5 => (match c6.dec a6 with | some x6 => (match c7.dec a7 with | some x7 => (some (.pre (q x0 x1 x2 x3 x4 x5 x6 x7) ρ (g x0 x1 x2 x3 x4 x5 x6 x7) cr.enc)) | none => none) | none => none) | none => none) | none => none) | none => none) | none => none) | none => none) | none => none
  | _, _ => none

/-- What a plain contract is. -/
def Plain (P : Program) (f : FuncId) (vs : List Value) (v : Value) : Prop :=
  ∀ w, Calls P f vs.toArray w fun e w' => e = .returned v ∧ Below w.heap.size w w'

section
variable {P : Program} {f : FuncId}
theorem spec0 {ρ : Type}  {cr : Cod ρ} {g : ρ} (hc : ∀ vs w, (callFunc f vs).run P w = .ok (.enter f vs) w) (h : Plain P f [] (cr.enc g)) : Spec P f (F0  cr g) := by
  refine ⟨hc, ?_, ?_, ?_⟩
  · intro args M α' x val he B w0 N w vs hM hv
    unfold F0 at he
    split at he
    case h_1 =>
      simp at he
      obtain ⟨rfl, he1, he2⟩ := he
      cases he1; cases he2
      simp [AV.vals] at hv; subst hv
      exact h w
    case h_2 => cases he
  · intro args M α' x val he B w0 N w vs hM hv
    unfold F0 at he
    split at he
    case h_1 =>
      simp at he
    case h_2 => cases he
  · intro args M α' x av rows he
    unfold F0 at he
    split at he
    case h_1 =>
      simp at he
    case h_2 => cases he
theorem spec1 {α ρ : Type} {c0 : Cod α} {cr : Cod ρ} {g : α → ρ} (hc : ∀ vs w, (callFunc f vs).run P w = .ok (.enter f vs) w) (h : ∀ x0, Plain P f [c0.enc x0] (cr.enc (g x0))) : Spec P f (F1 c0 cr g) := by
  refine ⟨hc, ?_, ?_, ?_⟩
  · intro args M α' x val he B w0 N w vs hM hv
    unfold F1 at he
    split at he
    case h_1 =>
      rename_i a0
      cases h0 : c0.dec a0 with
      | none => simp [h0] at he
      | some y0 =>
        simp [h0] at he
        obtain ⟨rfl, he1, he2⟩ := he
        cases he1; cases he2
        simp [AV.vals, c0.ok h0 N] at hv; subst hv
        exact h y0 w
    case h_2 => cases he
  · intro args M α' x val he B w0 N w vs hM hv
    unfold F1 at he
    split at he
    case h_1 =>
      rename_i a0
      cases h0 : c0.dec a0 with
      | none => simp [h0] at he
      | some y0 =>
        simp [h0] at he
    case h_2 => cases he
  · intro args M α' x av rows he
    unfold F1 at he
    split at he
    case h_1 =>
      rename_i a0
      cases h0 : c0.dec a0 with
      | none => simp [h0] at he
      | some y0 =>
        simp [h0] at he
    case h_2 => cases he
theorem spec1p {α ρ : Type} {c0 : Cod α} {cr : Cod ρ} {q : α → Bool} {g : α → ρ} (hc : ∀ vs w, (callFunc f vs).run P w = .ok (.enter f vs) w) (h : ∀ x0, q x0 = true → Plain P f [c0.enc x0] (cr.enc (g x0))) : Spec P f (F1p c0 cr q g) := by
  refine ⟨hc, ?_, ?_, ?_⟩
  · intro args M α' x val he B w0 N w vs hM hv
    unfold F1p at he
    split at he
    case h_1 =>
      rename_i a0
      cases h0 : c0.dec a0 with
      | none => simp [h0] at he
      | some y0 =>
        simp [h0] at he
    case h_2 => cases he
  · intro args M α' x val he B w0 N w vs hM hv
    unfold F1p at he
    split at he
    case h_1 =>
      rename_i a0
      cases h0 : c0.dec a0 with
      | none => simp [h0] at he
      | some y0 =>
        simp [h0] at he
        obtain ⟨he0, rfl, he1, he2⟩ := he
        cases he1; cases he2
        simp [AV.vals, c0.ok h0 N] at hv; subst hv
        exact h y0 he0 w
    case h_2 => cases he
  · intro args M α' x av rows he
    unfold F1p at he
    split at he
    case h_1 =>
      rename_i a0
      cases h0 : c0.dec a0 with
      | none => simp [h0] at he
      | some y0 =>
        simp [h0] at he
    case h_2 => cases he
theorem spec2 {α β ρ : Type} {c0 : Cod α} {c1 : Cod β} {cr : Cod ρ} {g : α → β → ρ} (hc : ∀ vs w, (callFunc f vs).run P w = .ok (.enter f vs) w) (h : ∀ x0 x1, Plain P f [c0.enc x0, c1.enc x1] (cr.enc (g x0 x1))) : Spec P f (F2 c0 c1 cr g) := by
  refine ⟨hc, ?_, ?_, ?_⟩
  · intro args M α' x val he B w0 N w vs hM hv
    unfold F2 at he
    split at he
    case h_1 =>
      rename_i a0 a1
      cases h0 : c0.dec a0 with
      | none => simp [h0] at he
      | some y0 =>
        cases h1 : c1.dec a1 with
        | none => simp [h0, h1] at he
        | some y1 =>
          simp [h0, h1] at he
          obtain ⟨rfl, he1, he2⟩ := he
          cases he1; cases he2
          simp [AV.vals, c0.ok h0 N, c1.ok h1 N] at hv; subst hv
          exact h y0 y1 w
    case h_2 => cases he
  · intro args M α' x val he B w0 N w vs hM hv
    unfold F2 at he
    split at he
    case h_1 =>
      rename_i a0 a1
      cases h0 : c0.dec a0 with
      | none => simp [h0] at he
      | some y0 =>
        cases h1 : c1.dec a1 with
        | none => simp [h0, h1] at he
        | some y1 =>
          simp [h0, h1] at he
    case h_2 => cases he
  · intro args M α' x av rows he
    unfold F2 at he
    split at he
    case h_1 =>
      rename_i a0 a1
      cases h0 : c0.dec a0 with
      | none => simp [h0] at he
      | some y0 =>
        cases h1 : c1.dec a1 with
        | none => simp [h0, h1] at he
        | some y1 =>
          simp [h0, h1] at he
    case h_2 => cases he
theorem spec2p {α β ρ : Type} {c0 : Cod α} {c1 : Cod β} {cr : Cod ρ} {q : α → β → Bool} {g : α → β → ρ} (hc : ∀ vs w, (callFunc f vs).run P w = .ok (.enter f vs) w) (h : ∀ x0 x1, q x0 x1 = true → Plain P f [c0.enc x0, c1.enc x1] (cr.enc (g x0 x1))) : Spec P f (F2p c0 c1 cr q g) := by
  refine ⟨hc, ?_, ?_, ?_⟩
  · intro args M α' x val he B w0 N w vs hM hv
    unfold F2p at he
    split at he
    case h_1 =>
      rename_i a0 a1
      cases h0 : c0.dec a0 with
      | none => simp [h0] at he
      | some y0 =>
        cases h1 : c1.dec a1 with
        | none => simp [h0, h1] at he
        | some y1 =>
          simp [h0, h1] at he
    case h_2 => cases he
  · intro args M α' x val he B w0 N w vs hM hv
    unfold F2p at he
    split at he
    case h_1 =>
      rename_i a0 a1
      cases h0 : c0.dec a0 with
      | none => simp [h0] at he
      | some y0 =>
        cases h1 : c1.dec a1 with
        | none => simp [h0, h1] at he
        | some y1 =>
          simp [h0, h1] at he
          obtain ⟨he0, rfl, he1, he2⟩ := he
          cases he1; cases he2
          simp [AV.vals, c0.ok h0 N, c1.ok h1 N] at hv; subst hv
          exact h y0 y1 he0 w
    case h_2 => cases he
  · intro args M α' x av rows he
    unfold F2p at he
    split at he
    case h_1 =>
      rename_i a0 a1
      cases h0 : c0.dec a0 with
      | none => simp [h0] at he
      | some y0 =>
        cases h1 : c1.dec a1 with
        | none => simp [h0, h1] at he
        | some y1 =>
          simp [h0, h1] at he
    case h_2 => cases he
theorem spec3 {α β γ ρ : Type} {c0 : Cod α} {c1 : Cod β} {c2 : Cod γ} {cr : Cod ρ} {g : α → β → γ → ρ} (hc : ∀ vs w, (callFunc f vs).run P w = .ok (.enter f vs) w) (h : ∀ x0 x1 x2, Plain P f [c0.enc x0, c1.enc x1, c2.enc x2] (cr.enc (g x0 x1 x2))) : Spec P f (F3 c0 c1 c2 cr g) := by
  refine ⟨hc, ?_, ?_, ?_⟩
  · intro args M α' x val he B w0 N w vs hM hv
    unfold F3 at he
    split at he
    case h_1 =>
      rename_i a0 a1 a2
      cases h0 : c0.dec a0 with
      | none => simp [h0] at he
      | some y0 =>
        cases h1 : c1.dec a1 with
        | none => simp [h0, h1] at he
        | some y1 =>
          cases h2 : c2.dec a2 with
          | none => simp [h0, h1, h2] at he
          | some y2 =>
            simp [h0, h1, h2] at he
            obtain ⟨rfl, he1, he2⟩ := he
            cases he1; cases he2
            simp [AV.vals, c0.ok h0 N, c1.ok h1 N, c2.ok h2 N] at hv; subst hv
            exact h y0 y1 y2 w
    case h_2 => cases he
  · intro args M α' x val he B w0 N w vs hM hv
    unfold F3 at he
    split at he
    case h_1 =>
      rename_i a0 a1 a2
      cases h0 : c0.dec a0 with
      | none => simp [h0] at he
      | some y0 =>
        cases h1 : c1.dec a1 with
        | none => simp [h0, h1] at he
        | some y1 =>
          cases h2 : c2.dec a2 with
          | none => simp [h0, h1, h2] at he
          | some y2 =>
            simp [h0, h1, h2] at he
    case h_2 => cases he
  · intro args M α' x av rows he
    unfold F3 at he
    split at he
    case h_1 =>
      rename_i a0 a1 a2
      cases h0 : c0.dec a0 with
      | none => simp [h0] at he
      | some y0 =>
        cases h1 : c1.dec a1 with
        | none => simp [h0, h1] at he
        | some y1 =>
          cases h2 : c2.dec a2 with
          | none => simp [h0, h1, h2] at he
          | some y2 =>
            simp [h0, h1, h2] at he
    case h_2 => cases he
theorem spec3p {α β γ ρ : Type} {c0 : Cod α} {c1 : Cod β} {c2 : Cod γ} {cr : Cod ρ} {q : α → β → γ → Bool} {g : α → β → γ → ρ} (hc : ∀ vs w, (callFunc f vs).run P w = .ok (.enter f vs) w) (h : ∀ x0 x1 x2, q x0 x1 x2 = true → Plain P f [c0.enc x0, c1.enc x1, c2.enc x2] (cr.enc (g x0 x1 x2))) : Spec P f (F3p c0 c1 c2 cr q g) := by
  refine ⟨hc, ?_, ?_, ?_⟩
  · intro args M α' x val he B w0 N w vs hM hv
    unfold F3p at he
    split at he
    case h_1 =>
      rename_i a0 a1 a2
      cases h0 : c0.dec a0 with
      | none => simp [h0] at he
      | some y0 =>
        cases h1 : c1.dec a1 with
        | none => simp [h0, h1] at he
        | some y1 =>
          cases h2 : c2.dec a2 with
          | none => simp [h0, h1, h2] at he
          | some y2 =>
            simp [h0, h1, h2] at he
    case h_2 => cases he
  · intro args M α' x val he B w0 N w vs hM hv
    unfold F3p at he
    split at he
    case h_1 =>
      rename_i a0 a1 a2
      cases h0 : c0.dec a0 with
      | none => simp [h0] at he
      | some y0 =>
        cases h1 : c1.dec a1 with
        | none => simp [h0, h1] at he
        | some y1 =>
          cases h2 : c2.dec a2 with
          | none => simp [h0, h1, h2] at he
          | some y2 =>
            simp [h0, h1, h2] at he
            obtain ⟨he0, rfl, he1, he2⟩ := he
            cases he1; cases he2
            simp [AV.vals, c0.ok h0 N, c1.ok h1 N, c2.ok h2 N] at hv; subst hv
            exact h y0 y1 y2 he0 w
    case h_2 => cases he
  · intro args M α' x av rows he
    unfold F3p at he
    split at he
    case h_1 =>
      rename_i a0 a1 a2
      cases h0 : c0.dec a0 with
      | none => simp [h0] at he
      | some y0 =>
        cases h1 : c1.dec a1 with
        | none => simp [h0, h1] at he
        | some y1 =>
          cases h2 : c2.dec a2 with
          | none => simp [h0, h1, h2] at he
          | some y2 =>
            simp [h0, h1, h2] at he
    case h_2 => cases he
theorem spec4 {α β γ δ ρ : Type} {c0 : Cod α} {c1 : Cod β} {c2 : Cod γ} {c3 : Cod δ} {cr : Cod ρ} {g : α → β → γ → δ → ρ} (hc : ∀ vs w, (callFunc f vs).run P w = .ok (.enter f vs) w) (h : ∀ x0 x1 x2 x3, Plain P f [c0.enc x0, c1.enc x1, c2.enc x2, c3.enc x3] (cr.enc (g x0 x1 x2 x3))) : Spec P f (F4 c0 c1 c2 c3 cr g) := by
  refine ⟨hc, ?_, ?_, ?_⟩
  · intro args M α' x val he B w0 N w vs hM hv
    unfold F4 at he
    split at he
    case h_1 =>
      rename_i a0 a1 a2 a3
      cases h0 : c0.dec a0 with
      | none => simp [h0] at he
      | some y0 =>
        cases h1 : c1.dec a1 with
        | none => simp [h0, h1] at he
        | some y1 =>
          cases h2 : c2.dec a2 with
          | none => simp [h0, h1, h2] at he
          | some y2 =>
            cases h3 : c3.dec a3 with
            | none => simp [h0, h1, h2, h3] at he
            | some y3 =>
              simp [h0, h1, h2, h3] at he
              obtain ⟨rfl, he1, he2⟩ := he
              cases he1; cases he2
              simp [AV.vals, c0.ok h0 N, c1.ok h1 N, c2.ok h2 N, c3.ok h3 N] at hv; subst hv
              exact h y0 y1 y2 y3 w
    case h_2 => cases he
  · intro args M α' x val he B w0 N w vs hM hv
    unfold F4 at he
    split at he
    case h_1 =>
      rename_i a0 a1 a2 a3
      cases h0 : c0.dec a0 with
      | none => simp [h0] at he
      | some y0 =>
        cases h1 : c1.dec a1 with
        | none => simp [h0, h1] at he
        | some y1 =>
          cases h2 : c2.dec a2 with
          | none => simp [h0, h1, h2] at he
          | some y2 =>
            cases h3 : c3.dec a3 with
            | none => simp [h0, h1, h2, h3] at he
            | some y3 =>
              simp [h0, h1, h2, h3] at he
    case h_2 => cases he
  · intro args M α' x av rows he
    unfold F4 at he
    split at he
    case h_1 =>
      rename_i a0 a1 a2 a3
      cases h0 : c0.dec a0 with
      | none => simp [h0] at he
      | some y0 =>
        cases h1 : c1.dec a1 with
        | none => simp [h0, h1] at he
        | some y1 =>
          cases h2 : c2.dec a2 with
          | none => simp [h0, h1, h2] at he
          | some y2 =>
            cases h3 : c3.dec a3 with
            | none => simp [h0, h1, h2, h3] at he
            | some y3 =>
              simp [h0, h1, h2, h3] at he
    case h_2 => cases he
theorem spec4p {α β γ δ ρ : Type} {c0 : Cod α} {c1 : Cod β} {c2 : Cod γ} {c3 : Cod δ} {cr : Cod ρ} {q : α → β → γ → δ → Bool} {g : α → β → γ → δ → ρ} (hc : ∀ vs w, (callFunc f vs).run P w = .ok (.enter f vs) w) (h : ∀ x0 x1 x2 x3, q x0 x1 x2 x3 = true → Plain P f [c0.enc x0, c1.enc x1, c2.enc x2, c3.enc x3] (cr.enc (g x0 x1 x2 x3))) : Spec P f (F4p c0 c1 c2 c3 cr q g) := by
  refine ⟨hc, ?_, ?_, ?_⟩
  · intro args M α' x val he B w0 N w vs hM hv
    unfold F4p at he
    split at he
    case h_1 =>
      rename_i a0 a1 a2 a3
      cases h0 : c0.dec a0 with
      | none => simp [h0] at he
      | some y0 =>
        cases h1 : c1.dec a1 with
        | none => simp [h0, h1] at he
        | some y1 =>
          cases h2 : c2.dec a2 with
          | none => simp [h0, h1, h2] at he
          | some y2 =>
            cases h3 : c3.dec a3 with
            | none => simp [h0, h1, h2, h3] at he
            | some y3 =>
              simp [h0, h1, h2, h3] at he
    case h_2 => cases he
  · intro args M α' x val he B w0 N w vs hM hv
    unfold F4p at he
    split at he
    case h_1 =>
      rename_i a0 a1 a2 a3
      cases h0 : c0.dec a0 with
      | none => simp [h0] at he
      | some y0 =>
        cases h1 : c1.dec a1 with
        | none => simp [h0, h1] at he
        | some y1 =>
          cases h2 : c2.dec a2 with
          | none => simp [h0, h1, h2] at he
          | some y2 =>
            cases h3 : c3.dec a3 with
            | none => simp [h0, h1, h2, h3] at he
            | some y3 =>
              simp [h0, h1, h2, h3] at he
              obtain ⟨he0, rfl, he1, he2⟩ := he
              cases he1; cases he2
              simp [AV.vals, c0.ok h0 N, c1.ok h1 N, c2.ok h2 N, c3.ok h3 N] at hv; subst hv
              exact h y0 y1 y2 y3 he0 w
    case h_2 => cases he
  · intro args M α' x av rows he
    unfold F4p at he
    split at he
    case h_1 =>
      rename_i a0 a1 a2 a3
      cases h0 : c0.dec a0 with
      | none => simp [h0] at he
      | some y0 =>
        cases h1 : c1.dec a1 with
        | none => simp [h0, h1] at he
        | some y1 =>
          cases h2 : c2.dec a2 with
          | none => simp [h0, h1, h2] at he
          | some y2 =>
            cases h3 : c3.dec a3 with
            | none => simp [h0, h1, h2, h3] at he
            | some y3 =>
              simp [h0, h1, h2, h3] at he
    case h_2 => cases he
theorem spec5 {α β γ δ ε ρ : Type} {c0 : Cod α} {c1 : Cod β} {c2 : Cod γ} {c3 : Cod δ} {c4 : Cod ε} {cr : Cod ρ} {g : α → β → γ → δ → ε → ρ} (hc : ∀ vs w, (callFunc f vs).run P w = .ok (.enter f vs) w) (h : ∀ x0 x1 x2 x3 x4, Plain P f [c0.enc x0, c1.enc x1, c2.enc x2, c3.enc x3, c4.enc x4] (cr.enc (g x0 x1 x2 x3 x4))) : Spec P f (F5 c0 c1 c2 c3 c4 cr g) := by
  refine ⟨hc, ?_, ?_, ?_⟩
  · intro args M α' x val he B w0 N w vs hM hv
    unfold F5 at he
    split at he
    case h_1 =>
      rename_i a0 a1 a2 a3 a4
      cases h0 : c0.dec a0 with
      | none => simp [h0] at he
      | some y0 =>
        cases h1 : c1.dec a1 with
        | none => simp [h0, h1] at he
        | some y1 =>
          cases h2 : c2.dec a2 with
          | none => simp [h0, h1, h2] at he
          | some y2 =>
            cases h3 : c3.dec a3 with
            | none => simp [h0, h1, h2, h3] at he
            | some y3 =>
              cases h4 : c4.dec a4 with
              | none => simp [h0, h1, h2, h3, h4] at he
              | some y4 =>
                simp [h0, h1, h2, h3, h4] at he
                obtain ⟨rfl, he1, he2⟩ := he
                cases he1; cases he2
                simp [AV.vals, c0.ok h0 N, c1.ok h1 N, c2.ok h2 N, c3.ok h3 N, c4.ok h4 N] at hv; subst hv
                exact h y0 y1 y2 y3 y4 w
    case h_2 => cases he
  · intro args M α' x val he B w0 N w vs hM hv
    unfold F5 at he
    split at he
    case h_1 =>
      rename_i a0 a1 a2 a3 a4
      cases h0 : c0.dec a0 with
      | none => simp [h0] at he
      | some y0 =>
        cases h1 : c1.dec a1 with
        | none => simp [h0, h1] at he
        | some y1 =>
          cases h2 : c2.dec a2 with
          | none => simp [h0, h1, h2] at he
          | some y2 =>
            cases h3 : c3.dec a3 with
            | none => simp [h0, h1, h2, h3] at he
            | some y3 =>
              cases h4 : c4.dec a4 with
              | none => simp [h0, h1, h2, h3, h4] at he
              | some y4 =>
                simp [h0, h1, h2, h3, h4] at he
    case h_2 => cases he
  · intro args M α' x av rows he
    unfold F5 at he
    split at he
    case h_1 =>
      rename_i a0 a1 a2 a3 a4
      cases h0 : c0.dec a0 with
      | none => simp [h0] at he
      | some y0 =>
        cases h1 : c1.dec a1 with
        | none => simp [h0, h1] at he
        | some y1 =>
          cases h2 : c2.dec a2 with
          | none => simp [h0, h1, h2] at he
          | some y2 =>
            cases h3 : c3.dec a3 with
            | none => simp [h0, h1, h2, h3] at he
            | some y3 =>
              cases h4 : c4.dec a4 with
              | none => simp [h0, h1, h2, h3, h4] at he
              | some y4 =>
                simp [h0, h1, h2, h3, h4] at he
    case h_2 => cases he
theorem spec5p {α β γ δ ε ρ : Type} {c0 : Cod α} {c1 : Cod β} {c2 : Cod γ} {c3 : Cod δ} {c4 : Cod ε} {cr : Cod ρ} {q : α → β → γ → δ → ε → Bool} {g : α → β → γ → δ → ε → ρ} (hc : ∀ vs w, (callFunc f vs).run P w = .ok (.enter f vs) w) (h : ∀ x0 x1 x2 x3 x4, q x0 x1 x2 x3 x4 = true → Plain P f [c0.enc x0, c1.enc x1, c2.enc x2, c3.enc x3, c4.enc x4] (cr.enc (g x0 x1 x2 x3 x4))) : Spec P f (F5p c0 c1 c2 c3 c4 cr q g) := by
  refine ⟨hc, ?_, ?_, ?_⟩
  · intro args M α' x val he B w0 N w vs hM hv
    unfold F5p at he
    split at he
    case h_1 =>
      rename_i a0 a1 a2 a3 a4
      cases h0 : c0.dec a0 with
      | none => simp [h0] at he
      | some y0 =>
        cases h1 : c1.dec a1 with
        | none => simp [h0, h1] at he
        | some y1 =>
          cases h2 : c2.dec a2 with
          | none => simp [h0, h1, h2] at he
          | some y2 =>
            cases h3 : c3.dec a3 with
            | none => simp [h0, h1, h2, h3] at he
            | some y3 =>
              cases h4 : c4.dec a4 with
              | none => simp [h0, h1, h2, h3, h4] at he
              | some y4 =>
                simp [h0, h1, h2, h3, h4] at he
    case h_2 => cases he
  · intro args M α' x val he B w0 N w vs hM hv
    unfold F5p at he
    split at he
    case h_1 =>
      rename_i a0 a1 a2 a3 a4
      cases h0 : c0.dec a0 with
      | none => simp [h0] at he
      | some y0 =>
        cases h1 : c1.dec a1 with
        | none => simp [h0, h1] at he
        | some y1 =>
          cases h2 : c2.dec a2 with
          | none => simp [h0, h1, h2] at he
          | some y2 =>
            cases h3 : c3.dec a3 with
            | none => simp [h0, h1, h2, h3] at he
            | some y3 =>
              cases h4 : c4.dec a4 with
              | none => simp [h0, h1, h2, h3, h4] at he
              | some y4 =>
                simp [h0, h1, h2, h3, h4] at he
                obtain ⟨he0, rfl, he1, he2⟩ := he
                cases he1; cases he2
                simp [AV.vals, c0.ok h0 N, c1.ok h1 N, c2.ok h2 N, c3.ok h3 N, c4.ok h4 N] at hv; subst hv
                exact h y0 y1 y2 y3 y4 he0 w
    case h_2 => cases he
  · intro args M α' x av rows he
    unfold F5p at he
    split at he
    case h_1 =>
      rename_i a0 a1 a2 a3 a4
      cases h0 : c0.dec a0 with
      | none => simp [h0] at he
      | some y0 =>
        cases h1 : c1.dec a1 with
        | none => simp [h0, h1] at he
        | some y1 =>
          cases h2 : c2.dec a2 with
          | none => simp [h0, h1, h2] at he
          | some y2 =>
            cases h3 : c3.dec a3 with
            | none => simp [h0, h1, h2, h3] at he
            | some y3 =>
              cases h4 : c4.dec a4 with
              | none => simp [h0, h1, h2, h3, h4] at he
              | some y4 =>
                simp [h0, h1, h2, h3, h4] at he
    case h_2 => cases he
theorem spec6 {α β γ δ ε ζ ρ : Type} {c0 : Cod α} {c1 : Cod β} {c2 : Cod γ} {c3 : Cod δ} {c4 : Cod ε} {c5 : Cod ζ} {cr : Cod ρ} {g : α → β → γ → δ → ε → ζ → ρ} (hc : ∀ vs w, (callFunc f vs).run P w = .ok (.enter f vs) w) (h : ∀ x0 x1 x2 x3 x4 x5, Plain P f [c0.enc x0, c1.enc x1, c2.enc x2, c3.enc x3, c4.enc x4, c5.enc x5] (cr.enc (g x0 x1 x2 x3 x4 x5))) : Spec P f (F6 c0 c1 c2 c3 c4 c5 cr g) := by
  refine ⟨hc, ?_, ?_, ?_⟩
  · intro args M α' x val he B w0 N w vs hM hv
    unfold F6 at he
    split at he
    case h_1 =>
      rename_i a0 a1 a2 a3 a4 a5
      cases h0 : c0.dec a0 with
      | none => simp [h0] at he
      | some y0 =>
        cases h1 : c1.dec a1 with
        | none => simp [h0, h1] at he
        | some y1 =>
          cases h2 : c2.dec a2 with
          | none => simp [h0, h1, h2] at he
          | some y2 =>
            cases h3 : c3.dec a3 with
            | none => simp [h0, h1, h2, h3] at he
            | some y3 =>
              cases h4 : c4.dec a4 with
              | none => simp [h0, h1, h2, h3, h4] at he
              | some y4 =>
                cases h5 : c5.dec a5 with
                | none => simp [h0, h1, h2, h3, h4, h5] at he
                | some y5 =>
                  simp [h0, h1, h2, h3, h4, h5] at he
                  obtain ⟨rfl, he1, he2⟩ := he
                  cases he1; cases he2
                  simp [AV.vals, c0.ok h0 N, c1.ok h1 N, c2.ok h2 N, c3.ok h3 N, c4.ok h4 N, c5.ok h5 N] at hv; subst hv
                  exact h y0 y1 y2 y3 y4 y5 w
    case h_2 => cases he
  · intro args M α' x val he B w0 N w vs hM hv
    unfold F6 at he
    split at he
    case h_1 =>
      rename_i a0 a1 a2 a3 a4 a5
      cases h0 : c0.dec a0 with
      | none => simp [h0] at he
      | some y0 =>
        cases h1 : c1.dec a1 with
        | none => simp [h0, h1] at he
        | some y1 =>
          cases h2 : c2.dec a2 with
          | none => simp [h0, h1, h2] at he
          | some y2 =>
            cases h3 : c3.dec a3 with
            | none => simp [h0, h1, h2, h3] at he
            | some y3 =>
              cases h4 : c4.dec a4 with
              | none => simp [h0, h1, h2, h3, h4] at he
              | some y4 =>
                cases h5 : c5.dec a5 with
                | none => simp [h0, h1, h2, h3, h4, h5] at he
                | some y5 =>
                  simp [h0, h1, h2, h3, h4, h5] at he
    case h_2 => cases he
  · intro args M α' x av rows he
    unfold F6 at he
    split at he
    case h_1 =>
      rename_i a0 a1 a2 a3 a4 a5
      cases h0 : c0.dec a0 with
      | none => simp [h0] at he
      | some y0 =>
        cases h1 : c1.dec a1 with
        | none => simp [h0, h1] at he
        | some y1 =>
          cases h2 : c2.dec a2 with
          | none => simp [h0, h1, h2] at he
          | some y2 =>
            cases h3 : c3.dec a3 with
            | none => simp [h0, h1, h2, h3] at he
            | some y3 =>
              cases h4 : c4.dec a4 with
              | none => simp [h0, h1, h2, h3, h4] at he
              | some y4 =>
                cases h5 : c5.dec a5 with
                | none => simp [h0, h1, h2, h3, h4, h5] at he
                | some y5 =>
                  simp [h0, h1, h2, h3, h4, h5] at he
    case h_2 => cases he
theorem spec6p {α β γ δ ε ζ ρ : Type} {c0 : Cod α} {c1 : Cod β} {c2 : Cod γ} {c3 : Cod δ} {c4 : Cod ε} {c5 : Cod ζ} {cr : Cod ρ} {q : α → β → γ → δ → ε → ζ → Bool} {g : α → β → γ → δ → ε → ζ → ρ} (hc : ∀ vs w, (callFunc f vs).run P w = .ok (.enter f vs) w) (h : ∀ x0 x1 x2 x3 x4 x5, q x0 x1 x2 x3 x4 x5 = true → Plain P f [c0.enc x0, c1.enc x1, c2.enc x2, c3.enc x3, c4.enc x4, c5.enc x5] (cr.enc (g x0 x1 x2 x3 x4 x5))) : Spec P f (F6p c0 c1 c2 c3 c4 c5 cr q g) := by
  refine ⟨hc, ?_, ?_, ?_⟩
  · intro args M α' x val he B w0 N w vs hM hv
    unfold F6p at he
    split at he
    case h_1 =>
      rename_i a0 a1 a2 a3 a4 a5
      cases h0 : c0.dec a0 with
      | none => simp [h0] at he
      | some y0 =>
        cases h1 : c1.dec a1 with
        | none => simp [h0, h1] at he
        | some y1 =>
          cases h2 : c2.dec a2 with
          | none => simp [h0, h1, h2] at he
          | some y2 =>
            cases h3 : c3.dec a3 with
            | none => simp [h0, h1, h2, h3] at he
            | some y3 =>
              cases h4 : c4.dec a4 with
              | none => simp [h0, h1, h2, h3, h4] at he
              | some y4 =>
                cases h5 : c5.dec a5 with
                | none => simp [h0, h1, h2, h3, h4, h5] at he
                | some y5 =>
                  simp [h0, h1, h2, h3, h4, h5] at he
    case h_2 => cases he
  · intro args M α' x val he B w0 N w vs hM hv
    unfold F6p at he
    split at he
    case h_1 =>
      rename_i a0 a1 a2 a3 a4 a5
      cases h0 : c0.dec a0 with
      | none => simp [h0] at he
      | some y0 =>
        cases h1 : c1.dec a1 with
        | none => simp [h0, h1] at he
        | some y1 =>
          cases h2 : c2.dec a2 with
          | none => simp [h0, h1, h2] at he
          | some y2 =>
            cases h3 : c3.dec a3 with
            | none => simp [h0, h1, h2, h3] at he
            | some y3 =>
              cases h4 : c4.dec a4 with
              | none => simp [h0, h1, h2, h3, h4] at he
              | some y4 =>
                cases h5 : c5.dec a5 with
                | none => simp [h0, h1, h2, h3, h4, h5] at he
                | some y5 =>
                  simp [h0, h1, h2, h3, h4, h5] at he
                  obtain ⟨he0, rfl, he1, he2⟩ := he
                  cases he1; cases he2
                  simp [AV.vals, c0.ok h0 N, c1.ok h1 N, c2.ok h2 N, c3.ok h3 N, c4.ok h4 N, c5.ok h5 N] at hv; subst hv
                  exact h y0 y1 y2 y3 y4 y5 he0 w
    case h_2 => cases he
  · intro args M α' x av rows he
    unfold F6p at he
    split at he
    case h_1 =>
      rename_i a0 a1 a2 a3 a4 a5
      cases h0 : c0.dec a0 with
      | none => simp [h0] at he
      | some y0 =>
        cases h1 : c1.dec a1 with
        | none => simp [h0, h1] at he
        | some y1 =>
          cases h2 : c2.dec a2 with
          | none => simp [h0, h1, h2] at he
          | some y2 =>
            cases h3 : c3.dec a3 with
            | none => simp [h0, h1, h2, h3] at he
            | some y3 =>
              cases h4 : c4.dec a4 with
              | none => simp [h0, h1, h2, h3, h4] at he
              | some y4 =>
                cases h5 : c5.dec a5 with
                | none => simp [h0, h1, h2, h3, h4, h5] at he
                | some y5 =>
                  simp [h0, h1, h2, h3, h4, h5] at he
    case h_2 => cases he
theorem spec7 {α β γ δ ε ζ η ρ : Type} {c0 : Cod α} {c1 : Cod β} {c2 : Cod γ} {c3 : Cod δ} {c4 : Cod ε} {c5 : Cod ζ} {c6 : Cod η} {cr : Cod ρ} {g : α → β → γ → δ → ε → ζ → η → ρ} (hc : ∀ vs w, (callFunc f vs).run P w = .ok (.enter f vs) w) (h : ∀ x0 x1 x2 x3 x4 x5 x6, Plain P f [c0.enc x0, c1.enc x1, c2.enc x2, c3.enc x3, c4.enc x4, c5.enc x5, c6.enc x6] (cr.enc (g x0 x1 x2 x3 x4 x5 x6))) : Spec P f (F7 c0 c1 c2 c3 c4 c5 c6 cr g) := by
  refine ⟨hc, ?_, ?_, ?_⟩
  · intro args M α' x val he B w0 N w vs hM hv
    unfold F7 at he
    split at he
    case h_1 =>
      rename_i a0 a1 a2 a3 a4 a5 a6
      cases h0 : c0.dec a0 with
      | none => simp [h0] at he
      | some y0 =>
        cases h1 : c1.dec a1 with
        | none => simp [h0, h1] at he
        | some y1 =>
          cases h2 : c2.dec a2 with
          | none => simp [h0, h1, h2] at he
          | some y2 =>
            cases h3 : c3.dec a3 with
            | none => simp [h0, h1, h2, h3] at he
            | some y3 =>
              cases h4 : c4.dec a4 with
              | none => simp [h0, h1, h2, h3, h4] at he
              | some y4 =>
                cases h5 : c5.dec a5 with
                | none => simp [h0, h1, h2, h3, h4, h5] at he
                | some y5 =>
                  cases h6 : c6.dec a6 with
                  | none => simp [h0, h1, h2, h3, h4, h5, h6] at he
                  | some y6 =>
                    simp [h0, h1, h2, h3, h4, h5, h6] at he
                    obtain ⟨rfl, he1, he2⟩ := he
                    cases he1; cases he2
                    simp [AV.vals, c0.ok h0 N, c1.ok h1 N, c2.ok h2 N, c3.ok h3 N, c4.ok h4 N, c5.ok h5 N, c6.ok h6 N] at hv; subst hv
                    exact h y0 y1 y2 y3 y4 y5 y6 w
    case h_2 => cases he
  · intro args M α' x val he B w0 N w vs hM hv
    unfold F7 at he
    split at he
    case h_1 =>
      rename_i a0 a1 a2 a3 a4 a5 a6
      cases h0 : c0.dec a0 with
      | none => simp [h0] at he
      | some y0 =>
        cases h1 : c1.dec a1 with
        | none => simp [h0, h1] at he
        | some y1 =>
          cases h2 : c2.dec a2 with
          | none => simp [h0, h1, h2] at he
          | some y2 =>
            cases h3 : c3.dec a3 with
            | none => simp [h0, h1, h2, h3] at he
            | some y3 =>
              cases h4 : c4.dec a4 with
              | none => simp [h0, h1, h2, h3, h4] at he
              | some y4 =>
                cases h5 : c5.dec a5 with
                | none => simp [h0, h1, h2, h3, h4, h5] at he
                | some y5 =>
                  cases h6 : c6.dec a6 with
                  | none => simp [h0, h1, h2, h3, h4, h5, h6] at he
                  | some y6 =>
                    simp [h0, h1, h2, h3, h4, h5, h6] at he
    case h_2 => cases he
  · intro args M α' x av rows he
    unfold F7 at he
    split at he
    case h_1 =>
      rename_i a0 a1 a2 a3 a4 a5 a6
      cases h0 : c0.dec a0 with
      | none => simp [h0] at he
      | some y0 =>
        cases h1 : c1.dec a1 with
        | none => simp [h0, h1] at he
        | some y1 =>
          cases h2 : c2.dec a2 with
          | none => simp [h0, h1, h2] at he
          | some y2 =>
            cases h3 : c3.dec a3 with
            | none => simp [h0, h1, h2, h3] at he
            | some y3 =>
              cases h4 : c4.dec a4 with
              | none => simp [h0, h1, h2, h3, h4] at he
              | some y4 =>
                cases h5 : c5.dec a5 with
                | none => simp [h0, h1, h2, h3, h4, h5] at he
                | some y5 =>
                  cases h6 : c6.dec a6 with
                  | none => simp [h0, h1, h2, h3, h4, h5, h6] at he
                  | some y6 =>
                    simp [h0, h1, h2, h3, h4, h5, h6] at he
    case h_2 => cases he
theorem spec7p {α β γ δ ε ζ η ρ : Type} {c0 : Cod α} {c1 : Cod β} {c2 : Cod γ} {c3 : Cod δ} {c4 : Cod ε} {c5 : Cod ζ} {c6 : Cod η} {cr : Cod ρ} {q : α → β → γ → δ → ε → ζ → η → Bool} {g : α → β → γ → δ → ε → ζ → η → ρ} (hc : ∀ vs w, (callFunc f vs).run P w = .ok (.enter f vs) w) (h : ∀ x0 x1 x2 x3 x4 x5 x6, q x0 x1 x2 x3 x4 x5 x6 = true → Plain P f [c0.enc x0, c1.enc x1, c2.enc x2, c3.enc x3, c4.enc x4, c5.enc x5, c6.enc x6] (cr.enc (g x0 x1 x2 x3 x4 x5 x6))) : Spec P f (F7p c0 c1 c2 c3 c4 c5 c6 cr q g) := by
  refine ⟨hc, ?_, ?_, ?_⟩
  · intro args M α' x val he B w0 N w vs hM hv
    unfold F7p at he
    split at he
    case h_1 =>
      rename_i a0 a1 a2 a3 a4 a5 a6
      cases h0 : c0.dec a0 with
      | none => simp [h0] at he
      | some y0 =>
        cases h1 : c1.dec a1 with
        | none => simp [h0, h1] at he
        | some y1 =>
          cases h2 : c2.dec a2 with
          | none => simp [h0, h1, h2] at he
          | some y2 =>
            cases h3 : c3.dec a3 with
            | none => simp [h0, h1, h2, h3] at he
            | some y3 =>
              cases h4 : c4.dec a4 with
              | none => simp [h0, h1, h2, h3, h4] at he
              | some y4 =>
                cases h5 : c5.dec a5 with
                | none => simp [h0, h1, h2, h3, h4, h5] at he
                | some y5 =>
                  cases h6 : c6.dec a6 with
                  | none => simp [h0, h1, h2, h3, h4, h5, h6] at he
                  | some y6 =>
                    simp [h0, h1, h2, h3, h4, h5, h6] at he
    case h_2 => cases he
  · intro args M α' x val he B w0 N w vs hM hv
    unfold F7p at he
    split at he
    case h_1 =>
      rename_i a0 a1 a2 a3 a4 a5 a6
      cases h0 : c0.dec a0 with
      | none => simp [h0] at he
      | some y0 =>
        cases h1 : c1.dec a1 with
        | none => simp [h0, h1] at he
        | some y1 =>
          cases h2 : c2.dec a2 with
          | none => simp [h0, h1, h2] at he
          | some y2 =>
            cases h3 : c3.dec a3 with
            | none => simp [h0, h1, h2, h3] at he
            | some y3 =>
              cases h4 : c4.dec a4 with
              | none => simp [h0, h1, h2, h3, h4] at he
              | some y4 =>
                cases h5 : c5.dec a5 with
                | none => simp [h0, h1, h2, h3, h4, h5] at he
                | some y5 =>
                  cases h6 : c6.dec a6 with
                  | none => simp [h0, h1, h2, h3, h4, h5, h6] at he
                  | some y6 =>
                    simp [h0, h1, h2, h3, h4, h5, h6] at he
                    obtain ⟨he0, rfl, he1, he2⟩ := he
                    cases he1; cases he2
                    simp [AV.vals, c0.ok h0 N, c1.ok h1 N, c2.ok h2 N, c3.ok h3 N, c4.ok h4 N, c5.ok h5 N, c6.ok h6 N] at hv; subst hv
                    exact h y0 y1 y2 y3 y4 y5 y6 he0 w
    case h_2 => cases he
  · intro args M α' x av rows he
    unfold F7p at he
    split at he
    case h_1 =>
      rename_i a0 a1 a2 a3 a4 a5 a6
      cases h0 : c0.dec a0 with
      | none => simp [h0] at he
      | some y0 =>
        cases h1 : c1.dec a1 with
        | none => simp [h0, h1] at he
        | some y1 =>
          cases h2 : c2.dec a2 with
          | none => simp [h0, h1, h2] at he
          | some y2 =>
            cases h3 : c3.dec a3 with
            | none => simp [h0, h1, h2, h3] at he
            | some y3 =>
              cases h4 : c4.dec a4 with
              | none => simp [h0, h1, h2, h3, h4] at he
              | some y4 =>
                cases h5 : c5.dec a5 with
                | none => simp [h0, h1, h2, h3, h4, h5] at he
                | some y5 =>
                  cases h6 : c6.dec a6 with
                  | none => simp [h0, h1, h2, h3, h4, h5, h6] at he
                  | some y6 =>
                    simp [h0, h1, h2, h3, h4, h5, h6] at he
    case h_2 => cases he
theorem spec8 {α β γ δ ε ζ η θ ρ : Type} {c0 : Cod α} {c1 : Cod β} {c2 : Cod γ} {c3 : Cod δ} {c4 : Cod ε} {c5 : Cod ζ} {c6 : Cod η} {c7 : Cod θ} {cr : Cod ρ} {g : α → β → γ → δ → ε → ζ → η → θ → ρ} (hc : ∀ vs w, (callFunc f vs).run P w = .ok (.enter f vs) w) (h : ∀ x0 x1 x2 x3 x4 x5 x6 x7, Plain P f [c0.enc x0, c1.enc x1, c2.enc x2, c3.enc x3, c4.enc x4, c5.enc x5, c6.enc x6, c7.enc x7] (cr.enc (g x0 x1 x2 x3 x4 x5 x6 x7))) : Spec P f (F8 c0 c1 c2 c3 c4 c5 c6 c7 cr g) := by
  refine ⟨hc, ?_, ?_, ?_⟩
  · intro args M α' x val he B w0 N w vs hM hv
    unfold F8 at he
    split at he
    case h_1 =>
      rename_i a0 a1 a2 a3 a4 a5 a6 a7
      cases h0 : c0.dec a0 with
      | none => simp [h0] at he
      | some y0 =>
        cases h1 : c1.dec a1 with
        | none => simp [h0, h1] at he
        | some y1 =>
          cases h2 : c2.dec a2 with
          | none => simp [h0, h1, h2] at he
          | some y2 =>
            cases h3 : c3.dec a3 with
            | none => simp [h0, h1, h2, h3] at he
            | some y3 =>
              cases h4 : c4.dec a4 with
              | none => simp [h0, h1, h2, h3, h4] at he
              | some y4 =>
                cases h5 : c5.dec a5 with
                | none => simp [h0, h1, h2, h3, h4, h5] at he
                | some y5 =>
                  cases h6 : c6.dec a6 with
                  | none => simp [h0, h1, h2, h3, h4, h5, h6] at he
                  | some y6 =>
                    cases h7 : c7.dec a7 with
                    | none => simp [h0, h1, h2, h3, h4, h5, h6, h7] at he
                    | some y7 =>
                      simp [h0, h1, h2, h3, h4, h5, h6, h7] at he
                      obtain ⟨rfl, he1, he2⟩ := he
                      cases he1; cases he2
                      simp [AV.vals, c0.ok h0 N, c1.ok h1 N, c2.ok h2 N, c3.ok h3 N, c4.ok h4 N, c5.ok h5 N, c6.ok h6 N, c7.ok h7 N] at hv; subst hv
                      exact h y0 y1 y2 y3 y4 y5 y6 y7 w
    case h_2 => cases he
  · intro args M α' x val he B w0 N w vs hM hv
    unfold F8 at he
    split at he
    case h_1 =>
      rename_i a0 a1 a2 a3 a4 a5 a6 a7
      cases h0 : c0.dec a0 with
      | none => simp [h0] at he
      | some y0 =>
        cases h1 : c1.dec a1 with
        | none => simp [h0, h1] at he
        | some y1 =>
          cases h2 : c2.dec a2 with
          | none => simp [h0, h1, h2] at he
          | some y2 =>
            cases h3 : c3.dec a3 with
            | none => simp [h0, h1, h2, h3] at he
            | some y3 =>
              cases h4 : c4.dec a4 with
              | none => simp [h0, h1, h2, h3, h4] at he
              | some y4 =>
                cases h5 : c5.dec a5 with
                | none => simp [h0, h1, h2, h3, h4, h5] at he
                | some y5 =>
                  cases h6 : c6.dec a6 with
                  | none => simp [h0, h1, h2, h3, h4, h5, h6] at he
                  | some y6 =>
                    cases h7 : c7.dec a7 with
                    | none => simp [h0, h1, h2, h3, h4, h5, h6, h7] at he
                    | some y7 =>
                      simp [h0, h1, h2, h3, h4, h5, h6, h7] at he
    case h_2 => cases he
  · intro args M α' x av rows he
    unfold F8 at he
    split at he
    case h_1 =>
      rename_i a0 a1 a2 a3 a4 a5 a6 a7
      cases h0 : c0.dec a0 with
      | none => simp [h0] at he
      | some y0 =>
        cases h1 : c1.dec a1 with
        | none => simp [h0, h1] at he
        | some y1 =>
          cases h2 : c2.dec a2 with
          | none => simp [h0, h1, h2] at he
          | some y2 =>
            cases h3 : c3.dec a3 with
            | none => simp [h0, h1, h2, h3] at he
            | some y3 =>
              cases h4 : c4.dec a4 with
              | none => simp [h0, h1, h2, h3, h4] at he
              | some y4 =>
                cases h5 : c5.dec a5 with
                | none => simp [h0, h1, h2, h3, h4, h5] at he
                | some y5 =>
                  cases h6 : c6.dec a6 with
                  | none => simp [h0, h1, h2, h3, h4, h5, h6] at he
                  | some y6 =>
                    cases h7 : c7.dec a7 with
                    | none => simp [h0, h1, h2, h3, h4, h5, h6, h7] at he
                    | some y7 =>
                      simp [h0, h1, h2, h3, h4, h5, h6, h7] at he
    case h_2 => cases he
theorem spec8p {α β γ δ ε ζ η θ ρ : Type} {c0 : Cod α} {c1 : Cod β} {c2 : Cod γ} {c3 : Cod δ} {c4 : Cod ε} {c5 : Cod ζ} {c6 : Cod η} {c7 : Cod θ} {cr : Cod ρ} {q : α → β → γ → δ → ε → ζ → η → θ → Bool} {g : α → β → γ → δ → ε → ζ → η → θ → ρ} (hc : ∀ vs w, (callFunc f vs).run P w = .ok (.enter f vs) w) (h : ∀ x0 x1 x2 x3 x4 x5 x6 x7, q x0 x1 x2 x3 x4 x5 x6 x7 = true → Plain P f [c0.enc x0, c1.enc x1, c2.enc x2, c3.enc x3, c4.enc x4, c5.enc x5, c6.enc x6, c7.enc x7] (cr.enc (g x0 x1 x2 x3 x4 x5 x6 x7))) : Spec P f (F8p c0 c1 c2 c3 c4 c5 c6 c7 cr q g) := by
  refine ⟨hc, ?_, ?_, ?_⟩
  · intro args M α' x val he B w0 N w vs hM hv
    unfold F8p at he
    split at he
    case h_1 =>
      rename_i a0 a1 a2 a3 a4 a5 a6 a7
      cases h0 : c0.dec a0 with
      | none => simp [h0] at he
      | some y0 =>
        cases h1 : c1.dec a1 with
        | none => simp [h0, h1] at he
        | some y1 =>
          cases h2 : c2.dec a2 with
          | none => simp [h0, h1, h2] at he
          | some y2 =>
            cases h3 : c3.dec a3 with
            | none => simp [h0, h1, h2, h3] at he
            | some y3 =>
              cases h4 : c4.dec a4 with
              | none => simp [h0, h1, h2, h3, h4] at he
              | some y4 =>
                cases h5 : c5.dec a5 with
                | none => simp [h0, h1, h2, h3, h4, h5] at he
                | some y5 =>
                  cases h6 : c6.dec a6 with
                  | none => simp [h0, h1, h2, h3, h4, h5, h6] at he
                  | some y6 =>
                    cases h7 : c7.dec a7 with
                    | none => simp [h0, h1, h2, h3, h4, h5, h6, h7] at he
                    | some y7 =>
                      simp [h0, h1, h2, h3, h4, h5, h6, h7] at he
    case h_2 => cases he
  · intro args M α' x val he B w0 N w vs hM hv
    unfold F8p at he
    split at he
    case h_1 =>
      rename_i a0 a1 a2 a3 a4 a5 a6 a7
      cases h0 : c0.dec a0 with
      | none => simp [h0] at he
      | some y0 =>
        cases h1 : c1.dec a1 with
        | none => simp [h0, h1] at he
        | some y1 =>
          cases h2 : c2.dec a2 with
          | none => simp [h0, h1, h2] at he
          | some y2 =>
            cases h3 : c3.dec a3 with
            | none => simp [h0, h1, h2, h3] at he
            | some y3 =>
              cases h4 : c4.dec a4 with
              | none => simp [h0, h1, h2, h3, h4] at he
              | some y4 =>
                cases h5 : c5.dec a5 with
                | none => simp [h0, h1, h2, h3, h4, h5] at he
                | some y5 =>
                  cases h6 : c6.dec a6 with
                  | none => simp [h0, h1, h2, h3, h4, h5, h6] at he
                  | some y6 =>
                    cases h7 : c7.dec a7 with
                    | none => simp [h0, h1, h2, h3, h4, h5, h6, h7] at he
                    | some y7 =>
                      simp [h0, h1, h2, h3, h4, h5, h6, h7] at he
                      obtain ⟨he0, rfl, he1, he2⟩ := he
                      cases he1; cases he2
                      simp [AV.vals, c0.ok h0 N, c1.ok h1 N, c2.ok h2 N, c3.ok h3 N, c4.ok h4 N, c5.ok h5 N, c6.ok h6 N, c7.ok h7 N] at hv; subst hv
                      exact h y0 y1 y2 y3 y4 y5 y6 y7 he0 w
    case h_2 => cases he
  · intro args M α' x av rows he
    unfold F8p at he
    split at he
    case h_1 =>
      rename_i a0 a1 a2 a3 a4 a5 a6 a7
      cases h0 : c0.dec a0 with
      | none => simp [h0] at he
      | some y0 =>
        cases h1 : c1.dec a1 with
        | none => simp [h0, h1] at he
        | some y1 =>
          cases h2 : c2.dec a2 with
          | none => simp [h0, h1, h2] at he
          | some y2 =>
            cases h3 : c3.dec a3 with
            | none => simp [h0, h1, h2, h3] at he
            | some y3 =>
              cases h4 : c4.dec a4 with
              | none => simp [h0, h1, h2, h3, h4] at he
              | some y4 =>
                cases h5 : c5.dec a5 with
                | none => simp [h0, h1, h2, h3, h4, h5] at he
                | some y5 =>
                  cases h6 : c6.dec a6 with
                  | none => simp [h0, h1, h2, h3, h4, h5, h6] at he
                  | some y6 =>
                    cases h7 : c7.dec a7 with
                    | none => simp [h0, h1, h2, h3, h4, h5, h6, h7] at he
                    | some y7 =>
                      simp [h0, h1, h2, h3, h4, h5, h6, h7] at he
    case h_2 => cases he
end

/-- Nothing but the call's own. -/
theorem relM_start (w : World) : RelM w.heap.size w [] [] w where
  below := BelowO.refl _ _
  base := Nat.le_refl _
  len := rfl
  row := fun i r h => by simp [nth] at h
  sep := fun i j r q b h => by simp [nth] at h

theorem plain_of_tree {P : Program} {E : Env} {LE : Laws} (hE : EnvOK P E) {f : FuncId} {fn : Func} (hf : P.funcs[f]? = some fn) {args : List AV} {vs : List Value} (hv : AV.vals [] args = some vs) (hlen : args.length ≤ fn.ntmps) (hL : LFn P LE fn)
    {ρ : Type} (cr : Cod ρ) {n : Nat} {x : ρ} (h : (evFn P E LE n fn args [] cr.dec).den = some x) : Plain P f vs (cr.enc x) :=
  fun w => calls_of_tree hE hf hv hlen hL (relM_start w) cr h

theorem den_br {ρ : Type} (b : Bool) (t e : Tr ρ) : (Tr.br b t e).den = if b = true then t.den else e.den := by cases b <;> rfl
theorem den_ret {ρ : Type} (r : ρ) : (Tr.ret r).den = some r := rfl
theorem den_fail {ρ : Type} : (Tr.fail : Tr ρ).den = none := rfl
theorem den_bind {ρ α : Type} (x : α) (k : α → Tr ρ) : (Tr.bind x k).den = (k x).den := rfl
theorem den_inl {ρ α β : Type} (x : α) (k : α → Tr ρ) (l : β → Tr ρ) : (Tr.sum (.inl x) k l).den = (k x).den := rfl
theorem den_inr {ρ α β : Type} (x : β) (k : α → Tr ρ) (l : β → Tr ρ) : (Tr.sum (.inr x) k l).den = (l x).den := rfl
theorem den_gets {ρ α : Type} (o : Option α) (k : α → Tr ρ) : (Tr.get o k).den = o.bind fun x => (k x).den := by cases o <;> rfl
theorem den_get {ρ α : Type} (x : α) (k : α → Tr ρ) : (Tr.get (some x) k).den = (k x).den := rfl
end Go.Proofs.YtlbmjajjldfigaaGreat.Ev
