/-
  A callee's body run in the caller's rows: what it comes to, the call does, its stores too.
-/
import Derived.Test.YtlbmjajjldfigaaEvFour
namespace Go.Proofs.Ytlbmjajjldfigaa.Ev
open Go Go.RowKit
universe u

section
variable {P : Program} {E : Env} {ρ : Type} {r : ρ} {B : Nat} {w0 : World}

def PostN (N0 : List Nm) (B : Nat) (w0 : World) (r : ρ) (k : Exit → St → Tr ρ) (Q : Exit → Act → World → Prop) : Prop :=
  ∀ e N s a w, NLe N0 N → Rel B w0 N s a w → (k e s).den = some r → Q e a w
theorem PostN.le {N0 N1 : List Nm} {k : Exit → St → Tr ρ} {Q : Exit → Act → World → Prop} (h : PostN N0 B w0 r k Q) (hle : NLe N0 N1) : PostN N1 B w0 r k Q :=
  fun e N s a w h1 => h e N s a w (hle.trans h1)

theorem ev_le (hE : EnvOK P E) : ∀ (n : Nat),
    (∀ (c : Code) {N : List Nm} {s : St} {a : Act} {w : World} {k : Exit → St → Tr ρ} {Q : Exit → Act → World → Prop}, Rel B w0 N s a w → (ev P E (fun _ => none) n none c s k).den = some r → PostN N B w0 r k Q → c.wp P Q a w) ∧
    (∀ (c b : Code) {N : List Nm} {s : St} {a : Act} {w : World} {k : Exit → St → Tr ρ} {Q : Exit → Act → World → Prop}, Rel B w0 N s a w → (ev P E (fun _ => none) n (some b) c s k).den = some r → PostN N B w0 r k Q → jumps P b Q n c a w) ∧
    (∀ (b : Code) {N : List Nm} {s : St} {a : Act} {w : World} {k : Exit → St → Tr ρ} {Q : Exit → Act → World → Prop}, Rel B w0 N s a w → (ev P E (fun _ => none) n none (.loop b) s k).den = some r → PostN N B w0 r k Q → Code.rounds P b Q n a w)
  | 0 => ⟨fun c N s a w k Q hR h _ => by simp [ev, Tr.den] at h, fun c b N s a w k Q hR h _ => by simp [ev, Tr.den] at h, fun b N s a w k Q hR h _ => by simp [ev, Tr.den] at h⟩
  | n + 1 => by
    obtain ⟨ih1, ih2, ih3⟩ := ev_le hE n
    have hno : ∀ b, lawOf (fun _ => none) b = none := fun b => by unfold lawOf; split <;> rfl
    have loops : ∀ (b : Code) {N : List Nm} {s : St} {a : Act} {w : World} {k : Exit → St → Tr ρ} {Q : Exit → Act → World → Prop}, Rel B w0 N s a w → (ev P E (fun _ => none) (n + 1) none (.loop b) s k).den = some r → PostN N B w0 r k Q → Code.rounds P b Q (n + 1) a w := by
      intro b N s a w k Q hR h hk
      simp only [ev, hno] at h
      rw [rounds_succ]
      refine ih1 b hR h ?_
      intro e N' s' a' w' hle hR' h'
      cases e with
      | normal => exact ih3 b hR' h' (hk.le hle)
      | exit i => exact hk _ _ _ _ _ hle hR' h'
      | goto l => exact hk _ _ _ _ _ hle hR' h'
      | ret => exact hk _ _ _ _ _ hle hR' h'
      | panic ch => exact hk _ _ _ _ _ hle hR' h'
      | outgrown => exact hk _ _ _ _ _ hle hR' h'
    refine ⟨?_, ?_, loops⟩
    · intro c N s a w k Q hR h hk
      cases c with
      | skip => exact wp_skip (hk _ _ _ _ _ (NLe.refl _) hR (by simpa only [ev] using h))
      | label l => exact wp_label (hk _ _ _ _ _ (NLe.refl _) hR (by simpa only [ev] using h))
      | exit i => exact wp_exit (hk _ _ _ _ _ (NLe.refl _) hR (by simpa only [ev] using h))
      | ret => exact wp_ret (hk _ _ _ _ _ (NLe.refl _) hR (by simpa only [ev] using h))
      | goto l => exact wp_goto (hk _ _ _ _ _ (NLe.refl _) hR (by simpa only [ev] using h))
      | refuse why => simp [ev, Tr.den] at h
      | rangeFunc f ps x y => simp [ev, Tr.den] at h
      | region id ops draw =>
        cases draw with
        | false =>
          simp only [ev] at h
          exact wp_region_list (ops_sound hE _ hR h fun N' s' a' w' hle hR' h' => hk _ _ _ _ _ hle hR' h')
        | true =>
          simp only [ev] at h
          split at h
          · rename_i hm
            exact draw_sound hE hm hR h fun N' s' a' w' hle hR' h' => hk _ _ _ _ _ hle hR' h'
          · simp [Tr.den] at h
      | seq x y =>
        simp only [ev] at h
        refine wp_seq (ih1 x hR h ?_)
        intro e N' s' a' w' hle hR' h'
        cases e with
        | normal => exact ih1 y hR' h' (hk.le hle)
        | exit i => exact hk _ _ _ _ _ hle hR' h'
        | goto l => exact hk _ _ _ _ _ hle hR' h'
        | ret => exact hk _ _ _ _ _ hle hR' h'
        | panic ch => exact hk _ _ _ _ _ hle hR' h'
        | outgrown => exact hk _ _ _ _ _ hle hR' h'
      | cond c x y =>
        simp only [ev] at h
        rcases cond_sound hR.t h with ⟨hc, s', e1, e2, e3⟩ | ⟨hc, s', e1, e2, e3⟩
        · exact wp_cond_true hc (ih1 x ⟨by rw [e1]; exact hR.m, e2⟩ e3 hk)
        · exact wp_cond_false hc (ih1 y ⟨by rw [e1]; exact hR.m, e2⟩ e3 hk)
      | block id b =>
        simp only [ev] at h
        refine wp_block (ih1 b hR h ?_)
        intro e N' s' a' w' hle hR' h'
        cases e with
        | normal => exact hk _ _ _ _ _ hle hR' h'
        | exit j =>
          simp only [Exit.inBlock]
          by_cases hj : j = id
          · subst hj
            simp only [Nat.beq_refl] at h'
            simp only [if_true]
            exact hk _ _ _ _ _ hle hR' h'
          · have : Nat.beq j id = false := by
              cases hb : Nat.beq j id with
              | false => rfl
              | true => exact absurd (Nat.eq_of_beq_eq_true hb) hj
            simp only [this] at h'
            simp only [hj, if_false]
            exact hk _ _ _ _ _ hle hR' h'
        | goto l => exact hk _ _ _ _ _ hle hR' h'
        | ret => exact hk _ _ _ _ _ hle hR' h'
        | panic ch => exact hk _ _ _ _ _ hle hR' h'
        | outgrown => exact hk _ _ _ _ _ hle hR' h'
      | loop b => exact wp_loop_rounds (n + 1) (loops b hR h hk)
      | scope b =>
        simp only [ev] at h
        exact wp_scope_n n (ih2 b b hR h hk)
    · intro c b N s a w k Q hR h hk
      simp only [ev] at h
      simp only [jumps]
      refine ih1 c hR h ?_
      intro e N' s' a' w' hle hR' h'
      cases e with
      | normal => exact hk _ _ _ _ _ hle hR' h'
      | exit i => exact hk _ _ _ _ _ hle hR' h'
      | goto l =>
        dsimp only at h'
        split at h'
        · rename_i rest hf
          dsimp only
          rw [hf]
          exact ih2 rest b hR' h' (hk.le hle)
        · rename_i hf
          dsimp only
          rw [hf]
          exact hk _ _ _ _ _ hle hR' h'
      | ret => exact hk _ _ _ _ _ hle hR' h'
      | panic ch => exact hk _ _ _ _ _ hle hR' h'
      | outgrown => exact hk _ _ _ _ _ hle hR' h'

theorem endT_sound {fn : Func} {e : Exit} {N N0 : List Nm} {s : St} {a : Act} {w : World} {y : AV × List Row} (hle : NLe N0 N) (hR : Rel B w0 N s a w) (h : (endT P fn e s).den = some y) :
    bodyPost P fn (fun e w' => ∃ N' v, NLe N0 N' ∧ y.1.val N' = some v ∧ e = .returned v ∧ RelM B w0 N' y.2 w') e a w := by
  have done : ∀ v, (results fn a.tmps).run P w = .ok v w → y.1.val N = some v → y.2 = s.mem →
      a.defers = [] ∧ ∃ v, (results fn a.tmps).run P w = .ok v w ∧ ∃ N' v', NLe N0 N' ∧ y.1.val N' = some v' ∧ Ending.returned v = .returned v' ∧ RelM B w0 N' y.2 w :=
    fun v h1 h2 h3 => ⟨hR.t.defers, v, h1, N, v, hle, h2, rfl, by rw [h3]; exact hR.m⟩
  unfold endT at h
  split at h
  · rename_i hok
    have fin : a.defers = [] ∧ ∃ v, (results fn a.tmps).run P w = .ok v w ∧ ∃ N' v', NLe N0 N' ∧ y.1.val N' = some v' ∧ Ending.returned v = .returned v' ∧ RelM B w0 N' y.2 w := by
      split at h
      · rename_i hl
        simp [Tr.den] at h; subst h
        refine done (.tuple #[]) ?_ rfl rfl
        rw [results_eq, Array.mapM_eq_mapM_toList, hl]
        simp [List.mapM_nil]
      · split at h
        · rename_i x hx
          simp [Tr.den] at h; subst h
          obtain ⟨u, h1, h2⟩ := resV_sound hR hx
          exact done u h2 h1 rfl
        · simp [Tr.den] at h
    cases e <;> first | exact fin | simp at hok
  · simp [Tr.den] at h

theorem inl_sound (hE : EnvOK P E) {f : FuncId} {fn : Func} (hf : P.funcs[f]? = some fn) {n : Nat} {args : List AV} {M : List Row} {y : AV × List Row} (h : (inl P E n fn args M).den = some y) {N : List Nm} {w : World} {vs : List Value} (hM : RelM B w0 N M w) (hv : AV.vals N args = some vs) :
    Calls P f vs.toArray w fun e w' => ∃ N' v, NLe N N' ∧ y.1.val N' = some v ∧ e = .returned v ∧ RelM B w0 N' y.2 w' := by
  unfold inl at h
  split at h
  · rename_i c hc
    split at h
    · rename_i hlen
      refine calls_of_wp hf hc ?_
      refine (ev_le hE n).1 c (start_rel hv (Nat.le_of_ble_eq_true hlen) hM) h ?_
      intro e N' s' a' w' hle hR h'
      exact endT_sound hle hR h'
    · simp [Tr.den] at h
  · simp [Tr.den] at h
end

def Env.addT (f : FuncId) (G : List AV → List Row → Tr (AV × List Row)) (E : Env) : Env := fun g a M =>
  match Nat.beq f g with
  | true => some (.tree (G a M))
  | false => E g a M
theorem EnvOK.addT {P : Program} {E E' : Env} {f : FuncId} {fn : Func} {n : Nat} (hE' : EnvOK P E') (hf : P.funcs[f]? = some fn) (hc : ∀ vs w, (callFunc f vs).run P w = .ok (.enter f vs) w) (hE : EnvOK P E) :
    EnvOK P (Env.addT f (inl P E' n fn) E) := by
  have cases' : ∀ {g a M q}, Env.addT f (inl P E' n fn) E g a M = some q → (f = g ∧ q = .tree (inl P E' n fn a M)) ∨ E g a M = some q := by
    intro g a M q h
    unfold Env.addT at h
    split at h
    · rename_i hb; cases h; exact .inl ⟨Nat.eq_of_beq_eq_true hb, rfl⟩
    · exact .inr h
  refine ⟨?_, ?_, ?_, ?_, ?_⟩
  · intro g a M q h
    rcases cases' h with ⟨rfl, _⟩ | h
    · exact hc
    · exact hE.call _ _ _ _ h
  · intro g a M α x val h
    rcases cases' h with ⟨_, h⟩ | h
    · cases h
    · exact hE.pure _ _ _ _ _ _ h
  · intro g a M α x val h
    rcases cases' h with ⟨_, h⟩ | h
    · cases h
    · exact hE.pre _ _ _ _ _ _ h
  · intro g a M α x av rows h
    rcases cases' h with ⟨_, h⟩ | h
    · cases h
    · exact hE.rows _ _ _ _ _ _ _ h
  · intro g a M T h y hy B w0 N w vs hM hv
    rcases cases' h with ⟨hfg, h2⟩ | h2
    · subst hfg
      injection h2 with h3
      subst h3
      exact inl_sound hE' hf hy hM hv
    · exact hE.tree _ _ _ _ h2 y hy B w0 N w vs hM hv
end Go.Proofs.Ytlbmjajjldfigaa.Ev
