/-
  The evaluator is sound: code of every form that it takes.
-/
import Derived.Test.YtemndghpenbmeaaEvDrew
namespace Go.Proofs.Ytemndghpenbmeaa.Ev
open Go Go.RowKit
universe u

section
variable {P : Program} {E : Env} {ρ : Type} {r : ρ} {B : Nat} {w0 : World}

def Post (B : Nat) (w0 : World) (r : ρ) (k : Exit → St → Tr ρ) (Q : Exit → Act → World → Prop) : Prop :=
  ∀ e N s a w, Rel B w0 N s a w → (k e s).den = some r → Q e a w

theorem ev_sound (hE : EnvOK P E) : ∀ (n : Nat),
    (∀ (c : Code) {N : List Nm} {s : St} {a : Act} {w : World} {k : Exit → St → Tr ρ} {Q : Exit → Act → World → Prop}, Rel B w0 N s a w → (ev P E n none c s k).den = some r → Post B w0 r k Q → c.wp P Q a w) ∧
    (∀ (c b : Code) {N : List Nm} {s : St} {a : Act} {w : World} {k : Exit → St → Tr ρ} {Q : Exit → Act → World → Prop}, Rel B w0 N s a w → (ev P E n (some b) c s k).den = some r → Post B w0 r k Q → jumps P b Q n c a w) ∧
    (∀ (b : Code) {N : List Nm} {s : St} {a : Act} {w : World} {k : Exit → St → Tr ρ} {Q : Exit → Act → World → Prop}, Rel B w0 N s a w → (ev P E n none (.loop b) s k).den = some r → Post B w0 r k Q → Code.rounds P b Q n a w)
  | 0 => ⟨fun c N s a w k Q hR h _ => by simp [ev, Tr.den] at h, fun c b N s a w k Q hR h _ => by simp [ev, Tr.den] at h, fun b N s a w k Q hR h _ => by simp [ev, Tr.den] at h⟩
  | n + 1 => by
    obtain ⟨ih1, ih2, ih3⟩ := ev_sound hE n
    have loops : ∀ (b : Code) {N : List Nm} {s : St} {a : Act} {w : World} {k : Exit → St → Tr ρ} {Q : Exit → Act → World → Prop}, Rel B w0 N s a w → (ev P E (n + 1) none (.loop b) s k).den = some r → Post B w0 r k Q → Code.rounds P b Q (n + 1) a w := by
      intro b N s a w k Q hR h hk
      simp only [ev] at h
      rw [rounds_succ]
      refine ih1 b hR h ?_
      intro e N' s' a' w' hR' h'
      cases e with
      | normal => exact ih3 b hR' h' hk
      | exit i => exact hk _ _ _ _ _ hR' h'
      | goto l => exact hk _ _ _ _ _ hR' h'
      | ret => exact hk _ _ _ _ _ hR' h'
      | panic ch => exact hk _ _ _ _ _ hR' h'
      | outgrown => exact hk _ _ _ _ _ hR' h'
    refine ⟨?_, ?_, loops⟩
    · intro c N s a w k Q hR h hk
      cases c with
      | skip => exact wp_skip (hk _ _ _ _ _ hR (by simpa only [ev] using h))
      | label l => exact wp_label (hk _ _ _ _ _ hR (by simpa only [ev] using h))
      | exit i => exact wp_exit (hk _ _ _ _ _ hR (by simpa only [ev] using h))
      | ret => exact wp_ret (hk _ _ _ _ _ hR (by simpa only [ev] using h))
      | goto l => exact wp_goto (hk _ _ _ _ _ hR (by simpa only [ev] using h))
      | refuse why => simp [ev, Tr.den] at h
      | rangeFunc f ps x y => simp [ev, Tr.den] at h
      | region id ops draw =>
        cases draw with
        | false =>
          simp only [ev] at h
          exact wp_region_list (ops_sound hE _ hR h fun N' s' a' w' hR' h' => hk _ _ _ _ _ hR' h')
        | true =>
          simp only [ev] at h
          split at h
          · rename_i hm
            exact draw_sound hE hm hR h fun N' s' a' w' hR' h' => hk _ _ _ _ _ hR' h'
          · simp [Tr.den] at h
      | seq x y =>
        simp only [ev] at h
        refine wp_seq (ih1 x hR h ?_)
        intro e N' s' a' w' hR' h'
        cases e with
        | normal => exact ih1 y hR' h' hk
        | exit i => exact hk _ _ _ _ _ hR' h'
        | goto l => exact hk _ _ _ _ _ hR' h'
        | ret => exact hk _ _ _ _ _ hR' h'
        | panic ch => exact hk _ _ _ _ _ hR' h'
        | outgrown => exact hk _ _ _ _ _ hR' h'
      | cond c x y =>
        simp only [ev] at h
        rcases cond_sound hR.t h with ⟨hc, s', e1, e2, e3⟩ | ⟨hc, s', e1, e2, e3⟩
        · exact wp_cond_true hc (ih1 x ⟨by rw [e1]; exact hR.m, e2⟩ e3 hk)
        · exact wp_cond_false hc (ih1 y ⟨by rw [e1]; exact hR.m, e2⟩ e3 hk)
      | block id b =>
        simp only [ev] at h
        refine wp_block (ih1 b hR h ?_)
        intro e N' s' a' w' hR' h'
        cases e with
        | normal => exact hk _ _ _ _ _ hR' h'
        | exit j =>
          simp only [Exit.inBlock]
          by_cases hj : j = id
          · subst hj
            simp only [Nat.beq_refl] at h'
            simp only [if_true]
            exact hk _ _ _ _ _ hR' h'
          · have : Nat.beq j id = false := by
              cases hb : Nat.beq j id with
              | false => rfl
              | true => exact absurd (Nat.eq_of_beq_eq_true hb) hj
            simp only [this] at h'
            simp only [hj, if_false]
            exact hk _ _ _ _ _ hR' h'
        | goto l => exact hk _ _ _ _ _ hR' h'
        | ret => exact hk _ _ _ _ _ hR' h'
        | panic ch => exact hk _ _ _ _ _ hR' h'
        | outgrown => exact hk _ _ _ _ _ hR' h'
      | loop b => exact wp_loop_rounds (n + 1) (loops b hR h hk)
      | scope b =>
        simp only [ev] at h
        exact wp_scope_n n (ih2 b b hR h hk)
    · intro c b N s a w k Q hR h hk
      simp only [ev] at h
      simp only [jumps]
      refine ih1 c hR h ?_
      intro e N' s' a' w' hR' h'
      cases e with
      | normal => exact hk _ _ _ _ _ hR' h'
      | exit i => exact hk _ _ _ _ _ hR' h'
      | goto l =>
        dsimp only at h'
        split at h'
        · rename_i rest hf
          exact ⟨rest, hf, ih2 rest b hR' h' hk⟩
        · simp [Tr.den] at h'
      | ret => exact hk _ _ _ _ _ hR' h'
      | panic ch => exact hk _ _ _ _ _ hR' h'
      | outgrown => exact hk _ _ _ _ _ hR' h'
end
end Go.Proofs.Ytemndghpenbmeaa.Ev
