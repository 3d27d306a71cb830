/-
  The evaluator is sound: code of every form that it takes.
-/
import Derived.Test.YtlbmjajjldfigaaGreatEvDrew
import Derived.Test.YtlbmjajjldfigaaGreatEvNorm
namespace Go.Proofs.YtlbmjajjldfigaaGreat.Ev
open Go Go.RowKit
universe u

section
variable {P : Program} {E : Env} {LE : Laws} {ρ : Type} {r : ρ} {B : Nat} {w0 : World}

def Post (B : Nat) (w0 : World) (r : ρ) (k : Exit → St → Tr ρ) (Q : Exit → Act → World → Prop) : Prop :=
  ∀ e N s a w, Rel B w0 N s a w → (k e s).den = some r → Q e a w

/-- What a loop's law asks of a loop. -/
def LOK (P : Program) (R : LoopR) (b : Code) : Prop :=
  ∀ s x y, R.dec s = some x → R.run x = some y → ∀ (B : Nat) (w0 : World) (N : List Nm) (a : Act) (w : World), Rel B w0 N s a w →
    (Code.loop b).wp P (fun e a' w' => e = (R.out y).1 ∧ ∃ N', Rel B w0 N' (R.out y).2 a' w') a w
def LAll (P : Program) (LE : Laws) (c : Code) : Prop := ∀ b ∈ loops c, ∀ i R, keyOf b = some i → LE i = some R → LOK P R b
theorem lawOf_spec {b : Code} {R : LoopR} (h : lawOf LE b = some R) : ∃ i, keyOf b = some i ∧ LE i = some R := by
  unfold lawOf at h
  split at h
  · exact ⟨_, by assumption, h⟩
  · cases h
theorem LAll.sub {c d : Code} (h : LAll P LE c) (hs : ∀ b ∈ loops d, b ∈ loops c) : LAll P LE d := fun b hb => h b (hs b hb)
theorem loops_find : ∀ {c : Code} {l : Nat} {q : Code}, findLabel c l = some q → ∀ b ∈ loops q, b ∈ loops c
  | .seq x y, l, q, h => by
    simp only [findLabel] at h
    split at h
    · rename_i rest hx
      simp at h; subst h
      intro b hb
      simp only [loops, List.mem_append] at *
      exact hb.imp (loops_find hx b) id
    · intro b hb
      simp only [loops, List.mem_append]
      exact .inr (loops_find h b hb)
  | .label l', l, q, h => by
    simp only [findLabel] at h
    split at h
    · simp at h; subst h; intro b hb; simp [loops] at hb
    · cases h
  | .skip, l, q, h => by simp [findLabel] at h
  | .region .., l, q, h => by simp [findLabel] at h
  | .cond .., l, q, h => by simp [findLabel] at h
  | .block .., l, q, h => by simp [findLabel] at h
  | .loop .., l, q, h => by simp [findLabel] at h
  | .scope .., l, q, h => by simp [findLabel] at h
  | .exit .., l, q, h => by simp [findLabel] at h
  | .ret, l, q, h => by simp [findLabel] at h
  | .goto .., l, q, h => by simp [findLabel] at h
  | .refuse .., l, q, h => by simp [findLabel] at h
  | .rangeFunc .., l, q, h => by simp [findLabel] at h

theorem ev_sound (hE : EnvOK P E) : ∀ (n : Nat),
    (∀ (c : Code), LAll P LE c → ∀ {N : List Nm} {s : St} {a : Act} {w : World} {k : Exit → St → Tr ρ} {Q : Exit → Act → World → Prop}, Rel B w0 N s a w → (ev P E LE n none c s k).den = some r → Post B w0 r k Q → c.wp P Q a w) ∧
    (∀ (c b : Code), LAll P LE c → LAll P LE b → ∀ {N : List Nm} {s : St} {a : Act} {w : World} {k : Exit → St → Tr ρ} {Q : Exit → Act → World → Prop}, Rel B w0 N s a w → (ev P E LE n (some b) c s k).den = some r → Post B w0 r k Q → jumps P b Q n c a w) ∧
    (∀ (b : Code), LAll P LE b → lawOf LE b = none → ∀ {N : List Nm} {s : St} {a : Act} {w : World} {k : Exit → St → Tr ρ} {Q : Exit → Act → World → Prop}, Rel B w0 N s a w → (ev P E LE n none (.loop b) s k).den = some r → Post B w0 r k Q → Code.rounds P b Q n a w)
  | 0 => ⟨fun c _ N s a w k Q hR h _ => by simp [ev, Tr.den] at h, fun c b _ _ N s a w k Q hR h _ => by simp [ev, Tr.den] at h, fun b _ _ N s a w k Q hR h _ => by simp [ev, Tr.den] at h⟩
  | n + 1 => by
    obtain ⟨ih1, ih2, ih3⟩ := ev_sound hE n
    have loops : ∀ (b : Code), LAll P LE b → lawOf LE b = none → ∀ {N : List Nm} {s : St} {a : Act} {w : World} {k : Exit → St → Tr ρ} {Q : Exit → Act → World → Prop}, Rel B w0 N s a w → (ev P E LE (n + 1) none (.loop b) s k).den = some r → Post B w0 r k Q → Code.rounds P b Q (n + 1) a w := by
      intro b hL hno N s a w k Q hR h hk
      simp only [ev, hno] at h
      rw [rounds_succ]
      refine ih1 b hL hR h ?_
      intro e N' s' a' w' hR' h'
      cases e with
      | normal => exact ih3 b hL hno hR' h' hk
      | exit i => exact hk _ _ _ _ _ hR' h'
      | goto l => exact hk _ _ _ _ _ hR' h'
      | ret => exact hk _ _ _ _ _ hR' h'
      | panic ch => exact hk _ _ _ _ _ hR' h'
      | outgrown => exact hk _ _ _ _ _ hR' h'
    refine ⟨?_, ?_, loops⟩
    · intro c hL N s a w k Q hR h hk
      cases c with
      | skip => exact wp_skip (hk _ _ _ _ _ hR (by simpa only [ev] using h))
      | label l => exact wp_label (hk _ _ _ _ _ hR (by simpa only [ev] using h))
      | exit i => exact wp_exit (hk _ _ _ _ _ hR (by simpa only [ev] using h))
      | ret => exact wp_ret (hk _ _ _ _ _ hR (by simpa only [ev] using h))
      | goto l => exact wp_goto (hk _ _ _ _ _ hR (by simpa only [ev] using h))
      | refuse why => simp [ev, Tr.den] at h
      | rangeFunc f ps x y => simp [ev, Tr.den] at h
      | region id ops draw =>
        cases draw with
        | false =>
          simp only [ev] at h
          exact wp_region_list (ops_sound hE _ hR h fun N' s' a' w' _ hR' h' => hk _ _ _ _ _ hR' h')
        | true =>
          simp only [ev] at h
          split at h
          · rename_i hm
            exact draw_sound hE hm (hR.soft _) h fun N' s' a' w' _ hR' h' => hk _ _ _ _ _ hR' h'
          · simp [Tr.den] at h
      | seq x y =>
        simp only [ev] at h
        refine wp_seq (ih1 x (hL.sub fun b hb => by simp [Ev.loops, hb]) hR h ?_)
        intro e N' s' a' w' hR' h'
        cases e with
        | normal => exact ih1 y (hL.sub fun b hb => by simp [Ev.loops, hb]) hR' h' hk
        | exit i => exact hk _ _ _ _ _ hR' h'
        | goto l => exact hk _ _ _ _ _ hR' h'
        | ret => exact hk _ _ _ _ _ hR' h'
        | panic ch => exact hk _ _ _ _ _ hR' h'
        | outgrown => exact hk _ _ _ _ _ hR' h'
      | cond c x y =>
        simp only [ev] at h
        rcases cond_sound hR.t h with ⟨hc, s', e1, e2, e3⟩ | ⟨hc, s', e1, e2, e3⟩
        · exact wp_cond_true hc (ih1 x (hL.sub fun b hb => by simp [Ev.loops, hb]) ⟨by rw [e1]; exact hR.m, e2⟩ e3 hk)
        · exact wp_cond_false hc (ih1 y (hL.sub fun b hb => by simp [Ev.loops, hb]) ⟨by rw [e1]; exact hR.m, e2⟩ e3 hk)
      | block id b =>
        simp only [ev] at h
        refine wp_block (ih1 b hL hR h ?_)
        intro e N' s' a' w' hR' h'
        cases e with
        | normal => exact hk _ _ _ _ _ hR' h'
        | exit j =>
          simp only [Exit.inBlock]
          by_cases hj : j = id
          · subst hj
            simp only [Nat.beq_refl] at h'
            simp only [if_true]
            exact hk _ _ _ _ _ hR' h'
          · have : Nat.beq j id = false := by
              cases hb : Nat.beq j id with
              | false => rfl
              | true => exact absurd (Nat.eq_of_beq_eq_true hb) hj
            simp only [this] at h'
            simp only [hj, if_false]
            exact hk _ _ _ _ _ hR' h'
        | goto l => exact hk _ _ _ _ _ hR' h'
        | ret => exact hk _ _ _ _ _ hR' h'
        | panic ch => exact hk _ _ _ _ _ hR' h'
        | outgrown => exact hk _ _ _ _ _ hR' h'
      | loop b =>
        cases hlaw : lawOf LE b with
        | none => exact wp_loop_rounds (n + 1) (loops b (hL.sub fun b' hb => by simp [Ev.loops, hb]) hlaw hR h hk)
        | some R =>
          simp only [ev, hlaw] at h
          split at h
          · rename_i s1 hs1
            split at h
            · rename_i x hx
              unfold Tr.den at h
              split at h
              · rename_i y hy
                rw [R.outK_den] at h
                obtain ⟨N1, hR1⟩ := norm_sound hs1 hR
                obtain ⟨i, hi, hli⟩ := lawOf_spec hlaw
                refine Code.wp_mono ?_ (hL b (by simp [Ev.loops]) i R hi hli s1 x y hx hy B w0 N1 a w hR1)
                rintro e a' w' ⟨rfl, N', hR'⟩
                exact hk _ _ _ _ _ hR' h
              · cases h
            · simp [Tr.den] at h
          · simp [Tr.den] at h
      | scope b =>
        simp only [ev] at h
        exact wp_scope_n n (ih2 b b hL hL hR h hk)
    · intro c b hL hLb N s a w k Q hR h hk
      simp only [ev] at h
      simp only [jumps]
      refine ih1 c hL hR h ?_
      intro e N' s' a' w' hR' h'
      cases e with
      | normal => exact hk _ _ _ _ _ hR' h'
      | exit i => exact hk _ _ _ _ _ hR' h'
      | goto l =>
        dsimp only at h'
        split at h'
        · rename_i rest hf
          dsimp only
          rw [hf]
          exact ih2 rest b (hLb.sub (loops_find hf)) hLb hR' h' hk
        · rename_i hf
          dsimp only
          rw [hf]
          exact hk _ _ _ _ _ hR' h'
      | ret => exact hk _ _ _ _ _ hR' h'
      | panic ch => exact hk _ _ _ _ _ hR' h'
      | outgrown => exact hk _ _ _ _ _ hR' h'
end
end Go.Proofs.YtlbmjajjldfigaaGreat.Ev
