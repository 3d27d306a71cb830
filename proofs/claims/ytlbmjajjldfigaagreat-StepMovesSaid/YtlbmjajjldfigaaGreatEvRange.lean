/-
  The evaluator within a round of a loop over a function: regions there, the temporaries that they leave alone, rows in a world that grew.
-/
import Derived.Test.YtlbmjajjldfigaaGreatEvRet
import Derived.RangeFuncNested
import Derived.RangeFuncLeaves
namespace Go.Proofs.YtlbmjajjldfigaaGreat.Ev
open Go Go.RowKit
universe u

section
variable {P : Program} {E : Env} {ρ : Type} {r : ρ} {B : Nat} {w0 : World}

/-- The fence that lets everything in, in a round or out of one. -/
def wideR (ro : Option Nat) : Fence := { Fence.wide with round := ro }
theorem callsIn_wideR {ro : Option Nat} {n : Nat} {f : FuncId} {args : Array Value} {w : World} {R : Ending → World → Prop} (h : Calls P f args w R) : CallsIn (wideR ro) n P f args w R := by
  have := (callsIn_wide (n := n)).2 h
  exact this

def SameT (ds : List Oper) (a a' : Act) : Prop := ∀ t, (∀ o ∈ ds, o.dst ≠ some t) → a'.tmps[t]? = a.tmps[t]?
theorem SameT.refl (ds : List Oper) (a : Act) : SameT ds a a := fun _ _ => rfl
theorem put_other {a : Act} {dst : Option Tmp} {v : Value} {t : Nat} (h : dst ≠ some t) : (a.put dst v).tmps[t]? = a.tmps[t]? := by
  cases dst with
  | none => rfl
  | some d =>
    have : d ≠ t := fun e => h (by rw [e])
    simp [Act.put, Array.getElem?_setIfInBounds_ne this]

/-- What an operation does, it does in a round. -/
theorem opIn_of {ro : Option Nat} {n : Nat} {o : Oper} {a : Act} {w : World} {next next' : Act → World → Prop} {Q Q' : Exit → Act → World → Prop} (hd : ∀ c, o.op ≠ .defer c)
    (h : o.wp P a w next Q) (hn : ∀ a' w', next a' w' → (∀ t, o.dst ≠ some t → a'.tmps[t]? = a.tmps[t]?) → next' a' w') (hq : ∀ e a w, e ≠ .normal → Q e a w → Q' e a w) : o.wpIn (wideR ro) n P a w next' Q' := by
  refine ⟨fun _ _ => trivial, ?_⟩
  rw [Oper.semAt_eq _ _ _ hd]
  unfold Oper.wp at h
  have hlet : LetsOut Q → LetsOut Q' := fun ⟨a, w, h⟩ => ⟨a, w, hq _ _ _ (by simp) h⟩
  cases hr : (execOp a.eval o).run P w with
  | ok x w' =>
    rw [hr] at h
    cases x with
    | value v => exact hn _ _ h fun t ht => put_other ht
    | skip => exact hn _ _ h fun t ht => put_other ht
    | defer d => exact hn _ _ h fun t ht => (put_other (a := { a with defers := d :: a.defers }) ht)
    | enter f args =>
      refine ⟨fun hh => ?_, callsIn_wideR (Calls.mono h ?_)⟩
      · simp [wideR, Fence.wide] at hh
      · intro e w2 hh
        cases e with
        | returned v => exact hn _ _ hh fun t ht => put_other ht
        | panicked c => exact hq _ _ _ (by simp) hh
        | outgrown => exact hlet hh
    | row row args =>
      refine ⟨fun hh => ?_, fun c cs _ => ?_⟩
      · simp [wideR, Fence.wide] at hh
      · obtain ⟨v, w2, h1, h2⟩ := h c cs
        exact ⟨v, w2, hn _ _ h1 fun t ht => put_other ht, stepsIn_wide.2 h2⟩
    | _ => exact h.elim
  | halt x w' =>
    rw [hr] at h
    cases x with
    | panic v => exact hq _ _ _ (by simp) h
    | _ => exact h.elim

theorem ops_pre (hE : EnvOK P E) {ro : Option Nat} {n : Nat} {ops : Array Oper} {Q : Exit → Act → World → Prop} {k : St → Tr ρ} {l2 : List Oper} : ∀ (l : List Oper) {N : List Nm} {s : St} {a : Act} {w : World}, Rel B w0 N s a w → (evOps P E ops.toList l s k).den = some r →
    (∀ o ∈ l, ∀ c, o.op ≠ .defer c) →
    (∀ N' s' a' w', Rel B w0 N' s' a' w' → (k s').den = some r → SameT l a a' → wpListIn (wideR ro) n P ops Q l2 a' w') → wpListIn (wideR ro) n P ops Q (l ++ l2) a w
  | [], N, s, a, w, hR, h, _, hk => hk N s a w hR h (SameT.refl _ _)
  | o :: l, N, s, a, w, hR, h, hd, hk => by
    simp only [evOps] at h
    simp only [List.cons_append, wpListIn]
    rcases guard_sound hR.t h with ⟨hw, s1, e1, e2, e3, e4⟩ | ⟨hw, s1, e1, e2, e3, e4⟩
    · rw [if_pos hw]
      refine opIn_of (next := fun a' w' => ∃ N' s', Rel B w0 N' s' a' w' ∧ (evOps P E ops.toList l s' k).den = some r) (Q := fun _ _ _ => False) (hd o (by simp))
        (op_sound (s := s1) ⟨by rw [e1]; exact hR.m, e3⟩ hE e4 fun N' s' a' w' _ hR' h' => ⟨N', s', hR', h'⟩) ?_ (fun _ _ _ _ h => h.elim)
      rintro a' w' ⟨N', s', hR', h'⟩ hs
      refine ops_pre hE l hR' h' (fun o ho => hd o (by simp [ho])) ?_
      intro N2 s2 a2 w2 hR2 h2 hs2
      refine hk N2 s2 a2 w2 hR2 h2 fun t ht => ?_
      rw [hs2 t fun o ho => ht o (by simp [ho]), hs t (ht o (by simp))]
    · rw [if_neg (by simp [hw])]
      obtain ⟨s2, f1, f2, f3, f4⟩ := skip_sound e3 e4
      refine ⟨fun _ _ => trivial, ?_⟩
      refine ops_pre hE l ⟨by rw [f1, e1]; exact hR.m, f3⟩ f4 (fun o ho => hd o (by simp [ho])) ?_
      intro N2 s2 a2 w2 hR2 h2 hs2
      refine hk N2 s2 a2 w2 hR2 h2 fun t ht => ?_
      rw [hs2 t fun o ho => ht o (by simp [ho]), put_other (ht o (by simp))]

/-- What a region's operations do in an order, they do in a round. -/
theorem wpOps_inRound {ro : Option Nat} {n : Nat} {ops : Array Oper} {Q Q' : Exit → Act → World → Prop} (hd : ∀ o ∈ ops.toList, ∀ c, o.op ≠ .defer c) (hl : ∀ a w, ¬ Q .outgrown a w) : ∀ (l : List Nat) (a : Act) (w : World), wpOps P ops Q l a w →
    (∀ a' w', Q .normal a' w' → SameT ops.toList a a' → Q' .normal a' w') → (∀ e a w, e ≠ .normal → Q e a w → Q' e a w) → wpOpsIn (wideR ro) n P ops Q' l a w
  | [], a, w, h, h1, _ => h1 a w h (SameT.refl _ _)
  | i :: rest, a, w, h, h1, h2 => by
    simp only [wpOps] at h
    simp only [wpOpsIn]
    cases ho : ops[i]? with
    | none => rw [ho] at h; exact wpOps_inRound hd hl rest a w h h1 h2
    | some o =>
      rw [ho] at h
      have hmem : o ∈ ops.toList := List.mem_of_getElem? (by rw [← Array.getElem?_toList] at ho; exact ho)
      dsimp only at h ⊢
      by_cases hw : Region.wanted o (yielded ops a.tmps) = true
      · rw [if_pos hw] at h ⊢
        rcases h with h | ⟨_, a0, w0, h⟩
        · refine opIn_of (hd o hmem) h ?_ h2
          intro a' w' hh hs
          refine wpOps_inRound hd hl rest a' w' hh (fun a2 w2 hq hs2 => h1 a2 w2 hq fun t ht => ?_) h2
          rw [hs2 t ht, hs t (ht o hmem)]
        · exact absurd h (hl _ _)
      · rw [if_neg hw] at h ⊢
        refine ⟨fun _ _ => trivial, wpOps_inRound hd hl rest _ w h (fun a2 w2 hq hs2 => h1 a2 w2 hq fun t ht => ?_) h2⟩
        rw [hs2 t ht, put_other (ht o hmem)]

theorem drawn_inRound (hm : P.follows .mixedOrders = true) {ro : Option Nat} {n id : Nat} {ops : Array Oper} {Q Q' : Exit → Act → World → Prop} (hd : ∀ o ∈ ops.toList, ∀ c, o.op ≠ .defer c) (hl : ∀ a w, ¬ Q .outgrown a w) {a : Act} {w : World}
    (h : wpAny P .any ops Q ops.size (Array.replicate ops.size false) a { w with drawn := w.drawn + 1 }) (h1 : ∀ a' w', Q .normal a' w' → SameT ops.toList a a' → Q' .normal a' w') (h2 : ∀ e a w, e ≠ .normal → Q e a w → Q' e a w) :
    (Code.region id ops true).wpIn (wideR ro) n P Q' a w :=
  wpIn_region_draw fun t => by
    simp only [Region.schedule, hm, Bool.true_or, if_true]
    exact wpOps_inRound hd hl _ _ _ (wpAny_sound ops.size t _ a _ h) h1 h2
/-- The state behind, as it is read. -/
def retK {X : Type} (c : SC X) (s : St) : Tr X := match norm c.ts s with
  | some s1 => match c.dec s1 with
    | some x => .ret x
    | none => .fail
  | none => .fail
theorem retK_sound {X : Type} {c : SC X} {x : X} {N : List Nm} {s : St} {a : Act} {w : World} (h : (retK c s).den = some x) (hR : Rel B w0 N s a w) : ∃ N', Rel B w0 N' (c.enc x) a w := by
  unfold retK at h
  split at h
  · rename_i s1 hs
    split at h
    · rename_i y hy
      simp [Tr.den] at h; subst h
      obtain ⟨N', hR'⟩ := norm_sound hs hR
      exact ⟨N', (c.ok hy).rel hR'⟩
    · simp [Tr.den] at h
  · simp [Tr.den] at h

def nodefB : List Oper → Bool
  | [] => true
  | o :: r => match o.op with
    | .defer _ => false
    | _ => nodefB r
theorem nodefB_spec : ∀ {l : List Oper}, nodefB l = true → ∀ o ∈ l, ∀ c, o.op ≠ .defer c
  | [], _, o, ho => by simp at ho
  | o :: l, h, o', ho => by
    intro c hc
    simp only [nodefB] at h
    rcases List.mem_cons.1 ho with rfl | ho
    · rw [hc] at h; cases h
    · split at h
      · cases h
      · exact nodefB_spec h o' ho c hc
def freeB (t : Nat) : List Oper → Bool
  | [] => true
  | o :: r => match o.dst with
    | some d => match Nat.beq d t with
      | true => false
      | false => freeB t r
    | none => freeB t r
theorem freeB_spec {t : Nat} : ∀ {l : List Oper}, freeB t l = true → ∀ o ∈ l, o.dst ≠ some t
  | [], _, o, ho => by simp at ho
  | o :: l, h, o', ho => by
    simp only [freeB] at h
    rcases List.mem_cons.1 ho with rfl | ho
    · intro e
      rw [e] at h
      simp at h
    · split at h
      · split at h
        · cases h
        · exact freeB_spec h o' ho
      · exact freeB_spec h o' ho
theorem SameT.at {l : List Oper} {a a' : Act} (h : SameT l a a') {t : Nat} (hf : freeB t l = true) : a'.tmps[t]? = a.tmps[t]? := h t (freeB_spec hf)

theorem ops_to (hE : EnvOK P E) {X : Type} (c : SC X) {x : X} {ro : Option Nat} {n : Nat} {ops : Array Oper} {Q : Exit → Act → World → Prop} (l1 l2 : List Oper) {N : List Nm} {s : St} {a : Act} {w : World} (hR : Rel B w0 N s a w)
    (h : (evOps P E ops.toList l1 s (retK c)).den = some x) (hd : nodefB l1 = true)
    (hk : ∀ N' a' w', Rel B w0 N' (c.enc x) a' w' → SameT l1 a a' → wpListIn (wideR ro) n P ops Q l2 a' w') : wpListIn (wideR ro) n P ops Q (l1 ++ l2) a w :=
  ops_pre hE l1 hR h (nodefB_spec hd) fun N' s' a' w' hR' h' hs => by
    obtain ⟨N2, hR2⟩ := retK_sound h' hR'
    exact hk N2 a' w' hR2 hs
theorem region_to (hE : EnvOK P E) {X : Type} (c : SC X) {x : X} {ro : Option Nat} {n id : Nat} {ops : Array Oper} {Q : Exit → Act → World → Prop} {N : List Nm} {s : St} {a : Act} {w : World} (hR : Rel B w0 N s a w)
    (h : (evOps P E ops.toList ops.toList s (retK c)).den = some x) (hd : nodefB ops.toList = true)
    (hk : ∀ N' a' w', Rel B w0 N' (c.enc x) a' w' → SameT ops.toList a a' → Q .normal a' w') : (Code.region id ops false).wpIn (wideR ro) n P Q a w := by
  refine wpIn_region_list ?_
  have := ops_to (ro := ro) (n := n) (Q := Q) hE c ops.toList [] hR h hd (fun N' a' w' h1 h2 => wpListIn_nil (hk N' a' w' h1 h2))
  rwa [List.append_nil] at this
def drawnT (P : Program) (E : Env) (ops : Array Oper) (s : St) (k : St → Tr ρ) : Tr ρ :=
  evOpsD P E ops.toList (takeL (cutAt ops.toList) ops.toList) s.mem.length { s with mem := s.mem ++ deads (freshN (takeL (cutAt ops.toList) ops.toList)) } [] fun s' acc =>
    match checkD s.n s.mem.length (s.mem ++ deads (freshN (takeL (cutAt ops.toList) ops.toList))) ops.toList acc with
    | true => match tailB ops.toList (cutAt ops.toList) (dropN (cutAt ops.toList) ops.toList) with
      | true => evOps P E ops.toList (dropN (cutAt ops.toList) ops.toList) s' k
      | false => .fail
    | false => .fail
theorem drawn_to (hE : EnvOK P E) (hm : P.follows .mixedOrders = true) {X : Type} (c : SC X) {x : X} {ro : Option Nat} {n id : Nat} {ops : Array Oper} {Q : Exit → Act → World → Prop} {N : List Nm} {s : St} {a : Act} {w : World} (hR : Rel B w0 N s a w)
    (h : (drawnT P E ops s (retK c)).den = some x) (hd : nodefB ops.toList = true)
    (hk : ∀ N' a' w', Rel B w0 N' (c.enc x) a' w' → SameT ops.toList a a' → Q .normal a' w') : (Code.region id ops true).wpIn (wideR ro) n P Q a w := by
  refine drawn_inRound hm (Q := fun e a' w' => e = .normal ∧ ∃ N', Rel B w0 N' (c.enc x) a' w') (nodefB_spec hd) (fun a w h => by cases h.1) (draw_any hE hR h ?_) ?_ (fun e a w h1 h2 => absurd h2.1 h1)
  · intro N' s' a' w' _ hR' h'
    exact ⟨rfl, retK_sound h' hR'⟩
  · rintro a' w' ⟨_, N', hR'⟩ hs
    exact hk N' a' w' hR' hs
theorem backK_sound {X Y : Type} {c : SC X} {o : OC Y} {z : X ⊕ Y} {e : Exit} {N : List Nm} {s : St} {a : Act} {w : World} (h : (backK c o e s).den = some z) (hR : Rel B w0 N s a w) :
    (∃ x N', z = .inl x ∧ e = .normal ∧ Rel B w0 N' (c.enc x) a w) ∨ (∃ y N', z = .inr y ∧ e = (o.out y).1 ∧ Rel B w0 N' (o.out y).2 a w) := by
  by_cases he : e = .normal
  · subst he
    unfold backK at h
    dsimp only at h
    split at h
    · rename_i s1 hs1
      split at h
      · rename_i x' hx'
        simp [Tr.den] at h; subst h
        obtain ⟨N1, hR1⟩ := norm_sound hs1 hR
        exact .inl ⟨_, N1, rfl, rfl, (c.ok hx').rel hR1⟩
      · simp [Tr.den] at h
    · simp [Tr.den] at h
  · have leave : backK c o e s = (match o.us e with
      | some l => match norm l s with
        | some s1 => match o.dec e s1 with
          | some y => .ret (.inr y)
          | none => .fail
        | none => .fail
      | none => .fail) := by
      cases e <;> first | exact absurd rfl he | rfl
    rw [leave] at h
    split at h
    · split at h
      · rename_i s1 hs1
        split at h
        · rename_i y' hy'
          simp [Tr.den] at h; subst h
          obtain ⟨N1, hR1⟩ := norm_sound hs1 hR
          obtain ⟨e1, e2⟩ := o.ok hy'
          exact .inr ⟨_, N1, rfl, e1, e2.rel hR1⟩
        · simp [Tr.den] at h
      · simp [Tr.den] at h
    · simp [Tr.den] at h
theorem lAll_nil {c : Code} : LAll P Laws.nil c := fun b _ i R _ h => by simp [Laws.nil] at h
theorem code_to (hE : EnvOK P E) {X Y : Type} (c : SC X) (o : OC Y) {z : X ⊕ Y} {m n : Nat} {d : Code} {Q : Exit → Act → World → Prop} {N : List Nm} {s : St} {a : Act} {w : World} (hR : Rel B w0 N s a w)
    (h : (ev P E Laws.nil n none d s (backK c o)).den = some z) (h1 : ∀ x N' a' w', z = .inl x → Rel B w0 N' (c.enc x) a' w' → Q .normal a' w')
    (h2 : ∀ y N' a' w', z = .inr y → Rel B w0 N' (o.out y).2 a' w' → Q (o.out y).1 a' w') : d.wpIn (wideR none) m P Q a w := by
  refine wpIn_wide.2 ((ev_sound hE n).1 d lAll_nil hR h ?_)
  intro e N' s' a' w' hR' h'
  rcases backK_sound h' hR' with ⟨x, N2, rfl, rfl, hR2⟩ | ⟨y, N2, rfl, rfl, hR2⟩
  · exact h1 x N2 a' w' rfl hR2
  · exact h2 y N2 a' w' rfl hR2

/-- Calls that wait for the end change nothing of a region. -/
theorem wpListIn_defers {F : Fence} {n : Nat} {ops : Array Oper} {Q : Exit → Act → World → Prop} {ds : List Deferred} : ∀ (l : List Oper) (a : Act) (w : World),
    wpListIn F n P ops (fun e a' w' => Q e { a' with defers := a'.defers ++ ds } w') l a w → wpListIn F n P ops Q l { a with defers := a.defers ++ ds } w
  | [], a, w, h => h
  | o :: l, a, w, h => by
    simp only [wpListIn] at h ⊢
    have hev : ({ a with defers := a.defers ++ ds } : Act).eval = a.eval := by funext x; cases x <;> rfl
    have hput : ∀ (a : Act) (dst : Option Tmp) (v : Value), ({ a with defers := a.defers ++ ds } : Act).put dst v = { a.put dst v with defers := (a.put dst v).defers ++ ds } := by
      intro a dst v; cases dst <;> rfl
    split
    · rename_i hw
      rw [if_pos hw] at h
      obtain ⟨h1, h2⟩ := h
      refine ⟨by rw [hev]; exact h1, ?_⟩
      rw [hev]
      have hlet : LetsOut (fun e (a' : Act) w' => Q e { a' with defers := a'.defers ++ ds } w') → LetsOut Q := fun ⟨a, w, h⟩ => ⟨_, w, h⟩
      cases hr : (o.semAt F.round a.eval).run P w with
      | ok x w' =>
        rw [hr] at h2
        cases x with
        | value v => simp only [Oper.uponIn_value] at h2 ⊢; rw [hput]; exact wpListIn_defers l _ _ h2
        | skip => simp only [Oper.uponIn_skip] at h2 ⊢; rw [hput]; exact wpListIn_defers l _ _ h2
        | defer d =>
          simp only [Oper.uponIn_defer] at h2 ⊢
          have e1 : ({ tmps := a.tmps, defers := d :: (a.defers ++ ds) } : Act) = { ({ a with defers := d :: a.defers } : Act) with defers := ({ a with defers := d :: a.defers } : Act).defers ++ ds } := rfl
          rw [e1, hput]; exact wpListIn_defers l _ _ h2
        | enter f args =>
          simp only [Oper.uponIn_enter] at h2 ⊢
          refine ⟨h2.1, h2.2.mono ?_⟩
          intro e w2 hh
          cases e with
          | returned v => dsimp only at hh ⊢; rw [hput]; exact wpListIn_defers l _ _ hh
          | panicked c => exact hh
          | outgrown => exact hlet hh
        | row row args =>
          simp only [Oper.uponIn_row] at h2 ⊢
          refine ⟨h2.1, h2.2.mono ?_⟩
          intro v w2 hh
          rw [hput]; exact wpListIn_defers l _ _ hh
        | round l' f tmps assign body =>
          simp only [Oper.uponIn_round] at h2 ⊢
          refine ⟨h2.1, h2.2.mono ?_⟩
          intro e w2 hh
          cases e with
          | returned v => dsimp only at hh ⊢; rw [hput]; exact wpListIn_defers l _ _ hh
          | panicked c => exact hh
          | outgrown => exact hlet hh
        | _ => exact h2.elim
      | halt x w' =>
        rw [hr] at h2
        cases x with
        | panic v => exact h2
        | _ => exact h2.elim
    · rename_i hw
      rw [if_neg hw] at h
      refine ⟨by rw [hev]; exact h.1, ?_⟩
      rw [hput]; exact wpListIn_defers l _ _ h.2
end

def bodyOf (f : Func) : Code := match f.body with | some c => c | none => .skip
def regOps (i : Nat) : Code → Array Oper
  | .region id ops _ => match Nat.beq id i with | true => ops | false => #[]
  | .seq x y => regOps i x ++ regOps i y
  | .cond _ x y => regOps i x ++ regOps i y
  | .block _ x => regOps i x
  | .loop x => regOps i x
  | .scope x => regOps i x
  | .rangeFunc _ _ x y => regOps i x ++ regOps i y
  | _ => #[]

/-- A value as it is. -/
def tVal {X : Type} (t : Nat) (d : TD X) : TD (Value × X) where
  enc x := (t, .c (.v x.1)) :: d.enc x.2
  dec l := match l with
    | (u, .c (.v v)) :: r => match Nat.beq u t with
      | true => match d.dec r with
        | some y => some (v, y)
        | none => none
      | false => none
    | _ => none
  ok := by
    intro l x h
    split at h
    · split at h
      · rename_i hb
        split at h
        · rename_i y hy
          simp at h; subst h
          exact .cons ⟨Nat.eq_of_beq_eq_true hb, fun N => rfl⟩ (d.ok hy)
        · cases h
      · cases h
    · cases h

/-- In a world that grew, but for a block that is no cells. -/
theorem cells_grown {W W' : World} {row : Option Nat} (hg : W.grownBy W' row) (hr : ∀ r, row = some r → ∃ o : Obj, W.heap[r]? = some o ∧ o.isCells = false) {b : Nat} {cs : Array Value} {T : TypeId} {f : Nat × Nat}
    (h : W.heap[b]? = some (.cells cs T f)) : W'.heap[b]? = some (.cells cs T f) := by
  refine (hg.block b (Array.getElem?_eq_some_iff.1 h).1 fun e => ?_).trans h
  obtain ⟨o, h1, h2⟩ := hr b e.symm
  rw [h] at h1; cases h1; cases h2
theorem ListAt.grown {W W' : World} {row : Option Nat} (hg : W.grownBy W' row) (hr : ∀ r, row = some r → ∃ o : Obj, W.heap[r]? = some o ∧ o.isCells = false) {v : Value} {L : Lst} (h : ListAt W v L) : ListAt W' v L := by
  rcases h with h | ⟨a, cap, h1, h2, h3, h4, h5⟩
  · exact .inl h
  · exact .inr ⟨a, cap, h1, h2, fun hne => Nat.lt_of_lt_of_le (h3 hne) hg.size, fun k x hk j u hj => cell_kept (h4 k x hk j u hj) hg hr, h5⟩
end Go.Proofs.YtlbmjajjldfigaaGreat.Ev
