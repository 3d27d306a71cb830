/-
  The evaluator is sound: what its tree comes to is what the call returns.
-/
import Derived.Test.YtemndghpenbmeaaEvTwo
namespace Go.Proofs.Ytemndghpenbmeaa.Ev
open Go Go.RowKit
universe u

/-- Rows and frame. -/
structure Rel (B : Nat) (w0 : World) (N : List Nm) (s : St) (a : Act) (w : World) : Prop where
  m : RelM B w0 N s.mem w
  t : RelT N s a

section
variable {P : Program} {E : Env} {ρ : Type} {r : ρ} {B : Nat} {w0 : World} {N : List Nm} {s : St} {a : Act} {w : World}

theorem outQ_sound (hT : RelT N s a) {dst : Option Nat} {k : St → Tr ρ} {x : AV} {v : Value} (h : (outQ s dst k x).den = some r) (hx : x.val N = some v) :
    ∃ s', s'.mem = s.mem ∧ s'.n = s.n ∧ RelT N s' (a.put dst v) ∧ (k s').den = some r := by
  unfold outQ at h
  split at h
  · rename_i d
    split at h
    · rename_i hd
      have hd' : d < s.n := by
        have : Nat.ble (d + 1) s.n = true := hd
        exact Nat.le_of_ble_eq_true this
      exact ⟨s.put d x, rfl, rfl, hT.put hd' hx, h⟩
    · cases h
  · exact ⟨s, rfl, rfl, hT, h⟩

theorem op_wp_value {o : Oper} {next : Act → World → Prop} {Q : Exit → Act → World → Prop} {v : Value} {w' : World} (h : (execOp a.eval o).run P w = .ok (.value v) w') (hn : next (a.put o.dst v) w') : o.wp P a w next Q := by
  simp only [Oper.wp, h, Oper.upon]; exact hn
theorem op_wp_skip {o : Oper} {next : Act → World → Prop} {Q : Exit → Act → World → Prop} {w' : World} (h : (execOp a.eval o).run P w = .ok .skip w') (hn : next (a.put o.dst undef) w') : o.wp P a w next Q := by
  simp only [Oper.wp, h, Oper.upon]; exact hn

theorem alloc_eq (w : World) (v : Value) (T : TypeId) : (newVar T v).run P w = .ok ⟨w.heap.size, 0, none⟩ (w.alloc (.cells v.cells T)) := by
  simp [newVar, newRow]

theorem cellsOk_spec {N : List Nm} : ∀ {l : List CV} {vs : List Value}, cellsOk l = true → CV.vals N l = some vs → ∀ v ∈ vs, v.oneCell' = true
  | [], vs, _, h => by simp [CV.vals] at h; subst h; simp
  | c :: q, vs, hc, h => by
    simp only [cellsOk] at hc
    split at hc
    · rename_i h1
      simp only [CV.vals] at h
      split at h
      · rename_i v hv
        split at h
        · rename_i u hu
          simp at h; subst h
          intro x hx
          rcases List.mem_cons.1 hx with rfl | hx
          · cases c with
            | v z => simp [CV.val] at hv; subst hv; cases z <;> simp_all [cellOk, Value.oneCell']
            | k n => simp [CV.val] at hv; subst hv; rfl
            | b n => simp [CV.val] at hv; subst hv; rfl
            | own i off => simp only [CV.val] at hv; split at hv <;> simp at hv; subst hv; rfl
            | el i e sz off => simp only [CV.val] at hv; split at hv <;> simp at hv; subst hv; rfl
            | sl i => simp only [CV.val] at hv; split at hv <;> simp at hv; subst hv; rfl
          · exact cellsOk_spec hc hu x hx
        · cases h
      · cases h
    · cases hc

theorem storeK_sound (hR : Rel B w0 N s a w) {t : TypeId} {x y : AV} {vx vy : Value} {k : St → Tr ρ} (h : (storeK P s t x y k).den = some r) (hx : x.val N = some vx) (hy : y.val N = some vy) :
    ∃ s' w', Rel B w0 N s' a w' ∧ (k s').den = some r ∧ (Instr.storeAt t vx vy).run P w = .ok () w' := by
  unfold storeK at h
  split at h
  · rename_i i off
    split at h
    · rename_i cs hm
      split at h
      · rename_i xs hxs
        split at h
        · rename_i hok
          split at h
          · rename_i n hn
            split at h
            · rename_i hl
              have hl' : n = xs.length := Nat.eq_of_beq_eq_true hl
              split at h
              · rename_i q hq
                simp only [AV.val, CV.val] at hx
                split at hx
                · rename_i bk hb
                  simp at hx; subst hx
                  obtain ⟨b', T, vs, hnn, hB, hvs, hh⟩ := hR.m.row i _ hm
                  rw [hb] at hnn; cases hnn
                  obtain ⟨us, h1, h2⟩ := cells_spec hxs hy
                  obtain ⟨rfl, hlen⟩ := overlay_eq _ _ _ _ hq
                  have l1 := cvs_length h1
                  have l2 := cvs_length hvs
                  have hrun := run_storeCells_at P bk off T us 0 vs.toArray w hh (by simp; omega) (cellsOk_spec hok h1)
                  have hst : (Instr.storeAt t (.pointer (some ⟨bk, off, none⟩)) vy).run P w = .ok () (w.setRow bk (vs.take off ++ us ++ vs.drop (off + us.length)).toArray) := by
                    have hc : vy.cells.size = n := by
                      have : vy.cells.toList.length = us.length := by rw [h2]
                      simp at this; omega
                    simp only [Instr.storeAt, Instr.sureAddr, storeVar, Sem.run_bind, Sem.run_pure, Result.andThen_ok, sizeT_run hn]
                    simp only [hc, ne_eq, not_true, if_false, h2]
                    simpa using hrun
                  have hq' := cvs_append (cvs_append (cvs_take off hvs) h1) (cvs_drop (off + xs.length) hvs)
                  refine ⟨_, _, ⟨?_, ?_⟩, h, hst⟩
                  · rw [← l1] at hq'
                    rw [← l1]
                    refine hR.m.store hm hb hq' (T := T) ?_ ?_ rfl rfl rfl ?_
                    · exact setRow_heap w bk _ _ T _ hh
                    · simp [World.setRow]
                    · intro k hk
                      simp [World.setRow, Array.getElem?_modify, Ne.symm hk]
                  · exact hR.t.mono (NLe.refl N) rfl rfl
                · cases hx
              · cases h
            · cases h
          · cases h
        · cases h
      · cases h
    · cases h
  · cases h

theorem op_sound (hR : Rel B w0 N s a w) (hE : EnvOK P E) {o : Oper} {k : St → Tr ρ} (h : (evOp P E s o.dst o.op o.type k).den = some r) {next : Act → World → Prop} {Q : Exit → Act → World → Prop}
    (hn : ∀ N' s' a' w', Rel B w0 N' s' a' w' → (k s').den = some r → next a' w') : o.wp P a w next Q := by
  unfold evOp at h
  split at h
  · rename_i t ho
    split at h
    · rename_i z hz
      obtain ⟨v, h1, h2⟩ := zeroT_run hz w
      have hM := hR.m.alloc (cvs_mapV (N := N) z) t
      have hT := hR.t.mono (s' := { s with mem := s.mem ++ [.box (z.map CV.v)] }) (NLe.append N [.blk w.heap.size]) rfl rfl
      have hval : (AV.c (.own s.mem.length 0)).val (N ++ [Nm.blk w.heap.size]) = some (.pointer (some ⟨w.heap.size, 0, none⟩)) := by
        have := nth_last N (Nm.blk w.heap.size)
        rw [hR.m.len] at this
        simp [AV.val, CV.val, this]
      obtain ⟨s', e1, e2, e3, e4⟩ := outQ_sound hT h hval
      refine op_wp_value (w' := w.alloc (.cells z.toArray t)) ?_ (hn _ s' _ _ ⟨by rw [e1]; exact hM, e3⟩ e4)
      have hc : v.cells = z.toArray := by rw [← h2]
      simp [execOp, ho, Instr.alloc, h1, alloc_eq, hc]
    · cases h
  · rename_i t x ho
    split at h
    · rename_i y hy
      split at h
      · rename_i cs hcs
        obtain ⟨vs, h1, h2⟩ := cells_spec hcs (opnd_val hR.t hy)
        have hM := hR.m.alloc h1 t
        have hT := hR.t.mono (s' := { s with mem := s.mem ++ [.box cs] }) (NLe.append N [.blk w.heap.size]) rfl rfl
        have hval : (AV.c (.own s.mem.length 0)).val (N ++ [Nm.blk w.heap.size]) = some (.pointer (some ⟨w.heap.size, 0, none⟩)) := by
          have := nth_last N (Nm.blk w.heap.size)
          rw [hR.m.len] at this
          simp [AV.val, CV.val, this]
        obtain ⟨s', e1, e2, e3, e4⟩ := outQ_sound hT h hval
        refine op_wp_value (w' := w.alloc (.cells vs.toArray t)) ?_ (hn _ s' _ _ ⟨by rw [e1]; exact hM, e3⟩ e4)
        have hc : (a.eval x).cells = vs.toArray := by rw [← h2]
        simp [execOp, ho, Instr.box, alloc_eq, hc]
      · cases h
    · cases h
  · rename_i t x y ho
    split at h
    · rename_i xa hxa
      split at h
      · rename_i ya hya
        obtain ⟨s1, w1, hR1, h1, h2⟩ := storeK_sound hR h (opnd_val hR.t hxa) (opnd_val hR.t hya)
        obtain ⟨s', e1, e2, e3, e4⟩ := outQ_sound hR1.t h1 (v := undef) rfl
        refine op_wp_skip (w' := w1) ?_ (hn _ s' _ _ ⟨by rw [e1]; exact hR1.m, e3⟩ e4)
        simp [execOp, ho, h2]
      · cases h
    · cases h
  · rename_i f args at_ ho
    split at h
    · rename_i g caps hg
      split at h
      · rename_i l hl
        split at h
        · rename_i α x vf hq
          unfold Tr.den at h
          dsimp only at h
          obtain ⟨vs, h1, h2⟩ := call_run hR.t hE hg hl hq o at_ ho
          simp only [Oper.wp, h2 w, Oper.upon]
          refine (hE.pure _ _ _ _ _ _ hq B w0 N w vs hR.m h1).mono ?_
          rintro e w' ⟨rfl, hM'⟩
          obtain ⟨s', e1, e2, e3, e4⟩ := outQ_sound hR.t h (ofVal_val N _)
          exact hn _ s' _ _ ⟨by rw [e1]; exact hM', e3⟩ e4
        · rename_i b α x vf hq
          cases b
          · unfold Tr.den at h; unfold Tr.den at h; cases h
          unfold Tr.den at h
          dsimp only at h
          unfold Tr.den at h
          dsimp only at h
          obtain ⟨vs, h1, h2⟩ := call_run hR.t hE hg hl hq o at_ ho
          simp only [Oper.wp, h2 w, Oper.upon]
          refine (hE.pre _ _ _ _ _ _ hq B w0 N w vs hR.m h1).mono ?_
          rintro e w' ⟨rfl, hM'⟩
          obtain ⟨s', e1, e2, e3, e4⟩ := outQ_sound hR.t h (ofVal_val N _)
          exact hn _ s' _ _ ⟨by rw [e1]; exact hM', e3⟩ e4
        · rename_i α x av rows hq
          unfold Tr.den at h
          dsimp only at h
          obtain ⟨vs, h1, h2⟩ := call_run hR.t hE hg hl hq o at_ ho
          simp only [Oper.wp, h2 w, Oper.upon]
          refine (hE.rows _ _ _ _ _ _ _ hq B w0 N w vs hR.m h1).mono ?_
          rintro e w' ⟨N', v, hN, hv, rfl, hM'⟩
          have hT := hR.t.mono (s' := { s with mem := s.mem ++ rows x }) hN rfl rfl
          obtain ⟨s', e1, e2, e3, e4⟩ := outQ_sound hT h hv
          exact hn _ s' _ _ ⟨by rw [e1]; exact hM', e3⟩ e4
        · cases h
      · cases h
    · cases h
  · obtain ⟨y, v, h1, h2, h3⟩ := quiet_sound hR.m hR.t hE h
    refine Oper.wp_of_quiet (C := RelM B w0 N s.mem) (K := fun a' => a' = a.put o.dst v) hR.m ?_ ⟨v, h3, rfl⟩
    rintro a' w' hw' rfl
    obtain ⟨s', e1, e2, e3, e4⟩ := outQ_sound hR.t h1 h2
    exact hn _ s' _ _ ⟨by rw [e1]; exact hw', e3⟩ e4

theorem guard_sound (hT : RelT N s a) {ops : Array Oper} {o : Oper} {run skip : St → Tr ρ} (h : (guardK ops.toList s o.guard run skip).den = some r) :
    (Region.wanted o (yielded ops a.tmps) = true ∧ ∃ s', s'.mem = s.mem ∧ s'.n = s.n ∧ RelT N s' a ∧ (run s').den = some r) ∨
    (Region.wanted o (yielded ops a.tmps) = false ∧ ∃ s', s'.mem = s.mem ∧ s'.n = s.n ∧ RelT N s' a ∧ (skip s').den = some r) := by
  unfold guardK at h
  split at h
  · rename_i hg
    exact .inl ⟨by simp [Region.wanted, hg], s, rfl, rfl, hT, h⟩
  · rename_i j want hg
    split at h
    · rename_i oj hj
      rw [nth_eq] at hj
      have hj' : ops[j]? = some oj := by simpa using hj
      split at h
      · rename_i d hd
        have hy : ∀ v, a.tmps[d]? = some v → yielded ops a.tmps j = match v with | .bool b => some b | _ => none := by
          intro v hv
          simp only [yielded, hj', Option.bind_some, hd, hv]
          cases v <;> rfl
        have hwant : ∀ v, a.tmps[d]? = some v → Region.wanted o (yielded ops a.tmps) = ((match v with | .bool b => some b | _ => none) == some want) := by
          intro v hv
          simp only [Region.wanted, hg, hy v hv]
        split at h
        · rename_i x hx
          obtain ⟨v, h1, h2⟩ := hT.look d _ hx
          simp [AV.val, CV.val] at h1; subst h1
          have := hwant _ h2
          split at h
          · exact .inl ⟨by rw [this]; rfl, s, rfl, rfl, hT, h⟩
          · exact .inl ⟨by rw [this]; rfl, s, rfl, rfl, hT, h⟩
          · rename_i n1 n2
            refine .inr ⟨?_, s, rfl, rfl, hT, h⟩
            rw [this]
            cases x <;> cases want <;> simp_all
        · rename_i x hx
          obtain ⟨v, h1, h2⟩ := hT.look d _ hx
          simp [AV.val, CV.val] at h1; subst h1
          have := hwant _ h2
          split at h
          · unfold Tr.den at h
            cases x
            · exact .inr ⟨by rw [this]; rfl, s.put d (.c (.b false)), rfl, rfl, hT.same rfl h2, h⟩
            · exact .inl ⟨by rw [this]; rfl, s.put d (.c (.b true)), rfl, rfl, hT.same rfl h2, h⟩
          · unfold Tr.den at h
            cases x
            · exact .inl ⟨by rw [this]; rfl, s.put d (.c (.b false)), rfl, rfl, hT.same rfl h2, h⟩
            · exact .inr ⟨by rw [this]; rfl, s.put d (.c (.b true)), rfl, rfl, hT.same rfl h2, h⟩
        · rename_i x hx
          obtain ⟨v, h1, h2⟩ := hT.look d _ hx
          simp [AV.val, CV.val] at h1; subst h1
          exact .inr ⟨by rw [hwant _ h2]; rfl, s, rfl, rfl, hT, h⟩
        · cases h
      · cases h
    · cases h

theorem skip_sound (hT : RelT N s a) {dst : Option Nat} {k : St → Tr ρ} (h : (skipK s dst k).den = some r) :
    ∃ s', s'.mem = s.mem ∧ s'.n = s.n ∧ RelT N s' (a.put dst undef) ∧ (k s').den = some r :=
  outQ_sound (x := .c (.v undef)) (v := undef) hT h rfl

theorem ops_sound (hE : EnvOK P E) {ops : Array Oper} {Q : Exit → Act → World → Prop} {k : St → Tr ρ} : ∀ (l : List Oper) {N : List Nm} {s : St} {a : Act} {w : World}, Rel B w0 N s a w → (evOps P E ops.toList l s k).den = some r →
    (∀ N' s' a' w', Rel B w0 N' s' a' w' → (k s').den = some r → Q .normal a' w') → wpList P ops Q l a w
  | [], N, s, a, w, hR, h, hk => hk N s a w hR h
  | o :: l, N, s, a, w, hR, h, hk => by
    simp only [evOps] at h
    simp only [wpList]
    rcases guard_sound hR.t h with ⟨hw, s1, e1, e2, e3, e4⟩ | ⟨hw, s1, e1, e2, e3, e4⟩
    · rw [if_pos hw]
      refine .inl (op_sound (s := s1) ⟨by rw [e1]; exact hR.m, e3⟩ hE e4 ?_)
      intro N' s' a' w' hR' h'
      exact ops_sound hE l hR' h' hk
    · rw [if_neg (by simp [hw])]
      obtain ⟨s2, f1, f2, f3, f4⟩ := skip_sound e3 e4
      exact ops_sound hE l ⟨by rw [f1, e1]; exact hR.m, f3⟩ f4 hk

theorem opsQ_sound (hE : EnvOK P E) {w1 : World} {ops : Array Oper} {Q : Act → Prop} {k : St → Tr ρ} {M : List Row} (hM : RelM B w0 N M w1) : ∀ (l : List Oper) {s : St} {a : Act}, s.mem = M → RelT N s a → (evOpsQ P E ops.toList l s k).den = some r →
    (∀ s' a', s'.mem = M → RelT N s' a' → (k s').den = some r → Q a') → wpQuiet P ops (RelM B w0 N M) Q l a
  | [], s, a, hs, hT, h, hk => hk s a hs hT h
  | o :: l, s, a, hs, hT, h, hk => by
    simp only [evOpsQ] at h
    simp only [wpQuiet]
    rcases guard_sound hT h with ⟨hw, s1, e1, e2, e3, e4⟩ | ⟨hw, s1, e1, e2, e3, e4⟩
    · rw [if_pos hw]
      have hm1 : s1.mem = M := e1.trans hs
      obtain ⟨y, v, h1, h2, h3⟩ := quiet_sound (s := s1) (by rw [hm1]; exact hM) e3 hE e4
      rw [hm1] at h3
      refine ⟨v, h3, ?_⟩
      obtain ⟨s2, f1, f2, f3, f4⟩ := outQ_sound e3 h1 h2
      exact opsQ_sound hE hM l (f1.trans hm1) f3 f4 hk
    · rw [if_neg (by simp [hw])]
      obtain ⟨s2, f1, f2, f3, f4⟩ := skip_sound e3 e4
      exact opsQ_sound hE hM l (f1.trans (e1.trans hs)) f3 f4 hk

theorem cond_sound (hT : RelT N s a) {c : Operand} {t e : St → Tr ρ} (h : (condK s c t e).den = some r) :
    (a.eval c = .bool true ∧ ∃ s', s'.mem = s.mem ∧ RelT N s' a ∧ (t s').den = some r) ∨ (a.eval c = .bool false ∧ ∃ s', s'.mem = s.mem ∧ RelT N s' a ∧ (e s').den = some r) := by
  unfold condK at h
  split at h
  · rename_i d
    have key : ∀ x v, look s.tmps d = some x → x.val N = some v → a.tmps[d]? = some v ∧ a.eval (.tmp d) = v := by
      intro x v hx hv
      obtain ⟨u, h1, h2⟩ := hT.look d x hx
      rw [hv] at h1; cases h1
      exact ⟨h2, by simp [Act.eval, h2]⟩
    split at h
    · rename_i hx; exact .inl ⟨(key _ _ hx rfl).2, s, rfl, hT, h⟩
    · rename_i hx; exact .inr ⟨(key _ _ hx rfl).2, s, rfl, hT, h⟩
    · rename_i x hx
      obtain ⟨h1, h2⟩ := key _ _ hx rfl
      unfold Tr.den at h
      cases x
      · exact .inr ⟨h2, s.put d (.c (.b false)), rfl, hT.same rfl h1, h⟩
      · exact .inl ⟨h2, s.put d (.c (.b true)), rfl, hT.same rfl h1, h⟩
    · cases h
  · exact .inl ⟨rfl, s, rfl, hT, h⟩
  · exact .inr ⟨rfl, s, rfl, hT, h⟩
  · cases h
end

/-! ### Scopes -/

/-- Runs in a scope, with at most so many jumps. -/
def jumps (P : Program) (c : Code) (Q : Exit → Act → World → Prop) : Nat → Code → Act → World → Prop
  | 0, _, _, _ => False
  | n + 1, rest, a, w => rest.wp P (fun e a w => match e with
    | .goto l => ∃ q, findLabel c l = some q ∧ jumps P c Q n q a w
    | e => Q e a w) a w

theorem wp_scope_n {P : Program} {c : Code} {Q : Exit → Act → World → Prop} {a : Act} {w : World} (n : Nat) (h : jumps P c Q n c a w) : (Code.scope c).wp P Q a w := by
  intro b k cs
  have key : ∀ n rest a w, jumps P c Q n rest a w → ∃ e a' w', Q e a' w' ∧ Arrives P (lone (b.at a (.code rest :: .inScope c :: k)) cs w) b k cs e a' w' := by
    intro n
    induction n with
    | zero => intro rest a w h; exact h.elim
    | succ n ih =>
      intro rest a w h
      obtain ⟨e, a₁, w₁, hq, harr⟩ := h b (.inScope c :: k) cs
      cases e with
      | normal => exact ⟨.normal, a₁, w₁, hq, Steps.trans harr (.one step_inScope)⟩
      | exit id => exact ⟨.exit id, a₁, w₁, hq, fun k' hk => harr k' (by simp [exitTo, hk])⟩
      | goto l =>
        obtain ⟨q, hf, hj⟩ := hq
        obtain ⟨e₂, a₂, w₂, hq₂, harr₂⟩ := ih q a₁ w₁ hj
        exact ⟨e₂, a₂, w₂, hq₂, .of_steps (harr _ (by simp [gotoIn, hf])) harr₂⟩
      | ret => exact ⟨_, a₁, w₁, hq, harr⟩
      | panic ch => exact ⟨_, a₁, w₁, hq, harr⟩
      | outgrown => exact ⟨_, a₁, w₁, hq, harr⟩
  obtain ⟨e, a', w', hq, harr⟩ := key n c a w h
  exact ⟨e, a', w', hq, .of_steps (.one step_scope) harr⟩

section
variable {P : Program} {E : Env} {ρ : Type} {r : ρ} {B : Nat} {w0 : World}

def Post (B : Nat) (w0 : World) (r : ρ) (k : Exit → St → Tr ρ) (Q : Exit → Act → World → Prop) : Prop :=
  ∀ e N s a w, Rel B w0 N s a w → (k e s).den = some r → Q e a w

theorem ev_sound (hE : EnvOK P E) : ∀ (n : Nat),
    (∀ (c : Code) {N : List Nm} {s : St} {a : Act} {w : World} {k : Exit → St → Tr ρ} {Q : Exit → Act → World → Prop}, Rel B w0 N s a w → (ev P E n none c s k).den = some r → Post B w0 r k Q → c.wp P Q a w) ∧
    (∀ (c b : Code) {N : List Nm} {s : St} {a : Act} {w : World} {k : Exit → St → Tr ρ} {Q : Exit → Act → World → Prop}, Rel B w0 N s a w → (ev P E n (some b) c s k).den = some r → Post B w0 r k Q → jumps P b Q n c a w) ∧
    (∀ (b : Code) {N : List Nm} {s : St} {a : Act} {w : World} {k : Exit → St → Tr ρ} {Q : Exit → Act → World → Prop}, Rel B w0 N s a w → (ev P E n none (.loop b) s k).den = some r → Post B w0 r k Q → Code.rounds P b Q n a w)
  | 0 => ⟨fun c N s a w k Q hR h _ => by simp [ev, Tr.den] at h, fun c b N s a w k Q hR h _ => by simp [ev, Tr.den] at h, fun b N s a w k Q hR h _ => by simp [ev, Tr.den] at h⟩
  | n + 1 => by
    obtain ⟨ih1, ih2, ih3⟩ := ev_sound hE n
    have loops : ∀ (b : Code) {N : List Nm} {s : St} {a : Act} {w : World} {k : Exit → St → Tr ρ} {Q : Exit → Act → World → Prop}, Rel B w0 N s a w → (ev P E (n + 1) none (.loop b) s k).den = some r → Post B w0 r k Q → Code.rounds P b Q (n + 1) a w := by
      intro b N s a w k Q hR h hk
      simp only [ev] at h
      rw [rounds_succ]
      refine ih1 b hR h ?_
      intro e N' s' a' w' hR' h'
      cases e with
      | normal => exact ih3 b hR' h' hk
      | exit i => exact hk _ _ _ _ _ hR' h'
      | goto l => exact hk _ _ _ _ _ hR' h'
      | ret => exact hk _ _ _ _ _ hR' h'
      | panic ch => exact hk _ _ _ _ _ hR' h'
      | outgrown => exact hk _ _ _ _ _ hR' h'
    refine ⟨?_, ?_, loops⟩
    · intro c N s a w k Q hR h hk
      cases c with
      | skip => exact wp_skip (hk _ _ _ _ _ hR (by simpa only [ev] using h))
      | label l => exact wp_label (hk _ _ _ _ _ hR (by simpa only [ev] using h))
      | exit i => exact wp_exit (hk _ _ _ _ _ hR (by simpa only [ev] using h))
      | ret => exact wp_ret (hk _ _ _ _ _ hR (by simpa only [ev] using h))
      | goto l => exact wp_goto (hk _ _ _ _ _ hR (by simpa only [ev] using h))
      | refuse why => simp [ev, Tr.den] at h
      | rangeFunc f ps x y => simp [ev, Tr.den] at h
      | region id ops draw =>
        cases draw with
        | false =>
          simp only [ev] at h
          exact wp_region_list (ops_sound hE _ hR h fun N' s' a' w' hR' h' => hk _ _ _ _ _ hR' h')
        | true =>
          simp only [ev] at h
          split at h
          · rename_i hm
            split at h
            · rename_i hB
              refine wp_region_quiet (C := RelM B w0 N s.mem) hm hB hR.m.drew ?_
              refine opsQ_sound hE hR.m _ rfl hR.t h ?_
              intro s' a' hs hT h' w' hw'
              exact hk _ _ _ _ _ ⟨by rw [hs]; exact hw', hT⟩ h'
            · simp [Tr.den] at h
          · simp [Tr.den] at h
      | seq x y =>
        simp only [ev] at h
        refine wp_seq (ih1 x hR h ?_)
        intro e N' s' a' w' hR' h'
        cases e with
        | normal => exact ih1 y hR' h' hk
        | exit i => exact hk _ _ _ _ _ hR' h'
        | goto l => exact hk _ _ _ _ _ hR' h'
        | ret => exact hk _ _ _ _ _ hR' h'
        | panic ch => exact hk _ _ _ _ _ hR' h'
        | outgrown => exact hk _ _ _ _ _ hR' h'
      | cond c x y =>
        simp only [ev] at h
        rcases cond_sound hR.t h with ⟨hc, s', e1, e2, e3⟩ | ⟨hc, s', e1, e2, e3⟩
        · exact wp_cond_true hc (ih1 x ⟨by rw [e1]; exact hR.m, e2⟩ e3 hk)
        · exact wp_cond_false hc (ih1 y ⟨by rw [e1]; exact hR.m, e2⟩ e3 hk)
      | block id b =>
        simp only [ev] at h
        refine wp_block (ih1 b hR h ?_)
        intro e N' s' a' w' hR' h'
        cases e with
        | normal => exact hk _ _ _ _ _ hR' h'
        | exit j =>
          simp only [Exit.inBlock]
          by_cases hj : j = id
          · subst hj
            simp only [Nat.beq_refl] at h'
            simp only [if_true]
            exact hk _ _ _ _ _ hR' h'
          · have : Nat.beq j id = false := by
              cases hb : Nat.beq j id with
              | false => rfl
              | true => exact absurd (Nat.eq_of_beq_eq_true hb) hj
            simp only [this] at h'
            simp only [hj, if_false]
            exact hk _ _ _ _ _ hR' h'
        | goto l => exact hk _ _ _ _ _ hR' h'
        | ret => exact hk _ _ _ _ _ hR' h'
        | panic ch => exact hk _ _ _ _ _ hR' h'
        | outgrown => exact hk _ _ _ _ _ hR' h'
      | loop b => exact wp_loop_rounds (n + 1) (loops b hR h hk)
      | scope b =>
        simp only [ev] at h
        exact wp_scope_n n (ih2 b b hR h hk)
    · intro c b N s a w k Q hR h hk
      simp only [ev] at h
      simp only [jumps]
      refine ih1 c hR h ?_
      intro e N' s' a' w' hR' h'
      cases e with
      | normal => exact hk _ _ _ _ _ hR' h'
      | exit i => exact hk _ _ _ _ _ hR' h'
      | goto l =>
        dsimp only at h'
        split at h'
        · rename_i rest hf
          exact ⟨rest, hf, ih2 rest b hR' h' hk⟩
        · simp [Tr.den] at h'
      | ret => exact hk _ _ _ _ _ hR' h'
      | panic ch => exact hk _ _ _ _ _ hR' h'
      | outgrown => exact hk _ _ _ _ _ hR' h'
end
end Go.Proofs.Ytemndghpenbmeaa.Ev
