/-
  Regions that draw their order: where the operations' edges order all that touches the same, every order comes to what the text's order comes to.
-/
import Derived.Test.YtlbmjajjldfigaaGreatEvThree
import Derived.StillTail
namespace Go.Proofs.YtlbmjajjldfigaaGreat.Ev
open Go Go.RowKit
universe u

instance : Inhabited Acc := ⟨⟨.c (.v undef), .none, []⟩⟩

/-! ### Looks at lists -/

theorem memNat_iff (x : Nat) : ∀ (l : List Nat), memNat x l = true ↔ x ∈ l
  | [] => by simp [memNat]
  | y :: r => by
    simp only [memNat]
    cases h : Nat.beq x y with
    | true => have := Nat.eq_of_beq_eq_true h; simp [this]
    | false =>
      have hne : x ≠ y := fun e => by subst e; rw [Nat.beq_refl] at h; cases h
      simp [memNat_iff x r, hne]

theorem look_restT (ts : List Nat) : ∀ (l : List (Nat × AV)) (t : Nat) (x : AV), look (restT ts l) t = some x → t ∈ ts ∧ look l t = some x
  | [], t, x, h => by simp [restT, look] at h
  | (d, y) :: r, t, x, h => by
    simp only [restT] at h
    split at h
    · rename_i hm
      rw [look_cons] at h
      rw [look_cons]
      by_cases e : d = t
      · subst e; simp at h ⊢; exact ⟨(memNat_iff _ _).1 hm, h⟩
      · simp [e] at h ⊢; exact look_restT ts r t x h
    · rename_i hm
      obtain ⟨h1, h2⟩ := look_restT ts r t x h
      refine ⟨h1, ?_⟩
      rw [look_cons]
      by_cases e : d = t
      · subst e; rw [(memNat_iff _ _).2 h1] at hm; cases hm
      · simp [e, h2]

theorem restM_spec (keep : List Nat) : ∀ (M : List Row) (i c : Nat) (r : Row), nth (restM keep i M) c = some r → r = .dead ∨ (nth M c = some r ∧ (r.hid = true → i + c ∈ keep))
  | [], i, c, r, h => by simp [restM, nth] at h
  | x :: M, i, c, r, h => by
    have tail : ∀ y, restM keep i (x :: M) = y :: restM keep (i + 1) M → (c = 0 → y = .dead ∨ (x = y ∧ (y.hid = true → i ∈ keep))) → r = .dead ∨ (nth (x :: M) c = some r ∧ (r.hid = true → i + c ∈ keep)) := by
      intro y hy h0
      rw [hy] at h
      cases c with
      | zero =>
        simp [nth] at h; subst h
        rcases h0 rfl with h0 | ⟨h0, h1⟩
        · exact .inl h0
        · exact .inr ⟨by simp [nth, h0], fun hc => by simpa using h1 hc⟩
      | succ c =>
        rcases restM_spec keep M (i + 1) c r (by simpa [nth] using h) with h1 | ⟨h1, h2⟩
        · exact .inl h1
        · exact .inr ⟨by simpa [nth] using h1, fun hc => by have := h2 hc; rwa [show i + 1 + c = i + (c + 1) by omega] at this⟩
    cases x with
    | box cs =>
      cases hm : memNat i keep with
      | true => exact tail (.box cs) (by simp [restM, hm]) fun _ => .inr ⟨rfl, fun _ => (memNat_iff _ _).1 hm⟩
      | false => exact tail .dead (by simp [restM, hm]) fun _ => .inl rfl
    | grow L e =>
      cases hm : memNat i keep with
      | true => exact tail (.grow L e) (by simp [restM, hm]) fun _ => .inr ⟨rfl, fun _ => (memNat_iff _ _).1 hm⟩
      | false => exact tail .dead (by simp [restM, hm]) fun _ => .inl rfl
    | list L =>
      cases hh : L.k.hid with
      | true =>
        cases hm : memNat i keep with
        | true => exact tail (.list L) (by simp [restM, hh, hm]) fun _ => .inr ⟨rfl, fun _ => (memNat_iff _ _).1 hm⟩
        | false => exact tail .dead (by simp [restM, hh, hm]) fun _ => .inl rfl
      | false => exact tail (.list L) (by simp [restM, hh]) fun _ => .inr ⟨rfl, fun hc => by simp [Row.hid, hh] at hc⟩
    | ro L => exact tail (.ro L) (by simp [restM]) fun _ => .inr ⟨rfl, fun hc => by cases hc⟩
    | nilr => exact tail .nilr (by simp [restM]) fun _ => .inr ⟨rfl, fun hc => by cases hc⟩
    | dead => exact tail .dead (by simp [restM]) fun _ => .inl rfl
theorem length_restM (keep : List Nat) : ∀ (M : List Row) (i : Nat), (restM keep i M).length = M.length
  | [], i => rfl
  | x :: M, i => by cases x <;> simp [restM, length_restM keep M]

theorem allI_spec {α : Type} (f : Nat → α → Bool) : ∀ (l : List α) (k i : Nat) (x : α), allI f k l = true → l[i]? = some x → f (k + i) x = true
  | [], k, i, x, _, hx => by simp at hx
  | y :: r, k, i, x, h, hx => by
    simp only [allI] at h
    split at h
    · rename_i hf
      cases i with
      | zero => simp at hx; subst hx; simpa using hf
      | succ i => have := allI_spec f r (k + 1) i x h (by simpa using hx); rwa [show k + 1 + i = k + (i + 1) by omega] at this
    · cases h
theorem zipA_get : ∀ (l : List Oper) (q : List Acc) (i : Nat) (o : Oper) (x : Acc), l[i]? = some o → q[i]? = some x → (zipA l q)[i]? = some (o, x)
  | [], q, i, o, x, h, _ => by simp at h
  | _ :: _, [], i, o, x, _, h => by simp at h
  | a :: l, b :: q, 0, o, x, h, h' => by simp at h h'; simp [zipA, h, h']
  | a :: l, b :: q, i + 1, o, x, h, h' => by simp only [zipA, List.getElem?_cons_succ]; exact zipA_get l q i o x (by simpa using h) (by simpa using h')

section
variable {P : Program} {E : Env} {ρ : Type} {r : ρ} {B : Nat} {w0 : World}

/-- Fewer rows. -/
theorem RelM.restrict {N : List Nm} {M M' : List Row} {w : World} (h : RelM B w0 N M w) (hl : M'.length = M.length) (hr : ∀ c x, nth M' c = some x → x = .dead ∨ nth M c = some x) : RelM B w0 N M' w where
  below := h.below
  base := h.base
  len := h.len.trans hl.symm
  row := fun i x hx => by
    rcases hr i x hx with rfl | h1
    · trivial
    · exact h.row i x h1
  sep := fun i j x y b hx hy hij hw hb hb' => by
    rcases hr i x hx with rfl | h1
    · cases hw
    rcases hr j y hy with rfl | h2
    · simp [blkOf] at hb'
    · exact h.sep i j x y b h1 h2 hij hw hb hb'

/-- Lists that may grow are lists. -/
theorem softM_nth : ∀ (M : List Row) (i : Nat) (r : Row), nth (softM M) i = some r → nth M i = some r ∨ ∃ L e, nth M i = some (.grow L e) ∧ r = .list L
  | [], i, r, h => by simp [softM, nth] at h
  | x :: M, 0, r, h => by
    cases x <;> simp [softM, nth] at h ⊢
    case grow L e =>
      subst h
      cases hh : L.k.hid <;> simp
    all_goals exact h
  | x :: M, i + 1, r, h => by
    have h' : nth (softM M) i = some r := by cases x <;> simpa [softM, nth] using h
    simpa [nth] using softM_nth M i r h'
theorem softM_length : ∀ M : List Row, (softM M).length = M.length
  | [] => rfl
  | x :: M => by cases x <;> simp [softM, softM_length M]
theorem RelM.soft {N : List Nm} {M : List Row} {w : World} (h : RelM B w0 N M w) : RelM B w0 N (softM M) w := by
  have key : ∀ i r, nth (softM M) i = some r → ∃ q, nth M i = some q ∧ (r.writable = true → q.writable = true) ∧ ∀ b, blkOf N i r = some b → blkOf N i q = some b := by
    intro i r hi
    rcases softM_nth M i r hi with h1 | ⟨L, e, h1, rfl⟩
    · exact ⟨r, h1, id, fun _ hb => hb⟩
    · refine ⟨_, h1, (fun hw => by cases hw), fun b hb => ?_⟩
      simp only [blkOf] at hb ⊢
      split at hb
      · cases hb
      · exact hb
  refine ⟨h.below, h.base, by rw [softM_length]; exact h.len, ?_, ?_⟩
  · intro i r hi
    rcases softM_nth M i r hi with h1 | ⟨L, e, h1, rfl⟩
    · exact h.row i r h1
    · have hl : lstOf M i = some L := by unfold lstOf; rw [h1]
      obtain ⟨a, n, cap, h2, h3⟩ := lst_at h hl
      exact ⟨a, n, cap, h2, h3⟩
  · intro i j r q b hi hj hij hw hb hb'
    obtain ⟨r1, a1, a2, a3⟩ := key i r hi
    obtain ⟨q1, b1, _, b3⟩ := key j q hj
    exact h.sep i j r1 q1 b a1 b1 hij (a2 hw) (a3 b hb) (b3 b hb')
theorem Rel.soft {N : List Nm} {s : St} {a : Act} {w : World} (ops : List Oper) (h : Rel B w0 N s a w) : Rel B w0 N (Ev.soft ops s) a w := by
  unfold Ev.soft
  split
  · exact ⟨h.m.soft, h.t.defers, h.t.size, h.t.look⟩
  · exact h

/-- Room for names to come. -/
theorem RelM.room {N : List Nm} {M : List Row} {w : World} (h : RelM B w0 N M w) : ∀ k, RelM B w0 (N ++ List.replicate k .none) (M ++ deads k) w := by
  intro k
  have hd : ∀ k c x, nth (deads k) c = some x → x = .dead := by
    intro k
    induction k with
    | zero => intro c x hx; simp [deads, nth] at hx
    | succ k ih =>
      intro c x hx
      cases c with
      | zero => simp [deads, nth] at hx; exact hx.symm
      | succ c => exact ih c x (by simpa [deads, nth] using hx)
  have hlen : ∀ k, (deads k).length = k := by
    intro k; induction k with
    | zero => rfl
    | succ k ih => simp [deads, ih]
  have back : ∀ c x, nth (M ++ deads k) c = some x → x = .dead ∨ nth M c = some x := by
    intro c x hx
    by_cases hc : c < M.length
    · rw [nth_eq, List.getElem?_append_left hc, ← nth_eq] at hx; exact .inr hx
    · rw [nth_eq, List.getElem?_append_right (by omega), ← nth_eq] at hx; exact .inl (hd _ _ _ hx)
  have hN : NLe N (N ++ List.replicate k Nm.none) := NLe.append _ _
  refine ⟨h.below, h.base, by simp [h.len, hlen], ?_, ?_⟩
  · intro i x hx
    rcases back i x hx with rfl | h1
    · trivial
    · exact (h.row i x h1).keep hN (Nat.le_refl _) fun b _ => rfl
  · intro i j x y b hx hy hij hw hb hb'
    rcases back i x hx with rfl | h1
    · cases hw
    rcases back j y hy with rfl | h2
    · simp [blkOf] at hb'
    · exact h.sep i j x y b h1 h2 hij hw (blkOf_back hN (h.row i x h1) hb) (blkOf_back hN (h.row j y h2) hb')

theorem nth_setNth_self {α : Type u} {l : List α} {i : Nat} {y : α} (h : nth l i = some y) (x : α) : nth (setNth l i x) i = some x := by
  have := nth_lt h
  rw [nth_eq, setNth_eq]; simp [this]
theorem nth_setNth_ne {α : Type u} {l : List α} {i j : Nat} (h : i ≠ j) (x : α) : nth (setNth l i x) j = nth l j := by
  rw [nth_eq, nth_eq, setNth_eq]; simp [h]

/-- A row of its own, in blocks of its own, or in that of a row that is not written. -/
def RowNew (w w' : World) (N : List Nm) (M : List Row) (m : Nat) (nm : Nm) (r : Row) : Prop :=
  ∀ N', NLe N N' → nth N' m = some nm → RowOK w.heap.size N' w' m r ∧ ∀ b, blkOf N' m r = some b → w.heap.size ≤ b ∨ (r.writable = false ∧ ∃ i q, nth M i = some q ∧ q.writable = false ∧ blkOf N i q = some b)

/-- A new row in a place that was kept for it. -/
theorem RelM.fresh {N : List Nm} {M : List Row} {w w' : World} (h : RelM B w0 N M w) {m : Nat} (hN : nth N m = some .none) (hM : nth M m = some .dead) {nm : Nm} {r' : Row} (hb : Below w.heap.size w w') (hr : RowNew w w' N M m nm r') :
    NLe N (setNth N m nm) ∧ RelM B w0 (setNth N m nm) (setNth M m r') w' := by
  have hle : NLe N (setNth N m nm) := by
    intro i x hx hn
    by_cases e : m = i
    · subst e; rw [hN] at hx; cases hx; exact absurd rfl hn
    · rw [nth_setNth_ne e]; exact hx
  refine ⟨hle, ?_⟩
  have hnew : nth (setNth N m nm) m = some nm := nth_setNth_self hN _
  obtain ⟨hrow, hblk⟩ := hr _ hle hnew
  refine ⟨h.below.trans (belowO_of hb h.base), Nat.le_trans h.base hb.size, by rw [length_setNth, length_setNth]; exact h.len, ?_, ?_⟩
  · intro i r hi
    rcases nth_setNth_cases hi with ⟨rfl, rfl, _⟩ | ⟨hne, h1⟩
    · exact hrow.base_le h.base
    · exact (h.row i r h1).keep hle hb.size fun b hbb => hb.block b ((h.row i r h1).blk_lt hbb)
  · intro i j r q b hi hq hij hw hbi hbq
    rcases nth_setNth_cases hi with ⟨rfl, rfl, _⟩ | ⟨hne, h1⟩
    · rcases hblk b hbi with h4 | ⟨h4, _⟩
      · rcases nth_setNth_cases hq with ⟨rfl, _⟩ | ⟨_, h2⟩
        · exact hij rfl
        · have := (h.row j q h2).blk_lt (blkOf_back hle (h.row j q h2) hbq); omega
      · rw [h4] at hw; cases hw
    · have hbi2 := blkOf_back hle (h.row i r h1) hbi
      have hlt2 := (h.row i r h1).blk_lt hbi2
      rcases nth_setNth_cases hq with ⟨rfl, rfl, _⟩ | ⟨_, h2⟩
      · rcases hblk b hbq with h4 | ⟨_, i0, q0, h5, h6, h7⟩
        · omega
        · have hne0 : i ≠ i0 := by
            rintro rfl
            rw [h1] at h5; cases h5
            rw [h6] at hw; cases hw
          exact h.sep i i0 r q0 b h1 h5 hne0 hw hbi2 h7
      · exact h.sep i j r q b h1 h2 hij hw hbi2 (blkOf_back hle (h.row j q h2) hbq)

/-! ### The text's order -/

def GuardF (ops : Array Oper) (o : Oper) (s : St) (g : Bool) : Prop :=
  ∀ (a : Act), (∀ j want, o.guard = some (j, want) → ∀ oj, ops[j]? = some oj → ∀ d, oj.dst = some d → ∀ x, look s.tmps d = some x → ∀ v, (∀ N, x.val N = some v) → a.tmps[d]? = some v) →
    Region.wanted o (yielded ops a.tmps) = g

/-- What is known of one operation, looked at alone. -/
def AccF (P : Program) (l : List Oper) (sg : St) (m : Nat) (o : Oper) (x : Acc) : Prop :=
  (x.did = .none ∧ x.touch = touchOf sg o.op ∧ ∀ (B : Nat) (w0 : World) (N : List Nm) (a : Act) (w : World), RelM B w0 N (rest l sg o).mem w → RelT N (rest l sg o) a →
    ∃ v, x.res.val N = some v ∧ o.quietAt P a (fun w' => Below w.heap.size w w') w v) ∨
  (∃ r', x.did = .fresh m r' ∧ x.touch = touchOf sg o.op ∧ r'.hid = true ∧ ∀ (B : Nat) (w0 : World) (N : List Nm) (a : Act) (w : World), RelM B w0 N (rest l sg o).mem w → RelT N (rest l sg o) a → m < N.length →
    ∀ (next : Act → World → Prop) (Q : Exit → Act → World → Prop), (∀ nm v w', Below w.heap.size w w' → RowNew w w' N (rest l sg o).mem m nm r' → (∀ N', NLe N N' → nth N' m = some nm → x.res.val N' = some v) → next (a.put o.dst v) w') → o.wp P a w next Q) ∨
  (∃ b q, x = ⟨.c (.v undef), .store b q, touchOf sg o.op⟩ ∧ ∀ (B : Nat) (w0 : World) (N : List Nm) (a : Act) (w : World), RelM B w0 N (rest l sg o).mem w → RelT N (rest l sg o) a →
    ∃ bk T vs w' cs, nth (rest l sg o).mem b = some (.box cs) ∧ nth N b = some (.blk bk) ∧ CV.vals N q = some vs ∧ (execOp a.eval o).run P w = .ok .skip w' ∧ w'.heap[bk]? = some (.cells vs.toArray T (0, 0)) ∧
      w'.heap.size = w.heap.size ∧ w'.os = w.os ∧ w'.tape = w.tape ∧ w'.output = w.output ∧ ∀ k, k ≠ bk → w'.heap[k]? = w.heap[k]?)

theorem rowNew_box {N : List Nm} {M : List Row} {m : Nat} {cs : List CV} {vs : List Value} {w : World} {T : TypeId} (h : CV.vals N cs = some vs) : RowNew w (w.alloc (.cells vs.toArray T)) N M m (.blk w.heap.size) (.box cs) := by
  intro N' hN hm
  exact ⟨⟨w.heap.size, T, vs, hm, Nat.le_refl _, cvs_mono hN h, heap_alloc_new w _⟩, fun b hb => .inl (by simp [blkOf, hm] at hb; omega)⟩

theorem accK_sound (hE : EnvOK P E) {l : List Oper} {s : St} {m : Nat} {o : Oper} {k : Acc → Tr ρ} (h : (accK P E l s m o k).den = some r) : ∃ x, (k x).den = some r ∧ AccF P l s m o x := by
  unfold accK at h
  split at h
  · rename_i t ho
    split at h
    · rename_i z hz
      refine ⟨_, h, .inr (.inl ⟨.box (z.map CV.v), rfl, rfl, rfl, fun B w0 N a w hM hT _ next Q hn => ?_⟩)⟩
      obtain ⟨v, h1, h2⟩ := zeroT_run hz w
      have hc : v.cells = z.toArray := by rw [← h2]
      refine op_wp_value (v := .pointer (some ⟨w.heap.size, 0, none⟩)) (w' := w.alloc (.cells z.toArray t)) (by simp [execOp, ho, Instr.alloc, h1, alloc_eq, hc]) (hn (.blk w.heap.size) _ _ ?_ (rowNew_box (cvs_mapV z)) ?_)
      · exact (Below.refl _ w).alloc (Nat.le_refl _) _
      · intro N' _ hm; simp [AV.val, CV.val, hm]
    · cases h
  · rename_i t x ho
    split at h
    · rename_i y hy
      split at h
      · rename_i cs hcs
        refine ⟨_, h, .inr (.inl ⟨.box cs, rfl, rfl, rfl, fun B w0 N a w hM hT _ next Q hn => ?_⟩)⟩
        obtain ⟨vs, h1, h2⟩ := cells_spec hcs (opnd_val hT hy)
        have hc : (a.eval x).cells = vs.toArray := by rw [← h2]
        refine op_wp_value (v := .pointer (some ⟨w.heap.size, 0, none⟩)) (w' := w.alloc (.cells vs.toArray t)) (by simp [execOp, ho, Instr.box, alloc_eq, hc]) (hn (.blk w.heap.size) _ _ ?_ (rowNew_box h1) ?_)
        · exact (Below.refl _ w).alloc (Nat.le_refl _) _
        · intro N' _ hm; simp [AV.val, CV.val, hm]
      · cases h
    · cases h
  · rename_i t len parts ho
    split at h
    · rename_i L e hb
      refine ⟨_, h, .inr (.inl ⟨.grow L e, rfl, rfl, rfl, fun B w0 N a w hM hT _ next Q hn => ?_⟩)⟩
      have hM0 : RelM w.heap.size w [] [] w := ⟨BelowO.refl _ w, Nat.le_refl _, rfl, fun i r h => by simp [nth] at h, fun i j r q b h => by simp [nth] at h⟩
      obtain ⟨cells, h1, hM1⟩ := buildSlice_sound hM hT hb
      have hrow : RowNew w (w.alloc (.cells cells e)) N (rest l s o).mem m (.sv (some ⟨w.heap.size, 0, none⟩) len len) (.grow L e) := by
        intro N' _ hm
        obtain ⟨a', n', cap', hn', ho'⟩ := hM1.row _ _ (nth_last _ (Row.grow L e))
        rw [← hM.len] at hn'
        rw [nth_last] at hn'; cases hn'
        refine ⟨⟨_, _, _, hm, ho'.1, ?_⟩, fun b hb => .inl (by simp [blkOf, hm, Value.ownBlock] at hb; omega)⟩
        rcases ho'.2 with h2 | ⟨g, cap', cur, he, h2, h3⟩
        · exact .inl h2
        · cases he; exact .inr ⟨_, _, cur, rfl, Nat.le_refl _, h3⟩
      refine op_wp_value (v := .slice (some ⟨w.heap.size, 0, none⟩) len len) (w' := w.alloc (.cells cells e)) (by simp only [execOp, ho, Sem.run_bind, h1, Result.andThen_ok, Sem.run_pure]) (hn _ _ _ ?_ hrow ?_)
      · exact (Below.refl _ w).alloc (Nat.le_refl _) _
      · intro N' _ hm; simp [AV.val, CV.val, hm]
    · cases h
  · rename_i f args at_ ho
    split at h
    · rename_i g caps hg
      split at h
      · rename_i l' hl
        split at h
        · rename_i b α x av rows hq
          cases b
          · unfold Tr.den at h; unfold Tr.den at h; cases h
          unfold Tr.den at h
          dsimp only at h
          unfold Tr.den at h
          dsimp only at h
          split at h
          · rename_i L e hrw
            refine ⟨_, h, .inr (.inl ⟨.grow L e, rfl, rfl, rfl, fun B w0 N a w hM hT hlen next Q hn => ?_⟩)⟩
            obtain ⟨vs, h1, h2⟩ := call_run hT hE hg hl hq o at_ ho
            simp only [Oper.wp, h2 w, Oper.upon]
            obtain ⟨hg2, hcall⟩ := hE.rows _ _ _ _ _ _ _ hq
            refine (hcall B w0 N w vs hM h1).mono ?_
            rintro e' w' ⟨N2, v, hv, rfl, hM2⟩
            rw [hrw] at hM2
            have hl2 := hM2.len
            obtain ⟨a', n', cap', hn', ho'⟩ := hM2.row 0 (.grow L e) rfl
            have hN2 : N2 = [.sv a' n' cap'] := by
              cases N2 with
              | nil => simp [nth] at hn'
              | cons y r =>
                simp [nth] at hn'
                cases r with
                | nil => rw [hn']
                | cons z r => simp at hl2
            subst hN2
            refine hn (.sv a' n' cap') _ _ hM2.below.toBelow ?_ ?_
            · intro N' _ hm
              refine ⟨⟨_, _, _, hm, ho'⟩, fun b hb => .inl ?_⟩
              simp only [blkOf, hm] at hb
              rcases ho'.2 with ⟨h3, _⟩ | ⟨g2, cap2, cur, he, h3, h4⟩
              · cases h3; simp [Value.ownBlock] at hb
              · cases he; simp [Value.ownBlock] at hb; omega
            · intro N' _ hm
              have hlt := nth_lt hm
              have hv := hv (N'.take m)
              have ht : (N'.take m).length = m := by simp; omega
              rw [ht] at hv
              refine av_mono (fun i x hi hx => ?_) hv
              rw [nth_eq] at hi ⊢
              rcases Nat.lt_trichotomy i m with h5 | h5 | h5
              · rw [List.getElem?_append_left (by omega), List.getElem?_take_of_lt h5] at hi; exact hi
              · subst h5
                rw [List.getElem?_append_right (by omega), ht] at hi
                rw [← nth_eq, hm]
                simpa using hi
              · rw [List.getElem?_eq_none (by simp; omega)] at hi; cases hi
          · cases h
        · obtain ⟨y, h1, h2⟩ := quiet_uni hE h
          exact ⟨_, h1, .inl ⟨rfl, rfl, h2⟩⟩
      · cases h
    · cases h
  · rename_i t x y ho
    split at h
    · rename_i xa hxa
      split at h
      · rename_i ya hya
        split at h
        · rename_i i q hq
          refine ⟨_, h, .inr (.inr ⟨i, q, rfl, fun B w0 N a w hM hT => ?_⟩)⟩
          obtain ⟨bk, T, vs, w', cs, e0, e1, e2, e3, e4, e5⟩ := storeA_sound hM hq (opnd_val hT hxa) (opnd_val hT hya)
          exact ⟨bk, T, vs, w', cs, e0, e1, e2, by simp [execOp, ho, e3], e4, e5⟩
        · cases h
      · cases h
    · cases h
  · rename_i t x low high ho
    split at h
    · rename_i i hx
      split at h
      · rename_i L hL
        split at h
        · rename_i hk
          split at h
          · rename_i e z zc hs
            split at h
            · rename_i hsz
              split at h
              · rename_i lo hlo
                split at h
                · rename_i hi' hhi
                  unfold Tr.den at h
                  split at h
                  · rename_i hd
                    have hd := of_decide_eq_true hd
                    refine ⟨_, h, .inr (.inl ⟨.list ⟨L.k, (L.l.take hi'.toNat).drop lo.toNat⟩, rfl, rfl, hk, fun B w0 N a w hM hT _ next Q hn => ?_⟩)⟩
                    obtain ⟨ti, zv, hu, hi, hz, hzs, hpos, hby, rfl, rfl⟩ := sliceT_spec hs
                    have hsz := Nat.eq_of_beq_eq_true hsz
                    obtain ⟨ad, n, cap, hnm, hl⟩ := hM.row i _ hL
                    have hev : a.eval x = .slice ad n cap := by
                      have := opnd_val hT hx
                      simp only [AV.val, CV.val, hnm] at this
                      simpa using this.symm
                    have hnl : n = L.l.length ∧ n ≤ cap ∧ (ad = none → L.l = [] ∧ cap = 0) := by
                      rcases hl with ⟨he, h0⟩ | ⟨a2, c2, he, _, _, hc⟩
                      · cases he; exact ⟨by simp [h0], Nat.le_refl _, fun _ => ⟨h0, rfl⟩⟩
                      · cases he; exact ⟨rfl, hc.2, by simp⟩
                    have hlo' : (low.map a.eval = none ∧ lo = 0) ∨ low.map a.eval = some (.int .i64 lo) := by
                      rcases bound_val hT hlo with ⟨rfl, h⟩ | ⟨y, rfl, h⟩
                      · exact .inl ⟨rfl, h⟩
                      · exact .inr (by simp [h])
                    have hhi' : (high.map a.eval = none ∧ hi' = (n : Int)) ∨ high.map a.eval = some (.int .i64 hi') := by
                      rcases bound_val hT hhi with ⟨rfl, h⟩ | ⟨y, rfl, h⟩
                      · exact .inl ⟨rfl, by rw [hnl.1]; exact h⟩
                      · exact .inr (by simp [h])
                    have hrun := slice_run (P := P) (w := w) hu hi ad n cap lo hi' _ _ hlo' hhi' hd.1 hd.2.1 (by omega) hnl.2.1
                    rw [← hev] at hrun
                    unfold sliced at hrun
                    have hlen' : ((L.l.take hi'.toNat).drop lo.toNat).length = hi'.toNat - lo.toNat := by simp; omega
                    have hlist : ListAt w (.slice (if cap = lo.toNat then ad else ad.map (·.add (lo.toNat * ti.size))) (hi'.toNat - lo.toNat) (cap - lo.toNat)) ⟨L.k, (L.l.take hi'.toNat).drop lo.toNat⟩ := by
                      rcases hl with ⟨he, h0⟩ | ⟨a2, c2, he, hsp, hlt, hc⟩
                      · cases he
                        have e1 : lo.toNat = 0 := by rw [h0] at hd; simp at hd; omega
                        have e2 : hi'.toNat = 0 := by rw [h0] at hd; simp at hd; omega
                        exact .inl ⟨by simp [e1, e2], by simp [h0]⟩
                      · cases he
                        refine .inr ⟨(if cap = lo.toNat then a2 else a2.add (lo.toNat * ti.size)), cap - lo.toNat, ?_, ?_, ?_, ?_, ?_⟩
                        · rw [hlen']; congr 1; split <;> rfl
                        · intro hne
                          have hne' : L.l ≠ [] := by intro h0; rw [h0] at hne; simp at hne
                          split
                          · exact hsp hne'
                          · rw [addr_add (hsp hne')]
                        · intro hne
                          have hne' : L.l ≠ [] := by intro h0; rw [h0] at hne; simp at hne
                          split
                          · exact hlt hne'
                          · rw [addr_add (hsp hne')]; exact hlt hne'
                        · intro k x hk j u hj
                          have hk' := (List.getElem?_eq_some_iff.1 hk).1
                          rw [hlen'] at hk'
                          have hcap := hc.2
                          have hne : ¬ cap = lo.toNat := by omega
                          have hne' : L.l ≠ [] := by intro h0; have : hi' ≤ 0 := by rw [h0] at hd; simpa using hd.2.2
                                                     omega
                          rw [if_neg hne, addr_add (hsp hne')]
                          rw [List.getElem?_drop, List.getElem?_take] at hk
                          split at hk
                          · have := hc.1 _ x hk j u hj
                            rw [hsz]
                            simp only
                            rw [Nat.add_mul] at this
                            rw [show a2.off + lo.toNat * L.k.sz + k * L.k.sz + j = a2.off + (lo.toNat * L.k.sz + k * L.k.sz) + j by omega]
                            exact this
                          · cases hk
                        · rw [hlen']; have := hc.2; omega
                    refine op_wp_value (v := .slice (if cap = lo.toNat then ad else ad.map (·.add (lo.toNat * ti.size))) (hi'.toNat - lo.toNat) (cap - lo.toNat)) (w' := w) (by simp only [execOp, ho, Sem.run_bind, Option.map_none, hrun, Result.andThen_ok, Sem.run_pure])
                      (hn (.sv (if cap = lo.toNat then ad else ad.map (·.add (lo.toNat * ti.size))) (hi'.toNat - lo.toNat) (cap - lo.toNat)) _ _ (Below.refl _ w) ?_ ?_)
                    · intro N' _ hm
                      refine ⟨⟨_, _, _, hm, hlist⟩, fun b hb => .inr ⟨rfl, i, .list L, hL, rfl, ?_⟩⟩
                      have hne' : ∃ y r, L.l = y :: r := by
                        cases hL0 : L.l with
                        | nil => simp [blkOf, hL0] at hb
                        | cons y r => exact ⟨y, r, rfl⟩
                      obtain ⟨y0, r0, hne'⟩ := hne'
                      simp only [blkOf, hm] at hb
                      split at hb
                      · cases hb
                      simp only [blkOf, hnm, hne']
                      by_cases hcl : cap = lo.toNat
                      · simp only [hcl, if_true] at hb
                        cases ad with
                        | none => simp [Value.ownBlock] at hb
                        | some a2 => simpa [Value.ownBlock] using hb
                      · simp only [hcl, if_false] at hb
                        cases ad with
                        | none => simp [Value.ownBlock] at hb
                        | some a2 =>
                          rcases hl with ⟨he, _⟩ | ⟨a3, c3, he, hsp, _⟩
                          · cases he
                          · cases he
                            simp only [Option.map_some, Value.ownBlock, addr_add (hsp (by rw [hne']; simp))] at hb
                            simpa [Value.ownBlock] using hb
                    · intro N' _ hm
                      simp [AV.val, CV.val, hm]
                  · cases h
                · cases h
              · cases h
            · cases h
          · cases h
        · cases h
      · cases h
    · cases h
  · obtain ⟨y, h1, h2⟩ := quiet_uni hE h
    exact ⟨_, h1, .inl ⟨rfl, rfl, h2⟩⟩

/-- The run in the text's order, as states. -/
structure Lex (P : Program) (ops : Array Oper) (l : List Oper) (s0 : St) (xs : List Acc) (st sg : Nat → St) (g : Nat → Bool) (mm : Nat → Nat) (k : Nat) : Prop where
  init : st 0 = s0
  len : xs.length = k
  mem : ∀ i, i < k → (sg i).mem = (st i).mem ∧ (sg i).n = (st i).n
  gd : ∀ i, i < k → (sg i = st i ∨ ∃ d b, sg i = (st i).put d (.c (.b b)) ∧ look (st i).tmps d = some (.c (.v (.bool b))))
  guard : ∀ i o, i < k → l[i]? = some o → GuardF ops o (st i) (g i)
  acc : ∀ i o x, i < k → l[i]? = some o → xs[i]? = some x → (g i = true → AccF P l (sg i) (mm i) o x) ∧ (g i = false → x = ⟨.c (.v undef), .none, []⟩)
  next : ∀ i o x, i < k → l[i]? = some o → xs[i]? = some x → st (i + 1) = (match o.dst with
    | some d => St.put { sg i with mem := x.did.app (sg i).mem } d x.res
    | none => { sg i with mem := x.did.app (sg i).mem })

theorem lex_snoc {ops : Array Oper} {l : List Oper} {s0 : St} {xs : List Acc} {st sg : Nat → St} {g : Nat → Bool} {mm : Nat → Nat} {k : Nat} (h : Lex P ops l s0 xs st sg g mm k) {o : Oper} (ho : l[k]? = some o) {x : Acc} {s1 s2 : St} {b : Bool} {m : Nat}
    (h1 : s1.mem = (st k).mem ∧ s1.n = (st k).n) (h2 : s1 = st k ∨ ∃ d b, s1 = (st k).put d (.c (.b b)) ∧ look (st k).tmps d = some (.c (.v (.bool b)))) (h3 : GuardF ops o (st k) b)
    (h4 : (b = true → AccF P l s1 m o x) ∧ (b = false → x = ⟨.c (.v undef), .none, []⟩))
    (h5 : s2 = (match o.dst with
    | some d => St.put { s1 with mem := x.did.app s1.mem } d x.res
    | none => { s1 with mem := x.did.app s1.mem })) :
    ∃ st' sg' g' mm', Lex P ops l s0 (xs ++ [x]) st' sg' g' mm' (k + 1) ∧ st' (k + 1) = s2 := by
  refine ⟨fun i => if i = k + 1 then s2 else st i, fun i => if i = k then s1 else sg i, fun i => if i = k then b else g i, fun i => if i = k then m else mm i, ⟨?_, ?_, ?_, ?_, ?_, ?_, ?_⟩, by simp⟩
  · simpa using h.init
  · simp [h.len]
  · intro i hi
    by_cases e : i = k
    · subst e; simpa using h1
    · have a1 : i ≠ k + 1 := by omega
      simp [e, a1]; exact h.mem i (by omega)
  · intro i hi
    by_cases e : i = k
    · subst e; simpa using h2
    · have a1 : i ≠ k + 1 := by omega
      simp only [e, a1, if_false]; exact h.gd i (by omega)
  · intro i o' hi ho'
    by_cases e : i = k
    · subst e; rw [ho] at ho'; cases ho'; simpa using h3
    · have a1 : i ≠ k + 1 := by omega
      simp [e, a1]; exact h.guard i o' (by omega) ho'
  · intro i o' x' hi ho' hx'
    by_cases e : i = k
    · subst e
      rw [ho] at ho'; cases ho'
      have : x' = x := by
        rw [List.getElem?_append_right (by rw [h.len]; omega), h.len] at hx'; simpa using hx'.symm
      subst this
      simpa using h4
    · have hx2 : xs[i]? = some x' := by rw [List.getElem?_append_left (by rw [h.len]; omega)] at hx'; exact hx'
      simp [e]; exact h.acc i o' x' (by omega) ho' hx2
  · intro i o' x' hi ho' hx'
    by_cases e : i = k
    · subst e
      rw [ho] at ho'; cases ho'
      have : x' = x := by
        rw [List.getElem?_append_right (by rw [h.len]; omega), h.len] at hx'; simpa using hx'.symm
      subst this
      simpa using h5
    · have hx2 : xs[i]? = some x' := by rw [List.getElem?_append_left (by rw [h.len]; omega)] at hx'; exact hx'
      have a1 : i ≠ k + 1 := by omega
      have a2 : i + 1 ≠ k + 1 := by omega
      simp [e]; exact h.next i o' x' (by omega) ho' hx2

theorem evOpsD_sound (hE : EnvOK P E) {ops : Array Oper} {tl : List Oper} {s0 : St} {k : St → List Acc → Tr ρ} : ∀ (rem : List Oper) (done : List Oper) (m : Nat) (s : St) (xs : List Acc) {st sg : Nat → St} {g : Nat → Bool} {mm : Nat → Nat}, ops.toList = done ++ rem ++ tl →
    Lex P ops ops.toList s0 xs st sg g mm done.length → st done.length = s → (evOpsD P E ops.toList rem m s xs k).den = some r →
    ∃ xs' st' sg' g' mm', Lex P ops ops.toList s0 xs' st' sg' g' mm' (done.length + rem.length) ∧ (k (st' (done.length + rem.length)) xs').den = some r
  | [], done, m, s, xs, st, sg, g, mm, hl, hL, hs, h =>
    ⟨xs, st, sg, g, mm, hL, by simp only [List.length_nil, Nat.add_zero]; rw [hs]; simpa only [evOpsD] using h⟩
  | o :: rem, done, m, s, xs, st, sg, g, mm, hl, hL, hs, h => by
    have ho : ops.toList[done.length]? = some o := by rw [hl]; simp
    simp only [evOpsD] at h
    obtain ⟨b, s1, e1, e2, e3, e4, e5⟩ := guard_local h
    subst hs
    have hnext : done.length + 1 = (done ++ [o]).length := by simp
    have hl' : ops.toList = (done ++ [o]) ++ rem ++ tl := by rw [hl]; simp
    have hlen : done.length + (o :: rem).length = (done ++ [o]).length + rem.length := by simp; omega
    rw [hlen]
    cases b with
    | true =>
      simp only [if_true] at e3
      obtain ⟨x, h1, h2⟩ := accK_sound hE e3
      obtain ⟨st', sg', g', mm', hL', hs'⟩ := lex_snoc hL ho (x := x) (s1 := s1) (b := true) (m := m) ⟨e1, e2⟩ e4 e5 ⟨fun _ => h2, (fun hf => by cases hf)⟩ rfl
      rw [hnext] at hL' hs'
      exact evOpsD_sound hE rem (done ++ [o]) (match isFresh o.op with | true => m + 1 | false => m) _ _ hl' hL' hs' h1
    | false =>
      simp only [Bool.false_eq_true, if_false] at e3
      obtain ⟨st', sg', g', mm', hL', hs'⟩ := lex_snoc hL ho (x := ⟨.c (.v undef), .none, []⟩) (s1 := s1) (b := false) (m := m) ⟨e1, e2⟩ e4 e5 ⟨(fun hf => by cases hf), fun _ => rfl⟩ rfl
      rw [hnext] at hL' hs'
      refine evOpsD_sound hE rem (done ++ [o]) (match isFresh o.op with | true => m + 1 | false => m) _ _ hl' hL' hs' ?_
      cases hd : o.dst with
      | none => simp only [hd] at e3; exact e3
      | some d => simp only [hd] at e3; exact e3

/-! ### What the check says -/

/-- One operation waits on another one, through whatever lies between. -/
inductive Path (ops : List Oper) (i : Nat) : Nat → Prop where
  | one {o : Oper} {e : Edge} : ops[i]? = some o → e ∈ o.after → Region.binds .any e = true → Path ops i e.on
  | snoc {k : Nat} {o : Oper} {e : Edge} : Path ops i k → ops[k]? = some o → e ∈ o.after → Region.binds .any e = true → Path ops i e.on
def Ord (ops : List Oper) (i j : Nat) : Prop := (j < i ∧ Path ops i j) ∨ (i < j ∧ Path ops j i)

theorem waitsOn_spec {o : Oper} {j : Nat} (h : waitsOn o j = true) : ∃ e ∈ o.after, Region.binds .any e = true ∧ e.on = j := by
  unfold waitsOn at h
  obtain ⟨e, he, hb⟩ := Array.any_eq_true'.1 h
  simp only [Bool.and_eq_true] at hb
  exact ⟨e, he, hb.1, Nat.eq_of_beq_eq_true hb.2⟩
theorem path_waits {ops : List Oper} {i j : Nat} {o : Oper} (hi : ops[i]? = some o) (h : waitsOn o j = true) : Path ops i j := by
  obtain ⟨e, h1, h2, rfl⟩ := waitsOn_spec h
  exact .one hi h1 h2
theorem edgesOf_spec {o : Oper} {r : Nat} (h : r ∈ edgesOf o) : ∃ e ∈ o.after, Region.binds .any e = true ∧ e.on = r := by
  unfold edgesOf at h
  obtain ⟨e, he, rfl⟩ := List.mem_map.1 h
  obtain ⟨h1, h2⟩ := List.mem_filter.1 he
  exact ⟨e, Array.mem_toList_iff.1 h1, h2, rfl⟩
theorem ancJ_spec {ops : List Oper} {i j : Nat} : ∀ (k : Nat) (R : List Nat), (∀ r, r ∈ R → Path ops i r) → ancJ ops j k R = true → Path ops i j
  | 0, _, _, h => by cases h
  | k + 1, R, hR, h => by
    unfold ancJ at h
    split at h
    · rename_i hm
      have hk := hR k ((memNat_iff _ _).1 hm)
      split at h
      · rename_i hb
        have := Nat.eq_of_beq_eq_true hb
        subst this; exact hk
      · refine ancJ_spec k _ (fun r hr => ?_) h
        rcases List.mem_append.1 hr with hr | hr
        · split at hr
          · rename_i o ho
            obtain ⟨e, h1, h2, rfl⟩ := edgesOf_spec hr
            exact .snoc hk (by rw [← nth_eq]; exact ho) h1 h2
          · cases hr
        · exact hR r hr
    · exact ancJ_spec k R hR h
theorem path_anc {ops : List Oper} {i j : Nat} {o : Oper} (hi : ops[i]? = some o) (h : ancJ ops j i (edgesOf o) = true) : Path ops i j := by
  refine ancJ_spec i _ (fun r hr => ?_) h
  obtain ⟨e, h1, h2, rfl⟩ := edgesOf_spec hr
  exact .one hi h1 h2

theorem ordB_spec {ops : List Oper} {i j : Nat} {oi oj : Oper} (hi : ops[i]? = some oi) (hj : ops[j]? = some oj) (hne : i ≠ j) (h : ordB ops i oi j oj = true) : Ord ops i j := by
  unfold ordB at h
  split at h
  · rename_i hlt
    refine .inl ⟨Nat.le_of_ble_eq_true hlt, ?_⟩
    split at h
    · rename_i hw; exact path_waits hi hw
    · exact path_anc hi h
  · rename_i hlt
    have hlt' : ¬ j < i := fun hc => by
      have : Nat.blt j i = true := Nat.ble_eq_true_of_le hc
      rw [this] at hlt; cases hlt
    refine .inr ⟨by omega, ?_⟩
    split at h
    · rename_i hw; exact path_waits hj hw
    · exact path_anc hj h

structure Checked' (n base : Nat) (M : List Row) (ops : List Oper) (xs : List Acc) : Prop where
  dst : ∀ (i : Nat) (o : Oper), i < xs.length → ops[i]? = some o → ∀ d, o.dst = some d → d < n
  edge : ∀ (i : Nat) (o : Oper), i < xs.length → ops[i]? = some o → ∀ e ∈ o.after, Region.binds .any e = true → e.on < i
  look : ∀ (i j : Nat) (oi oj : Oper), i < xs.length → j < xs.length → ops[i]? = some oi → ops[j]? = some oj → i ≠ j → ∀ d, oj.dst = some d → d ∈ looks ops oi → Ord ops i j
  ssa : ∀ (i j : Nat) (oi oj : Oper), i < xs.length → j < xs.length → ops[i]? = some oi → ops[j]? = some oj → i ≠ j → ∀ d, oj.dst = some d → oi.dst ≠ some d
  touch : ∀ (i j : Nat) (xi xj : Acc), xs[i]? = some xi → xs[j]? = some xj → i ≠ j → ∀ b, xj.did.row = some b → b ∈ xi.touch → Ord ops i j
  ss : ∀ (i j : Nat) (xi xj : Acc), xs[i]? = some xi → xs[j]? = some xj → i ≠ j → ∀ b q q', xi.did = .store b q → xj.did ≠ .store b q'
  ff : ∀ (i j : Nat) (xi xj : Acc), xs[i]? = some xi → xs[j]? = some xj → i ≠ j → ∀ b q q', xi.did = .fresh b q → xj.did ≠ .fresh b q'
  sf : ∀ (i j : Nat) (xi xj : Acc), xs[i]? = some xi → xs[j]? = some xj → i ≠ j → ∀ b q q', xi.did = .store b q → xj.did = .fresh b q' → j < i ∧ ∃ o, ops[i]? = some o ∧ ∃ e ∈ o.after, Region.binds .any e = true ∧ e.on = j
  fresh : ∀ (i : Nat) (x : Acc), xs[i]? = some x → ∀ m cs, x.did = .fresh m cs → nth M m = some .dead ∧ base ≤ m
  store : ∀ (i : Nat) (x : Acc), xs[i]? = some x → ∀ b q, x.did = .store b q → b ∈ x.touch ∧ ((∃ cs, nth M b = some (.box cs)) ∨ nth M b = some .dead)

theorem checkD_spec {n base : Nat} {M : List Row} {ops : List Oper} {xs : List Acc} (hlen : xs.length ≤ ops.length) (h : checkD n base M ops xs = true) : Checked' n base M ops xs := by
  unfold checkD at h
  have get : ∀ (i : Nat), i < xs.length → ∃ x, xs[i]? = some x := fun i hi => ⟨xs[i], List.getElem?_eq_getElem hi⟩
  have get' : ∀ (i : Nat) (x : Acc), xs[i]? = some x → ∃ o, ops[i]? = some o := by
    intro i x hx
    have := (List.getElem?_eq_some_iff.1 hx).1
    exact ⟨ops[i], List.getElem?_eq_getElem (by omega)⟩
  have one : ∀ (i : Nat) (o : Oper) (x : Acc), ops[i]? = some o → xs[i]? = some x → dstB n o = true ∧ edgesB i o = true ∧ rowB base M x = true := by
    intro i o x ho hx
    have := allI_spec _ _ 0 i _ h (zipA_get _ _ _ _ _ ho hx)
    simp only [Nat.zero_add, Bool.and_eq_true] at this
    exact ⟨this.1.1.1, this.1.1.2, this.1.2⟩
  have two : ∀ (i j : Nat) (oi oj : Oper) (xi xj : Acc), ops[i]? = some oi → ops[j]? = some oj → xs[i]? = some xi → xs[j]? = some xj → pairB ops i oi xi j oj xj = true := by
    intro i j oi oj xi xj hi hj hxi hxj
    have := allI_spec _ _ 0 i _ h (zipA_get _ _ _ _ _ hi hxi)
    simp only [Nat.zero_add, Bool.and_eq_true] at this
    have := allI_spec _ _ 0 j _ this.2 (zipA_get _ _ _ _ _ hj hxj)
    simpa only [Nat.zero_add] using this
  have pair : ∀ (i j : Nat) (oi oj : Oper) (xi xj : Acc), ops[i]? = some oi → ops[j]? = some oj → xs[i]? = some xi → xs[j]? = some xj → i ≠ j →
      (∀ d, oj.dst = some d → (d ∈ looks ops oi → ordB ops i oi j oj = true) ∧ oi.dst ≠ some d) ∧
      (∀ b, xj.did.row = some b → (b ∈ xi.touch → ordB ops i oi j oj = true) ∧
        (match xi.did, xj.did with
         | .store b _, .store c _ => !Nat.beq b c
         | .fresh b _, .fresh c _ => !Nat.beq b c
         | .store b _, .fresh c _ => (match Nat.beq b c with | true => Nat.blt j i && waitsOn oi j | false => true)
         | _, _ => true) = true) := by
    intro i j oi oj xi xj hi hj hxi hxj hne
    have hp := two i j oi oj xi xj hi hj hxi hxj
    unfold pairB at hp
    have hb : Nat.beq i j = false := by
      cases hb : Nat.beq i j with
      | false => rfl
      | true => exact absurd (Nat.eq_of_beq_eq_true hb) hne
    simp only [hb, Bool.and_eq_true] at hp
    obtain ⟨h1, h2⟩ := hp
    refine ⟨fun d hd => ?_, fun b hb => ?_⟩
    · rw [hd] at h1
      simp only [Bool.and_eq_true] at h1
      refine ⟨fun hm => ?_, fun he => ?_⟩
      · have := h1.1; rw [(memNat_iff _ _).2 hm] at this; exact this
      · have := h1.2; rw [he] at this; simp [Nat.beq_refl] at this
    · rw [hb] at h2
      simp only [Bool.and_eq_true] at h2
      exact ⟨fun hm => by have := h2.1; rw [(memNat_iff _ _).2 hm] at this; exact this, h2.2⟩
  refine ⟨?_, ?_, ?_, ?_, ?_, ?_, ?_, ?_, ?_, ?_⟩
  · intro i o hi ho d hd
    obtain ⟨x, hx⟩ := get i hi
    have := (one i o x ho hx).1
    simp only [dstB, hd] at this
    exact Nat.le_of_ble_eq_true this
  · intro i o hi ho e he hb
    obtain ⟨x, hx⟩ := get i hi
    have := (one i o x ho hx).2.1
    unfold edgesB at this
    have := Array.all_eq_true_iff_forall_mem.1 this e he
    simp only [hb, Bool.not_true, Bool.false_or] at this
    exact Nat.le_of_ble_eq_true this
  · intro i j oi oj li lj hi hj hne d hd hm
    obtain ⟨xi, hxi⟩ := get i li
    obtain ⟨xj, hxj⟩ := get j lj
    exact ordB_spec hi hj hne (((pair i j oi oj xi xj hi hj hxi hxj hne).1 d hd).1 hm)
  · intro i j oi oj li lj hi hj hne d hd
    obtain ⟨xi, hxi⟩ := get i li
    obtain ⟨xj, hxj⟩ := get j lj
    exact ((pair i j oi oj xi xj hi hj hxi hxj hne).1 d hd).2
  · intro i j xi xj hxi hxj hne b hb hm
    obtain ⟨oi, hi⟩ := get' i xi hxi
    obtain ⟨oj, hj⟩ := get' j xj hxj
    exact ordB_spec hi hj hne (((pair i j oi oj xi xj hi hj hxi hxj hne).2 b hb).1 hm)
  · intro i j xi xj hxi hxj hne b q q' h1 h2
    obtain ⟨oi, hi⟩ := get' i xi hxi
    obtain ⟨oj, hj⟩ := get' j xj hxj
    have := ((pair i j oi oj xi xj hi hj hxi hxj hne).2 b (by rw [h2]; rfl)).2
    rw [h1, h2] at this
    simp [Nat.beq_refl] at this
  · intro i j xi xj hxi hxj hne b q q' h1 h2
    obtain ⟨oi, hi⟩ := get' i xi hxi
    obtain ⟨oj, hj⟩ := get' j xj hxj
    have := ((pair i j oi oj xi xj hi hj hxi hxj hne).2 b (by rw [h2]; rfl)).2
    rw [h1, h2] at this
    simp [Nat.beq_refl] at this
  · intro i j xi xj hxi hxj hne b q q' h1 h2
    obtain ⟨oi, hi⟩ := get' i xi hxi
    obtain ⟨oj, hj⟩ := get' j xj hxj
    have := ((pair i j oi oj xi xj hi hj hxi hxj hne).2 b (by rw [h2]; rfl)).2
    rw [h1, h2] at this
    simp only [Nat.beq_refl, Bool.and_eq_true] at this
    exact ⟨Nat.le_of_ble_eq_true this.1, oi, hi, waitsOn_spec this.2⟩
  · intro i x hx m cs hd
    obtain ⟨o, ho⟩ := get' i x hx
    have := (one i o x ho hx).2.2
    unfold rowB at this
    rw [hd] at this
    dsimp only at this
    split at this
    · exact ⟨by assumption, Nat.le_of_ble_eq_true this⟩
    · cases this
  · intro i x hx b q hd
    obtain ⟨o, ho⟩ := get' i x hx
    have := (one i o x ho hx).2.2
    unfold rowB at this
    rw [hd] at this
    simp only [Bool.and_eq_true] at this
    refine ⟨(memNat_iff _ _).1 this.1, ?_⟩
    have h2 := this.2
    split at h2
    · exact .inl ⟨_, by assumption⟩
    · exact .inr (by assumption)
    · cases h2

/-! ### What has been done by some of the operations -/

/-- What a row holds when the operations of S have been carried out. -/
def RowS (M0 : List Row) (xs : List Acc) (S : Nat → Bool) (c : Nat) (r : Option Row) : Prop :=
  (∃ (i : Nat) (x : Acc) (q : List CV), xs[i]? = some x ∧ S i = true ∧ x.did = .store c q ∧ r = some (.box q)) ∨
  ((∀ (i : Nat) (x : Acc) (q : List CV), xs[i]? = some x → S i = true → x.did ≠ .store c q) ∧ ∃ (i : Nat) (x : Acc) (cs : Row), xs[i]? = some x ∧ S i = true ∧ x.did = .fresh c cs ∧ r = some cs) ∨
  ((∀ (i : Nat) (x : Acc), xs[i]? = some x → S i = true → x.did.row ≠ some c) ∧ r = nth M0 c)

theorem did_row {d : Did} {c : Nat} (h : d.row = some c) : (∃ q, d = .store c q) ∨ ∃ cs, d = .fresh c cs := by
  cases d with
  | none => cases h
  | fresh m cs => simp [Did.row] at h; subst h; exact .inr ⟨cs, rfl⟩
  | store b q => simp [Did.row] at h; subst h; exact .inl ⟨q, rfl⟩

theorem RowS.agree {n base : Nat} {M0 : List Row} {ops : List Oper} {xs : List Acc} (hc : Checked' n base M0 ops xs) {S S' : Nat → Bool} {c : Nat} {r r' : Option Row}
    (hS : ∀ (i : Nat) (x : Acc), xs[i]? = some x → x.did.row = some c → S i = S' i) (h : RowS M0 xs S c r) (h' : RowS M0 xs S' c r') : r = r' := by
  have st : ∀ (i : Nat) (x : Acc) (q : List CV), xs[i]? = some x → x.did = .store c q → S i = S' i := fun i x q hx hd => hS i x hx (by rw [hd]; rfl)
  have fr : ∀ (i : Nat) (x : Acc) (q : Row), xs[i]? = some x → x.did = .fresh c q → S i = S' i := fun i x q hx hd => hS i x hx (by rw [hd]; rfl)
  rcases h with ⟨i, x, q, hx, hs, hd, rfl⟩ | ⟨h0, i, x, cs, hx, hs, hd, rfl⟩ | ⟨h0, rfl⟩
  · rcases h' with ⟨j, y, p, hy, ht, he, rfl⟩ | ⟨g0, _⟩ | ⟨g0, _⟩
    · by_cases e : i = j
      · subst e; rw [hx] at hy; cases hy; rw [hd] at he; cases he; rfl
      · exact absurd he (hc.ss i j x y hx hy e c q p hd)
    · exact absurd hd (g0 i x q hx ((st i x q hx hd).symm.trans hs))
    · exact absurd (by rw [hd]; rfl) (g0 i x hx ((st i x q hx hd).symm.trans hs))
  · rcases h' with ⟨j, y, p, hy, ht, he, rfl⟩ | ⟨_, j, y, p, hy, ht, he, rfl⟩ | ⟨g0, _⟩
    · exact absurd he (h0 j y p hy ((st j y p hy he).trans ht))
    · by_cases e : i = j
      · subst e; rw [hx] at hy; cases hy; rw [hd] at he; cases he; rfl
      · exact absurd he (hc.ff i j x y hx hy e c cs p hd)
    · exact absurd (by rw [hd]; rfl) (g0 i x hx ((fr i x cs hx hd).symm.trans hs))
  · rcases h' with ⟨j, y, p, hy, ht, he, rfl⟩ | ⟨_, j, y, p, hy, ht, he, rfl⟩ | ⟨_, rfl⟩
    · exact absurd (by rw [he]; rfl) (h0 j y hy ((st j y p hy he).trans ht))
    · exact absurd (by rw [he]; rfl) (h0 j y hy ((fr j y p hy he).trans ht))
    · rfl

/-- One more. -/
theorem RowS.step {n base : Nat} {M0 M : List Row} {ops : List Oper} {xs : List Acc} (hc : Checked' n base M0 ops xs) (hl : M.length = M0.length) {S S' : Nat → Bool} {i : Nat} {x : Acc} (hx : xs[i]? = some x) (hi : S i = false) (hS : ∀ j, S' j = (S j || decide (j = i)))
    (hsf : ∀ m cs j y q, x.did = .fresh m cs → xs[j]? = some y → y.did = .store m q → S j = false)
    (h : ∀ c, RowS M0 xs S c (nth M c)) : ∀ c, RowS M0 xs S' c (nth (x.did.app M) c) := by
  have hSi : S' i = true := by rw [hS]; simp
  have hSo : ∀ j, j ≠ i → S' j = S j := fun j hj => by rw [hS]; simp [hj]
  have other : ∀ c r, x.did.row ≠ some c → RowS M0 xs S c r → RowS M0 xs S' c r := by
    intro c r hne hr
    rcases hr with ⟨j, y, q, hy, hs, hd, e⟩ | ⟨h0, j, y, q, hy, hs, hd, e⟩ | ⟨h0, e⟩
    · exact .inl ⟨j, y, q, hy, by rw [hS]; simp [hs], hd, e⟩
    · refine .inr (.inl ⟨fun k z p hz hk hzd => ?_, j, y, q, hy, by rw [hS]; simp [hs], hd, e⟩)
      by_cases ek : k = i
      · subst ek; rw [hx] at hz; cases hz; exact hne (by rw [hzd]; rfl)
      · exact h0 k z p hz ((hSo k ek) ▸ hk) hzd
    · refine .inr (.inr ⟨fun k z hz hk => ?_, e⟩)
      by_cases ek : k = i
      · subst ek; rw [hx] at hz; cases hz; exact hne
      · exact h0 k z hz ((hSo k ek) ▸ hk)
  intro c
  cases hd : x.did with
  | none => exact other c _ (by rw [hd]; simp [Did.row]) (h c)
  | fresh m cs =>
    by_cases e : m = c
    · subst e
      have hm : m < M.length := by rw [hl]; exact nth_lt (hc.fresh i x hx m cs hd).1
      have hv : nth (Did.app (.fresh m cs) M) m = some cs := by
        simp only [Did.app]; rw [nth_eq, setNth_eq]; simp [hm]
      refine .inr (.inl ⟨fun k z p hz hk hzd => ?_, i, x, cs, hx, hSi, hd, hv⟩)
      by_cases ek : k = i
      · subst ek; rw [hx] at hz; cases hz; rw [hd] at hzd; cases hzd
      · have := hsf m cs k z p hd hz hzd
        rw [← hSo k ek, hk] at this; cases this
    · have : nth (Did.app (.fresh m cs) M) c = nth M c := by simp only [Did.app]; exact nth_setNth_ne e _
      rw [this]
      exact other c _ (by rw [hd]; simp [Did.row]; exact e) (h c)
  | store b q =>
    by_cases e : b = c
    · subst e
      have hm : b < M.length := by
        rw [hl]
        rcases (hc.store i x hx b q hd).2 with ⟨cs, h1⟩ | h1
        · exact nth_lt h1
        · exact nth_lt h1
      have hv : nth (Did.app (.store b q) M) b = some (.box q) := by
        simp only [Did.app]; rw [nth_eq, setNth_eq]; simp [hm]
      exact .inl ⟨i, x, q, hx, hSi, hd, hv⟩
    · have : nth (Did.app (.store b q) M) c = nth M c := by simp only [Did.app]; exact nth_setNth_ne e _
      rw [this]
      exact other c _ (by rw [hd]; simp [Did.row]; exact e) (h c)
theorem length_app (d : Did) (M : List Row) : (d.app M).length = M.length := by cases d <;> simp [Did.app, length_setNth]
end
end Go.Proofs.YtlbmjajjldfigaaGreat.Ev
