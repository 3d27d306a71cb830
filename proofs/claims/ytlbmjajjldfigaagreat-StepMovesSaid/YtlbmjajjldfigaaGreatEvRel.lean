/-
  The evaluator's rows of memory and names, held against a world: what stays true through reads, stores, new blocks and calls.
-/
import Derived.Test.YtlbmjajjldfigaaGreatEvDefs
namespace Go.Proofs.YtlbmjajjldfigaaGreat.Ev
open Go Go.RowKit
universe u

/-! ### Lists -/

theorem nth_eq {α : Type u} : ∀ (l : List α) (n : Nat), nth l n = l[n]?
  | [], n => by cases n <;> rfl
  | _ :: _, 0 => rfl
  | _ :: r, n + 1 => by simp [nth, nth_eq r n]
theorem nth_lt {α : Type u} {l : List α} {n : Nat} {x : α} (h : nth l n = some x) : n < l.length := by
  rw [nth_eq] at h; exact (List.getElem?_eq_some_iff.1 h).1
theorem nth_append {α : Type u} {l m : List α} {n : Nat} {x : α} (h : nth l n = some x) : nth (l ++ m) n = some x := by
  have := nth_lt h
  rw [nth_eq] at *; rw [List.getElem?_append_left this]; exact h
theorem nth_last {α : Type u} (l : List α) (x : α) : nth (l ++ [x]) l.length = some x := by rw [nth_eq]; simp
theorem nth_append_cases {α : Type u} {l : List α} {x y : α} {n : Nat} (h : nth (l ++ [x]) n = some y) : nth l n = some y ∨ (n = l.length ∧ y = x) := by
  rw [nth_eq] at *
  rcases Nat.lt_trichotomy n l.length with hl | hl | hl
  · rw [List.getElem?_append_left hl] at h; exact .inl h
  · subst hl; simp at h; exact .inr ⟨rfl, h.symm⟩
  · have : (l ++ [x])[n]? = none := List.getElem?_eq_none (by simp; omega)
    rw [this] at h; cases h
theorem setNth_eq {α : Type u} : ∀ (l : List α) (n : Nat) (x : α), setNth l n x = l.set n x
  | [], n, _ => by cases n <;> rfl
  | _ :: _, 0, _ => rfl
  | _ :: r, n + 1, x => by simp [setNth, setNth_eq r n x]
theorem nth_setNth_cases {α : Type u} {l : List α} {i j : Nat} {x y : α} (h : nth (setNth l i x) j = some y) : (j = i ∧ y = x ∧ i < l.length) ∨ (j ≠ i ∧ nth l j = some y) := by
  rw [nth_eq, setNth_eq, List.getElem?_set] at h
  by_cases hij : i = j
  · subst hij
    by_cases hl : i < l.length
    · simp [hl] at h; exact .inl ⟨rfl, h.symm, hl⟩
    · simp [hl] at h
  · simp [hij] at h; exact .inr ⟨fun e => hij e.symm, by rw [nth_eq]; exact h⟩
theorem length_setNth {α : Type u} (l : List α) (n : Nat) (x : α) : (setNth l n x).length = l.length := by rw [setNth_eq]; simp
theorem takeN_eq {α : Type u} : ∀ (n : Nat) (l r : List α), takeN n l = some r → r = l.take n ∧ n ≤ l.length
  | 0, l, r, h => by simp [takeN] at h; subst h; simp
  | n + 1, [], r, h => by simp [takeN] at h
  | n + 1, a :: l, r, h => by
    simp only [takeN] at h
    split at h
    · rename_i q hq
      obtain ⟨rfl, h2⟩ := takeN_eq n l q hq
      simp at h; subst h; simp; omega
    · cases h
theorem dropN_eq {α : Type u} : ∀ (n : Nat) (l : List α), dropN n l = l.drop n
  | 0, l => rfl
  | n + 1, [] => rfl
  | n + 1, _ :: l => by simp [dropN, dropN_eq n l]
theorem overlay_eq {α : Type u} : ∀ (l : List α) (n : Nat) (xs q : List α), overlay l n xs = some q → q = l.take n ++ xs ++ l.drop (n + xs.length) ∧ n + xs.length ≤ l.length
  | l, 0, [], q, h => by cases l <;> (simp [overlay] at h; subst h; simp)
  | [], 0, _ :: _, q, h => by simp [overlay] at h
  | a :: r, 0, x :: xs, q, h => by
    simp only [overlay] at h
    split at h
    · rename_i q' hq
      obtain ⟨rfl, h2⟩ := overlay_eq r 0 xs q' hq
      simp at h; subst h; simp; simp at h2; omega
    · cases h
  | [], n + 1, xs, q, h => by cases xs <;> simp [overlay] at h
  | a :: r, n + 1, xs, q, h => by
    have h' : (match overlay r n xs with | some q => some (a :: q) | none => none) = some q := by cases xs <;> exact h
    split at h'
    · rename_i q' hq
      obtain ⟨rfl, h2⟩ := overlay_eq r n xs q' hq
      simp at h'; subst h'
      refine ⟨by simp [Nat.add_right_comm], by simp; omega⟩
    · cases h'

theorem addr_add {a : Addr} (h : a.spot = none) (n : Nat) : a.add n = ⟨a.block, a.off + n, none⟩ := by
  unfold Addr.add
  split
  · rename_i h0; subst h0; cases a; simp_all
  · cases a; simp_all

/-! ### Values under names -/

def NLe (N N' : List Nm) : Prop := ∀ i x, nth N i = some x → x ≠ .none → nth N' i = some x
theorem NLe.refl (N : List Nm) : NLe N N := fun _ _ h _ => h
theorem NLe.trans {A B C : List Nm} (h : NLe A B) (k : NLe B C) : NLe A C := fun i x e n => k i x (h i x e n) n
theorem NLe.append (N M : List Nm) : NLe N (N ++ M) := fun _ _ h _ => nth_append h

theorem cv_mono {N N' : List Nm} (hN : NLe N N') : ∀ {x : CV} {v : Value}, x.val N = some v → x.val N' = some v
  | .v _, _, h => h
  | .k _, _, h => h
  | .b _, _, h => h
  | .own i off, v, h => by
    simp only [CV.val] at *
    split at h
    · rename_i b hb; rw [hN _ _ hb (by simp)]; exact h
    · cases h
  | .el i e sz off, v, h => by
    simp only [CV.val] at *
    split at h
    · rename_i b hb; rw [hN _ _ ‹_› (by simp)]; exact h
    · cases h
  | .sl i, v, h => by
    simp only [CV.val] at *
    split at h
    · rw [hN _ _ ‹_› (by simp)]; exact h
    · cases h
theorem cvs_mono {N N' : List Nm} (hN : NLe N N') : ∀ {l : List CV} {vs : List Value}, CV.vals N l = some vs → CV.vals N' l = some vs
  | [], _, h => h
  | y :: r, vs, h => by
    simp only [CV.vals] at *
    split at h
    · rename_i x hx
      rw [cv_mono hN hx]
      split at h
      · rename_i q hq; simp [cvs_mono hN hq]; simpa using h
      · cases h
    · cases h
theorem av_mono {N N' : List Nm} (hN : NLe N N') : ∀ {x : AV} {v : Value}, x.val N = some v → x.val N' = some v
  | .c x, _, h => cv_mono (x := x) hN h
  | .agg cs, v, h => by
    simp only [AV.val] at *
    split at h
    · rename_i l hl; rw [cvs_mono hN hl]; exact h
    · cases h
  | .clo f cs, v, h => by
    simp only [AV.val] at *
    split at h
    · rename_i l hl; rw [cvs_mono hN hl]; exact h
    · cases h
  | .tup2 a b, v, h => by
    simp only [AV.val] at *
    split at h
    · rename_i x hx
      rw [av_mono hN hx]
      split at h
      · rename_i y hy; rw [av_mono hN hy]; exact h
      · cases h
    · cases h
  | .tup3 a b d, v, h => by
    simp only [AV.val] at *
    split at h
    · rename_i x hx
      rw [av_mono hN hx]
      split at h
      · rename_i y hy
        rw [av_mono hN hy]
        split at h
        · rename_i z hz; rw [av_mono hN hz]; exact h
        · cases h
      · cases h
    · cases h

theorem cvs_length {N : List Nm} : ∀ {l : List CV} {vs : List Value}, CV.vals N l = some vs → vs.length = l.length
  | [], _, h => by simp [CV.vals] at h; subst h; rfl
  | y :: r, vs, h => by
    simp only [CV.vals] at h
    split at h
    · split at h
      · rename_i q hq; simp at h; subst h; simp [cvs_length hq]
      · cases h
    · cases h
theorem cvs_nth {N : List Nm} : ∀ {l : List CV} {vs : List Value} {i : Nat} {x : CV}, CV.vals N l = some vs → nth l i = some x → ∃ v, x.val N = some v ∧ vs[i]? = some v
  | [], _, _, _, _, hx => by simp [nth] at hx
  | y :: r, vs, i, x, h, hx => by
    simp only [CV.vals] at h
    split at h
    · rename_i v hv
      split at h
      · rename_i q hq
        simp at h; subst h
        cases i with
        | zero => simp [nth] at hx; subst hx; exact ⟨v, hv, by simp⟩
        | succ i => obtain ⟨w, h1, h2⟩ := cvs_nth (i := i) hq (by simpa [nth] using hx); exact ⟨w, h1, by simpa using h2⟩
      · cases h
    · cases h
theorem cvs_append {N : List Nm} : ∀ {l m : List CV} {a b : List Value}, CV.vals N l = some a → CV.vals N m = some b → CV.vals N (l ++ m) = some (a ++ b)
  | [], m, a, b, h, k => by simp [CV.vals] at h; subst h; simpa using k
  | y :: r, m, a, b, h, k => by
    simp only [CV.vals] at h
    split at h
    · rename_i v hv
      split at h
      · rename_i q hq
        simp at h; subst h
        simp [CV.vals, hv, cvs_append hq k]
      · cases h
    · cases h
theorem cvs_take {N : List Nm} : ∀ {l : List CV} {a : List Value} (n : Nat), CV.vals N l = some a → CV.vals N (l.take n) = some (a.take n)
  | [], a, n, h => by simp [CV.vals] at h; subst h; simp [CV.vals]
  | y :: r, a, 0, h => by simp [CV.vals]
  | y :: r, a, n + 1, h => by
    simp only [CV.vals] at h
    split at h
    · rename_i v hv
      split at h
      · rename_i q hq
        simp at h; subst h
        simp [CV.vals, hv, cvs_take n hq]
      · cases h
    · cases h
theorem cvs_drop {N : List Nm} : ∀ {l : List CV} {a : List Value} (n : Nat), CV.vals N l = some a → CV.vals N (l.drop n) = some (a.drop n)
  | [], a, n, h => by simp [CV.vals] at h; subst h; simp [CV.vals]
  | y :: r, a, 0, h => by simpa using h
  | y :: r, a, n + 1, h => by
    simp only [CV.vals] at h
    split at h
    · split at h
      · rename_i q hq
        simp at h; subst h
        simpa using cvs_drop n hq
      · cases h
    · cases h
theorem cvs_mapV {N : List Nm} : ∀ (l : List Value), CV.vals N (l.map CV.v) = some l
  | [] => rfl
  | v :: r => by simp [CV.vals, CV.val, cvs_mapV r]
theorem cells_val {N : List Nm} {x : AV} {cs : List CV} {v : Value} (h : x.cells = some cs) (hv : x.val N = some v) : ∃ vs, CV.vals N cs = some vs ∧ ((∃ c, x = .c c) → vs = [v]) ∧ ((∀ c, x ≠ .c c) → v = .agg vs.toArray) := by
  cases x with
  | c x =>
    have h' : cs = [x] := by
      unfold AV.cells at h; split at h <;> simp_all
    subst h'
    simp only [AV.val] at hv
    exact ⟨[v], by simp [CV.vals, hv], fun _ => rfl, fun hn => absurd rfl (hn x)⟩
  | agg l =>
    simp [AV.cells] at h; subst h
    simp only [AV.val] at hv
    split at hv
    · rename_i q hq; simp at hv; subst hv; exact ⟨q, hq, (fun ⟨c, hc⟩ => by cases hc), fun _ => rfl⟩
    · cases hv
  | tup2 a b => simp [AV.cells] at h
  | tup3 a b d => simp [AV.cells] at h
  | clo f l => simp [AV.cells] at h

/-! ### Data in cells -/

def CC.Ok {α : Type} (c : CC α) (n : Nat) : Prop := (∀ x, (c.enc x).length = n) ∧ ∀ l x r, c.dec l = some (x, r) → ∃ p, l = p ++ r ∧ ∀ N, CV.vals N p = some (c.enc x)
theorem ccInt_ok : ccInt.Ok 1 := by
  refine ⟨fun _ => rfl, fun l x r h => ?_⟩
  unfold ccInt at h
  dsimp only at h
  split at h
  · simp at h; obtain ⟨rfl, rfl⟩ := h; exact ⟨[_], rfl, fun N => rfl⟩
  · simp at h; obtain ⟨rfl, rfl⟩ := h; exact ⟨[_], rfl, fun N => rfl⟩
  · cases h
theorem ccBool_ok : ccBool.Ok 1 := by
  refine ⟨fun _ => rfl, fun l x r h => ?_⟩
  unfold ccBool at h
  dsimp only at h
  split at h
  · simp at h; obtain ⟨rfl, rfl⟩ := h; exact ⟨[_], rfl, fun N => rfl⟩
  · simp at h; obtain ⟨rfl, rfl⟩ := h; exact ⟨[_], rfl, fun N => rfl⟩
  · cases h
theorem ccStr_ok : ccStr.Ok 1 := by
  refine ⟨fun _ => rfl, fun l x r h => ?_⟩
  unfold ccStr at h
  dsimp only at h
  split at h
  · simp at h; obtain ⟨rfl, rfl⟩ := h; exact ⟨[_], rfl, fun N => rfl⟩
  · cases h
theorem ccByte_ok : ccByte.Ok 1 := by
  refine ⟨fun _ => rfl, fun l x r h => ?_⟩
  unfold ccByte at h
  dsimp only at h
  split at h
  · simp at h; obtain ⟨rfl, rfl⟩ := h; exact ⟨[_], rfl, fun N => rfl⟩
  · cases h
theorem ccCx_ok : ccCx.Ok 1 := by
  refine ⟨fun _ => rfl, fun l x r h => ?_⟩
  unfold ccCx at h
  dsimp only at h
  split at h
  · simp at h; obtain ⟨rfl, rfl⟩ := h; exact ⟨[_], rfl, fun N => rfl⟩
  · cases h
theorem CC.seq_ok {α β γ : Type} {c : CC α} {d : CC β} {n m : Nat} (hc : c.Ok n) (hd : d.Ok m) {f : α → β → γ} {p : γ → α} {q : γ → β} (hp : ∀ x y, p (f x y) = x) (hq : ∀ x y, q (f x y) = y) : (c.seq d f p q).Ok (n + m) := by
  refine ⟨fun x => by simp [CC.seq, hc.1, hd.1], fun l z r h => ?_⟩
  unfold CC.seq at h
  dsimp only at h
  split at h
  · rename_i x l' hx
    split at h
    · rename_i y r' hy
      simp at h; obtain ⟨rfl, rfl⟩ := h
      obtain ⟨p1, rfl, h1⟩ := hc.2 _ _ _ hx
      obtain ⟨p2, rfl, h2⟩ := hd.2 _ _ _ hy
      exact ⟨p1 ++ p2, by rw [List.append_assoc], fun N => by simp only [CC.seq]; rw [hp, hq]; exact cvs_append (h1 N) (h2 N)⟩
    · cases h
  · cases h
theorem ccTwo_ok {α β : Type} {c : CC α} {d : CC β} {n m : Nat} (hc : c.Ok n) (hd : d.Ok m) : (ccTwo c d).Ok (n + m) := CC.seq_ok hc hd (fun _ _ => rfl) (fun _ _ => rfl)
theorem ccIv_ok : ccIv.Ok 3 := CC.seq_ok ccInt_ok (ccTwo_ok ccInt_ok ccBool_ok) (fun _ _ => rfl) (fun _ _ => rfl)
theorem ccV_ok : ccV.Ok 9 := CC.seq_ok ccIv_ok (ccTwo_ok ccIv_ok ccIv_ok) (fun _ _ => rfl) (fun _ _ => rfl)
theorem ccRay_ok : ccRay.Ok 18 := CC.seq_ok ccV_ok ccV_ok (fun _ _ => rfl) (fun _ _ => rfl)
theorem ccSurf_ok : ccSurf.Ok 23 := CC.seq_ok (ccTwo_ok ccBool_ok ccBool_ok) (ccTwo_ok ccIv_ok (ccTwo_ok ccIv_ok (ccTwo_ok ccIv_ok (ccTwo_ok ccIv_ok (ccTwo_ok ccIv_ok (ccTwo_ok ccIv_ok ccIv_ok)))))) (fun _ _ => rfl) (fun _ _ => rfl)
theorem ccDec_ok : ccDec.Ok 2 := CC.seq_ok ccInt_ok ccInt_ok (fun _ _ => rfl) (fun _ _ => rfl)
theorem ccFace_ok : ccFace.Ok 14 := CC.seq_ok (ccTwo_ok ccBool_ok (ccTwo_ok ccDec_ok (ccTwo_ok ccDec_ok ccDec_ok))) (ccTwo_ok ccDec_ok (ccTwo_ok ccDec_ok (ccTwo_ok ccDec_ok ccStr_ok))) (fun _ _ => rfl) (fun _ _ => rfl)
theorem ccGlass_ok : ccGlass.Ok 13 := CC.seq_ok ccStr_ok (ccTwo_ok ccDec_ok (ccTwo_ok ccDec_ok (ccTwo_ok ccDec_ok (ccTwo_ok ccDec_ok (ccTwo_ok ccDec_ok ccDec_ok))))) (fun _ _ => rfl) (fun _ _ => rfl)
theorem ccSix_ok : ccSix.Ok 6 := ccTwo_ok ccInt_ok (ccTwo_ok ccInt_ok (ccTwo_ok ccInt_ok (ccTwo_ok ccInt_ok (ccTwo_ok ccInt_ok ccInt_ok))))
theorem ccRawFace_ok : ccRawFace.Ok 6 := CC.seq_ok ccInt_ok (ccTwo_ok ccInt_ok (ccTwo_ok ccInt_ok (ccTwo_ok ccInt_ok (ccTwo_ok ccInt_ok ccInt_ok)))) (fun _ _ => rfl) (fun _ _ => rfl)
theorem ccRawRay_ok : ccRawRay.Ok 6 := CC.seq_ok ccInt_ok (ccTwo_ok ccInt_ok (ccTwo_ok ccInt_ok (ccTwo_ok ccInt_ok (ccTwo_ok ccInt_ok ccInt_ok)))) (fun _ _ => rfl) (fun _ _ => rfl)
theorem ccQuad_ok : ccQuad.Ok 4 := ccTwo_ok ccInt_ok (ccTwo_ok ccInt_ok (ccTwo_ok ccInt_ok ccInt_ok))
theorem ccPair_ok : ccPair.Ok 2 := CC.seq_ok ccInt_ok ccInt_ok (fun _ _ => rfl) (fun _ _ => rfl)
theorem ccRep_ok : ccRep.Ok 6 := ccTwo_ok ccInt_ok (ccTwo_ok ccInt_ok (ccTwo_ok ccInt_ok (ccTwo_ok ccBool_ok (ccTwo_ok ccCx_ok ccCx_ok))))
theorem ccDRep_ok : ccDRep.Ok 8 := ccTwo_ok ccInt_ok (ccTwo_ok ccInt_ok (ccTwo_ok ccInt_ok (ccTwo_ok ccBool_ok (ccTwo_ok ccPair_ok ccPair_ok))))
theorem ccRow_ok : ccRow.Ok 12 := ccTwo_ok ccIv_ok (ccTwo_ok ccIv_ok ccRep_ok)
theorem ccDRow_ok : ccDRow.Ok 14 := ccTwo_ok ccIv_ok (ccTwo_ok ccIv_ok ccDRep_ok)
theorem ccIvp_ok : ccIvp.Ok 6 := ccTwo_ok ccIv_ok ccIv_ok
theorem Kd.ok : ∀ (k : Kd), k.cc.Ok k.sz
  | .int => ccInt_ok
  | .iv => ccIv_ok
  | .surf => ccSurf_ok
  | .face => ccFace_ok
  | .glass => ccGlass_ok
  | .rface => ccRawFace_ok
  | .rray => ccRawRay_ok
  | .pair => ccPair_ok
  | .quad => ccQuad_ok
  | .byte => ccByte_ok
  | .cx => ccCx_ok
  | .ivp => ccIvp_ok
  | .row => ccRow_ok
  | .drow => ccDRow_ok

/-! ### Rows of memory -/

def Lst.cells (L : Lst) : List Value := L.l.flatMap L.k.cc.enc

/-- A list lies at a slice's place. -/
def ListAt (w : World) (v : Value) (L : Lst) : Prop :=
  (v = .slice none 0 0 ∧ L.l = []) ∨
  ∃ a cap, v = .slice (some a) L.l.length cap ∧ (L.l ≠ [] → a.spot = none) ∧ (L.l ≠ [] → a.block < w.heap.size) ∧
    (∀ k x, L.l[k]? = some x → ∀ j u, (L.k.cc.enc x)[j]? = some u → w.cell? ⟨a.block, a.off + k * L.k.sz + j, none⟩ = some u) ∧ L.l.length ≤ cap

def RowOK (B : Nat) (N : List Nm) (w : World) (i : Nat) : Row → Prop
  | .box cs => ∃ b T vs, nth N i = some (.blk b) ∧ B ≤ b ∧ CV.vals N cs = some vs ∧ w.heap[b]? = some (.cells vs.toArray T (0, 0))
  | .ro cs => ∃ b T vs, nth N i = some (.blk b) ∧ CV.vals N cs = some vs ∧ w.heap[b]? = some (.cells vs.toArray T (0, 0))
  | .list L => ∃ a n cap, nth N i = some (.sv a n cap) ∧ ListAt w (.slice a n cap) L
  | .grow L e => ∃ a n cap, nth N i = some (.sv a n cap) ∧ w.ownsRow B e L.k.sz (.slice a n cap) L.l.length L.cells
  | .nilr => nth N i = some (.sv none 0 0)
  | .dead => True

def blkOf (N : List Nm) (i : Nat) : Row → Option Nat
  | .box _ => match nth N i with | some (.blk b) => some b | _ => none
  | .ro _ => match nth N i with | some (.blk b) => some b | _ => none
  | .list L => match L.l with
    | [] => none
    | _ :: _ => match nth N i with | some (.sv a n cap) => (Value.slice a n cap).ownBlock | _ => none
  | .grow _ _ => match nth N i with | some (.sv a n cap) => (Value.slice a n cap).ownBlock | _ => none
  | .nilr => none
  | .dead => none

def Row.writable : Row → Bool
  | .box _ => true
  | .grow _ _ => true
  | _ => false

/-- What lay below lies as it lay; and so does whatever is no cells. -/
structure BelowO (B : Nat) (w w' : World) : Prop extends Below B w w' where
  others : KeepsOthers w w'
theorem BelowO.refl (B : Nat) (w : World) : BelowO B w w := ⟨Below.refl B w, KeepsOthers.refl w⟩
theorem BelowO.trans {B : Nat} {a b c : World} (h : BelowO B a b) (k : BelowO B b c) : BelowO B a c := ⟨h.toBelow.trans k.toBelow, h.others.trans k.others⟩
theorem BelowO.mono {B B' : Nat} {a b : World} (h : BelowO B a b) (hB : B' ≤ B) : BelowO B' a b := ⟨h.toBelow.mono hB, h.others⟩
theorem BelowO.alloc {B : Nat} {a b : World} (h : BelowO B a b) (hB : B ≤ b.heap.size) (o : Obj) : BelowO B a (b.alloc o) := ⟨h.toBelow.alloc hB o, h.others.trans (KeepsOthers.alloc b o)⟩
theorem keepsOthers_of_below {w w' : World} (h : Below w.heap.size w w') : KeepsOthers w w' := ⟨h.size, fun k _ hk _ => (h.block k (Array.getElem?_eq_some_iff.1 hk).1).trans hk⟩
theorem belowO_of {B : Nat} {w w' : World} (h : Below w.heap.size w w') (hB : B ≤ w.heap.size) : BelowO B w w' := ⟨h.mono hB, keepsOthers_of_below h⟩

structure RelM (B : Nat) (w0 : World) (N : List Nm) (M : List Row) (w : World) : Prop where
  below : BelowO B w0 w
  base : B ≤ w.heap.size
  len : N.length = M.length
  row : ∀ i r, nth M i = some r → RowOK B N w i r
  sep : ∀ i j r q b, nth M i = some r → nth M j = some q → i ≠ j → r.writable = true → blkOf N i r = some b → blkOf N j q ≠ some b

theorem RowOK.blk_lt {B : Nat} {N : List Nm} {w : World} {i : Nat} {r : Row} (h : RowOK B N w i r) {b : Nat} (hb : blkOf N i r = some b) : b < w.heap.size := by
  cases r with
  | box cs =>
    obtain ⟨b', T, vs, hn, _, _, hh⟩ := h
    simp [blkOf, hn] at hb; subst hb
    exact (Array.getElem?_eq_some_iff.1 hh).1
  | ro cs =>
    obtain ⟨b', T, vs, hn, _, hh⟩ := h
    simp [blkOf, hn] at hb; subst hb
    exact (Array.getElem?_eq_some_iff.1 hh).1
  | list L =>
    obtain ⟨a, n, cap, hn, hl⟩ := h
    simp only [blkOf] at hb
    split at hb
    · cases hb
    · rename_i x0 r0 hne
      simp [hn] at hb
      rcases hl with ⟨he, _⟩ | ⟨a', cap', he, _, hlt, _⟩
      · cases he; simp [Value.ownBlock] at hb
      · cases he; simp [Value.ownBlock] at hb; have := hlt (by rw [hne]; simp); omega
  | grow L e =>
    obtain ⟨a, n, cap, hn, hl⟩ := h
    simp [blkOf, hn] at hb
    exact (hl.lt b hb).2
  | nilr => simp [blkOf] at hb
  | dead => simp [blkOf] at hb

/-- A row stays as it was where its block does. -/
theorem RowOK.keep {B : Nat} {N N' : List Nm} {w w' : World} {i : Nat} {r : Row} (h : RowOK B N w i r) (hN : NLe N N') (hs : w.heap.size ≤ w'.heap.size)
    (hb : ∀ b, blkOf N i r = some b → w'.heap[b]? = w.heap[b]?) : RowOK B N' w' i r := by
  cases r with
  | box cs =>
    obtain ⟨b, T, vs, hn, h1, h2, h3⟩ := h
    refine ⟨b, T, vs, hN _ _ hn (by simp), h1, cvs_mono hN h2, ?_⟩
    rw [hb b (by simp [blkOf, hn])]; exact h3
  | ro cs =>
    obtain ⟨b, T, vs, hn, h2, h3⟩ := h
    refine ⟨b, T, vs, hN _ _ hn (by simp), cvs_mono hN h2, ?_⟩
    rw [hb b (by simp [blkOf, hn])]; exact h3
  | list L =>
    obtain ⟨a, n, cap, hn, hl⟩ := h
    refine ⟨a, n, cap, hN _ _ hn (by simp), ?_⟩
    rcases hl with hl | ⟨a', cap', he, hsp, hlt, hc⟩
    · exact .inl hl
    · cases he
      refine .inr ⟨a', cap, rfl, hsp, fun hne => by have := hlt hne; omega, fun k x hk j u hj => ?_, hc.2⟩
      have hne : ∃ y r, L.l = y :: r := by
        cases hL : L.l with
        | nil => rw [hL] at hk; simp at hk
        | cons y r => exact ⟨y, r, rfl⟩
      obtain ⟨y0, r0, hne⟩ := hne
      have h1 := hb a'.block (by simp [blkOf, hne, hn, Value.ownBlock])
      have h2 := World.cell?_of_block (w := w) (w' := w') (a := ⟨a'.block, a'.off + k * L.k.sz + j, none⟩) h1
      rw [h2]; exact hc.1 k x hk j u hj
  | grow L e =>
    obtain ⟨a, n, cap, hn, hl⟩ := h
    refine ⟨a, n, cap, hN _ _ hn (by simp), hl.1, ?_⟩
    rcases hl.2 with hn' | ⟨g, cap', cur, he, h1, h2, h3⟩
    · exact .inl hn'
    · cases he
      exact .inr ⟨g, cap, cur, rfl, h1, by rw [hb g (by simp [blkOf, hn, Value.ownBlock])]; exact h2, h3⟩
  | nilr => exact hN _ _ h (by simp)
  | dead => trivial

theorem blkOf_mono {N N' : List Nm} (hN : NLe N N') {i : Nat} {r : Row} {b : Nat} (h : blkOf N i r = some b) : blkOf N' i r = some b := by
  cases r with
  | list L =>
    obtain ⟨k, l⟩ := L
    cases l with
    | nil => simp [blkOf] at h
    | cons x r =>
      simp only [blkOf] at *
      split at h <;> first | (rw [hN _ _ ‹_› (by simp)]; exact h) | cases h
  | _ => simp only [blkOf] at * <;> (try cases h) <;> (split at h <;> first | (rw [hN _ _ ‹_› (by simp)]; exact h) | cases h)
theorem blkOf_back {B : Nat} {w : World} {N N' : List Nm} (hN : NLe N N') {i : Nat} {r : Row} {b : Nat} (h : RowOK B N w i r) (hb : blkOf N' i r = some b) : blkOf N i r = some b := by
  cases r with
  | ro cs => obtain ⟨b', T, vs, hn, _⟩ := h; simp only [blkOf, hN _ _ hn (by simp), hn] at *; exact hb
  | box cs => obtain ⟨b', T, vs, hn, _⟩ := h; simp only [blkOf, hN _ _ hn (by simp), hn] at *; exact hb
  | list L => obtain ⟨a, n, cap, hn, _⟩ := h; simp only [blkOf, hN _ _ hn (by simp), hn] at *; exact hb
  | grow L e => obtain ⟨a, n, cap, hn, _⟩ := h; simp only [blkOf, hN _ _ hn (by simp), hn] at *; exact hb
  | nilr => simp [blkOf] at hb
  | dead => simp [blkOf] at hb

/-- The world grew, nothing of ours was touched. -/
theorem RelM.keep {B : Nat} {w0 : World} {N : List Nm} {M : List Row} {w w' : World} (h : RelM B w0 N M w) (hb : Below w.heap.size w w') : RelM B w0 N M w' where
  below := h.below.trans (belowO_of hb h.base)
  base := Nat.le_trans h.base hb.size
  len := h.len
  row := fun i r hr => (h.row i r hr).keep (NLe.refl N) hb.size fun b hbk => hb.block b ((h.row i r hr).blk_lt hbk)
  sep := h.sep

theorem RelM.drew {B : Nat} {w0 : World} {N : List Nm} {M : List Row} {w : World} (h : RelM B w0 N M w) : RelM B w0 N M { w with drawn := w.drawn + 1 } :=
  h.keep ⟨rfl, rfl, rfl, Nat.le_refl _, fun _ _ => rfl⟩

/-- A new box. -/
theorem RelM.alloc {B : Nat} {w0 : World} {N : List Nm} {M : List Row} {w : World} (h : RelM B w0 N M w) {cs : List CV} {vs : List Value} (hc : CV.vals N cs = some vs) (T : TypeId) :
    RelM B w0 (N ++ [.blk w.heap.size]) (M ++ [.box cs]) (w.alloc (.cells vs.toArray T)) where
  below := h.below.alloc h.base _
  base := by simp; have := h.base; omega
  len := by simp [h.len]
  row := by
    intro i r hr
    have hold : ∀ k, k < w.heap.size → (w.alloc (.cells vs.toArray T)).heap[k]? = w.heap[k]? := fun k hk => Below.heap_alloc w _ k hk
    rcases nth_append_cases hr with h1 | ⟨rfl, rfl⟩
    · exact (h.row i r h1).keep (NLe.append _ _) (by simp) fun b hb => hold b ((h.row i r h1).blk_lt hb)
    · refine ⟨w.heap.size, T, vs, ?_, h.base, cvs_mono (NLe.append _ _) hc, heap_alloc_new w _⟩
      rw [← h.len]; exact nth_last N _
  sep := by
    intro i j r q b hr hq hij hw hb hb'
    rcases nth_append_cases hr with h1 | ⟨rfl, rfl⟩
    · have hbi := blkOf_back (NLe.append _ _) (h.row i r h1) hb
      rcases nth_append_cases hq with h2 | ⟨rfl, rfl⟩
      · exact h.sep i j r q b h1 h2 hij hw hbi (blkOf_back (NLe.append _ _) (h.row j q h2) hb')
      · have hlt := (h.row i r h1).blk_lt hbi
        have hnn : nth (N ++ [Nm.blk w.heap.size]) M.length = some (.blk w.heap.size) := by rw [← h.len]; exact nth_last N _
        simp [blkOf, hnn] at hb'
        omega
    · have hnn : nth (N ++ [Nm.blk w.heap.size]) M.length = some (.blk w.heap.size) := by rw [← h.len]; exact nth_last N _
      simp [blkOf, hnn] at hb
      rcases nth_append_cases hq with h2 | ⟨rfl, rfl⟩
      · have hlt := (h.row j q h2).blk_lt (blkOf_back (NLe.append _ _) (h.row j q h2) hb')
        omega
      · exact hij rfl

theorem rowsOff_length (M : List Row) (o : Option Nat) : (rowsOff M o).length = M.length := by
  cases o <;> simp [rowsOff, length_setNth]
theorem rowsOff_nth {M : List Row} {o : Option Nat} {j : Nat} {r : Row} (h : nth (rowsOff M o) j = some r) : r = .dead ∨ (nth M j = some r ∧ o ≠ some j) := by
  cases o with
  | none => exact .inr ⟨h, by simp⟩
  | some i =>
    rcases nth_setNth_cases h with ⟨rfl, rfl, _⟩ | ⟨hne, h1⟩
    · exact .inl rfl
    · exact .inr ⟨h1, fun e => hne (by cases e; rfl)⟩

/-- A new row at the end, an old one gone, the others as they were. -/
theorem RelM.push {B : Nat} {w0 : World} {N : List Nm} {M : List Row} {w w' : World} (h : RelM B w0 N M w) (o : Option Nat) (x : Nm) (r' : Row)
    (hb : BelowO B w0 w') (hs : w.heap.size ≤ w'.heap.size)
    (hk : ∀ j r, nth M j = some r → o ≠ some j → ∀ b, blkOf N j r = some b → w'.heap[b]? = w.heap[b]?)
    (hrow : RowOK B (N ++ [x]) w' M.length r')
    (hsep : ∀ b, blkOf (N ++ [x]) M.length r' = some b → ∀ j r, nth M j = some r → o ≠ some j → (r.writable = true ∨ r'.writable = true) → blkOf N j r ≠ some b) :
    RelM B w0 (N ++ [x]) (rowsOff M o ++ [r']) w' where
  below := hb
  base := Nat.le_trans h.base hs
  len := by simp [h.len, rowsOff_length]
  row := by
    intro i r hr
    rcases nth_append_cases hr with h1 | ⟨rfl, rfl⟩
    · rcases rowsOff_nth h1 with rfl | ⟨h2, h3⟩
      · trivial
      · exact (h.row i r h2).keep (NLe.append _ _) hs (hk i r h2 h3)
    · rw [rowsOff_length]; exact hrow
  sep := by
    intro i j r q b hr hq hij hw hbr hbq
    rcases nth_append_cases hr with h1 | ⟨rfl, rfl⟩
    · rcases rowsOff_nth h1 with rfl | ⟨h2, h3⟩
      · simp [blkOf] at hbr
      · have hbi := blkOf_back (NLe.append _ _) (h.row i r h2) hbr
        rcases nth_append_cases hq with k1 | ⟨rfl, rfl⟩
        · rcases rowsOff_nth k1 with rfl | ⟨k2, k3⟩
          · simp [blkOf] at hbq
          · exact h.sep i j r q b h2 k2 hij hw hbi (blkOf_back (NLe.append _ _) (h.row j q k2) hbq)
        · rw [rowsOff_length] at hbq
          exact hsep b hbq i r h2 h3 (.inl hw) hbi
    · rw [rowsOff_length] at hbr
      rcases nth_append_cases hq with k1 | ⟨rfl, rfl⟩
      · rcases rowsOff_nth k1 with rfl | ⟨k2, k3⟩
        · simp [blkOf] at hbq
        · exact hsep b hbr j q k2 k3 (.inr hw) (blkOf_back (NLe.append _ _) (h.row j q k2) hbq)
      · exact hij rfl

/-- A store into a box. -/
theorem RelM.store {B : Nat} {w0 : World} {N : List Nm} {M : List Row} {w w' : World} (h : RelM B w0 N M w) {i : Nat} {cs q : List CV} {b : Nat} {T : TypeId} {vs : List Value}
    (hi : nth M i = some (.box cs)) (hN : nth N i = some (.blk b)) (hq : CV.vals N q = some vs) (hw : w'.heap[b]? = some (.cells vs.toArray T (0, 0)))
    (hs : w'.heap.size = w.heap.size) (ho : w'.os = w.os) (ht : w'.tape = w.tape) (hu : w'.output = w.output)
    (hk : ∀ k, k ≠ b → w'.heap[k]? = w.heap[k]?) : RelM B w0 N (setNth M i (.box q)) w' := by
  obtain ⟨b', T', vs', hn, hB, _, hold⟩ := h.row i _ hi
  rw [hN] at hn; cases hn
  have hbi : blkOf N i (.box cs) = some b := by simp [blkOf, hN]
  refine ⟨?_, by rw [hs]; exact h.base, by rw [length_setNth]; exact h.len, ?_, ?_⟩
  · refine h.below.trans ⟨⟨ho, ht, hu, by omega, fun k hk' => hk k (by omega)⟩, ⟨by omega, fun k o hk' hc => ?_⟩⟩
    by_cases e : k = b
    · subst e; rw [hold] at hk'; cases hk'; simp [Obj.isCells] at hc
    · rw [hk k e]; exact hk'
  · intro j r hr
    rcases nth_setNth_cases hr with ⟨rfl, rfl, _⟩ | ⟨hne, h1⟩
    · exact ⟨b, T, vs, hN, hB, hq, hw⟩
    · refine (h.row j r h1).keep (NLe.refl N) (by omega) fun k hkk => hk k ?_
      rintro rfl
      exact h.sep i j _ r k hi h1 (fun e => hne e.symm) rfl hbi hkk
  · intro j k r p c hr hp hjk hwr hb hb'
    have back : ∀ {j : Nat} {r : Row}, nth (setNth M i (.box q)) j = some r → ∃ r', nth M j = some r' ∧ r'.writable = r.writable ∧ blkOf N j r' = blkOf N j r := by
      intro j r hr
      rcases nth_setNth_cases hr with ⟨rfl, rfl, _⟩ | ⟨_, h1⟩
      · exact ⟨_, hi, rfl, rfl⟩
      · exact ⟨r, h1, rfl, rfl⟩
    obtain ⟨r', a1, a2, a3⟩ := back hr
    obtain ⟨p', b1, b2, b3⟩ := back hp
    exact h.sep j k r' p' c a1 b1 hjk (a2.trans hwr) (a3.trans hb) (b3.trans hb')
theorem nth_app {α : Type u} {l m : List α} {i : Nat} {x : α} (h : Ev.nth (l ++ m) i = some x) : Ev.nth l i = some x ∨ (l.length ≤ i ∧ Ev.nth m (i - l.length) = some x) := by
  rw [nth_eq] at h
  rcases Nat.lt_or_ge i l.length with hl | hl
  · rw [List.getElem?_append_left hl] at h; exact .inl (by rw [nth_eq]; exact h)
  · rw [List.getElem?_append_right hl] at h; exact .inr ⟨hl, by rw [nth_eq]; exact h⟩

/-! Behind other rows -/

def CV.shift (n : Nat) : CV → CV
  | .own i off => .own (n + i) off
  | .el i e sz off => .el (n + i) e sz off
  | .sl i => .sl (n + i)
  | x => x
def AV.shift (n : Nat) : AV → AV
  | .c x => .c (x.shift n)
  | .agg l => .agg (l.map (CV.shift n))
  | .tup2 a b => .tup2 (a.shift n) (b.shift n)
  | .tup3 a b d => .tup3 (a.shift n) (b.shift n) (d.shift n)
  | .clo f l => .clo f (l.map (CV.shift n))
theorem nth_shift {α : Type u} (l m : List α) (i : Nat) : nth (l ++ m) (l.length + i) = nth m i := by
  rw [nth_eq, nth_eq, List.getElem?_append_right (by omega)]; congr 1; omega
theorem CV.shift_val {N N' : List Nm} {x : CV} : (x.shift N.length).val (N ++ N') = x.val N' := by
  cases x <;> simp only [CV.shift, CV.val, nth_shift]
theorem CV.shift_vals {N N' : List Nm} : ∀ {l : List CV}, CV.vals (N ++ N') (l.map (CV.shift N.length)) = CV.vals N' l
  | [] => rfl
  | x :: r => by simp only [List.map_cons, CV.vals, CV.shift_val, CV.shift_vals (l := r)]
theorem AV.shift_val {N N' : List Nm} : ∀ {x : AV}, (x.shift N.length).val (N ++ N') = x.val N'
  | .c x => by simp only [AV.shift, AV.val, CV.shift_val]
  | .agg l => by simp only [AV.shift, AV.val, CV.shift_vals]
  | .clo f l => by simp only [AV.shift, AV.val, CV.shift_vals]
  | .tup2 a b => by simp only [AV.shift, AV.val, AV.shift_val (x := a), AV.shift_val (x := b)]
  | .tup3 a b d => by simp only [AV.shift, AV.val, AV.shift_val (x := a), AV.shift_val (x := b), AV.shift_val (x := d)]

/-- Rows of a call's own that nothing points out of. -/
def growsB : List Row → Bool
  | [] => true
  | .grow _ _ :: r => growsB r
  | .nilr :: r => growsB r
  | .dead :: r => growsB r
  | _ => false
theorem growsB_nth : ∀ {M : List Row} {i : Nat} {r : Row}, growsB M = true → nth M i = some r → (∃ L e, r = .grow L e) ∨ r = .nilr ∨ r = .dead
  | [], i, r, _, h => by simp [nth] at h
  | x :: M, i, r, hg, h => by
    have hg' : growsB M = true ∧ ((∃ L e, x = .grow L e) ∨ x = .nilr ∨ x = .dead) := by
      cases x <;> simp [growsB] at hg <;> exact ⟨hg, by simp⟩
    cases i with
    | zero => simp [nth] at h; subst h; exact hg'.2
    | succ i => exact growsB_nth hg'.1 (by simpa [nth] using h)

theorem RelM.join {B : Nat} {w0 : World} {N N' : List Nm} {M M' : List Row} {w w' : World} (h : RelM B w0 N M w) (h' : RelM w.heap.size w N' M' w') (hg : growsB M' = true) : RelM B w0 (N ++ N') (M ++ M') w' := by
  have hnm : ∀ i, nth (N ++ N') (M.length + i) = nth N' i := fun i => by rw [← h.len]; exact nth_shift N N' i
  have own : ∀ {j : Nat} {r : Row}, nth M' j = some r → RowOK B (N ++ N') w' (M.length + j) r ∧ blkOf (N ++ N') (M.length + j) r = blkOf N' j r ∧ ∀ b, blkOf N' j r = some b → w.heap.size ≤ b := by
    intro j r hj
    have ho := h'.row j r hj
    rcases growsB_nth hg hj with ⟨L, e, rfl⟩ | rfl | rfl
    · obtain ⟨a, n, cap, hn, hl⟩ := ho
      refine ⟨⟨a, n, cap, by rw [hnm]; exact hn, hl.1, ?_⟩, by simp only [blkOf, hnm], fun b hb => ?_⟩
      · rcases hl.2 with h1 | ⟨g, cap', cur, he, h1, h2⟩
        · exact .inl h1
        · exact .inr ⟨g, cap', cur, he, Nat.le_trans h.base h1, h2⟩
      · simp only [blkOf, hn] at hb
        rcases hl.2 with ⟨h1, _⟩ | ⟨g, cap', cur, he, h1, h2⟩
        · cases h1; simp [Value.ownBlock] at hb
        · cases he; simp [Value.ownBlock] at hb; omega
    · exact ⟨by show nth (N ++ N') (M.length + j) = _; rw [hnm]; exact ho, rfl, fun b hb => by simp [blkOf] at hb⟩
    · exact ⟨trivial, rfl, fun b hb => by simp [blkOf] at hb⟩
  refine ⟨h.below.trans (h'.below.mono h.base), Nat.le_trans h.base h'.below.size, by simp [h.len, h'.len], ?_, ?_⟩
  · intro i r hi
    rcases nth_app hi with h1 | ⟨h1, h2⟩
    · exact (h.row i r h1).keep (NLe.append _ _) h'.below.size fun b hb => h'.below.block b ((h.row i r h1).blk_lt hb)
    · have := (own h2).1
      rwa [show M.length + (i - M.length) = i by omega] at this
  · intro i j r q b hi hj hij hw hb hb'
    rcases nth_app hi with h1 | ⟨h1, h2⟩
    · have hbi := blkOf_back (NLe.append _ _) (h.row i r h1) hb
      rcases nth_app hj with k1 | ⟨k1, k2⟩
      · exact h.sep i j r q b h1 k1 hij hw hbi (blkOf_back (NLe.append _ _) (h.row j q k1) hb')
      · obtain ⟨_, e2, e3⟩ := own k2
        rw [show M.length + (j - M.length) = j by omega] at e2
        have := e3 b (by rw [← e2]; exact hb')
        have := (h.row i r h1).blk_lt hbi
        omega
    · obtain ⟨_, f2, f3⟩ := own h2
      rw [show M.length + (i - M.length) = i by omega] at f2
      have hbi : blkOf N' (i - M.length) r = some b := by rw [← f2]; exact hb
      rcases nth_app hj with k1 | ⟨k1, k2⟩
      · have := f3 b hbi
        have := (h.row j q k1).blk_lt (blkOf_back (NLe.append _ _) (h.row j q k1) hb')
        omega
      · obtain ⟨_, e2, e3⟩ := own k2
        rw [show M.length + (j - M.length) = j by omega] at e2
        exact h'.sep _ _ r q b h2 k2 (by omega) hw hbi (by rw [← e2]; exact hb')


theorem RowOK.base_le {B B' : Nat} {N : List Nm} {w : World} {i : Nat} {r : Row} (hB : B ≤ B') (h : RowOK B' N w i r) : RowOK B N w i r := by
  cases r with
  | box cs => obtain ⟨b, T, vs, h1, h2, h3⟩ := h; exact ⟨b, T, vs, h1, Nat.le_trans hB h2, h3⟩
  | ro cs => exact h
  | list L => exact h
  | nilr => exact h
  | dead => trivial
  | grow L e =>
    obtain ⟨a, n, cap, hn, hl⟩ := h
    refine ⟨a, n, cap, hn, hl.1, ?_⟩
    rcases hl.2 with h1 | ⟨g, cap', cur, he, h1, h2⟩
    · exact .inl h1
    · exact .inr ⟨g, cap', cur, he, Nat.le_trans hB h1, h2⟩
end Go.Proofs.YtlbmjajjldfigaaGreat.Ev
