/-
  Arguments as they come: slices opened to lists, and read again behind a call.
-/
import Derived.Test.YtlbmjajjldfigaaGreatEvRet
import Derived.Test.YtlbmjajjldfigaaGreatEvCod
import Derived.Deep.Slices
import Derived.ChangeReads
import Derived.ChangeOld
import Derived.ChangeArms
import Derived.OpenShut
namespace Go.Proofs.YtlbmjajjldfigaaGreat.Ev
open Go Go.RowKit Go.Deep
universe u

section
variable {H : Type} {enc : TypeId × Value → H} {P : Program} {w w' : World} {base : Nat} {sp : Nat → Bool} {held : Bool}

theorem trod_below {B : Nat} (hb : Below B w w') (hB : w.heap.size ≤ B) {t : TypeId} {v : Value} {d : DataW H} {ps : List MemPlace} (h : DataW.Trod enc P w base sp held t v d ps) : DataW.Trod enc P w' base sp held t v d ps := by
  obtain ⟨n, hn⟩ := h
  refine ⟨n, DataW.trod_carry n t _ _ hn fun p hp => ?_⟩
  have hlt := DataW.trod_lt n t _ _ hn p hp
  cases p with
  | cell b off => exact World.cell?_of_block (a := ⟨b, off, none⟩) (hb.block b (Nat.lt_of_lt_of_le hlt hB))
  | map b => exact hb.block b (Nat.lt_of_lt_of_le hlt hB)
theorem trodAll_below {B : Nat} (hb : Below B w w') (hB : w.heap.size ≤ B) : ∀ {ts : List TypeId} {vs : List Value} {ds : List (DataW H)} {ps : List MemPlace}, DataW.TrodAll enc P w base sp held ts vs ds ps → DataW.TrodAll enc P w' base sp held ts vs ds ps
  | [], [], [], _, h => h
  | _ :: _, _ :: _, _ :: _, _, ⟨p, q, h, hs, e⟩ => ⟨p, q, trod_below hb hB h, trodAll_below hb hB hs, e⟩

theorem cell_lt {a : Addr} {v : Value} (h : w.cell? a = some v) : a.block < w.heap.size := by
  rcases Nat.lt_or_ge a.block w.heap.size with h1 | h1
  · exact h1
  · have : w.heap[a.block]? = none := Array.getElem?_eq_none h1
    simp [World.cell?, this] at h

/-- A slice whose elements are of a kind. -/
theorem open_list {t e : TypeId} (ht : P.underlying t = some (.slice e)) (k : Kd) (hpos : 0 < k.sz) (hc : P.cellsOf e = k.sz)
    (hel : ∀ n cs x, DataW.trod enc P w base sp held n e cs = some x → ∃ y, cs = k.cc.enc y)
    {r : Reach} {b0 : Nat} {v : Value} {d : DataW H} {ps : List MemPlace} (hv : Value.okWide P w r b0 t v) (h : DataW.Trod enc P w base sp held t v d ps) :
    ∃ (l : List k.T) (a : Option Addr) (n cap : Nat), v = .slice a n cap ∧ ListAt w (.slice a n cap) ⟨k, l⟩ := by
  obtain ⟨fuel, h⟩ := h
  obtain ⟨oa, ol, oc, rfl⟩ := Go.WideShapes.okWide_slice ht hv
  rcases open_slice ht h with ⟨h1, _⟩ | ⟨a, len, cap, m, n, D, Pl, hcs, hb, hl, hm, hmm, hx, hi⟩
  · have : Value.slice oa ol oc = .slice none 0 0 := by simpa [Value.cells] using h1
    exact ⟨[], none, 0, 0, this, .inl ⟨rfl, rfl⟩⟩
  · have : Value.slice oa ol oc = .slice (some a) len cap := by simpa [Value.cells] using hcs
    have hlm : len ≤ m := by rw [hmm]; split <;> omega
    have each : ∀ i : Fin len, ∃ y : k.T, w.cells? base (a.add (i.1 * P.cellsOf e)) (P.cellsOf e) = some (k.cc.enc y) := by
      intro i
      obtain ⟨cs', h1, h2⟩ := hi i.1 (by omega)
      obtain ⟨y, rfl⟩ := hel _ _ _ h2
      exact ⟨y, h1⟩
    obtain ⟨f, hf⟩ := Classical.axiomOfChoice each
    have hspot : 0 < len → a.spot = none ∧ a.block < w.heap.size := by
      intro h0
      obtain ⟨_, _, h3⟩ := World.cells?_some (hf ⟨0, h0⟩)
      have h4 := h3 0 (by omega)
      rw [Nat.zero_mul] at h4
      have hz : ∀ (b : Addr), b.add 0 = b := fun b => by unfold Addr.add; simp
      rw [hz, hz] at h4
      have hlen := k.ok.1 (f ⟨0, h0⟩)
      have hs : (k.cc.enc (f ⟨0, h0⟩))[0]? = some ((k.cc.enc (f ⟨0, h0⟩))[0]'(by omega)) := List.getElem?_eq_getElem _
      rw [hs] at h4
      exact ⟨World.cell?_spot h4, cell_lt h4⟩
    refine ⟨List.ofFn f, some a, len, cap, this, .inr ⟨a, cap, by simp, fun hne => ?_, fun hne => ?_, fun i x hx j u hj => ?_, by simpa using hl⟩⟩
    · exact (hspot (by rcases Nat.eq_zero_or_pos len with h0 | h0; · subst h0; simp at hne
                       · exact h0)).1
    · exact (hspot (by rcases Nat.eq_zero_or_pos len with h0 | h0; · subst h0; simp at hne
                       · exact h0)).2
    · have hil : i < len := by
        have := (List.getElem?_eq_some_iff.1 hx).1
        simpa using this
      have hfx : f ⟨i, hil⟩ = x := by
        rw [List.getElem?_ofFn] at hx
        simpa [hil] using hx
      obtain ⟨_, _, h3⟩ := World.cells?_some (hf ⟨i, hil⟩)
      have hjl : j < k.sz := by
        have := (List.getElem?_eq_some_iff.1 hj).1
        rw [k.ok.1] at this; exact this
      have h4 := h3 j (by omega)
      rw [hfx, hj, hc, addr_add (hspot (by omega)).1, addr_add rfl] at h4
      exact h4
theorem elem_int {e : TypeId} (he : P.underlying e = some (.int .i64)) (n : Nat) (cs : List Value) (x : DataW H × List MemPlace) (h : DataW.trod enc P w base sp held n e cs = some x) : ∃ y : Int, cs = ccInt.enc y := by
  obtain ⟨m, rfl, _, _⟩ := DataW.trod_int he h
  exact ⟨m, rfl⟩
/-- Six numbers in a struct. -/
theorem cells_six {e i : TypeId} {fs : Array Field} (he : P.underlying e = some (.struct fs)) (hfs : fs.map (fun f => (f.offset, f.type)) = #[(0, i), (1, i), (2, i), (3, i), (4, i), (5, i)]) (hi : P.underlying i = some (.int .i64)) (hci : P.cellsOf i = 1) (hce : P.cellsOf e = 6)
    {n : Nat} {cs : List Value} {x : DataW H × List MemPlace} (h : DataW.trod enc P w base sp held n e cs = some x) : ∃ a b c d f g : Int, cs = [.int .i64 a, .int .i64 b, .int .i64 c, .int .i64 d, .int .i64 f, .int .i64 g] := by
  obtain ⟨xs, m, _, _, hl, hxl, hf⟩ := DataW.trod_struct he h
  have hsz : fs.size = 6 := by have := congrArg Array.size hfs; simpa using this
  have one : ∀ j, j < 6 → ∃ z : Int, cs[j]? = some (.int .i64 z) := by
    intro j hj
    have hfj : fs[j]? = some (fs[j]'(by omega)) := Array.getElem?_eq_getElem _
    have h1 := hf j _ hfj
    have hx : xs[j]? = some (xs[j]'(by omega)) := List.getElem?_eq_getElem _
    rw [hx] at h1
    have hjj : (fs[j]'(by omega)).offset = j ∧ (fs[j]'(by omega)).type = i := by
      have := congrArg (fun a : Array (Nat × TypeId) => a[j]?) hfs
      simp only [Array.getElem?_map, hfj, Option.map_some] at this
      have h2 : j = 0 ∨ j = 1 ∨ j = 2 ∨ j = 3 ∨ j = 4 ∨ j = 5 := by omega
      rcases h2 with rfl | rfl | rfl | rfl | rfl | rfl <;> simpa using this
    rw [hjj.1, hjj.2, hci] at h1
    obtain ⟨z, hz, _, _⟩ := DataW.trod_int hi h1
    refine ⟨z, ?_⟩
    have := congrArg (fun l : List Value => l[0]?) hz
    simpa using this
  obtain ⟨a, ha⟩ := one 0 (by omega)
  obtain ⟨b, hb⟩ := one 1 (by omega)
  obtain ⟨c, hc⟩ := one 2 (by omega)
  obtain ⟨d, hd⟩ := one 3 (by omega)
  obtain ⟨f, hff⟩ := one 4 (by omega)
  obtain ⟨g, hg⟩ := one 5 (by omega)
  refine ⟨a, b, c, d, f, g, ?_⟩
  apply List.ext_getElem?
  intro j
  have h2 : j = 0 ∨ j = 1 ∨ j = 2 ∨ j = 3 ∨ j = 4 ∨ j = 5 ∨ 6 ≤ j := by omega
  rcases h2 with rfl | rfl | rfl | rfl | rfl | rfl | h6
  · exact ha
  · exact hb
  · exact hc
  · exact hd
  · exact hff
  · exact hg
  · rw [List.getElem?_eq_none (by omega), List.getElem?_eq_none (by simpa using h6)]
theorem elem_rface {e i : TypeId} {fs : Array Field} (he : P.underlying e = some (.struct fs)) (hfs : fs.map (fun f => (f.offset, f.type)) = #[(0, i), (1, i), (2, i), (3, i), (4, i), (5, i)]) (hi : P.underlying i = some (.int .i64)) (hci : P.cellsOf i = 1) (hce : P.cellsOf e = 6)
    (n : Nat) (cs : List Value) (x : DataW H × List MemPlace) (h : DataW.trod enc P w base sp held n e cs = some x) : ∃ y : RawFace, cs = ccRawFace.enc y := by
  obtain ⟨a, b, c, d, f, g, rfl⟩ := cells_six he hfs hi hci hce h
  exact ⟨⟨a, b, c, d, f, g⟩, rfl⟩
theorem elem_rray {e i : TypeId} {fs : Array Field} (he : P.underlying e = some (.struct fs)) (hfs : fs.map (fun f => (f.offset, f.type)) = #[(0, i), (1, i), (2, i), (3, i), (4, i), (5, i)]) (hi : P.underlying i = some (.int .i64)) (hci : P.cellsOf i = 1) (hce : P.cellsOf e = 6)
    (n : Nat) (cs : List Value) (x : DataW H × List MemPlace) (h : DataW.trod enc P w base sp held n e cs = some x) : ∃ y : RawRay, cs = ccRawRay.enc y := by
  obtain ⟨a, b, c, d, f, g, rfl⟩ := cells_six he hfs hi hci hce h
  exact ⟨⟨a, b, c, d, f, g⟩, rfl⟩
/-- Such a struct by itself. -/
theorem open_rray {e i : TypeId} {fs : Array Field} {r : Reach} {b0 : Nat} (he : P.underlying e = some (.struct fs)) (hfs : fs.map (fun f => (f.offset, f.type)) = #[(0, i), (1, i), (2, i), (3, i), (4, i), (5, i)]) (hi : P.underlying i = some (.int .i64)) (hci : P.cellsOf i = 1) (hce : P.cellsOf e = 6)
    {v : Value} {d : DataW H} {ps : List MemPlace} (hv : Value.okWide P w r b0 e v) (h : DataW.Trod enc P w base sp held e v d ps) : ∃ y : RawRay, v = cRawRay.enc y := by
  obtain ⟨cs, rfl, hsz⟩ := Go.WideShapes.okWide_struct he hv
  obtain ⟨n, hn⟩ := h
  obtain ⟨a, b, c, d, f, g, hh⟩ := cells_six he hfs hi hci hce hn
  refine ⟨⟨a, b, c, d, f, g⟩, ?_⟩
  have : cs = #[.int .i64 a, .int .i64 b, .int .i64 c, .int .i64 d, .int .i64 f, .int .i64 g] := by apply Array.ext'; simpa [Value.cells] using hh
  rw [this]; rfl
end

/-- The rows of arguments. -/
theorem relM_args {N : List Nm} {M : List Row} {w : World} (hlen : N.length = M.length) (h : ∀ i r, nth M i = some r → ∃ L a n cap, r = .list L ∧ nth N i = some (.sv a n cap) ∧ ListAt w (.slice a n cap) L) : RelM w.heap.size w N M w where
  below := BelowO.refl _ w
  base := Nat.le_refl _
  len := hlen
  row := by
    intro i r hi
    obtain ⟨L, a, n, cap, rfl, h1, h2⟩ := h i r hi
    exact ⟨a, n, cap, h1, h2⟩
  sep := by
    intro i j r q b hi _ _ hw
    obtain ⟨L, a, n, cap, rfl, h1, h2⟩ := h i r hi
    simp [Row.writable] at hw
end Go.Proofs.YtlbmjajjldfigaaGreat.Ev
