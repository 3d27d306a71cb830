/-
  An array of six numbers as it comes.
-/
import Derived.Test.YtmpjfdaldejjlaaGreatEvArg
import Derived.Test.YtmpjfdaldejjlaaGreatEvMore
namespace Go.Proofs.YtmpjfdaldejjlaaGreat.Ev
open Go Go.RowKit Go.Deep
universe u
section
variable {H : Type} {enc : TypeId × Value → H} {P : Program} {w w' : World} {base : Nat} {sp : Nat → Bool} {held : Bool}
theorem open_six {e i : TypeId} {r : Reach} {b0 : Nat} (he : P.underlying e = some (.array 6 i)) (hi : P.underlying i = some (.int .i64)) (hci : P.cellsOf i = 1) (hce : P.cellsOf e = 6)
    {v : Value} {d : DataW H} {ps : List MemPlace} (hv : Value.okWide P w r b0 e v) (h : DataW.Trod enc P w base sp held e v d ps) : ∃ y : Six, v = cSix.enc y := by
  simp only [Value.okWide, he] at hv
  obtain ⟨cs, rfl, hsz, _⟩ := hv
  obtain ⟨n, hn⟩ := h
  obtain ⟨xs, m, _, _, hl, hxl, hf⟩ := DataW.trod_array he hn
  rw [hce] at hsz
  have one : ∀ j, j < 6 → ∃ z : Int, cs.toList[j]? = some (.int .i64 z) := by
    intro j hj
    have h1 := hf j hj
    have hx : xs[j]? = some (xs[j]'(by omega)) := List.getElem?_eq_getElem _
    rw [hx, hci, Nat.mul_one] at h1
    obtain ⟨z, hz, _, _⟩ := DataW.trod_int hi h1
    refine ⟨z, ?_⟩
    have := congrArg (fun l : List Value => l[0]?) hz
    simpa [Value.cells] using this
  obtain ⟨a, ha⟩ := one 0 (by omega)
  obtain ⟨b, hb⟩ := one 1 (by omega)
  obtain ⟨c, hc⟩ := one 2 (by omega)
  obtain ⟨d, hd⟩ := one 3 (by omega)
  obtain ⟨f, hff⟩ := one 4 (by omega)
  obtain ⟨g, hg⟩ := one 5 (by omega)
  refine ⟨(a, b, c, d, f, g), ?_⟩
  have : cs = #[.int .i64 a, .int .i64 b, .int .i64 c, .int .i64 d, .int .i64 f, .int .i64 g] := by
    apply Array.ext'
    apply List.ext_getElem?
    intro j
    have h2 : j = 0 ∨ j = 1 ∨ j = 2 ∨ j = 3 ∨ j = 4 ∨ j = 5 ∨ 6 ≤ j := by omega
    rcases h2 with rfl | rfl | rfl | rfl | rfl | rfl | h6
    · exact ha
    · exact hb
    · exact hc
    · exact hd
    · exact hff
    · exact hg
    · rw [List.getElem?_eq_none (by simpa [hsz] using h6), List.getElem?_eq_none (by simpa using h6)]
  rw [this]; rfl
end
end Go.Proofs.YtmpjfdaldejjlaaGreat.Ev
