/-
  No cell of these rows narrows 'for every input' (looked for: loops, veiled, ifaces, maps, wideKeys, modest, calm, conditions, laid).
  DERIVED. THE GIVEN ROWS OF THIS SEAT. 2 by the template 'for every input the law returns true; each argument reads behind the call as it read before'; 0 by the template 'total and deterministic' (their statements: YthdpjmkknodmpaaTotals.lean).
  GIVEN WITH THE SEED: the statements are not yours to turn. If you find one false, say at which input.
  Laid BY PROGRAM, IN A SANDBOX (cutbox-rows.mjs): the forced cells as the released guide's own fill.sh prints them over the translation 77308ad742d44792… (all of the seat's roots in one cut). By AI agents, Wed Nov 11 2026. No macro, syntax, notation, axiom, sorry.
-/
import Derived.Test.YthdpjmkknodmpaaChecked
import GoSem.Claim
import GoSem.ClaimJoined
import GoSem.ClaimMapViews
import Derived.JoinedTies
import Derived.KernelRfl
namespace Go.Proofs.Ythdpjmkknodmpaa
/- THE CELL 'sum', in the pinned program and in every row, IS THE sha256 OF THE DUMP (.gsa) THAT YthdpjmkknodmpaaProg.lean LOADS. Nothing in Lean hashes anything: it is a label: what it is worth is what the hold of that sum in a sandbox is worth. -/
noncomputable def Try.pinned : Pinned := { name := "ythdpjmkknodmpaa", sum := "77308ad742d4479237d001f07085a0f8708a2d5113c73a2e26fdb353c905bbb8", checked := Try.checked }
namespace Rows
def none {H : Type} : Left H := { results := [], args := [] }

/-- 'meniscuslaw21.FocusKnown': WHATEVER THE INPUT: true; the input reads as it did. -/
def focusKnownSpec : ChangeSpec := { name := "focusKnown", fn := fun _ => fun
  | [] => { results := [.lit (.bool true)], args := [] }
  | _ => none }
def focusKnownRow : OpenClaim := { program := "ythdpjmkknodmpaa", sum := "77308ad742d4479237d001f07085a0f8708a2d5113c73a2e26fdb353c905bbb8", func := "meniscus/meniscuslaw21.FocusKnown", spec := "focusKnown", unfollowed := true, recurses := true, apart := false }
def FocusKnownSaid : Prop := focusKnownRow.holds Try.pinned (OpenSpec.ofChange focusKnownSpec)

/-- ITS FALSE NEIGHBOUR: 'it returns false'. Refute it at one input. -/
def focusKnownWrong : ChangeSpec := { name := "focusKnown", fn := fun _ => fun
  | [] => { results := [.lit (.bool false)], args := [] }
  | _ => none }
def FocusKnownWrongFalsely : Prop := focusKnownRow.holds Try.pinned (OpenSpec.ofChange focusKnownWrong)

/-- 'meniscuslaw21.FocusFiner': WHATEVER THE INPUT: true; the input reads as it did. -/
def focusFinerSpec : ChangeSpec := { name := "focusFiner", fn := fun _ => fun
  | [d1, d2, d3, d4] => { results := [.lit (.bool true)], args := [d1, d2, d3, d4] }
  | _ => none }
def focusFinerRow : OpenClaim := { program := "ythdpjmkknodmpaa", sum := "77308ad742d4479237d001f07085a0f8708a2d5113c73a2e26fdb353c905bbb8", func := "meniscus/meniscuslaw21.FocusFiner", spec := "focusFiner", unfollowed := true, recurses := true, apart := false }
def FocusFinerSaid : Prop := focusFinerRow.holds Try.pinned (OpenSpec.ofChange focusFinerSpec)

/-- ITS FALSE NEIGHBOUR: 'it returns false'. Refute it at one input. -/
def focusFinerWrong : ChangeSpec := { name := "focusFiner", fn := fun _ => fun
  | [d1, d2, d3, d4] => { results := [.lit (.bool false)], args := [d1, d2, d3, d4] }
  | _ => none }
def FocusFinerWrongFalsely : Prop := focusFinerRow.holds Try.pinned (OpenSpec.ofChange focusFinerWrong)

/- THE SECOND FORM. 'bulk': how many values and letters a reading holds, each counted each time it is reached (what is shared counts as often as it is met; a slice's spare places count too). A statement '..UptoSaid' is the law's where the arguments, and the package variables that the reading takes, are together of bulk at most 1048576: NARROWER than '..Said'. Prove '..Said' where nothing that the law and all that it calls make is longer than what came in: it says more and counts as full. Else prove '..UptoSaid'. A law counts once. -/
mutual
def uptoBulk {H : Type} : DataW H → Nat
  | .lit (.string bytes) => bytes.length + 1
  | .lit _ => 1
  | .nil => 1
  | .ptr d => uptoBulk d + 1
  | .slice elems spare => uptoBulkAll elems + uptoBulkAll spare + 1
  | .agg parts => uptoBulkAll parts + 1
  | .iface _ d => uptoBulk d + 1
  | .map entries => uptoBulkEntries entries + 1
  | .held _ => 1
def uptoBulkAll {H : Type} : List (DataW H) → Nat
  | [] => 0
  | d :: r => uptoBulk d + uptoBulkAll r
def uptoBulkEntries {H : Type} : List (Lit × DataW H) → Nat
  | [] => 0
  | x :: r => uptoBulkEntry x + uptoBulkEntries r
def uptoBulkEntry {H : Type} : Lit × DataW H → Nat
  | (.string bytes, d) => bytes.length + uptoBulk d + 1
  | (_, d) => uptoBulk d + 1
 end
def uptoSmall : (H : Type) → List (DataW H) → Bool := fun _ ds => decide (uptoBulkAll ds ≤ 1048576)
def OpenSpec.upto (s : _root_.Go.ChangeSpec) : _root_.Go.OpenSpec := { _root_.Go.OpenSpec.ofChange s with cond := some uptoSmall }

/-- 'meniscuslaw21.FocusKnown', WHERE WHAT IT READS IS OF BULK AT MOST 1048576: true; the input reads as it did. -/
def focusKnownUptoRow : OpenClaim := { program := "ythdpjmkknodmpaa", sum := "77308ad742d4479237d001f07085a0f8708a2d5113c73a2e26fdb353c905bbb8", func := "meniscus/meniscuslaw21.FocusKnown", spec := "focusKnown", unfollowed := true, recurses := true, apart := false, narrowed := true }
def FocusKnownUptoSaid : Prop := focusKnownUptoRow.holds Try.pinned (OpenSpec.upto focusKnownSpec)

/-- 'meniscuslaw21.FocusFiner', WHERE WHAT IT READS IS OF BULK AT MOST 1048576: true; the input reads as it did. -/
def focusFinerUptoRow : OpenClaim := { program := "ythdpjmkknodmpaa", sum := "77308ad742d4479237d001f07085a0f8708a2d5113c73a2e26fdb353c905bbb8", func := "meniscus/meniscuslaw21.FocusFiner", spec := "focusFiner", unfollowed := true, recurses := true, apart := false, narrowed := true }
def FocusFinerUptoSaid : Prop := focusFinerUptoRow.holds Try.pinned (OpenSpec.upto focusFinerSpec)

end Rows
end Go.Proofs.Ythdpjmkknodmpaa
