/-
  No cell of these rows narrows 'for every input' (looked for: loops, veiled, ifaces, maps, wideKeys, modest, calm, conditions, laid).
  DERIVED. THE GIVEN ROWS OF THIS SEAT. 4 by the template 'for every input the law returns true; each argument reads behind the call as it read before'; 0 by the template 'total and deterministic' (their statements: YtemndghpenbmeaaTotals.lean).
  GIVEN WITH THE SEED: the statements are not yours to turn. If you find one false, say at which input.
  Laid BY PROGRAM, IN A SANDBOX (cutbox-rows.mjs): the forced cells as the released guide's own fill.sh prints them over the translation 0e750564cd99b478… (all of the seat's roots in one cut). By AI agents, Wed Nov 11 2026. No macro, syntax, notation, axiom, sorry.
-/
import Derived.Test.YtemndghpenbmeaaChecked
import GoSem.Claim
import GoSem.ClaimJoined
import GoSem.ClaimMapViews
import Derived.JoinedTies
import Derived.KernelRfl
namespace Go.Proofs.Ytemndghpenbmeaa
/- THE CELL 'sum', in the pinned program and in every row, IS THE sha256 OF THE DUMP (.gsa) THAT YtemndghpenbmeaaProg.lean LOADS. Nothing in Lean hashes anything: it is a label: what it is worth is what the hold of that sum in a sandbox is worth. -/
noncomputable def Try.pinned : Pinned := { name := "ytemndghpenbmeaa", sum := "0e750564cd99b478cb3b05fab070f783d7af36c09ac6da601b0db81fd8d433d6", checked := Try.checked }
namespace Rows
def none {H : Type} : Left H := { results := [], args := [] }

/-- 'meniscuslaw3.TriTrue': WHATEVER THE INPUT: true; the input reads as it did. -/
def triTrueSpec : ChangeSpec := { name := "triTrue", fn := fun _ => fun
  | [d1, d2, d3, d4, d5, d6] => { results := [.lit (.bool true)], args := [d1, d2, d3, d4, d5, d6] }
  | _ => none }
def triTrueRow : OpenClaim := { program := "ytemndghpenbmeaa", sum := "0e750564cd99b478cb3b05fab070f783d7af36c09ac6da601b0db81fd8d433d6", func := "meniscus/meniscuslaw3.TriTrue", spec := "triTrue", apart := false }
def TriTrueSaid : Prop := triTrueRow.holds Try.pinned (OpenSpec.ofChange triTrueSpec)

/-- ITS FALSE NEIGHBOUR: 'it returns false'. Refute it at one input. -/
def triTrueWrong : ChangeSpec := { name := "triTrue", fn := fun _ => fun
  | [d1, d2, d3, d4, d5, d6] => { results := [.lit (.bool false)], args := [d1, d2, d3, d4, d5, d6] }
  | _ => none }
def TriTrueWrongFalsely : Prop := triTrueRow.holds Try.pinned (OpenSpec.ofChange triTrueWrong)

/-- 'meniscuslaw3.TriLaws': WHATEVER THE INPUT: true; the input reads as it did. -/
def triLawsSpec : ChangeSpec := { name := "triLaws", fn := fun _ => fun
  | [d1, d2, d3] => { results := [.lit (.bool true)], args := [d1, d2, d3] }
  | _ => none }
def triLawsRow : OpenClaim := { program := "ytemndghpenbmeaa", sum := "0e750564cd99b478cb3b05fab070f783d7af36c09ac6da601b0db81fd8d433d6", func := "meniscus/meniscuslaw3.TriLaws", spec := "triLaws", apart := false }
def TriLawsSaid : Prop := triLawsRow.holds Try.pinned (OpenSpec.ofChange triLawsSpec)

/-- ITS FALSE NEIGHBOUR: 'it returns false'. Refute it at one input. -/
def triLawsWrong : ChangeSpec := { name := "triLaws", fn := fun _ => fun
  | [d1, d2, d3] => { results := [.lit (.bool false)], args := [d1, d2, d3] }
  | _ => none }
def TriLawsWrongFalsely : Prop := triLawsRow.holds Try.pinned (OpenSpec.ofChange triLawsWrong)

/-- 'meniscuslaw3.TriKnown': WHATEVER THE INPUT: true; the input reads as it did. -/
def triKnownSpec : ChangeSpec := { name := "triKnown", fn := fun _ => fun
  | [] => { results := [.lit (.bool true)], args := [] }
  | _ => none }
def triKnownRow : OpenClaim := { program := "ytemndghpenbmeaa", sum := "0e750564cd99b478cb3b05fab070f783d7af36c09ac6da601b0db81fd8d433d6", func := "meniscus/meniscuslaw3.TriKnown", spec := "triKnown", apart := false }
def TriKnownSaid : Prop := triKnownRow.holds Try.pinned (OpenSpec.ofChange triKnownSpec)

/-- ITS FALSE NEIGHBOUR: 'it returns false'. Refute it at one input. -/
def triKnownWrong : ChangeSpec := { name := "triKnown", fn := fun _ => fun
  | [] => { results := [.lit (.bool false)], args := [] }
  | _ => none }
def TriKnownWrongFalsely : Prop := triKnownRow.holds Try.pinned (OpenSpec.ofChange triKnownWrong)

/-- 'meniscuslaw3.TriTells': WHATEVER THE INPUT: true; the input reads as it did. -/
def triTellsSpec : ChangeSpec := { name := "triTells", fn := fun _ => fun
  | [d1, d2, d3, d4, d5, d6] => { results := [.lit (.bool true)], args := [d1, d2, d3, d4, d5, d6] }
  | _ => none }
def triTellsRow : OpenClaim := { program := "ytemndghpenbmeaa", sum := "0e750564cd99b478cb3b05fab070f783d7af36c09ac6da601b0db81fd8d433d6", func := "meniscus/meniscuslaw3.TriTells", spec := "triTells", apart := false }
def TriTellsSaid : Prop := triTellsRow.holds Try.pinned (OpenSpec.ofChange triTellsSpec)

/-- ITS FALSE NEIGHBOUR: 'it returns false'. Refute it at one input. -/
def triTellsWrong : ChangeSpec := { name := "triTells", fn := fun _ => fun
  | [d1, d2, d3, d4, d5, d6] => { results := [.lit (.bool false)], args := [d1, d2, d3, d4, d5, d6] }
  | _ => none }
def TriTellsWrongFalsely : Prop := triTellsRow.holds Try.pinned (OpenSpec.ofChange triTellsWrong)

/- THE SECOND FORM. 'bulk': how many values and letters a reading holds, each counted each time it is reached (what is shared counts as often as it is met; a slice's spare places count too). A statement '..UptoSaid' is the law's where the arguments, and the package variables that the reading takes, are together of bulk at most 1048576: NARROWER than '..Said'. Prove '..Said' where nothing that the law and all that it calls make is longer than what came in: it says more and counts as full. Else prove '..UptoSaid'. A law counts once. -/
mutual
def uptoBulk {H : Type} : DataW H → Nat
  | .lit (.string bytes) => bytes.length + 1
  | .lit _ => 1
  | .nil => 1
  | .ptr d => uptoBulk d + 1
  | .slice elems spare => uptoBulkAll elems + uptoBulkAll spare + 1
  | .agg parts => uptoBulkAll parts + 1
  | .iface _ d => uptoBulk d + 1
  | .map entries => uptoBulkEntries entries + 1
  | .held _ => 1
def uptoBulkAll {H : Type} : List (DataW H) → Nat
  | [] => 0
  | d :: r => uptoBulk d + uptoBulkAll r
def uptoBulkEntries {H : Type} : List (Lit × DataW H) → Nat
  | [] => 0
  | x :: r => uptoBulkEntry x + uptoBulkEntries r
def uptoBulkEntry {H : Type} : Lit × DataW H → Nat
  | (.string bytes, d) => bytes.length + uptoBulk d + 1
  | (_, d) => uptoBulk d + 1
 end
def uptoSmall : (H : Type) → List (DataW H) → Bool := fun _ ds => decide (uptoBulkAll ds ≤ 1048576)
def OpenSpec.upto (s : _root_.Go.ChangeSpec) : _root_.Go.OpenSpec := { _root_.Go.OpenSpec.ofChange s with cond := some uptoSmall }

/-- 'meniscuslaw3.TriTrue', WHERE WHAT IT READS IS OF BULK AT MOST 1048576: true; the input reads as it did. -/
def triTrueUptoRow : OpenClaim := { program := "ytemndghpenbmeaa", sum := "0e750564cd99b478cb3b05fab070f783d7af36c09ac6da601b0db81fd8d433d6", func := "meniscus/meniscuslaw3.TriTrue", spec := "triTrue", apart := false, narrowed := true }
def TriTrueUptoSaid : Prop := triTrueUptoRow.holds Try.pinned (OpenSpec.upto triTrueSpec)

/-- 'meniscuslaw3.TriLaws', WHERE WHAT IT READS IS OF BULK AT MOST 1048576: true; the input reads as it did. -/
def triLawsUptoRow : OpenClaim := { program := "ytemndghpenbmeaa", sum := "0e750564cd99b478cb3b05fab070f783d7af36c09ac6da601b0db81fd8d433d6", func := "meniscus/meniscuslaw3.TriLaws", spec := "triLaws", apart := false, narrowed := true }
def TriLawsUptoSaid : Prop := triLawsUptoRow.holds Try.pinned (OpenSpec.upto triLawsSpec)

/-- 'meniscuslaw3.TriKnown', WHERE WHAT IT READS IS OF BULK AT MOST 1048576: true; the input reads as it did. -/
def triKnownUptoRow : OpenClaim := { program := "ytemndghpenbmeaa", sum := "0e750564cd99b478cb3b05fab070f783d7af36c09ac6da601b0db81fd8d433d6", func := "meniscus/meniscuslaw3.TriKnown", spec := "triKnown", apart := false, narrowed := true }
def TriKnownUptoSaid : Prop := triKnownUptoRow.holds Try.pinned (OpenSpec.upto triKnownSpec)

/-- 'meniscuslaw3.TriTells', WHERE WHAT IT READS IS OF BULK AT MOST 1048576: true; the input reads as it did. -/
def triTellsUptoRow : OpenClaim := { program := "ytemndghpenbmeaa", sum := "0e750564cd99b478cb3b05fab070f783d7af36c09ac6da601b0db81fd8d433d6", func := "meniscus/meniscuslaw3.TriTells", spec := "triTells", apart := false, narrowed := true }
def TriTellsUptoSaid : Prop := triTellsUptoRow.holds Try.pinned (OpenSpec.upto triTellsSpec)

end Rows
end Go.Proofs.Ytemndghpenbmeaa
