/-
  No cell of these rows narrows 'for every input' (looked for: loops, veiled, ifaces, maps, wideKeys, modest, calm, conditions, laid).
  DERIVED. THE GIVEN ROWS OF THIS SEAT. 13 by the template 'for every input the law returns true; each argument reads behind the call as it read before'; 0 by the template 'total and deterministic' (their statements: YtmpjfdaldejjlaaGreatTotals.lean).
  GIVEN WITH THE SEED: the statements are not yours to turn. If you find one false, say at which input.
  Laid BY PROGRAM, IN A SANDBOX (cutbox-rows.mjs): the forced cells as the released guide's own fill.sh prints them over the translation 78ae81b24a7c540e… (all of the seat's roots in one cut). By AI agents, Wed Nov 11 2026. No macro, syntax, notation, axiom, sorry.
-/
import Derived.Test.YtmpjfdaldejjlaaGreatChecked
import GoSem.Claim
import GoSem.ClaimJoined
import GoSem.ClaimMapViews
import Derived.JoinedTies
import Derived.KernelRfl
namespace Go.Proofs.YtmpjfdaldejjlaaGreat
/- THE CELL 'sum', in the pinned program and in every row, IS THE sha256 OF THE DUMP (.gsa) THAT YtmpjfdaldejjlaaGreatProg.lean LOADS. Nothing in Lean hashes anything: it is a label: what it is worth is what the hold of that sum in a sandbox is worth. -/
noncomputable def Tryz.pinned : Pinned := { name := "ytmpjfdaldejjlaagreat", sum := "78ae81b24a7c540e49680b4fb390a3d66a9abbac2ff24c744b77f87febb79e08", checked := Tryz.checked }
namespace Rows
def none {H : Type} : Left H := { results := [], args := [] }

/-- 'meniscuslaw15.HitTells': WHATEVER THE INPUT: true; the input reads as it did. -/
def hitTellsSpec : ChangeSpec := { name := "hitTells", fn := fun _ => fun
  | [d1, d2, d3, d4, d5, d6] => { results := [.lit (.bool true)], args := [d1, d2, d3, d4, d5, d6] }
  | _ => none }
def hitTellsRow : OpenClaim := { program := "ytmpjfdaldejjlaagreat", sum := "78ae81b24a7c540e49680b4fb390a3d66a9abbac2ff24c744b77f87febb79e08", func := "meniscus/meniscuslaw15.HitTells", spec := "hitTells", unfollowed := true, recurses := true, apart := false }
def HitTellsSaid : Prop := hitTellsRow.holds Tryz.pinned (OpenSpec.ofChange hitTellsSpec)

/-- ITS FALSE NEIGHBOUR: 'it returns false'. Refute it at one input. -/
def hitTellsWrong : ChangeSpec := { name := "hitTells", fn := fun _ => fun
  | [d1, d2, d3, d4, d5, d6] => { results := [.lit (.bool false)], args := [d1, d2, d3, d4, d5, d6] }
  | _ => none }
def HitTellsWrongFalsely : Prop := hitTellsRow.holds Tryz.pinned (OpenSpec.ofChange hitTellsWrong)

/-- 'meniscuslaw15.HitLess': WHATEVER THE INPUT: true; the input reads as it did. -/
def hitLessSpec : ChangeSpec := { name := "hitLess", fn := fun _ => fun
  | [d1, d2, d3, d4, d5] => { results := [.lit (.bool true)], args := [d1, d2, d3, d4, d5] }
  | _ => none }
def hitLessRow : OpenClaim := { program := "ytmpjfdaldejjlaagreat", sum := "78ae81b24a7c540e49680b4fb390a3d66a9abbac2ff24c744b77f87febb79e08", func := "meniscus/meniscuslaw15.HitLess", spec := "hitLess", unfollowed := true, recurses := true, apart := false }
def HitLessSaid : Prop := hitLessRow.holds Tryz.pinned (OpenSpec.ofChange hitLessSpec)

/-- ITS FALSE NEIGHBOUR: 'it returns false'. Refute it at one input. -/
def hitLessWrong : ChangeSpec := { name := "hitLess", fn := fun _ => fun
  | [d1, d2, d3, d4, d5] => { results := [.lit (.bool false)], args := [d1, d2, d3, d4, d5] }
  | _ => none }
def HitLessWrongFalsely : Prop := hitLessRow.holds Tryz.pinned (OpenSpec.ofChange hitLessWrong)

/-- 'meniscuslaw18.StepTells': WHATEVER THE INPUT: true; the input reads as it did. -/
def stepTellsSpec : ChangeSpec := { name := "stepTells", fn := fun _ => fun
  | [d1, d2, d3, d4, d5, d6] => { results := [.lit (.bool true)], args := [d1, d2, d3, d4, d5, d6] }
  | _ => none }
def stepTellsRow : OpenClaim := { program := "ytmpjfdaldejjlaagreat", sum := "78ae81b24a7c540e49680b4fb390a3d66a9abbac2ff24c744b77f87febb79e08", func := "meniscus/meniscuslaw18.StepTells", spec := "stepTells", unfollowed := true, recurses := true, apart := false }
def StepTellsSaid : Prop := stepTellsRow.holds Tryz.pinned (OpenSpec.ofChange stepTellsSpec)

/-- ITS FALSE NEIGHBOUR: 'it returns false'. Refute it at one input. -/
def stepTellsWrong : ChangeSpec := { name := "stepTells", fn := fun _ => fun
  | [d1, d2, d3, d4, d5, d6] => { results := [.lit (.bool false)], args := [d1, d2, d3, d4, d5, d6] }
  | _ => none }
def StepTellsWrongFalsely : Prop := stepTellsRow.holds Tryz.pinned (OpenSpec.ofChange stepTellsWrong)

/-- 'meniscuslaw18.StepOpens': WHATEVER THE INPUT: true; the input reads as it did. -/
def stepOpensSpec : ChangeSpec := { name := "stepOpens", fn := fun _ => fun
  | [d1, d2, d3, d4] => { results := [.lit (.bool true)], args := [d1, d2, d3, d4] }
  | _ => none }
def stepOpensRow : OpenClaim := { program := "ytmpjfdaldejjlaagreat", sum := "78ae81b24a7c540e49680b4fb390a3d66a9abbac2ff24c744b77f87febb79e08", func := "meniscus/meniscuslaw18.StepOpens", spec := "stepOpens", unfollowed := true, recurses := true, apart := false }
def StepOpensSaid : Prop := stepOpensRow.holds Tryz.pinned (OpenSpec.ofChange stepOpensSpec)

/-- ITS FALSE NEIGHBOUR: 'it returns false'. Refute it at one input. -/
def stepOpensWrong : ChangeSpec := { name := "stepOpens", fn := fun _ => fun
  | [d1, d2, d3, d4] => { results := [.lit (.bool false)], args := [d1, d2, d3, d4] }
  | _ => none }
def StepOpensWrongFalsely : Prop := stepOpensRow.holds Tryz.pinned (OpenSpec.ofChange stepOpensWrong)

/-- 'meniscuslaw18.StepMoves': WHATEVER THE INPUT: true; the input reads as it did. -/
def stepMovesSpec : ChangeSpec := { name := "stepMoves", fn := fun _ => fun
  | [d1, d2, d3, d4] => { results := [.lit (.bool true)], args := [d1, d2, d3, d4] }
  | _ => none }
def stepMovesRow : OpenClaim := { program := "ytmpjfdaldejjlaagreat", sum := "78ae81b24a7c540e49680b4fb390a3d66a9abbac2ff24c744b77f87febb79e08", func := "meniscus/meniscuslaw18.StepMoves", spec := "stepMoves", unfollowed := true, recurses := true, apart := false }
def StepMovesSaid : Prop := stepMovesRow.holds Tryz.pinned (OpenSpec.ofChange stepMovesSpec)

/-- ITS FALSE NEIGHBOUR: 'it returns false'. Refute it at one input. -/
def stepMovesWrong : ChangeSpec := { name := "stepMoves", fn := fun _ => fun
  | [d1, d2, d3, d4] => { results := [.lit (.bool false)], args := [d1, d2, d3, d4] }
  | _ => none }
def StepMovesWrongFalsely : Prop := stepMovesRow.holds Tryz.pinned (OpenSpec.ofChange stepMovesWrong)

/-- 'meniscuslaw18.StepOnFace': WHATEVER THE INPUT: true; the input reads as it did. -/
def stepOnFaceSpec : ChangeSpec := { name := "stepOnFace", fn := fun _ => fun
  | [d1, d2, d3] => { results := [.lit (.bool true)], args := [d1, d2, d3] }
  | _ => none }
def stepOnFaceRow : OpenClaim := { program := "ytmpjfdaldejjlaagreat", sum := "78ae81b24a7c540e49680b4fb390a3d66a9abbac2ff24c744b77f87febb79e08", func := "meniscus/meniscuslaw18.StepOnFace", spec := "stepOnFace", unfollowed := true, recurses := true, apart := false }
def StepOnFaceSaid : Prop := stepOnFaceRow.holds Tryz.pinned (OpenSpec.ofChange stepOnFaceSpec)

/-- ITS FALSE NEIGHBOUR: 'it returns false'. Refute it at one input. -/
def stepOnFaceWrong : ChangeSpec := { name := "stepOnFace", fn := fun _ => fun
  | [d1, d2, d3] => { results := [.lit (.bool false)], args := [d1, d2, d3] }
  | _ => none }
def StepOnFaceWrongFalsely : Prop := stepOnFaceRow.holds Tryz.pinned (OpenSpec.ofChange stepOnFaceWrong)

/-- 'meniscuslaw18.StepLess': WHATEVER THE INPUT: true; the input reads as it did. -/
def stepLessSpec : ChangeSpec := { name := "stepLess", fn := fun _ => fun
  | [d1, d2, d3, d4, d5] => { results := [.lit (.bool true)], args := [d1, d2, d3, d4, d5] }
  | _ => none }
def stepLessRow : OpenClaim := { program := "ytmpjfdaldejjlaagreat", sum := "78ae81b24a7c540e49680b4fb390a3d66a9abbac2ff24c744b77f87febb79e08", func := "meniscus/meniscuslaw18.StepLess", spec := "stepLess", unfollowed := true, recurses := true, apart := false }
def StepLessSaid : Prop := stepLessRow.holds Tryz.pinned (OpenSpec.ofChange stepLessSpec)

/-- ITS FALSE NEIGHBOUR: 'it returns false'. Refute it at one input. -/
def stepLessWrong : ChangeSpec := { name := "stepLess", fn := fun _ => fun
  | [d1, d2, d3, d4, d5] => { results := [.lit (.bool false)], args := [d1, d2, d3, d4, d5] }
  | _ => none }
def StepLessWrongFalsely : Prop := stepLessRow.holds Tryz.pinned (OpenSpec.ofChange stepLessWrong)

/-- 'meniscuslaw19.TraceParts': WHATEVER THE INPUT: true; the input reads as it did. -/
def tracePartsSpec : ChangeSpec := { name := "traceParts", fn := fun _ => fun
  | [d1, d2, d3, d4] => { results := [.lit (.bool true)], args := [d1, d2, d3, d4] }
  | _ => none }
def tracePartsRow : OpenClaim := { program := "ytmpjfdaldejjlaagreat", sum := "78ae81b24a7c540e49680b4fb390a3d66a9abbac2ff24c744b77f87febb79e08", func := "meniscus/meniscuslaw19.TraceParts", spec := "traceParts", unfollowed := true, recurses := true, apart := false }
def TracePartsSaid : Prop := tracePartsRow.holds Tryz.pinned (OpenSpec.ofChange tracePartsSpec)

/-- ITS FALSE NEIGHBOUR: 'it returns false'. Refute it at one input. -/
def tracePartsWrong : ChangeSpec := { name := "traceParts", fn := fun _ => fun
  | [d1, d2, d3, d4] => { results := [.lit (.bool false)], args := [d1, d2, d3, d4] }
  | _ => none }
def TracePartsWrongFalsely : Prop := tracePartsRow.holds Tryz.pinned (OpenSpec.ofChange tracePartsWrong)

/-- 'meniscuslaw19.TraceMoves': WHATEVER THE INPUT: true; the input reads as it did. -/
def traceMovesSpec : ChangeSpec := { name := "traceMoves", fn := fun _ => fun
  | [d1, d2, d3, d4] => { results := [.lit (.bool true)], args := [d1, d2, d3, d4] }
  | _ => none }
def traceMovesRow : OpenClaim := { program := "ytmpjfdaldejjlaagreat", sum := "78ae81b24a7c540e49680b4fb390a3d66a9abbac2ff24c744b77f87febb79e08", func := "meniscus/meniscuslaw19.TraceMoves", spec := "traceMoves", unfollowed := true, recurses := true, apart := false }
def TraceMovesSaid : Prop := traceMovesRow.holds Tryz.pinned (OpenSpec.ofChange traceMovesSpec)

/-- ITS FALSE NEIGHBOUR: 'it returns false'. Refute it at one input. -/
def traceMovesWrong : ChangeSpec := { name := "traceMoves", fn := fun _ => fun
  | [d1, d2, d3, d4] => { results := [.lit (.bool false)], args := [d1, d2, d3, d4] }
  | _ => none }
def TraceMovesWrongFalsely : Prop := traceMovesRow.holds Tryz.pinned (OpenSpec.ofChange traceMovesWrong)

/-- 'meniscuslaw19.TraceLess': WHATEVER THE INPUT: true; the input reads as it did. -/
def traceLessSpec : ChangeSpec := { name := "traceLess", fn := fun _ => fun
  | [d1, d2, d3, d4, d5, d6] => { results := [.lit (.bool true)], args := [d1, d2, d3, d4, d5, d6] }
  | _ => none }
def traceLessRow : OpenClaim := { program := "ytmpjfdaldejjlaagreat", sum := "78ae81b24a7c540e49680b4fb390a3d66a9abbac2ff24c744b77f87febb79e08", func := "meniscus/meniscuslaw19.TraceLess", spec := "traceLess", unfollowed := true, recurses := true, apart := false }
def TraceLessSaid : Prop := traceLessRow.holds Tryz.pinned (OpenSpec.ofChange traceLessSpec)

/-- ITS FALSE NEIGHBOUR: 'it returns false'. Refute it at one input. -/
def traceLessWrong : ChangeSpec := { name := "traceLess", fn := fun _ => fun
  | [d1, d2, d3, d4, d5, d6] => { results := [.lit (.bool false)], args := [d1, d2, d3, d4, d5, d6] }
  | _ => none }
def TraceLessWrongFalsely : Prop := traceLessRow.holds Tryz.pinned (OpenSpec.ofChange traceLessWrong)

/-- 'meniscuslaw19.TraceTurns': WHATEVER THE INPUT: true; the input reads as it did. -/
def traceTurnsSpec : ChangeSpec := { name := "traceTurns", fn := fun _ => fun
  | [d1, d2, d3, d4] => { results := [.lit (.bool true)], args := [d1, d2, d3, d4] }
  | _ => none }
def traceTurnsRow : OpenClaim := { program := "ytmpjfdaldejjlaagreat", sum := "78ae81b24a7c540e49680b4fb390a3d66a9abbac2ff24c744b77f87febb79e08", func := "meniscus/meniscuslaw19.TraceTurns", spec := "traceTurns", unfollowed := true, recurses := true, apart := false }
def TraceTurnsSaid : Prop := traceTurnsRow.holds Tryz.pinned (OpenSpec.ofChange traceTurnsSpec)

/-- ITS FALSE NEIGHBOUR: 'it returns false'. Refute it at one input. -/
def traceTurnsWrong : ChangeSpec := { name := "traceTurns", fn := fun _ => fun
  | [d1, d2, d3, d4] => { results := [.lit (.bool false)], args := [d1, d2, d3, d4] }
  | _ => none }
def TraceTurnsWrongFalsely : Prop := traceTurnsRow.holds Tryz.pinned (OpenSpec.ofChange traceTurnsWrong)

/-- 'meniscuslaw19.TraceKnown': WHATEVER THE INPUT: true; the input reads as it did. -/
def traceKnownSpec : ChangeSpec := { name := "traceKnown", fn := fun _ => fun
  | [] => { results := [.lit (.bool true)], args := [] }
  | _ => none }
def traceKnownRow : OpenClaim := { program := "ytmpjfdaldejjlaagreat", sum := "78ae81b24a7c540e49680b4fb390a3d66a9abbac2ff24c744b77f87febb79e08", func := "meniscus/meniscuslaw19.TraceKnown", spec := "traceKnown", unfollowed := true, recurses := true, apart := false }
def TraceKnownSaid : Prop := traceKnownRow.holds Tryz.pinned (OpenSpec.ofChange traceKnownSpec)

/-- ITS FALSE NEIGHBOUR: 'it returns false'. Refute it at one input. -/
def traceKnownWrong : ChangeSpec := { name := "traceKnown", fn := fun _ => fun
  | [] => { results := [.lit (.bool false)], args := [] }
  | _ => none }
def TraceKnownWrongFalsely : Prop := traceKnownRow.holds Tryz.pinned (OpenSpec.ofChange traceKnownWrong)

/-- 'meniscuslaw19.TraceTells': WHATEVER THE INPUT: true; the input reads as it did. -/
def traceTellsSpec : ChangeSpec := { name := "traceTells", fn := fun _ => fun
  | [d1, d2, d3, d4, d5, d6] => { results := [.lit (.bool true)], args := [d1, d2, d3, d4, d5, d6] }
  | _ => none }
def traceTellsRow : OpenClaim := { program := "ytmpjfdaldejjlaagreat", sum := "78ae81b24a7c540e49680b4fb390a3d66a9abbac2ff24c744b77f87febb79e08", func := "meniscus/meniscuslaw19.TraceTells", spec := "traceTells", unfollowed := true, recurses := true, apart := false }
def TraceTellsSaid : Prop := traceTellsRow.holds Tryz.pinned (OpenSpec.ofChange traceTellsSpec)

/-- ITS FALSE NEIGHBOUR: 'it returns false'. Refute it at one input. -/
def traceTellsWrong : ChangeSpec := { name := "traceTells", fn := fun _ => fun
  | [d1, d2, d3, d4, d5, d6] => { results := [.lit (.bool false)], args := [d1, d2, d3, d4, d5, d6] }
  | _ => none }
def TraceTellsWrongFalsely : Prop := traceTellsRow.holds Tryz.pinned (OpenSpec.ofChange traceTellsWrong)

/- THE SECOND FORM. 'bulk': how many values and letters a reading holds, each counted each time it is reached (what is shared counts as often as it is met; a slice's spare places count too). A statement '..UptoSaid' is the law's where the arguments, and the package variables that the reading takes, are together of bulk at most 1048576: NARROWER than '..Said'. Prove '..Said' where nothing that the law and all that it calls make is longer than what came in: it says more and counts as full. Else prove '..UptoSaid'. A law counts once. -/
mutual
def uptoBulk {H : Type} : DataW H → Nat
  | .lit (.string bytes) => bytes.length + 1
  | .lit _ => 1
  | .nil => 1
  | .ptr d => uptoBulk d + 1
  | .slice elems spare => uptoBulkAll elems + uptoBulkAll spare + 1
  | .agg parts => uptoBulkAll parts + 1
  | .iface _ d => uptoBulk d + 1
  | .map entries => uptoBulkEntries entries + 1
  | .held _ => 1
def uptoBulkAll {H : Type} : List (DataW H) → Nat
  | [] => 0
  | d :: r => uptoBulk d + uptoBulkAll r
def uptoBulkEntries {H : Type} : List (Lit × DataW H) → Nat
  | [] => 0
  | x :: r => uptoBulkEntry x + uptoBulkEntries r
def uptoBulkEntry {H : Type} : Lit × DataW H → Nat
  | (.string bytes, d) => bytes.length + uptoBulk d + 1
  | (_, d) => uptoBulk d + 1
 end
def uptoSmall : (H : Type) → List (DataW H) → Bool := fun _ ds => decide (uptoBulkAll ds ≤ 1048576)
def OpenSpec.upto (s : _root_.Go.ChangeSpec) : _root_.Go.OpenSpec := { _root_.Go.OpenSpec.ofChange s with cond := some uptoSmall }

/-- 'meniscuslaw15.HitTells', WHERE WHAT IT READS IS OF BULK AT MOST 1048576: true; the input reads as it did. -/
def hitTellsUptoRow : OpenClaim := { program := "ytmpjfdaldejjlaagreat", sum := "78ae81b24a7c540e49680b4fb390a3d66a9abbac2ff24c744b77f87febb79e08", func := "meniscus/meniscuslaw15.HitTells", spec := "hitTells", unfollowed := true, recurses := true, apart := false, narrowed := true }
def HitTellsUptoSaid : Prop := hitTellsUptoRow.holds Tryz.pinned (OpenSpec.upto hitTellsSpec)

/-- 'meniscuslaw15.HitLess', WHERE WHAT IT READS IS OF BULK AT MOST 1048576: true; the input reads as it did. -/
def hitLessUptoRow : OpenClaim := { program := "ytmpjfdaldejjlaagreat", sum := "78ae81b24a7c540e49680b4fb390a3d66a9abbac2ff24c744b77f87febb79e08", func := "meniscus/meniscuslaw15.HitLess", spec := "hitLess", unfollowed := true, recurses := true, apart := false, narrowed := true }
def HitLessUptoSaid : Prop := hitLessUptoRow.holds Tryz.pinned (OpenSpec.upto hitLessSpec)

/-- 'meniscuslaw18.StepTells', WHERE WHAT IT READS IS OF BULK AT MOST 1048576: true; the input reads as it did. -/
def stepTellsUptoRow : OpenClaim := { program := "ytmpjfdaldejjlaagreat", sum := "78ae81b24a7c540e49680b4fb390a3d66a9abbac2ff24c744b77f87febb79e08", func := "meniscus/meniscuslaw18.StepTells", spec := "stepTells", unfollowed := true, recurses := true, apart := false, narrowed := true }
def StepTellsUptoSaid : Prop := stepTellsUptoRow.holds Tryz.pinned (OpenSpec.upto stepTellsSpec)

/-- 'meniscuslaw18.StepOpens', WHERE WHAT IT READS IS OF BULK AT MOST 1048576: true; the input reads as it did. -/
def stepOpensUptoRow : OpenClaim := { program := "ytmpjfdaldejjlaagreat", sum := "78ae81b24a7c540e49680b4fb390a3d66a9abbac2ff24c744b77f87febb79e08", func := "meniscus/meniscuslaw18.StepOpens", spec := "stepOpens", unfollowed := true, recurses := true, apart := false, narrowed := true }
def StepOpensUptoSaid : Prop := stepOpensUptoRow.holds Tryz.pinned (OpenSpec.upto stepOpensSpec)

/-- 'meniscuslaw18.StepMoves', WHERE WHAT IT READS IS OF BULK AT MOST 1048576: true; the input reads as it did. -/
def stepMovesUptoRow : OpenClaim := { program := "ytmpjfdaldejjlaagreat", sum := "78ae81b24a7c540e49680b4fb390a3d66a9abbac2ff24c744b77f87febb79e08", func := "meniscus/meniscuslaw18.StepMoves", spec := "stepMoves", unfollowed := true, recurses := true, apart := false, narrowed := true }
def StepMovesUptoSaid : Prop := stepMovesUptoRow.holds Tryz.pinned (OpenSpec.upto stepMovesSpec)

/-- 'meniscuslaw18.StepOnFace', WHERE WHAT IT READS IS OF BULK AT MOST 1048576: true; the input reads as it did. -/
def stepOnFaceUptoRow : OpenClaim := { program := "ytmpjfdaldejjlaagreat", sum := "78ae81b24a7c540e49680b4fb390a3d66a9abbac2ff24c744b77f87febb79e08", func := "meniscus/meniscuslaw18.StepOnFace", spec := "stepOnFace", unfollowed := true, recurses := true, apart := false, narrowed := true }
def StepOnFaceUptoSaid : Prop := stepOnFaceUptoRow.holds Tryz.pinned (OpenSpec.upto stepOnFaceSpec)

/-- 'meniscuslaw18.StepLess', WHERE WHAT IT READS IS OF BULK AT MOST 1048576: true; the input reads as it did. -/
def stepLessUptoRow : OpenClaim := { program := "ytmpjfdaldejjlaagreat", sum := "78ae81b24a7c540e49680b4fb390a3d66a9abbac2ff24c744b77f87febb79e08", func := "meniscus/meniscuslaw18.StepLess", spec := "stepLess", unfollowed := true, recurses := true, apart := false, narrowed := true }
def StepLessUptoSaid : Prop := stepLessUptoRow.holds Tryz.pinned (OpenSpec.upto stepLessSpec)

/-- 'meniscuslaw19.TraceParts', WHERE WHAT IT READS IS OF BULK AT MOST 1048576: true; the input reads as it did. -/
def tracePartsUptoRow : OpenClaim := { program := "ytmpjfdaldejjlaagreat", sum := "78ae81b24a7c540e49680b4fb390a3d66a9abbac2ff24c744b77f87febb79e08", func := "meniscus/meniscuslaw19.TraceParts", spec := "traceParts", unfollowed := true, recurses := true, apart := false, narrowed := true }
def TracePartsUptoSaid : Prop := tracePartsUptoRow.holds Tryz.pinned (OpenSpec.upto tracePartsSpec)

/-- 'meniscuslaw19.TraceMoves', WHERE WHAT IT READS IS OF BULK AT MOST 1048576: true; the input reads as it did. -/
def traceMovesUptoRow : OpenClaim := { program := "ytmpjfdaldejjlaagreat", sum := "78ae81b24a7c540e49680b4fb390a3d66a9abbac2ff24c744b77f87febb79e08", func := "meniscus/meniscuslaw19.TraceMoves", spec := "traceMoves", unfollowed := true, recurses := true, apart := false, narrowed := true }
def TraceMovesUptoSaid : Prop := traceMovesUptoRow.holds Tryz.pinned (OpenSpec.upto traceMovesSpec)

/-- 'meniscuslaw19.TraceLess', WHERE WHAT IT READS IS OF BULK AT MOST 1048576: true; the input reads as it did. -/
def traceLessUptoRow : OpenClaim := { program := "ytmpjfdaldejjlaagreat", sum := "78ae81b24a7c540e49680b4fb390a3d66a9abbac2ff24c744b77f87febb79e08", func := "meniscus/meniscuslaw19.TraceLess", spec := "traceLess", unfollowed := true, recurses := true, apart := false, narrowed := true }
def TraceLessUptoSaid : Prop := traceLessUptoRow.holds Tryz.pinned (OpenSpec.upto traceLessSpec)

/-- 'meniscuslaw19.TraceTurns', WHERE WHAT IT READS IS OF BULK AT MOST 1048576: true; the input reads as it did. -/
def traceTurnsUptoRow : OpenClaim := { program := "ytmpjfdaldejjlaagreat", sum := "78ae81b24a7c540e49680b4fb390a3d66a9abbac2ff24c744b77f87febb79e08", func := "meniscus/meniscuslaw19.TraceTurns", spec := "traceTurns", unfollowed := true, recurses := true, apart := false, narrowed := true }
def TraceTurnsUptoSaid : Prop := traceTurnsUptoRow.holds Tryz.pinned (OpenSpec.upto traceTurnsSpec)

/-- 'meniscuslaw19.TraceKnown', WHERE WHAT IT READS IS OF BULK AT MOST 1048576: true; the input reads as it did. -/
def traceKnownUptoRow : OpenClaim := { program := "ytmpjfdaldejjlaagreat", sum := "78ae81b24a7c540e49680b4fb390a3d66a9abbac2ff24c744b77f87febb79e08", func := "meniscus/meniscuslaw19.TraceKnown", spec := "traceKnown", unfollowed := true, recurses := true, apart := false, narrowed := true }
def TraceKnownUptoSaid : Prop := traceKnownUptoRow.holds Tryz.pinned (OpenSpec.upto traceKnownSpec)

/-- 'meniscuslaw19.TraceTells', WHERE WHAT IT READS IS OF BULK AT MOST 1048576: true; the input reads as it did. -/
def traceTellsUptoRow : OpenClaim := { program := "ytmpjfdaldejjlaagreat", sum := "78ae81b24a7c540e49680b4fb390a3d66a9abbac2ff24c744b77f87febb79e08", func := "meniscus/meniscuslaw19.TraceTells", spec := "traceTells", unfollowed := true, recurses := true, apart := false, narrowed := true }
def TraceTellsUptoSaid : Prop := traceTellsUptoRow.holds Tryz.pinned (OpenSpec.upto traceTellsSpec)

end Rows
end Go.Proofs.YtmpjfdaldejjlaaGreat
