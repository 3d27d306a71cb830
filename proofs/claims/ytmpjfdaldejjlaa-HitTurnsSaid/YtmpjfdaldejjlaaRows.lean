/-
  No cell of these rows narrows 'for every input' (looked for: loops, veiled, ifaces, maps, wideKeys, modest, calm, conditions, laid).
  DERIVED. THE GIVEN ROWS OF THIS SEAT. 7 by the template 'for every input the law returns true; each argument reads behind the call as it read before'; 0 by the template 'total and deterministic' (their statements: YtmpjfdaldejjlaaTotals.lean).
  GIVEN WITH THE SEED: the statements are not yours to turn. If you find one false, say at which input.
  Laid BY PROGRAM, IN A SANDBOX (cutbox-rows.mjs): the forced cells as the released guide's own fill.sh prints them over the translation 36bec47e509d6b16… (all of the seat's roots in one cut). By AI agents, Wed Nov 11 2026. No macro, syntax, notation, axiom, sorry.
-/
import Derived.Test.YtmpjfdaldejjlaaChecked
import GoSem.Claim
import GoSem.ClaimJoined
import GoSem.ClaimMapViews
import Derived.JoinedTies
import Derived.KernelRfl
namespace Go.Proofs.Ytmpjfdaldejjlaa
/- THE CELL 'sum', in the pinned program and in every row, IS THE sha256 OF THE DUMP (.gsa) THAT YtmpjfdaldejjlaaProg.lean LOADS. Nothing in Lean hashes anything: it is a label: what it is worth is what the hold of that sum in a sandbox is worth. -/
noncomputable def Try.pinned : Pinned := { name := "ytmpjfdaldejjlaa", sum := "36bec47e509d6b165a1a19d09e5667c75d4dd50c71699cf1ce889c8141553aa2", checked := Try.checked }
namespace Rows
def none {H : Type} : Left H := { results := [], args := [] }

/-- 'meniscuslaw15.HitKnown': WHATEVER THE INPUT: true; the input reads as it did. -/
def hitKnownSpec : ChangeSpec := { name := "hitKnown", fn := fun _ => fun
  | [] => { results := [.lit (.bool true)], args := [] }
  | _ => none }
def hitKnownRow : OpenClaim := { program := "ytmpjfdaldejjlaa", sum := "36bec47e509d6b165a1a19d09e5667c75d4dd50c71699cf1ce889c8141553aa2", func := "meniscus/meniscuslaw15.HitKnown", spec := "hitKnown", unfollowed := true, recurses := true, apart := false }
def HitKnownSaid : Prop := hitKnownRow.holds Try.pinned (OpenSpec.ofChange hitKnownSpec)

/-- ITS FALSE NEIGHBOUR: 'it returns false'. Refute it at one input. -/
def hitKnownWrong : ChangeSpec := { name := "hitKnown", fn := fun _ => fun
  | [] => { results := [.lit (.bool false)], args := [] }
  | _ => none }
def HitKnownWrongFalsely : Prop := hitKnownRow.holds Try.pinned (OpenSpec.ofChange hitKnownWrong)

/-- 'meniscuslaw15.HitOn': WHATEVER THE INPUT: true; the input reads as it did. -/
def hitOnSpec : ChangeSpec := { name := "hitOn", fn := fun _ => fun
  | [d1, d2, d3] => { results := [.lit (.bool true)], args := [d1, d2, d3] }
  | _ => none }
def hitOnRow : OpenClaim := { program := "ytmpjfdaldejjlaa", sum := "36bec47e509d6b165a1a19d09e5667c75d4dd50c71699cf1ce889c8141553aa2", func := "meniscus/meniscuslaw15.HitOn", spec := "hitOn", unfollowed := true, recurses := true, apart := false }
def HitOnSaid : Prop := hitOnRow.holds Try.pinned (OpenSpec.ofChange hitOnSpec)

/-- ITS FALSE NEIGHBOUR: 'it returns false'. Refute it at one input. -/
def hitOnWrong : ChangeSpec := { name := "hitOn", fn := fun _ => fun
  | [d1, d2, d3] => { results := [.lit (.bool false)], args := [d1, d2, d3] }
  | _ => none }
def HitOnWrongFalsely : Prop := hitOnRow.holds Try.pinned (OpenSpec.ofChange hitOnWrong)

/-- 'meniscuslaw15.HitPlanes': WHATEVER THE INPUT: true; the input reads as it did. -/
def hitPlanesSpec : ChangeSpec := { name := "hitPlanes", fn := fun _ => fun
  | [d1, d2, d3, d4, d5, d6] => { results := [.lit (.bool true)], args := [d1, d2, d3, d4, d5, d6] }
  | _ => none }
def hitPlanesRow : OpenClaim := { program := "ytmpjfdaldejjlaa", sum := "36bec47e509d6b165a1a19d09e5667c75d4dd50c71699cf1ce889c8141553aa2", func := "meniscus/meniscuslaw15.HitPlanes", spec := "hitPlanes", unfollowed := true, recurses := true, apart := false }
def HitPlanesSaid : Prop := hitPlanesRow.holds Try.pinned (OpenSpec.ofChange hitPlanesSpec)

/-- ITS FALSE NEIGHBOUR: 'it returns false'. Refute it at one input. -/
def hitPlanesWrong : ChangeSpec := { name := "hitPlanes", fn := fun _ => fun
  | [d1, d2, d3, d4, d5, d6] => { results := [.lit (.bool false)], args := [d1, d2, d3, d4, d5, d6] }
  | _ => none }
def HitPlanesWrongFalsely : Prop := hitPlanesRow.holds Try.pinned (OpenSpec.ofChange hitPlanesWrong)

/-- 'meniscuslaw15.HitMoves': WHATEVER THE INPUT: true; the input reads as it did. -/
def hitMovesSpec : ChangeSpec := { name := "hitMoves", fn := fun _ => fun
  | [d1, d2, d3, d4] => { results := [.lit (.bool true)], args := [d1, d2, d3, d4] }
  | _ => none }
def hitMovesRow : OpenClaim := { program := "ytmpjfdaldejjlaa", sum := "36bec47e509d6b165a1a19d09e5667c75d4dd50c71699cf1ce889c8141553aa2", func := "meniscus/meniscuslaw15.HitMoves", spec := "hitMoves", unfollowed := true, recurses := true, apart := false }
def HitMovesSaid : Prop := hitMovesRow.holds Try.pinned (OpenSpec.ofChange hitMovesSpec)

/-- ITS FALSE NEIGHBOUR: 'it returns false'. Refute it at one input. -/
def hitMovesWrong : ChangeSpec := { name := "hitMoves", fn := fun _ => fun
  | [d1, d2, d3, d4] => { results := [.lit (.bool false)], args := [d1, d2, d3, d4] }
  | _ => none }
def HitMovesWrongFalsely : Prop := hitMovesRow.holds Try.pinned (OpenSpec.ofChange hitMovesWrong)

/-- 'meniscuslaw15.HitTurns': WHATEVER THE INPUT: true; the input reads as it did. -/
def hitTurnsSpec : ChangeSpec := { name := "hitTurns", fn := fun _ => fun
  | [d1, d2, d3, d4] => { results := [.lit (.bool true)], args := [d1, d2, d3, d4] }
  | _ => none }
def hitTurnsRow : OpenClaim := { program := "ytmpjfdaldejjlaa", sum := "36bec47e509d6b165a1a19d09e5667c75d4dd50c71699cf1ce889c8141553aa2", func := "meniscus/meniscuslaw15.HitTurns", spec := "hitTurns", unfollowed := true, recurses := true, apart := false }
def HitTurnsSaid : Prop := hitTurnsRow.holds Try.pinned (OpenSpec.ofChange hitTurnsSpec)

/-- ITS FALSE NEIGHBOUR: 'it returns false'. Refute it at one input. -/
def hitTurnsWrong : ChangeSpec := { name := "hitTurns", fn := fun _ => fun
  | [d1, d2, d3, d4] => { results := [.lit (.bool false)], args := [d1, d2, d3, d4] }
  | _ => none }
def HitTurnsWrongFalsely : Prop := hitTurnsRow.holds Try.pinned (OpenSpec.ofChange hitTurnsWrong)

/-- 'meniscuslaw18.StepKnown': WHATEVER THE INPUT: true; the input reads as it did. -/
def stepKnownSpec : ChangeSpec := { name := "stepKnown", fn := fun _ => fun
  | [] => { results := [.lit (.bool true)], args := [] }
  | _ => none }
def stepKnownRow : OpenClaim := { program := "ytmpjfdaldejjlaa", sum := "36bec47e509d6b165a1a19d09e5667c75d4dd50c71699cf1ce889c8141553aa2", func := "meniscus/meniscuslaw18.StepKnown", spec := "stepKnown", unfollowed := true, recurses := true, apart := false }
def StepKnownSaid : Prop := stepKnownRow.holds Try.pinned (OpenSpec.ofChange stepKnownSpec)

/-- ITS FALSE NEIGHBOUR: 'it returns false'. Refute it at one input. -/
def stepKnownWrong : ChangeSpec := { name := "stepKnown", fn := fun _ => fun
  | [] => { results := [.lit (.bool false)], args := [] }
  | _ => none }
def StepKnownWrongFalsely : Prop := stepKnownRow.holds Try.pinned (OpenSpec.ofChange stepKnownWrong)

/-- 'meniscuslaw19.TraceStraight': WHATEVER THE INPUT: true; the input reads as it did. -/
def traceStraightSpec : ChangeSpec := { name := "traceStraight", fn := fun _ => fun
  | [d1, d2, d3, d4, d5, d6, d7] => { results := [.lit (.bool true)], args := [d1, d2, d3, d4, d5, d6, d7] }
  | _ => none }
def traceStraightRow : OpenClaim := { program := "ytmpjfdaldejjlaa", sum := "36bec47e509d6b165a1a19d09e5667c75d4dd50c71699cf1ce889c8141553aa2", func := "meniscus/meniscuslaw19.TraceStraight", spec := "traceStraight", unfollowed := true, recurses := true, apart := false }
def TraceStraightSaid : Prop := traceStraightRow.holds Try.pinned (OpenSpec.ofChange traceStraightSpec)

/-- ITS FALSE NEIGHBOUR: 'it returns false'. Refute it at one input. -/
def traceStraightWrong : ChangeSpec := { name := "traceStraight", fn := fun _ => fun
  | [d1, d2, d3, d4, d5, d6, d7] => { results := [.lit (.bool false)], args := [d1, d2, d3, d4, d5, d6, d7] }
  | _ => none }
def TraceStraightWrongFalsely : Prop := traceStraightRow.holds Try.pinned (OpenSpec.ofChange traceStraightWrong)

/- THE SECOND FORM. 'bulk': how many values and letters a reading holds, each counted each time it is reached (what is shared counts as often as it is met; a slice's spare places count too). A statement '..UptoSaid' is the law's where the arguments, and the package variables that the reading takes, are together of bulk at most 1048576: NARROWER than '..Said'. Prove '..Said' where nothing that the law and all that it calls make is longer than what came in: it says more and counts as full. Else prove '..UptoSaid'. A law counts once. -/
mutual
def uptoBulk {H : Type} : DataW H → Nat
  | .lit (.string bytes) => bytes.length + 1
  | .lit _ => 1
  | .nil => 1
  | .ptr d => uptoBulk d + 1
  | .slice elems spare => uptoBulkAll elems + uptoBulkAll spare + 1
  | .agg parts => uptoBulkAll parts + 1
  | .iface _ d => uptoBulk d + 1
  | .map entries => uptoBulkEntries entries + 1
  | .held _ => 1
def uptoBulkAll {H : Type} : List (DataW H) → Nat
  | [] => 0
  | d :: r => uptoBulk d + uptoBulkAll r
def uptoBulkEntries {H : Type} : List (Lit × DataW H) → Nat
  | [] => 0
  | x :: r => uptoBulkEntry x + uptoBulkEntries r
def uptoBulkEntry {H : Type} : Lit × DataW H → Nat
  | (.string bytes, d) => bytes.length + uptoBulk d + 1
  | (_, d) => uptoBulk d + 1
 end
def uptoSmall : (H : Type) → List (DataW H) → Bool := fun _ ds => decide (uptoBulkAll ds ≤ 1048576)
def OpenSpec.upto (s : _root_.Go.ChangeSpec) : _root_.Go.OpenSpec := { _root_.Go.OpenSpec.ofChange s with cond := some uptoSmall }

/-- 'meniscuslaw15.HitKnown', WHERE WHAT IT READS IS OF BULK AT MOST 1048576: true; the input reads as it did. -/
def hitKnownUptoRow : OpenClaim := { program := "ytmpjfdaldejjlaa", sum := "36bec47e509d6b165a1a19d09e5667c75d4dd50c71699cf1ce889c8141553aa2", func := "meniscus/meniscuslaw15.HitKnown", spec := "hitKnown", unfollowed := true, recurses := true, apart := false, narrowed := true }
def HitKnownUptoSaid : Prop := hitKnownUptoRow.holds Try.pinned (OpenSpec.upto hitKnownSpec)

/-- 'meniscuslaw15.HitOn', WHERE WHAT IT READS IS OF BULK AT MOST 1048576: true; the input reads as it did. -/
def hitOnUptoRow : OpenClaim := { program := "ytmpjfdaldejjlaa", sum := "36bec47e509d6b165a1a19d09e5667c75d4dd50c71699cf1ce889c8141553aa2", func := "meniscus/meniscuslaw15.HitOn", spec := "hitOn", unfollowed := true, recurses := true, apart := false, narrowed := true }
def HitOnUptoSaid : Prop := hitOnUptoRow.holds Try.pinned (OpenSpec.upto hitOnSpec)

/-- 'meniscuslaw15.HitPlanes', WHERE WHAT IT READS IS OF BULK AT MOST 1048576: true; the input reads as it did. -/
def hitPlanesUptoRow : OpenClaim := { program := "ytmpjfdaldejjlaa", sum := "36bec47e509d6b165a1a19d09e5667c75d4dd50c71699cf1ce889c8141553aa2", func := "meniscus/meniscuslaw15.HitPlanes", spec := "hitPlanes", unfollowed := true, recurses := true, apart := false, narrowed := true }
def HitPlanesUptoSaid : Prop := hitPlanesUptoRow.holds Try.pinned (OpenSpec.upto hitPlanesSpec)

/-- 'meniscuslaw15.HitMoves', WHERE WHAT IT READS IS OF BULK AT MOST 1048576: true; the input reads as it did. -/
def hitMovesUptoRow : OpenClaim := { program := "ytmpjfdaldejjlaa", sum := "36bec47e509d6b165a1a19d09e5667c75d4dd50c71699cf1ce889c8141553aa2", func := "meniscus/meniscuslaw15.HitMoves", spec := "hitMoves", unfollowed := true, recurses := true, apart := false, narrowed := true }
def HitMovesUptoSaid : Prop := hitMovesUptoRow.holds Try.pinned (OpenSpec.upto hitMovesSpec)

/-- 'meniscuslaw15.HitTurns', WHERE WHAT IT READS IS OF BULK AT MOST 1048576: true; the input reads as it did. -/
def hitTurnsUptoRow : OpenClaim := { program := "ytmpjfdaldejjlaa", sum := "36bec47e509d6b165a1a19d09e5667c75d4dd50c71699cf1ce889c8141553aa2", func := "meniscus/meniscuslaw15.HitTurns", spec := "hitTurns", unfollowed := true, recurses := true, apart := false, narrowed := true }
def HitTurnsUptoSaid : Prop := hitTurnsUptoRow.holds Try.pinned (OpenSpec.upto hitTurnsSpec)

/-- 'meniscuslaw18.StepKnown', WHERE WHAT IT READS IS OF BULK AT MOST 1048576: true; the input reads as it did. -/
def stepKnownUptoRow : OpenClaim := { program := "ytmpjfdaldejjlaa", sum := "36bec47e509d6b165a1a19d09e5667c75d4dd50c71699cf1ce889c8141553aa2", func := "meniscus/meniscuslaw18.StepKnown", spec := "stepKnown", unfollowed := true, recurses := true, apart := false, narrowed := true }
def StepKnownUptoSaid : Prop := stepKnownUptoRow.holds Try.pinned (OpenSpec.upto stepKnownSpec)

/-- 'meniscuslaw19.TraceStraight', WHERE WHAT IT READS IS OF BULK AT MOST 1048576: true; the input reads as it did. -/
def traceStraightUptoRow : OpenClaim := { program := "ytmpjfdaldejjlaa", sum := "36bec47e509d6b165a1a19d09e5667c75d4dd50c71699cf1ce889c8141553aa2", func := "meniscus/meniscuslaw19.TraceStraight", spec := "traceStraight", unfollowed := true, recurses := true, apart := false, narrowed := true }
def TraceStraightUptoSaid : Prop := traceStraightUptoRow.holds Try.pinned (OpenSpec.upto traceStraightSpec)

end Rows
end Go.Proofs.Ytmpjfdaldejjlaa
