/-
  No cell of these rows narrows 'for every input' (looked for: loops, veiled, ifaces, maps, wideKeys, modest, calm, conditions, laid).
  DERIVED. THE GIVEN ROWS OF THIS SEAT. 7 by the template 'for every input the law returns true; each argument reads behind the call as it read before'; 0 by the template 'total and deterministic' (their statements: YtlbmjajjldfigaaGreatTotals.lean).
  GIVEN WITH THE SEED: the statements are not yours to turn. If you find one false, say at which input.
  Laid BY PROGRAM, IN A SANDBOX (cutbox-rows.mjs): the forced cells as the released guide's own fill.sh prints them over the translation e26cb33ac20fc2f2… (all of the seat's roots in one cut). By AI agents, Wed Nov 11 2026. No macro, syntax, notation, axiom, sorry.
-/
import Derived.Test.YtlbmjajjldfigaaGreatChecked
import GoSem.Claim
import GoSem.ClaimJoined
import GoSem.ClaimMapViews
import Derived.JoinedTies
import Derived.KernelRfl
namespace Go.Proofs.YtlbmjajjldfigaaGreat
/- THE CELL 'sum', in the pinned program and in every row, IS THE sha256 OF THE DUMP (.gsa) THAT YtlbmjajjldfigaaGreatProg.lean LOADS. Nothing in Lean hashes anything: it is a label: what it is worth is what the hold of that sum in a sandbox is worth. -/
noncomputable def Tryz.pinned : Pinned := { name := "ytlbmjajjldfigaagreat", sum := "e26cb33ac20fc2f20c8c5732b78911a14f5818d8c3fb3b46bc79d27e6480c27e", checked := Tryz.checked }
namespace Rows
def none {H : Type} : Left H := { results := [], args := [] }

/-- 'meniscuslaw15.HitLess': WHATEVER THE INPUT: true; the input reads as it did. -/
def hitLessSpec : ChangeSpec := { name := "hitLess", fn := fun _ => fun
  | [d1, d2, d3, d4, d5] => { results := [.lit (.bool true)], args := [d1, d2, d3, d4, d5] }
  | _ => none }
def hitLessRow : OpenClaim := { program := "ytlbmjajjldfigaagreat", sum := "e26cb33ac20fc2f20c8c5732b78911a14f5818d8c3fb3b46bc79d27e6480c27e", func := "meniscus/meniscuslaw15.HitLess", spec := "hitLess", unfollowed := true, recurses := true, apart := false }
def HitLessSaid : Prop := hitLessRow.holds Tryz.pinned (OpenSpec.ofChange hitLessSpec)

/-- ITS FALSE NEIGHBOUR: 'it returns false'. Refute it at one input. -/
def hitLessWrong : ChangeSpec := { name := "hitLess", fn := fun _ => fun
  | [d1, d2, d3, d4, d5] => { results := [.lit (.bool false)], args := [d1, d2, d3, d4, d5] }
  | _ => none }
def HitLessWrongFalsely : Prop := hitLessRow.holds Tryz.pinned (OpenSpec.ofChange hitLessWrong)

/-- 'meniscuslaw18.StepMoves': WHATEVER THE INPUT: true; the input reads as it did. -/
def stepMovesSpec : ChangeSpec := { name := "stepMoves", fn := fun _ => fun
  | [d1, d2, d3, d4] => { results := [.lit (.bool true)], args := [d1, d2, d3, d4] }
  | _ => none }
def stepMovesRow : OpenClaim := { program := "ytlbmjajjldfigaagreat", sum := "e26cb33ac20fc2f20c8c5732b78911a14f5818d8c3fb3b46bc79d27e6480c27e", func := "meniscus/meniscuslaw18.StepMoves", spec := "stepMoves", unfollowed := true, recurses := true, apart := false }
def StepMovesSaid : Prop := stepMovesRow.holds Tryz.pinned (OpenSpec.ofChange stepMovesSpec)

/-- ITS FALSE NEIGHBOUR: 'it returns false'. Refute it at one input. -/
def stepMovesWrong : ChangeSpec := { name := "stepMoves", fn := fun _ => fun
  | [d1, d2, d3, d4] => { results := [.lit (.bool false)], args := [d1, d2, d3, d4] }
  | _ => none }
def StepMovesWrongFalsely : Prop := stepMovesRow.holds Tryz.pinned (OpenSpec.ofChange stepMovesWrong)

/-- 'meniscuslaw18.StepLess': WHATEVER THE INPUT: true; the input reads as it did. -/
def stepLessSpec : ChangeSpec := { name := "stepLess", fn := fun _ => fun
  | [d1, d2, d3, d4, d5] => { results := [.lit (.bool true)], args := [d1, d2, d3, d4, d5] }
  | _ => none }
def stepLessRow : OpenClaim := { program := "ytlbmjajjldfigaagreat", sum := "e26cb33ac20fc2f20c8c5732b78911a14f5818d8c3fb3b46bc79d27e6480c27e", func := "meniscus/meniscuslaw18.StepLess", spec := "stepLess", unfollowed := true, recurses := true, apart := false }
def StepLessSaid : Prop := stepLessRow.holds Tryz.pinned (OpenSpec.ofChange stepLessSpec)

/-- ITS FALSE NEIGHBOUR: 'it returns false'. Refute it at one input. -/
def stepLessWrong : ChangeSpec := { name := "stepLess", fn := fun _ => fun
  | [d1, d2, d3, d4, d5] => { results := [.lit (.bool false)], args := [d1, d2, d3, d4, d5] }
  | _ => none }
def StepLessWrongFalsely : Prop := stepLessRow.holds Tryz.pinned (OpenSpec.ofChange stepLessWrong)

/-- 'meniscuslaw19.TraceParts': WHATEVER THE INPUT: true; the input reads as it did. -/
def tracePartsSpec : ChangeSpec := { name := "traceParts", fn := fun _ => fun
  | [d1, d2, d3, d4] => { results := [.lit (.bool true)], args := [d1, d2, d3, d4] }
  | _ => none }
def tracePartsRow : OpenClaim := { program := "ytlbmjajjldfigaagreat", sum := "e26cb33ac20fc2f20c8c5732b78911a14f5818d8c3fb3b46bc79d27e6480c27e", func := "meniscus/meniscuslaw19.TraceParts", spec := "traceParts", unfollowed := true, recurses := true, apart := false }
def TracePartsSaid : Prop := tracePartsRow.holds Tryz.pinned (OpenSpec.ofChange tracePartsSpec)

/-- ITS FALSE NEIGHBOUR: 'it returns false'. Refute it at one input. -/
def tracePartsWrong : ChangeSpec := { name := "traceParts", fn := fun _ => fun
  | [d1, d2, d3, d4] => { results := [.lit (.bool false)], args := [d1, d2, d3, d4] }
  | _ => none }
def TracePartsWrongFalsely : Prop := tracePartsRow.holds Tryz.pinned (OpenSpec.ofChange tracePartsWrong)

/-- 'meniscuslaw19.TraceMoves': WHATEVER THE INPUT: true; the input reads as it did. -/
def traceMovesSpec : ChangeSpec := { name := "traceMoves", fn := fun _ => fun
  | [d1, d2, d3, d4] => { results := [.lit (.bool true)], args := [d1, d2, d3, d4] }
  | _ => none }
def traceMovesRow : OpenClaim := { program := "ytlbmjajjldfigaagreat", sum := "e26cb33ac20fc2f20c8c5732b78911a14f5818d8c3fb3b46bc79d27e6480c27e", func := "meniscus/meniscuslaw19.TraceMoves", spec := "traceMoves", unfollowed := true, recurses := true, apart := false }
def TraceMovesSaid : Prop := traceMovesRow.holds Tryz.pinned (OpenSpec.ofChange traceMovesSpec)

/-- ITS FALSE NEIGHBOUR: 'it returns false'. Refute it at one input. -/
def traceMovesWrong : ChangeSpec := { name := "traceMoves", fn := fun _ => fun
  | [d1, d2, d3, d4] => { results := [.lit (.bool false)], args := [d1, d2, d3, d4] }
  | _ => none }
def TraceMovesWrongFalsely : Prop := traceMovesRow.holds Tryz.pinned (OpenSpec.ofChange traceMovesWrong)

/-- 'meniscuslaw19.TraceLess': WHATEVER THE INPUT: true; the input reads as it did. -/
def traceLessSpec : ChangeSpec := { name := "traceLess", fn := fun _ => fun
  | [d1, d2, d3, d4, d5, d6] => { results := [.lit (.bool true)], args := [d1, d2, d3, d4, d5, d6] }
  | _ => none }
def traceLessRow : OpenClaim := { program := "ytlbmjajjldfigaagreat", sum := "e26cb33ac20fc2f20c8c5732b78911a14f5818d8c3fb3b46bc79d27e6480c27e", func := "meniscus/meniscuslaw19.TraceLess", spec := "traceLess", unfollowed := true, recurses := true, apart := false }
def TraceLessSaid : Prop := traceLessRow.holds Tryz.pinned (OpenSpec.ofChange traceLessSpec)

/-- ITS FALSE NEIGHBOUR: 'it returns false'. Refute it at one input. -/
def traceLessWrong : ChangeSpec := { name := "traceLess", fn := fun _ => fun
  | [d1, d2, d3, d4, d5, d6] => { results := [.lit (.bool false)], args := [d1, d2, d3, d4, d5, d6] }
  | _ => none }
def TraceLessWrongFalsely : Prop := traceLessRow.holds Tryz.pinned (OpenSpec.ofChange traceLessWrong)

/-- 'meniscuslaw23.PupilKeeps': WHATEVER THE INPUT: true; the input reads as it did. -/
def pupilKeepsSpec : ChangeSpec := { name := "pupilKeeps", fn := fun _ => fun
  | [d1, d2, d3, d4, d5, d6, d7, d8, d9, d10, d11] => { results := [.lit (.bool true)], args := [d1, d2, d3, d4, d5, d6, d7, d8, d9, d10, d11] }
  | _ => none }
def pupilKeepsRow : OpenClaim := { program := "ytlbmjajjldfigaagreat", sum := "e26cb33ac20fc2f20c8c5732b78911a14f5818d8c3fb3b46bc79d27e6480c27e", func := "meniscus/meniscuslaw23.PupilKeeps", spec := "pupilKeeps", inPlace := ["math.archTrunc", "math.Float64bits", "math.Float64frombits"], unfollowed := true, recurses := true, apart := false }
def PupilKeepsSaid : Prop := pupilKeepsRow.holds Tryz.pinned (OpenSpec.ofChange pupilKeepsSpec)

/-- ITS FALSE NEIGHBOUR: 'it returns false'. Refute it at one input. -/
def pupilKeepsWrong : ChangeSpec := { name := "pupilKeeps", fn := fun _ => fun
  | [d1, d2, d3, d4, d5, d6, d7, d8, d9, d10, d11] => { results := [.lit (.bool false)], args := [d1, d2, d3, d4, d5, d6, d7, d8, d9, d10, d11] }
  | _ => none }
def PupilKeepsWrongFalsely : Prop := pupilKeepsRow.holds Tryz.pinned (OpenSpec.ofChange pupilKeepsWrong)

/- THE SECOND FORM. 'bulk': how many values and letters a reading holds, each counted each time it is reached (what is shared counts as often as it is met; a slice's spare places count too). A statement '..UptoSaid' is the law's where the arguments, and the package variables that the reading takes, are together of bulk at most 1048576: NARROWER than '..Said'. Prove '..Said' where nothing that the law and all that it calls make is longer than what came in: it says more and counts as full. Else prove '..UptoSaid'. A law counts once. -/
mutual
def uptoBulk {H : Type} : DataW H → Nat
  | .lit (.string bytes) => bytes.length + 1
  | .lit _ => 1
  | .nil => 1
  | .ptr d => uptoBulk d + 1
  | .slice elems spare => uptoBulkAll elems + uptoBulkAll spare + 1
  | .agg parts => uptoBulkAll parts + 1
  | .iface _ d => uptoBulk d + 1
  | .map entries => uptoBulkEntries entries + 1
  | .held _ => 1
def uptoBulkAll {H : Type} : List (DataW H) → Nat
  | [] => 0
  | d :: r => uptoBulk d + uptoBulkAll r
def uptoBulkEntries {H : Type} : List (Lit × DataW H) → Nat
  | [] => 0
  | x :: r => uptoBulkEntry x + uptoBulkEntries r
def uptoBulkEntry {H : Type} : Lit × DataW H → Nat
  | (.string bytes, d) => bytes.length + uptoBulk d + 1
  | (_, d) => uptoBulk d + 1
 end
def uptoSmall : (H : Type) → List (DataW H) → Bool := fun _ ds => decide (uptoBulkAll ds ≤ 1048576)
def OpenSpec.upto (s : _root_.Go.ChangeSpec) : _root_.Go.OpenSpec := { _root_.Go.OpenSpec.ofChange s with cond := some uptoSmall }

/-- 'meniscuslaw15.HitLess', WHERE WHAT IT READS IS OF BULK AT MOST 1048576: true; the input reads as it did. -/
def hitLessUptoRow : OpenClaim := { program := "ytlbmjajjldfigaagreat", sum := "e26cb33ac20fc2f20c8c5732b78911a14f5818d8c3fb3b46bc79d27e6480c27e", func := "meniscus/meniscuslaw15.HitLess", spec := "hitLess", unfollowed := true, recurses := true, apart := false, narrowed := true }
def HitLessUptoSaid : Prop := hitLessUptoRow.holds Tryz.pinned (OpenSpec.upto hitLessSpec)

/-- 'meniscuslaw18.StepMoves', WHERE WHAT IT READS IS OF BULK AT MOST 1048576: true; the input reads as it did. -/
def stepMovesUptoRow : OpenClaim := { program := "ytlbmjajjldfigaagreat", sum := "e26cb33ac20fc2f20c8c5732b78911a14f5818d8c3fb3b46bc79d27e6480c27e", func := "meniscus/meniscuslaw18.StepMoves", spec := "stepMoves", unfollowed := true, recurses := true, apart := false, narrowed := true }
def StepMovesUptoSaid : Prop := stepMovesUptoRow.holds Tryz.pinned (OpenSpec.upto stepMovesSpec)

/-- 'meniscuslaw18.StepLess', WHERE WHAT IT READS IS OF BULK AT MOST 1048576: true; the input reads as it did. -/
def stepLessUptoRow : OpenClaim := { program := "ytlbmjajjldfigaagreat", sum := "e26cb33ac20fc2f20c8c5732b78911a14f5818d8c3fb3b46bc79d27e6480c27e", func := "meniscus/meniscuslaw18.StepLess", spec := "stepLess", unfollowed := true, recurses := true, apart := false, narrowed := true }
def StepLessUptoSaid : Prop := stepLessUptoRow.holds Tryz.pinned (OpenSpec.upto stepLessSpec)

/-- 'meniscuslaw19.TraceParts', WHERE WHAT IT READS IS OF BULK AT MOST 1048576: true; the input reads as it did. -/
def tracePartsUptoRow : OpenClaim := { program := "ytlbmjajjldfigaagreat", sum := "e26cb33ac20fc2f20c8c5732b78911a14f5818d8c3fb3b46bc79d27e6480c27e", func := "meniscus/meniscuslaw19.TraceParts", spec := "traceParts", unfollowed := true, recurses := true, apart := false, narrowed := true }
def TracePartsUptoSaid : Prop := tracePartsUptoRow.holds Tryz.pinned (OpenSpec.upto tracePartsSpec)

/-- 'meniscuslaw19.TraceMoves', WHERE WHAT IT READS IS OF BULK AT MOST 1048576: true; the input reads as it did. -/
def traceMovesUptoRow : OpenClaim := { program := "ytlbmjajjldfigaagreat", sum := "e26cb33ac20fc2f20c8c5732b78911a14f5818d8c3fb3b46bc79d27e6480c27e", func := "meniscus/meniscuslaw19.TraceMoves", spec := "traceMoves", unfollowed := true, recurses := true, apart := false, narrowed := true }
def TraceMovesUptoSaid : Prop := traceMovesUptoRow.holds Tryz.pinned (OpenSpec.upto traceMovesSpec)

/-- 'meniscuslaw19.TraceLess', WHERE WHAT IT READS IS OF BULK AT MOST 1048576: true; the input reads as it did. -/
def traceLessUptoRow : OpenClaim := { program := "ytlbmjajjldfigaagreat", sum := "e26cb33ac20fc2f20c8c5732b78911a14f5818d8c3fb3b46bc79d27e6480c27e", func := "meniscus/meniscuslaw19.TraceLess", spec := "traceLess", unfollowed := true, recurses := true, apart := false, narrowed := true }
def TraceLessUptoSaid : Prop := traceLessUptoRow.holds Tryz.pinned (OpenSpec.upto traceLessSpec)

/-- 'meniscuslaw23.PupilKeeps', WHERE WHAT IT READS IS OF BULK AT MOST 1048576: true; the input reads as it did. -/
def pupilKeepsUptoRow : OpenClaim := { program := "ytlbmjajjldfigaagreat", sum := "e26cb33ac20fc2f20c8c5732b78911a14f5818d8c3fb3b46bc79d27e6480c27e", func := "meniscus/meniscuslaw23.PupilKeeps", spec := "pupilKeeps", inPlace := ["math.archTrunc", "math.Float64bits", "math.Float64frombits"], unfollowed := true, recurses := true, apart := false, narrowed := true }
def PupilKeepsUptoSaid : Prop := pupilKeepsUptoRow.holds Tryz.pinned (OpenSpec.upto pupilKeepsSpec)

end Rows
end Go.Proofs.YtlbmjajjldfigaaGreat
