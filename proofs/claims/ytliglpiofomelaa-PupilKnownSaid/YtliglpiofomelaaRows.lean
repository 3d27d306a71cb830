/-
  No cell of these rows narrows 'for every input' (looked for: loops, veiled, ifaces, maps, wideKeys, modest, calm, conditions, laid).
  DERIVED. THE GIVEN ROWS OF THIS SEAT. 3 by the template 'for every input the law returns true; each argument reads behind the call as it read before'; 0 by the template 'total and deterministic' (their statements: YtliglpiofomelaaTotals.lean).
  GIVEN WITH THE SEED: the statements are not yours to turn. If you find one false, say at which input.
  Laid BY PROGRAM, IN A SANDBOX (cutbox-rows.mjs): the forced cells as the released guide's own fill.sh prints them over the translation 82e8a3ceab6f8bb8… (all of the seat's roots in one cut). By AI agents, Wed Nov 11 2026. No macro, syntax, notation, axiom, sorry.
-/
import Derived.Test.YtliglpiofomelaaChecked
import GoSem.Claim
import GoSem.ClaimJoined
import GoSem.ClaimMapViews
import Derived.JoinedTies
import Derived.KernelRfl
namespace Go.Proofs.Ytliglpiofomelaa
/- THE CELL 'sum', in the pinned program and in every row, IS THE sha256 OF THE DUMP (.gsa) THAT YtliglpiofomelaaProg.lean LOADS. Nothing in Lean hashes anything: it is a label: what it is worth is what the hold of that sum in a sandbox is worth. -/
noncomputable def Try.pinned : Pinned := { name := "ytliglpiofomelaa", sum := "82e8a3ceab6f8bb886d2cae8af4162fbe68829a7411201749ae608f8c4f87f6c", checked := Try.checked }
namespace Rows
def none {H : Type} : Left H := { results := [], args := [] }

/-- 'meniscuslaw23.PupilKnown': WHATEVER THE INPUT: true; the input reads as it did. -/
def pupilKnownSpec : ChangeSpec := { name := "pupilKnown", fn := fun _ => fun
  | [] => { results := [.lit (.bool true)], args := [] }
  | _ => none }
def pupilKnownRow : OpenClaim := { program := "ytliglpiofomelaa", sum := "82e8a3ceab6f8bb886d2cae8af4162fbe68829a7411201749ae608f8c4f87f6c", func := "meniscus/meniscuslaw23.PupilKnown", spec := "pupilKnown", inPlace := ["math.archTrunc", "math.Float64bits", "math.Float64frombits"], unfollowed := true, recurses := true, apart := false }
def PupilKnownSaid : Prop := pupilKnownRow.holds Try.pinned (OpenSpec.ofChange pupilKnownSpec)

/-- ITS FALSE NEIGHBOUR: 'it returns false'. Refute it at one input. -/
def pupilKnownWrong : ChangeSpec := { name := "pupilKnown", fn := fun _ => fun
  | [] => { results := [.lit (.bool false)], args := [] }
  | _ => none }
def PupilKnownWrongFalsely : Prop := pupilKnownRow.holds Try.pinned (OpenSpec.ofChange pupilKnownWrong)

/-- 'meniscuslaw24.VignetteKnown': WHATEVER THE INPUT: true; the input reads as it did. -/
def vignetteKnownSpec : ChangeSpec := { name := "vignetteKnown", fn := fun _ => fun
  | [] => { results := [.lit (.bool true)], args := [] }
  | _ => none }
def vignetteKnownRow : OpenClaim := { program := "ytliglpiofomelaa", sum := "82e8a3ceab6f8bb886d2cae8af4162fbe68829a7411201749ae608f8c4f87f6c", func := "meniscus/meniscuslaw24.VignetteKnown", spec := "vignetteKnown", inPlace := ["math.archTrunc", "math.Float64bits", "math.Float64frombits"], unfollowed := true, recurses := true, apart := false }
def VignetteKnownSaid : Prop := vignetteKnownRow.holds Try.pinned (OpenSpec.ofChange vignetteKnownSpec)

/-- ITS FALSE NEIGHBOUR: 'it returns false'. Refute it at one input. -/
def vignetteKnownWrong : ChangeSpec := { name := "vignetteKnown", fn := fun _ => fun
  | [] => { results := [.lit (.bool false)], args := [] }
  | _ => none }
def VignetteKnownWrongFalsely : Prop := vignetteKnownRow.holds Try.pinned (OpenSpec.ofChange vignetteKnownWrong)

/-- 'meniscuslaw25.SpotKnown': WHATEVER THE INPUT: true; the input reads as it did. -/
def spotKnownSpec : ChangeSpec := { name := "spotKnown", fn := fun _ => fun
  | [] => { results := [.lit (.bool true)], args := [] }
  | _ => none }
def spotKnownRow : OpenClaim := { program := "ytliglpiofomelaa", sum := "82e8a3ceab6f8bb886d2cae8af4162fbe68829a7411201749ae608f8c4f87f6c", func := "meniscus/meniscuslaw25.SpotKnown", spec := "spotKnown", inPlace := ["math.archTrunc", "math.Float64bits", "math.Float64frombits"], unfollowed := true, recurses := true, apart := false }
def SpotKnownSaid : Prop := spotKnownRow.holds Try.pinned (OpenSpec.ofChange spotKnownSpec)

/-- ITS FALSE NEIGHBOUR: 'it returns false'. Refute it at one input. -/
def spotKnownWrong : ChangeSpec := { name := "spotKnown", fn := fun _ => fun
  | [] => { results := [.lit (.bool false)], args := [] }
  | _ => none }
def SpotKnownWrongFalsely : Prop := spotKnownRow.holds Try.pinned (OpenSpec.ofChange spotKnownWrong)

/- THE SECOND FORM. 'bulk': how many values and letters a reading holds, each counted each time it is reached (what is shared counts as often as it is met; a slice's spare places count too). A statement '..UptoSaid' is the law's where the arguments, and the package variables that the reading takes, are together of bulk at most 1048576: NARROWER than '..Said'. Prove '..Said' where nothing that the law and all that it calls make is longer than what came in: it says more and counts as full. Else prove '..UptoSaid'. A law counts once. -/
mutual
def uptoBulk {H : Type} : DataW H → Nat
  | .lit (.string bytes) => bytes.length + 1
  | .lit _ => 1
  | .nil => 1
  | .ptr d => uptoBulk d + 1
  | .slice elems spare => uptoBulkAll elems + uptoBulkAll spare + 1
  | .agg parts => uptoBulkAll parts + 1
  | .iface _ d => uptoBulk d + 1
  | .map entries => uptoBulkEntries entries + 1
  | .held _ => 1
def uptoBulkAll {H : Type} : List (DataW H) → Nat
  | [] => 0
  | d :: r => uptoBulk d + uptoBulkAll r
def uptoBulkEntries {H : Type} : List (Lit × DataW H) → Nat
  | [] => 0
  | x :: r => uptoBulkEntry x + uptoBulkEntries r
def uptoBulkEntry {H : Type} : Lit × DataW H → Nat
  | (.string bytes, d) => bytes.length + uptoBulk d + 1
  | (_, d) => uptoBulk d + 1
 end
def uptoSmall : (H : Type) → List (DataW H) → Bool := fun _ ds => decide (uptoBulkAll ds ≤ 1048576)
def OpenSpec.upto (s : _root_.Go.ChangeSpec) : _root_.Go.OpenSpec := { _root_.Go.OpenSpec.ofChange s with cond := some uptoSmall }

/-- 'meniscuslaw23.PupilKnown', WHERE WHAT IT READS IS OF BULK AT MOST 1048576: true; the input reads as it did. -/
def pupilKnownUptoRow : OpenClaim := { program := "ytliglpiofomelaa", sum := "82e8a3ceab6f8bb886d2cae8af4162fbe68829a7411201749ae608f8c4f87f6c", func := "meniscus/meniscuslaw23.PupilKnown", spec := "pupilKnown", inPlace := ["math.archTrunc", "math.Float64bits", "math.Float64frombits"], unfollowed := true, recurses := true, apart := false, narrowed := true }
def PupilKnownUptoSaid : Prop := pupilKnownUptoRow.holds Try.pinned (OpenSpec.upto pupilKnownSpec)

/-- 'meniscuslaw24.VignetteKnown', WHERE WHAT IT READS IS OF BULK AT MOST 1048576: true; the input reads as it did. -/
def vignetteKnownUptoRow : OpenClaim := { program := "ytliglpiofomelaa", sum := "82e8a3ceab6f8bb886d2cae8af4162fbe68829a7411201749ae608f8c4f87f6c", func := "meniscus/meniscuslaw24.VignetteKnown", spec := "vignetteKnown", inPlace := ["math.archTrunc", "math.Float64bits", "math.Float64frombits"], unfollowed := true, recurses := true, apart := false, narrowed := true }
def VignetteKnownUptoSaid : Prop := vignetteKnownUptoRow.holds Try.pinned (OpenSpec.upto vignetteKnownSpec)

/-- 'meniscuslaw25.SpotKnown', WHERE WHAT IT READS IS OF BULK AT MOST 1048576: true; the input reads as it did. -/
def spotKnownUptoRow : OpenClaim := { program := "ytliglpiofomelaa", sum := "82e8a3ceab6f8bb886d2cae8af4162fbe68829a7411201749ae608f8c4f87f6c", func := "meniscus/meniscuslaw25.SpotKnown", spec := "spotKnown", inPlace := ["math.archTrunc", "math.Float64bits", "math.Float64frombits"], unfollowed := true, recurses := true, apart := false, narrowed := true }
def SpotKnownUptoSaid : Prop := spotKnownUptoRow.holds Try.pinned (OpenSpec.upto spotKnownSpec)

end Rows
end Go.Proofs.Ytliglpiofomelaa
