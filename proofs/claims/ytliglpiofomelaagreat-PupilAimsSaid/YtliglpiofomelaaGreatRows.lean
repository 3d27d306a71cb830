/-
  No cell of these rows narrows 'for every input' (looked for: loops, veiled, ifaces, maps, wideKeys, modest, calm, conditions, laid).
  DERIVED. THE GIVEN ROWS OF THIS SEAT. 10 by the template 'for every input the law returns true; each argument reads behind the call as it read before'; 0 by the template 'total and deterministic' (their statements: YtliglpiofomelaaGreatTotals.lean).
  GIVEN WITH THE SEED: the statements are not yours to turn. If you find one false, say at which input.
  Laid BY PROGRAM, IN A SANDBOX (cutbox-rows.mjs): the forced cells as the released guide's own fill.sh prints them over the translation 0f81a9d128a0dc56… (all of the seat's roots in one cut). By AI agents, Wed Nov 11 2026. No macro, syntax, notation, axiom, sorry.
-/
import Derived.Test.YtliglpiofomelaaGreatChecked
import GoSem.Claim
import GoSem.ClaimJoined
import GoSem.ClaimMapViews
import Derived.JoinedTies
import Derived.KernelRfl
namespace Go.Proofs.YtliglpiofomelaaGreat
/- THE CELL 'sum', in the pinned program and in every row, IS THE sha256 OF THE DUMP (.gsa) THAT YtliglpiofomelaaGreatProg.lean LOADS. Nothing in Lean hashes anything: it is a label: what it is worth is what the hold of that sum in a sandbox is worth. -/
noncomputable def Tryz.pinned : Pinned := { name := "ytliglpiofomelaagreat", sum := "0f81a9d128a0dc568b5a73484494939a7182afb3c4f5fb90bece32d6b53e5780", checked := Tryz.checked }
namespace Rows
def none {H : Type} : Left H := { results := [], args := [] }

/-- 'meniscuslaw25.SpotCounts': WHATEVER THE INPUT: true; the input reads as it did. -/
def spotCountsSpec : ChangeSpec := { name := "spotCounts", fn := fun _ => fun
  | [d1, d2, d3, d4, d5, d6, d7, d8] => { results := [.lit (.bool true)], args := [d1, d2, d3, d4, d5, d6, d7, d8] }
  | _ => none }
def spotCountsRow : OpenClaim := { program := "ytliglpiofomelaagreat", sum := "0f81a9d128a0dc568b5a73484494939a7182afb3c4f5fb90bece32d6b53e5780", func := "meniscus/meniscuslaw25.SpotCounts", spec := "spotCounts", inPlace := ["math.archTrunc", "math.Float64bits", "math.Float64frombits"], unfollowed := true, recurses := true, apart := false }
def SpotCountsSaid : Prop := spotCountsRow.holds Tryz.pinned (OpenSpec.ofChange spotCountsSpec)

/-- ITS FALSE NEIGHBOUR: 'it returns false'. Refute it at one input. -/
def spotCountsWrong : ChangeSpec := { name := "spotCounts", fn := fun _ => fun
  | [d1, d2, d3, d4, d5, d6, d7, d8] => { results := [.lit (.bool false)], args := [d1, d2, d3, d4, d5, d6, d7, d8] }
  | _ => none }
def SpotCountsWrongFalsely : Prop := spotCountsRow.holds Tryz.pinned (OpenSpec.ofChange spotCountsWrong)

/-- 'meniscuslaw24.VignetteParts': WHATEVER THE INPUT: true; the input reads as it did. -/
def vignettePartsSpec : ChangeSpec := { name := "vignetteParts", fn := fun _ => fun
  | [d1, d2, d3, d4] => { results := [.lit (.bool true)], args := [d1, d2, d3, d4] }
  | _ => none }
def vignettePartsRow : OpenClaim := { program := "ytliglpiofomelaagreat", sum := "0f81a9d128a0dc568b5a73484494939a7182afb3c4f5fb90bece32d6b53e5780", func := "meniscus/meniscuslaw24.VignetteParts", spec := "vignetteParts", inPlace := ["math.archTrunc", "math.Float64bits", "math.Float64frombits"], unfollowed := true, recurses := true, apart := false }
def VignettePartsSaid : Prop := vignettePartsRow.holds Tryz.pinned (OpenSpec.ofChange vignettePartsSpec)

/-- ITS FALSE NEIGHBOUR: 'it returns false'. Refute it at one input. -/
def vignettePartsWrong : ChangeSpec := { name := "vignetteParts", fn := fun _ => fun
  | [d1, d2, d3, d4] => { results := [.lit (.bool false)], args := [d1, d2, d3, d4] }
  | _ => none }
def VignettePartsWrongFalsely : Prop := vignettePartsRow.holds Tryz.pinned (OpenSpec.ofChange vignettePartsWrong)

/-- 'meniscuslaw23.PupilTells': WHATEVER THE INPUT: true; the input reads as it did. -/
def pupilTellsSpec : ChangeSpec := { name := "pupilTells", fn := fun _ => fun
  | [d1, d2, d3, d4, d5, d6, d7, d8, d9] => { results := [.lit (.bool true)], args := [d1, d2, d3, d4, d5, d6, d7, d8, d9] }
  | _ => none }
def pupilTellsRow : OpenClaim := { program := "ytliglpiofomelaagreat", sum := "0f81a9d128a0dc568b5a73484494939a7182afb3c4f5fb90bece32d6b53e5780", func := "meniscus/meniscuslaw23.PupilTells", spec := "pupilTells", inPlace := ["math.archTrunc", "math.Float64bits", "math.Float64frombits"], unfollowed := true, recurses := true, apart := false }
def PupilTellsSaid : Prop := pupilTellsRow.holds Tryz.pinned (OpenSpec.ofChange pupilTellsSpec)

/-- ITS FALSE NEIGHBOUR: 'it returns false'. Refute it at one input. -/
def pupilTellsWrong : ChangeSpec := { name := "pupilTells", fn := fun _ => fun
  | [d1, d2, d3, d4, d5, d6, d7, d8, d9] => { results := [.lit (.bool false)], args := [d1, d2, d3, d4, d5, d6, d7, d8, d9] }
  | _ => none }
def PupilTellsWrongFalsely : Prop := pupilTellsRow.holds Tryz.pinned (OpenSpec.ofChange pupilTellsWrong)

/-- 'meniscuslaw23.PupilKeeps': WHATEVER THE INPUT: true; the input reads as it did. -/
def pupilKeepsSpec : ChangeSpec := { name := "pupilKeeps", fn := fun _ => fun
  | [d1, d2, d3, d4, d5, d6, d7, d8, d9, d10, d11] => { results := [.lit (.bool true)], args := [d1, d2, d3, d4, d5, d6, d7, d8, d9, d10, d11] }
  | _ => none }
def pupilKeepsRow : OpenClaim := { program := "ytliglpiofomelaagreat", sum := "0f81a9d128a0dc568b5a73484494939a7182afb3c4f5fb90bece32d6b53e5780", func := "meniscus/meniscuslaw23.PupilKeeps", spec := "pupilKeeps", inPlace := ["math.archTrunc", "math.Float64bits", "math.Float64frombits"], unfollowed := true, recurses := true, apart := false }
def PupilKeepsSaid : Prop := pupilKeepsRow.holds Tryz.pinned (OpenSpec.ofChange pupilKeepsSpec)

/-- ITS FALSE NEIGHBOUR: 'it returns false'. Refute it at one input. -/
def pupilKeepsWrong : ChangeSpec := { name := "pupilKeeps", fn := fun _ => fun
  | [d1, d2, d3, d4, d5, d6, d7, d8, d9, d10, d11] => { results := [.lit (.bool false)], args := [d1, d2, d3, d4, d5, d6, d7, d8, d9, d10, d11] }
  | _ => none }
def PupilKeepsWrongFalsely : Prop := pupilKeepsRow.holds Tryz.pinned (OpenSpec.ofChange pupilKeepsWrong)

/-- 'meniscuslaw23.PupilCounts': WHATEVER THE INPUT: true; the input reads as it did. -/
def pupilCountsSpec : ChangeSpec := { name := "pupilCounts", fn := fun _ => fun
  | [d1, d2, d3, d4, d5, d6, d7, d8] => { results := [.lit (.bool true)], args := [d1, d2, d3, d4, d5, d6, d7, d8] }
  | _ => none }
def pupilCountsRow : OpenClaim := { program := "ytliglpiofomelaagreat", sum := "0f81a9d128a0dc568b5a73484494939a7182afb3c4f5fb90bece32d6b53e5780", func := "meniscus/meniscuslaw23.PupilCounts", spec := "pupilCounts", inPlace := ["math.archTrunc", "math.Float64bits", "math.Float64frombits"], unfollowed := true, recurses := true, apart := false }
def PupilCountsSaid : Prop := pupilCountsRow.holds Tryz.pinned (OpenSpec.ofChange pupilCountsSpec)

/-- ITS FALSE NEIGHBOUR: 'it returns false'. Refute it at one input. -/
def pupilCountsWrong : ChangeSpec := { name := "pupilCounts", fn := fun _ => fun
  | [d1, d2, d3, d4, d5, d6, d7, d8] => { results := [.lit (.bool false)], args := [d1, d2, d3, d4, d5, d6, d7, d8] }
  | _ => none }
def PupilCountsWrongFalsely : Prop := pupilCountsRow.holds Tryz.pinned (OpenSpec.ofChange pupilCountsWrong)

/-- 'meniscuslaw23.PupilAims': WHATEVER THE INPUT: true; the input reads as it did. -/
def pupilAimsSpec : ChangeSpec := { name := "pupilAims", fn := fun _ => fun
  | [d1, d2, d3, d4, d5, d6, d7, d8, d9, d10, d11, d12] => { results := [.lit (.bool true)], args := [d1, d2, d3, d4, d5, d6, d7, d8, d9, d10, d11, d12] }
  | _ => none }
def pupilAimsRow : OpenClaim := { program := "ytliglpiofomelaagreat", sum := "0f81a9d128a0dc568b5a73484494939a7182afb3c4f5fb90bece32d6b53e5780", func := "meniscus/meniscuslaw23.PupilAims", spec := "pupilAims", inPlace := ["math.archTrunc", "math.Float64bits", "math.Float64frombits"], unfollowed := true, recurses := true, apart := false }
def PupilAimsSaid : Prop := pupilAimsRow.holds Tryz.pinned (OpenSpec.ofChange pupilAimsSpec)

/-- ITS FALSE NEIGHBOUR: 'it returns false'. Refute it at one input. -/
def pupilAimsWrong : ChangeSpec := { name := "pupilAims", fn := fun _ => fun
  | [d1, d2, d3, d4, d5, d6, d7, d8, d9, d10, d11, d12] => { results := [.lit (.bool false)], args := [d1, d2, d3, d4, d5, d6, d7, d8, d9, d10, d11, d12] }
  | _ => none }
def PupilAimsWrongFalsely : Prop := pupilAimsRow.holds Tryz.pinned (OpenSpec.ofChange pupilAimsWrong)

/-- 'meniscuslaw24.VignetteTells': WHATEVER THE INPUT: true; the input reads as it did. -/
def vignetteTellsSpec : ChangeSpec := { name := "vignetteTells", fn := fun _ => fun
  | [d1, d2, d3, d4, d5, d6] => { results := [.lit (.bool true)], args := [d1, d2, d3, d4, d5, d6] }
  | _ => none }
def vignetteTellsRow : OpenClaim := { program := "ytliglpiofomelaagreat", sum := "0f81a9d128a0dc568b5a73484494939a7182afb3c4f5fb90bece32d6b53e5780", func := "meniscus/meniscuslaw24.VignetteTells", spec := "vignetteTells", inPlace := ["math.archTrunc", "math.Float64bits", "math.Float64frombits"], unfollowed := true, recurses := true, apart := false }
def VignetteTellsSaid : Prop := vignetteTellsRow.holds Tryz.pinned (OpenSpec.ofChange vignetteTellsSpec)

/-- ITS FALSE NEIGHBOUR: 'it returns false'. Refute it at one input. -/
def vignetteTellsWrong : ChangeSpec := { name := "vignetteTells", fn := fun _ => fun
  | [d1, d2, d3, d4, d5, d6] => { results := [.lit (.bool false)], args := [d1, d2, d3, d4, d5, d6] }
  | _ => none }
def VignetteTellsWrongFalsely : Prop := vignetteTellsRow.holds Tryz.pinned (OpenSpec.ofChange vignetteTellsWrong)

/-- 'meniscuslaw24.VignetteRows': WHATEVER THE INPUT: true; the input reads as it did. -/
def vignetteRowsSpec : ChangeSpec := { name := "vignetteRows", fn := fun _ => fun
  | [d1, d2, d3, d4, d5] => { results := [.lit (.bool true)], args := [d1, d2, d3, d4, d5] }
  | _ => none }
def vignetteRowsRow : OpenClaim := { program := "ytliglpiofomelaagreat", sum := "0f81a9d128a0dc568b5a73484494939a7182afb3c4f5fb90bece32d6b53e5780", func := "meniscus/meniscuslaw24.VignetteRows", spec := "vignetteRows", inPlace := ["math.archTrunc", "math.Float64bits", "math.Float64frombits"], unfollowed := true, recurses := true, apart := false }
def VignetteRowsSaid : Prop := vignetteRowsRow.holds Tryz.pinned (OpenSpec.ofChange vignetteRowsSpec)

/-- ITS FALSE NEIGHBOUR: 'it returns false'. Refute it at one input. -/
def vignetteRowsWrong : ChangeSpec := { name := "vignetteRows", fn := fun _ => fun
  | [d1, d2, d3, d4, d5] => { results := [.lit (.bool false)], args := [d1, d2, d3, d4, d5] }
  | _ => none }
def VignetteRowsWrongFalsely : Prop := vignetteRowsRow.holds Tryz.pinned (OpenSpec.ofChange vignetteRowsWrong)

/-- 'meniscuslaw25.SpotTells': WHATEVER THE INPUT: true; the input reads as it did. -/
def spotTellsSpec : ChangeSpec := { name := "spotTells", fn := fun _ => fun
  | [d1, d2, d3, d4, d5, d6, d7, d8] => { results := [.lit (.bool true)], args := [d1, d2, d3, d4, d5, d6, d7, d8] }
  | _ => none }
def spotTellsRow : OpenClaim := { program := "ytliglpiofomelaagreat", sum := "0f81a9d128a0dc568b5a73484494939a7182afb3c4f5fb90bece32d6b53e5780", func := "meniscus/meniscuslaw25.SpotTells", spec := "spotTells", inPlace := ["math.archTrunc", "math.Float64bits", "math.Float64frombits"], unfollowed := true, recurses := true, apart := false }
def SpotTellsSaid : Prop := spotTellsRow.holds Tryz.pinned (OpenSpec.ofChange spotTellsSpec)

/-- ITS FALSE NEIGHBOUR: 'it returns false'. Refute it at one input. -/
def spotTellsWrong : ChangeSpec := { name := "spotTells", fn := fun _ => fun
  | [d1, d2, d3, d4, d5, d6, d7, d8] => { results := [.lit (.bool false)], args := [d1, d2, d3, d4, d5, d6, d7, d8] }
  | _ => none }
def SpotTellsWrongFalsely : Prop := spotTellsRow.holds Tryz.pinned (OpenSpec.ofChange spotTellsWrong)

/-- 'meniscuslaw25.SpotMeans': WHATEVER THE INPUT: true; the input reads as it did. -/
def spotMeansSpec : ChangeSpec := { name := "spotMeans", fn := fun _ => fun
  | [d1, d2, d3, d4, d5, d6, d7] => { results := [.lit (.bool true)], args := [d1, d2, d3, d4, d5, d6, d7] }
  | _ => none }
def spotMeansRow : OpenClaim := { program := "ytliglpiofomelaagreat", sum := "0f81a9d128a0dc568b5a73484494939a7182afb3c4f5fb90bece32d6b53e5780", func := "meniscus/meniscuslaw25.SpotMeans", spec := "spotMeans", inPlace := ["math.archTrunc", "math.Float64bits", "math.Float64frombits"], unfollowed := true, recurses := true, apart := false }
def SpotMeansSaid : Prop := spotMeansRow.holds Tryz.pinned (OpenSpec.ofChange spotMeansSpec)

/-- ITS FALSE NEIGHBOUR: 'it returns false'. Refute it at one input. -/
def spotMeansWrong : ChangeSpec := { name := "spotMeans", fn := fun _ => fun
  | [d1, d2, d3, d4, d5, d6, d7] => { results := [.lit (.bool false)], args := [d1, d2, d3, d4, d5, d6, d7] }
  | _ => none }
def SpotMeansWrongFalsely : Prop := spotMeansRow.holds Tryz.pinned (OpenSpec.ofChange spotMeansWrong)

/- THE SECOND FORM. 'bulk': how many values and letters a reading holds, each counted each time it is reached (what is shared counts as often as it is met; a slice's spare places count too). A statement '..UptoSaid' is the law's where the arguments, and the package variables that the reading takes, are together of bulk at most 1048576: NARROWER than '..Said'. Prove '..Said' where nothing that the law and all that it calls make is longer than what came in: it says more and counts as full. Else prove '..UptoSaid'. A law counts once. -/
mutual
def uptoBulk {H : Type} : DataW H → Nat
  | .lit (.string bytes) => bytes.length + 1
  | .lit _ => 1
  | .nil => 1
  | .ptr d => uptoBulk d + 1
  | .slice elems spare => uptoBulkAll elems + uptoBulkAll spare + 1
  | .agg parts => uptoBulkAll parts + 1
  | .iface _ d => uptoBulk d + 1
  | .map entries => uptoBulkEntries entries + 1
  | .held _ => 1
def uptoBulkAll {H : Type} : List (DataW H) → Nat
  | [] => 0
  | d :: r => uptoBulk d + uptoBulkAll r
def uptoBulkEntries {H : Type} : List (Lit × DataW H) → Nat
  | [] => 0
  | x :: r => uptoBulkEntry x + uptoBulkEntries r
def uptoBulkEntry {H : Type} : Lit × DataW H → Nat
  | (.string bytes, d) => bytes.length + uptoBulk d + 1
  | (_, d) => uptoBulk d + 1
 end
def uptoSmall : (H : Type) → List (DataW H) → Bool := fun _ ds => decide (uptoBulkAll ds ≤ 1048576)
def OpenSpec.upto (s : _root_.Go.ChangeSpec) : _root_.Go.OpenSpec := { _root_.Go.OpenSpec.ofChange s with cond := some uptoSmall }

/-- 'meniscuslaw25.SpotCounts', WHERE WHAT IT READS IS OF BULK AT MOST 1048576: true; the input reads as it did. -/
def spotCountsUptoRow : OpenClaim := { program := "ytliglpiofomelaagreat", sum := "0f81a9d128a0dc568b5a73484494939a7182afb3c4f5fb90bece32d6b53e5780", func := "meniscus/meniscuslaw25.SpotCounts", spec := "spotCounts", inPlace := ["math.archTrunc", "math.Float64bits", "math.Float64frombits"], unfollowed := true, recurses := true, apart := false, narrowed := true }
def SpotCountsUptoSaid : Prop := spotCountsUptoRow.holds Tryz.pinned (OpenSpec.upto spotCountsSpec)

/-- 'meniscuslaw24.VignetteParts', WHERE WHAT IT READS IS OF BULK AT MOST 1048576: true; the input reads as it did. -/
def vignettePartsUptoRow : OpenClaim := { program := "ytliglpiofomelaagreat", sum := "0f81a9d128a0dc568b5a73484494939a7182afb3c4f5fb90bece32d6b53e5780", func := "meniscus/meniscuslaw24.VignetteParts", spec := "vignetteParts", inPlace := ["math.archTrunc", "math.Float64bits", "math.Float64frombits"], unfollowed := true, recurses := true, apart := false, narrowed := true }
def VignettePartsUptoSaid : Prop := vignettePartsUptoRow.holds Tryz.pinned (OpenSpec.upto vignettePartsSpec)

/-- 'meniscuslaw23.PupilTells', WHERE WHAT IT READS IS OF BULK AT MOST 1048576: true; the input reads as it did. -/
def pupilTellsUptoRow : OpenClaim := { program := "ytliglpiofomelaagreat", sum := "0f81a9d128a0dc568b5a73484494939a7182afb3c4f5fb90bece32d6b53e5780", func := "meniscus/meniscuslaw23.PupilTells", spec := "pupilTells", inPlace := ["math.archTrunc", "math.Float64bits", "math.Float64frombits"], unfollowed := true, recurses := true, apart := false, narrowed := true }
def PupilTellsUptoSaid : Prop := pupilTellsUptoRow.holds Tryz.pinned (OpenSpec.upto pupilTellsSpec)

/-- 'meniscuslaw23.PupilKeeps', WHERE WHAT IT READS IS OF BULK AT MOST 1048576: true; the input reads as it did. -/
def pupilKeepsUptoRow : OpenClaim := { program := "ytliglpiofomelaagreat", sum := "0f81a9d128a0dc568b5a73484494939a7182afb3c4f5fb90bece32d6b53e5780", func := "meniscus/meniscuslaw23.PupilKeeps", spec := "pupilKeeps", inPlace := ["math.archTrunc", "math.Float64bits", "math.Float64frombits"], unfollowed := true, recurses := true, apart := false, narrowed := true }
def PupilKeepsUptoSaid : Prop := pupilKeepsUptoRow.holds Tryz.pinned (OpenSpec.upto pupilKeepsSpec)

/-- 'meniscuslaw23.PupilCounts', WHERE WHAT IT READS IS OF BULK AT MOST 1048576: true; the input reads as it did. -/
def pupilCountsUptoRow : OpenClaim := { program := "ytliglpiofomelaagreat", sum := "0f81a9d128a0dc568b5a73484494939a7182afb3c4f5fb90bece32d6b53e5780", func := "meniscus/meniscuslaw23.PupilCounts", spec := "pupilCounts", inPlace := ["math.archTrunc", "math.Float64bits", "math.Float64frombits"], unfollowed := true, recurses := true, apart := false, narrowed := true }
def PupilCountsUptoSaid : Prop := pupilCountsUptoRow.holds Tryz.pinned (OpenSpec.upto pupilCountsSpec)

/-- 'meniscuslaw23.PupilAims', WHERE WHAT IT READS IS OF BULK AT MOST 1048576: true; the input reads as it did. -/
def pupilAimsUptoRow : OpenClaim := { program := "ytliglpiofomelaagreat", sum := "0f81a9d128a0dc568b5a73484494939a7182afb3c4f5fb90bece32d6b53e5780", func := "meniscus/meniscuslaw23.PupilAims", spec := "pupilAims", inPlace := ["math.archTrunc", "math.Float64bits", "math.Float64frombits"], unfollowed := true, recurses := true, apart := false, narrowed := true }
def PupilAimsUptoSaid : Prop := pupilAimsUptoRow.holds Tryz.pinned (OpenSpec.upto pupilAimsSpec)

/-- 'meniscuslaw24.VignetteTells', WHERE WHAT IT READS IS OF BULK AT MOST 1048576: true; the input reads as it did. -/
def vignetteTellsUptoRow : OpenClaim := { program := "ytliglpiofomelaagreat", sum := "0f81a9d128a0dc568b5a73484494939a7182afb3c4f5fb90bece32d6b53e5780", func := "meniscus/meniscuslaw24.VignetteTells", spec := "vignetteTells", inPlace := ["math.archTrunc", "math.Float64bits", "math.Float64frombits"], unfollowed := true, recurses := true, apart := false, narrowed := true }
def VignetteTellsUptoSaid : Prop := vignetteTellsUptoRow.holds Tryz.pinned (OpenSpec.upto vignetteTellsSpec)

/-- 'meniscuslaw24.VignetteRows', WHERE WHAT IT READS IS OF BULK AT MOST 1048576: true; the input reads as it did. -/
def vignetteRowsUptoRow : OpenClaim := { program := "ytliglpiofomelaagreat", sum := "0f81a9d128a0dc568b5a73484494939a7182afb3c4f5fb90bece32d6b53e5780", func := "meniscus/meniscuslaw24.VignetteRows", spec := "vignetteRows", inPlace := ["math.archTrunc", "math.Float64bits", "math.Float64frombits"], unfollowed := true, recurses := true, apart := false, narrowed := true }
def VignetteRowsUptoSaid : Prop := vignetteRowsUptoRow.holds Tryz.pinned (OpenSpec.upto vignetteRowsSpec)

/-- 'meniscuslaw25.SpotTells', WHERE WHAT IT READS IS OF BULK AT MOST 1048576: true; the input reads as it did. -/
def spotTellsUptoRow : OpenClaim := { program := "ytliglpiofomelaagreat", sum := "0f81a9d128a0dc568b5a73484494939a7182afb3c4f5fb90bece32d6b53e5780", func := "meniscus/meniscuslaw25.SpotTells", spec := "spotTells", inPlace := ["math.archTrunc", "math.Float64bits", "math.Float64frombits"], unfollowed := true, recurses := true, apart := false, narrowed := true }
def SpotTellsUptoSaid : Prop := spotTellsUptoRow.holds Tryz.pinned (OpenSpec.upto spotTellsSpec)

/-- 'meniscuslaw25.SpotMeans', WHERE WHAT IT READS IS OF BULK AT MOST 1048576: true; the input reads as it did. -/
def spotMeansUptoRow : OpenClaim := { program := "ytliglpiofomelaagreat", sum := "0f81a9d128a0dc568b5a73484494939a7182afb3c4f5fb90bece32d6b53e5780", func := "meniscus/meniscuslaw25.SpotMeans", spec := "spotMeans", inPlace := ["math.archTrunc", "math.Float64bits", "math.Float64frombits"], unfollowed := true, recurses := true, apart := false, narrowed := true }
def SpotMeansUptoSaid : Prop := spotMeansUptoRow.holds Tryz.pinned (OpenSpec.upto spotMeansSpec)

end Rows
end Go.Proofs.YtliglpiofomelaaGreat
