/-
  No cell of these rows narrows 'for every input' (looked for: loops, veiled, ifaces, maps, wideKeys, modest, calm, conditions, laid).
  DERIVED. THE GIVEN ROWS OF THIS SEAT. 14 by the template 'for every input the law returns true; each argument reads behind the call as it read before'; 0 by the template 'total and deterministic' (their statements: YthgpgnijbajlgaaTotals.lean).
  GIVEN WITH THE SEED: the statements are not yours to turn. If you find one false, say at which input.
  Laid BY PROGRAM, IN A SANDBOX (cutbox-rows.mjs): the forced cells as the released guide's own fill.sh prints them over the translation b0cc124df7331f81… (all of the seat's roots in one cut). By AI agents, Wed Nov 11 2026. No macro, syntax, notation, axiom, sorry.
-/
import Derived.Test.YthgpgnijbajlgaaChecked
import GoSem.Claim
import GoSem.ClaimJoined
import GoSem.ClaimMapViews
import Derived.JoinedTies
import Derived.KernelRfl
namespace Go.Proofs.Ythgpgnijbajlgaa
/- THE CELL 'sum', in the pinned program and in every row, IS THE sha256 OF THE DUMP (.gsa) THAT YthgpgnijbajlgaaProg.lean LOADS. Nothing in Lean hashes anything: it is a label: what it is worth is what the hold of that sum in a sandbox is worth. -/
noncomputable def Try.pinned : Pinned := { name := "ythgpgnijbajlgaa", sum := "b0cc124df7331f8131a0317355402c0eba8ed420e7653350eeacdb8c5b302d62", checked := Try.checked }
namespace Rows
def none {H : Type} : Left H := { results := [], args := [] }

/-- 'meniscuslaw8.GaussTurns': WHATEVER THE INPUT: true; the input reads as it did. -/
def gaussTurnsSpec : ChangeSpec := { name := "gaussTurns", fn := fun _ => fun
  | [d1, d2, d3, d4, d5, d6] => { results := [.lit (.bool true)], args := [d1, d2, d3, d4, d5, d6] }
  | _ => none }
def gaussTurnsRow : OpenClaim := { program := "ythgpgnijbajlgaa", sum := "b0cc124df7331f8131a0317355402c0eba8ed420e7653350eeacdb8c5b302d62", func := "meniscus/meniscuslaw8.GaussTurns", spec := "gaussTurns", inPlace := ["math.archTrunc", "math.Float64bits", "math.Float64frombits"], apart := false }
def GaussTurnsSaid : Prop := gaussTurnsRow.holds Try.pinned (OpenSpec.ofChange gaussTurnsSpec)

/-- ITS FALSE NEIGHBOUR: 'it returns false'. Refute it at one input. -/
def gaussTurnsWrong : ChangeSpec := { name := "gaussTurns", fn := fun _ => fun
  | [d1, d2, d3, d4, d5, d6] => { results := [.lit (.bool false)], args := [d1, d2, d3, d4, d5, d6] }
  | _ => none }
def GaussTurnsWrongFalsely : Prop := gaussTurnsRow.holds Try.pinned (OpenSpec.ofChange gaussTurnsWrong)

/-- 'meniscuslaw8.GaussBeams': WHATEVER THE INPUT: true; the input reads as it did. -/
def gaussBeamsSpec : ChangeSpec := { name := "gaussBeams", fn := fun _ => fun
  | [d1, d2, d3, d4, d5, d6] => { results := [.lit (.bool true)], args := [d1, d2, d3, d4, d5, d6] }
  | _ => none }
def gaussBeamsRow : OpenClaim := { program := "ythgpgnijbajlgaa", sum := "b0cc124df7331f8131a0317355402c0eba8ed420e7653350eeacdb8c5b302d62", func := "meniscus/meniscuslaw8.GaussBeams", spec := "gaussBeams", inPlace := ["math.archTrunc", "math.Float64bits", "math.Float64frombits"], unfollowed := true, recurses := true, apart := false }
def GaussBeamsSaid : Prop := gaussBeamsRow.holds Try.pinned (OpenSpec.ofChange gaussBeamsSpec)

/-- ITS FALSE NEIGHBOUR: 'it returns false'. Refute it at one input. -/
def gaussBeamsWrong : ChangeSpec := { name := "gaussBeams", fn := fun _ => fun
  | [d1, d2, d3, d4, d5, d6] => { results := [.lit (.bool false)], args := [d1, d2, d3, d4, d5, d6] }
  | _ => none }
def GaussBeamsWrongFalsely : Prop := gaussBeamsRow.holds Try.pinned (OpenSpec.ofChange gaussBeamsWrong)

/-- 'meniscuslaw8.GaussDiscs': WHATEVER THE INPUT: true; the input reads as it did. -/
def gaussDiscsSpec : ChangeSpec := { name := "gaussDiscs", fn := fun _ => fun
  | [d1, d2, d3] => { results := [.lit (.bool true)], args := [d1, d2, d3] }
  | _ => none }
def gaussDiscsRow : OpenClaim := { program := "ythgpgnijbajlgaa", sum := "b0cc124df7331f8131a0317355402c0eba8ed420e7653350eeacdb8c5b302d62", func := "meniscus/meniscuslaw8.GaussDiscs", spec := "gaussDiscs", inPlace := ["math.archTrunc", "math.Float64bits", "math.Float64frombits"], apart := false }
def GaussDiscsSaid : Prop := gaussDiscsRow.holds Try.pinned (OpenSpec.ofChange gaussDiscsSpec)

/-- ITS FALSE NEIGHBOUR: 'it returns false'. Refute it at one input. -/
def gaussDiscsWrong : ChangeSpec := { name := "gaussDiscs", fn := fun _ => fun
  | [d1, d2, d3] => { results := [.lit (.bool false)], args := [d1, d2, d3] }
  | _ => none }
def GaussDiscsWrongFalsely : Prop := gaussDiscsRow.holds Try.pinned (OpenSpec.ofChange gaussDiscsWrong)

/-- 'meniscuslaw8.GaussTells': WHATEVER THE INPUT: true; the input reads as it did. -/
def gaussTellsSpec : ChangeSpec := { name := "gaussTells", fn := fun _ => fun
  | [d1, d2, d3, d4, d5, d6] => { results := [.lit (.bool true)], args := [d1, d2, d3, d4, d5, d6] }
  | _ => none }
def gaussTellsRow : OpenClaim := { program := "ythgpgnijbajlgaa", sum := "b0cc124df7331f8131a0317355402c0eba8ed420e7653350eeacdb8c5b302d62", func := "meniscus/meniscuslaw8.GaussTells", spec := "gaussTells", inPlace := ["math.archTrunc", "math.Float64bits", "math.Float64frombits"], apart := false }
def GaussTellsSaid : Prop := gaussTellsRow.holds Try.pinned (OpenSpec.ofChange gaussTellsSpec)

/-- ITS FALSE NEIGHBOUR: 'it returns false'. Refute it at one input. -/
def gaussTellsWrong : ChangeSpec := { name := "gaussTells", fn := fun _ => fun
  | [d1, d2, d3, d4, d5, d6] => { results := [.lit (.bool false)], args := [d1, d2, d3, d4, d5, d6] }
  | _ => none }
def GaussTellsWrongFalsely : Prop := gaussTellsRow.holds Try.pinned (OpenSpec.ofChange gaussTellsWrong)

/-- 'meniscuslaw8.GaussKnown': WHATEVER THE INPUT: true; the input reads as it did. -/
def gaussKnownSpec : ChangeSpec := { name := "gaussKnown", fn := fun _ => fun
  | [] => { results := [.lit (.bool true)], args := [] }
  | _ => none }
def gaussKnownRow : OpenClaim := { program := "ythgpgnijbajlgaa", sum := "b0cc124df7331f8131a0317355402c0eba8ed420e7653350eeacdb8c5b302d62", func := "meniscus/meniscuslaw8.GaussKnown", spec := "gaussKnown", inPlace := ["math.archTrunc", "math.Float64bits", "math.Float64frombits"], unfollowed := true, recurses := true, apart := false }
def GaussKnownSaid : Prop := gaussKnownRow.holds Try.pinned (OpenSpec.ofChange gaussKnownSpec)

/-- ITS FALSE NEIGHBOUR: 'it returns false'. Refute it at one input. -/
def gaussKnownWrong : ChangeSpec := { name := "gaussKnown", fn := fun _ => fun
  | [] => { results := [.lit (.bool false)], args := [] }
  | _ => none }
def GaussKnownWrongFalsely : Prop := gaussKnownRow.holds Try.pinned (OpenSpec.ofChange gaussKnownWrong)

/-- 'meniscuslaw20.ParaxLess': WHATEVER THE INPUT: true; the input reads as it did. -/
def paraxLessSpec : ChangeSpec := { name := "paraxLess", fn := fun _ => fun
  | [d1, d2, d3, d4] => { results := [.lit (.bool true)], args := [d1, d2, d3, d4] }
  | _ => none }
def paraxLessRow : OpenClaim := { program := "ythgpgnijbajlgaa", sum := "b0cc124df7331f8131a0317355402c0eba8ed420e7653350eeacdb8c5b302d62", func := "meniscus/meniscuslaw20.ParaxLess", spec := "paraxLess", unfollowed := true, recurses := true, apart := false }
def ParaxLessSaid : Prop := paraxLessRow.holds Try.pinned (OpenSpec.ofChange paraxLessSpec)

/-- ITS FALSE NEIGHBOUR: 'it returns false'. Refute it at one input. -/
def paraxLessWrong : ChangeSpec := { name := "paraxLess", fn := fun _ => fun
  | [d1, d2, d3, d4] => { results := [.lit (.bool false)], args := [d1, d2, d3, d4] }
  | _ => none }
def ParaxLessWrongFalsely : Prop := paraxLessRow.holds Try.pinned (OpenSpec.ofChange paraxLessWrong)

/-- 'meniscuslaw20.ParaxKnown': WHATEVER THE INPUT: true; the input reads as it did. -/
def paraxKnownSpec : ChangeSpec := { name := "paraxKnown", fn := fun _ => fun
  | [] => { results := [.lit (.bool true)], args := [] }
  | _ => none }
def paraxKnownRow : OpenClaim := { program := "ythgpgnijbajlgaa", sum := "b0cc124df7331f8131a0317355402c0eba8ed420e7653350eeacdb8c5b302d62", func := "meniscus/meniscuslaw20.ParaxKnown", spec := "paraxKnown", unfollowed := true, recurses := true, apart := false }
def ParaxKnownSaid : Prop := paraxKnownRow.holds Try.pinned (OpenSpec.ofChange paraxKnownSpec)

/-- ITS FALSE NEIGHBOUR: 'it returns false'. Refute it at one input. -/
def paraxKnownWrong : ChangeSpec := { name := "paraxKnown", fn := fun _ => fun
  | [] => { results := [.lit (.bool false)], args := [] }
  | _ => none }
def ParaxKnownWrongFalsely : Prop := paraxKnownRow.holds Try.pinned (OpenSpec.ofChange paraxKnownWrong)

/-- 'meniscuslaw20.ParaxTells': WHATEVER THE INPUT: true; the input reads as it did. -/
def paraxTellsSpec : ChangeSpec := { name := "paraxTells", fn := fun _ => fun
  | [d1, d2, d3, d4] => { results := [.lit (.bool true)], args := [d1, d2, d3, d4] }
  | _ => none }
def paraxTellsRow : OpenClaim := { program := "ythgpgnijbajlgaa", sum := "b0cc124df7331f8131a0317355402c0eba8ed420e7653350eeacdb8c5b302d62", func := "meniscus/meniscuslaw20.ParaxTells", spec := "paraxTells", unfollowed := true, recurses := true, apart := false }
def ParaxTellsSaid : Prop := paraxTellsRow.holds Try.pinned (OpenSpec.ofChange paraxTellsSpec)

/-- ITS FALSE NEIGHBOUR: 'it returns false'. Refute it at one input. -/
def paraxTellsWrong : ChangeSpec := { name := "paraxTells", fn := fun _ => fun
  | [d1, d2, d3, d4] => { results := [.lit (.bool false)], args := [d1, d2, d3, d4] }
  | _ => none }
def ParaxTellsWrongFalsely : Prop := paraxTellsRow.holds Try.pinned (OpenSpec.ofChange paraxTellsWrong)

/-- 'meniscuslaw7.NewtonTells': WHATEVER THE INPUT: true; the input reads as it did. -/
def newtonTellsSpec : ChangeSpec := { name := "newtonTells", fn := fun _ => fun
  | [d1, d2, d3, d4, d5] => { results := [.lit (.bool true)], args := [d1, d2, d3, d4, d5] }
  | _ => none }
def newtonTellsRow : OpenClaim := { program := "ythgpgnijbajlgaa", sum := "b0cc124df7331f8131a0317355402c0eba8ed420e7653350eeacdb8c5b302d62", func := "meniscus/meniscuslaw7.NewtonTells", spec := "newtonTells", unfollowed := true, recurses := true, apart := false }
def NewtonTellsSaid : Prop := newtonTellsRow.holds Try.pinned (OpenSpec.ofChange newtonTellsSpec)

/-- ITS FALSE NEIGHBOUR: 'it returns false'. Refute it at one input. -/
def newtonTellsWrong : ChangeSpec := { name := "newtonTells", fn := fun _ => fun
  | [d1, d2, d3, d4, d5] => { results := [.lit (.bool false)], args := [d1, d2, d3, d4, d5] }
  | _ => none }
def NewtonTellsWrongFalsely : Prop := newtonTellsRow.holds Try.pinned (OpenSpec.ofChange newtonTellsWrong)

/-- 'meniscuslaw7.NewtonAsks': WHATEVER THE INPUT: true; the input reads as it did. -/
def newtonAsksSpec : ChangeSpec := { name := "newtonAsks", fn := fun _ => fun
  | [d1, d2, d3, d4] => { results := [.lit (.bool true)], args := [d1, d2, d3, d4] }
  | _ => none }
def newtonAsksRow : OpenClaim := { program := "ythgpgnijbajlgaa", sum := "b0cc124df7331f8131a0317355402c0eba8ed420e7653350eeacdb8c5b302d62", func := "meniscus/meniscuslaw7.NewtonAsks", spec := "newtonAsks", unfollowed := true, recurses := true, apart := false }
def NewtonAsksSaid : Prop := newtonAsksRow.holds Try.pinned (OpenSpec.ofChange newtonAsksSpec)

/-- ITS FALSE NEIGHBOUR: 'it returns false'. Refute it at one input. -/
def newtonAsksWrong : ChangeSpec := { name := "newtonAsks", fn := fun _ => fun
  | [d1, d2, d3, d4] => { results := [.lit (.bool false)], args := [d1, d2, d3, d4] }
  | _ => none }
def NewtonAsksWrongFalsely : Prop := newtonAsksRow.holds Try.pinned (OpenSpec.ofChange newtonAsksWrong)

/-- 'meniscuslaw7.NewtonWhole': WHATEVER THE INPUT: true; the input reads as it did. -/
def newtonWholeSpec : ChangeSpec := { name := "newtonWhole", fn := fun _ => fun
  | [d1, d2, d3, d4, d5] => { results := [.lit (.bool true)], args := [d1, d2, d3, d4, d5] }
  | _ => none }
def newtonWholeRow : OpenClaim := { program := "ythgpgnijbajlgaa", sum := "b0cc124df7331f8131a0317355402c0eba8ed420e7653350eeacdb8c5b302d62", func := "meniscus/meniscuslaw7.NewtonWhole", spec := "newtonWhole", unfollowed := true, recurses := true, apart := false }
def NewtonWholeSaid : Prop := newtonWholeRow.holds Try.pinned (OpenSpec.ofChange newtonWholeSpec)

/-- ITS FALSE NEIGHBOUR: 'it returns false'. Refute it at one input. -/
def newtonWholeWrong : ChangeSpec := { name := "newtonWhole", fn := fun _ => fun
  | [d1, d2, d3, d4, d5] => { results := [.lit (.bool false)], args := [d1, d2, d3, d4, d5] }
  | _ => none }
def NewtonWholeWrongFalsely : Prop := newtonWholeRow.holds Try.pinned (OpenSpec.ofChange newtonWholeWrong)

/-- 'meniscuslaw7.NewtonRoots': WHATEVER THE INPUT: true; the input reads as it did. -/
def newtonRootsSpec : ChangeSpec := { name := "newtonRoots", fn := fun _ => fun
  | [d1, d2, d3, d4] => { results := [.lit (.bool true)], args := [d1, d2, d3, d4] }
  | _ => none }
def newtonRootsRow : OpenClaim := { program := "ythgpgnijbajlgaa", sum := "b0cc124df7331f8131a0317355402c0eba8ed420e7653350eeacdb8c5b302d62", func := "meniscus/meniscuslaw7.NewtonRoots", spec := "newtonRoots", unfollowed := true, recurses := true, apart := false }
def NewtonRootsSaid : Prop := newtonRootsRow.holds Try.pinned (OpenSpec.ofChange newtonRootsSpec)

/-- ITS FALSE NEIGHBOUR: 'it returns false'. Refute it at one input. -/
def newtonRootsWrong : ChangeSpec := { name := "newtonRoots", fn := fun _ => fun
  | [d1, d2, d3, d4] => { results := [.lit (.bool false)], args := [d1, d2, d3, d4] }
  | _ => none }
def NewtonRootsWrongFalsely : Prop := newtonRootsRow.holds Try.pinned (OpenSpec.ofChange newtonRootsWrong)

/-- 'meniscuslaw7.NewtonKnown': WHATEVER THE INPUT: true; the input reads as it did. -/
def newtonKnownSpec : ChangeSpec := { name := "newtonKnown", fn := fun _ => fun
  | [] => { results := [.lit (.bool true)], args := [] }
  | _ => none }
def newtonKnownRow : OpenClaim := { program := "ythgpgnijbajlgaa", sum := "b0cc124df7331f8131a0317355402c0eba8ed420e7653350eeacdb8c5b302d62", func := "meniscus/meniscuslaw7.NewtonKnown", spec := "newtonKnown", unfollowed := true, recurses := true, apart := false }
def NewtonKnownSaid : Prop := newtonKnownRow.holds Try.pinned (OpenSpec.ofChange newtonKnownSpec)

/-- ITS FALSE NEIGHBOUR: 'it returns false'. Refute it at one input. -/
def newtonKnownWrong : ChangeSpec := { name := "newtonKnown", fn := fun _ => fun
  | [] => { results := [.lit (.bool false)], args := [] }
  | _ => none }
def NewtonKnownWrongFalsely : Prop := newtonKnownRow.holds Try.pinned (OpenSpec.ofChange newtonKnownWrong)

/-- 'meniscuslaw20.ParaxBeams': WHATEVER THE INPUT: true; the input reads as it did. -/
def paraxBeamsSpec : ChangeSpec := { name := "paraxBeams", fn := fun _ => fun
  | [d1, d2, d3, d4, d5, d6] => { results := [.lit (.bool true)], args := [d1, d2, d3, d4, d5, d6] }
  | _ => none }
def paraxBeamsRow : OpenClaim := { program := "ythgpgnijbajlgaa", sum := "b0cc124df7331f8131a0317355402c0eba8ed420e7653350eeacdb8c5b302d62", func := "meniscus/meniscuslaw20.ParaxBeams", spec := "paraxBeams", inPlace := ["math.archTrunc", "math.Float64bits", "math.Float64frombits"], unfollowed := true, recurses := true, apart := false }
def ParaxBeamsSaid : Prop := paraxBeamsRow.holds Try.pinned (OpenSpec.ofChange paraxBeamsSpec)

/-- ITS FALSE NEIGHBOUR: 'it returns false'. Refute it at one input. -/
def paraxBeamsWrong : ChangeSpec := { name := "paraxBeams", fn := fun _ => fun
  | [d1, d2, d3, d4, d5, d6] => { results := [.lit (.bool false)], args := [d1, d2, d3, d4, d5, d6] }
  | _ => none }
def ParaxBeamsWrongFalsely : Prop := paraxBeamsRow.holds Try.pinned (OpenSpec.ofChange paraxBeamsWrong)

/- THE SECOND FORM. 'bulk': how many values and letters a reading holds, each counted each time it is reached (what is shared counts as often as it is met; a slice's spare places count too). A statement '..UptoSaid' is the law's where the arguments, and the package variables that the reading takes, are together of bulk at most 1048576: NARROWER than '..Said'. Prove '..Said' where nothing that the law and all that it calls make is longer than what came in: it says more and counts as full. Else prove '..UptoSaid'. A law counts once. -/
mutual
def uptoBulk {H : Type} : DataW H → Nat
  | .lit (.string bytes) => bytes.length + 1
  | .lit _ => 1
  | .nil => 1
  | .ptr d => uptoBulk d + 1
  | .slice elems spare => uptoBulkAll elems + uptoBulkAll spare + 1
  | .agg parts => uptoBulkAll parts + 1
  | .iface _ d => uptoBulk d + 1
  | .map entries => uptoBulkEntries entries + 1
  | .held _ => 1
def uptoBulkAll {H : Type} : List (DataW H) → Nat
  | [] => 0
  | d :: r => uptoBulk d + uptoBulkAll r
def uptoBulkEntries {H : Type} : List (Lit × DataW H) → Nat
  | [] => 0
  | x :: r => uptoBulkEntry x + uptoBulkEntries r
def uptoBulkEntry {H : Type} : Lit × DataW H → Nat
  | (.string bytes, d) => bytes.length + uptoBulk d + 1
  | (_, d) => uptoBulk d + 1
 end
def uptoSmall : (H : Type) → List (DataW H) → Bool := fun _ ds => decide (uptoBulkAll ds ≤ 1048576)
def OpenSpec.upto (s : _root_.Go.ChangeSpec) : _root_.Go.OpenSpec := { _root_.Go.OpenSpec.ofChange s with cond := some uptoSmall }

/-- 'meniscuslaw8.GaussTurns', WHERE WHAT IT READS IS OF BULK AT MOST 1048576: true; the input reads as it did. -/
def gaussTurnsUptoRow : OpenClaim := { program := "ythgpgnijbajlgaa", sum := "b0cc124df7331f8131a0317355402c0eba8ed420e7653350eeacdb8c5b302d62", func := "meniscus/meniscuslaw8.GaussTurns", spec := "gaussTurns", inPlace := ["math.archTrunc", "math.Float64bits", "math.Float64frombits"], apart := false, narrowed := true }
def GaussTurnsUptoSaid : Prop := gaussTurnsUptoRow.holds Try.pinned (OpenSpec.upto gaussTurnsSpec)

/-- 'meniscuslaw8.GaussBeams', WHERE WHAT IT READS IS OF BULK AT MOST 1048576: true; the input reads as it did. -/
def gaussBeamsUptoRow : OpenClaim := { program := "ythgpgnijbajlgaa", sum := "b0cc124df7331f8131a0317355402c0eba8ed420e7653350eeacdb8c5b302d62", func := "meniscus/meniscuslaw8.GaussBeams", spec := "gaussBeams", inPlace := ["math.archTrunc", "math.Float64bits", "math.Float64frombits"], unfollowed := true, recurses := true, apart := false, narrowed := true }
def GaussBeamsUptoSaid : Prop := gaussBeamsUptoRow.holds Try.pinned (OpenSpec.upto gaussBeamsSpec)

/-- 'meniscuslaw8.GaussDiscs', WHERE WHAT IT READS IS OF BULK AT MOST 1048576: true; the input reads as it did. -/
def gaussDiscsUptoRow : OpenClaim := { program := "ythgpgnijbajlgaa", sum := "b0cc124df7331f8131a0317355402c0eba8ed420e7653350eeacdb8c5b302d62", func := "meniscus/meniscuslaw8.GaussDiscs", spec := "gaussDiscs", inPlace := ["math.archTrunc", "math.Float64bits", "math.Float64frombits"], apart := false, narrowed := true }
def GaussDiscsUptoSaid : Prop := gaussDiscsUptoRow.holds Try.pinned (OpenSpec.upto gaussDiscsSpec)

/-- 'meniscuslaw8.GaussTells', WHERE WHAT IT READS IS OF BULK AT MOST 1048576: true; the input reads as it did. -/
def gaussTellsUptoRow : OpenClaim := { program := "ythgpgnijbajlgaa", sum := "b0cc124df7331f8131a0317355402c0eba8ed420e7653350eeacdb8c5b302d62", func := "meniscus/meniscuslaw8.GaussTells", spec := "gaussTells", inPlace := ["math.archTrunc", "math.Float64bits", "math.Float64frombits"], apart := false, narrowed := true }
def GaussTellsUptoSaid : Prop := gaussTellsUptoRow.holds Try.pinned (OpenSpec.upto gaussTellsSpec)

/-- 'meniscuslaw8.GaussKnown', WHERE WHAT IT READS IS OF BULK AT MOST 1048576: true; the input reads as it did. -/
def gaussKnownUptoRow : OpenClaim := { program := "ythgpgnijbajlgaa", sum := "b0cc124df7331f8131a0317355402c0eba8ed420e7653350eeacdb8c5b302d62", func := "meniscus/meniscuslaw8.GaussKnown", spec := "gaussKnown", inPlace := ["math.archTrunc", "math.Float64bits", "math.Float64frombits"], unfollowed := true, recurses := true, apart := false, narrowed := true }
def GaussKnownUptoSaid : Prop := gaussKnownUptoRow.holds Try.pinned (OpenSpec.upto gaussKnownSpec)

/-- 'meniscuslaw20.ParaxLess', WHERE WHAT IT READS IS OF BULK AT MOST 1048576: true; the input reads as it did. -/
def paraxLessUptoRow : OpenClaim := { program := "ythgpgnijbajlgaa", sum := "b0cc124df7331f8131a0317355402c0eba8ed420e7653350eeacdb8c5b302d62", func := "meniscus/meniscuslaw20.ParaxLess", spec := "paraxLess", unfollowed := true, recurses := true, apart := false, narrowed := true }
def ParaxLessUptoSaid : Prop := paraxLessUptoRow.holds Try.pinned (OpenSpec.upto paraxLessSpec)

/-- 'meniscuslaw20.ParaxKnown', WHERE WHAT IT READS IS OF BULK AT MOST 1048576: true; the input reads as it did. -/
def paraxKnownUptoRow : OpenClaim := { program := "ythgpgnijbajlgaa", sum := "b0cc124df7331f8131a0317355402c0eba8ed420e7653350eeacdb8c5b302d62", func := "meniscus/meniscuslaw20.ParaxKnown", spec := "paraxKnown", unfollowed := true, recurses := true, apart := false, narrowed := true }
def ParaxKnownUptoSaid : Prop := paraxKnownUptoRow.holds Try.pinned (OpenSpec.upto paraxKnownSpec)

/-- 'meniscuslaw20.ParaxTells', WHERE WHAT IT READS IS OF BULK AT MOST 1048576: true; the input reads as it did. -/
def paraxTellsUptoRow : OpenClaim := { program := "ythgpgnijbajlgaa", sum := "b0cc124df7331f8131a0317355402c0eba8ed420e7653350eeacdb8c5b302d62", func := "meniscus/meniscuslaw20.ParaxTells", spec := "paraxTells", unfollowed := true, recurses := true, apart := false, narrowed := true }
def ParaxTellsUptoSaid : Prop := paraxTellsUptoRow.holds Try.pinned (OpenSpec.upto paraxTellsSpec)

/-- 'meniscuslaw7.NewtonTells', WHERE WHAT IT READS IS OF BULK AT MOST 1048576: true; the input reads as it did. -/
def newtonTellsUptoRow : OpenClaim := { program := "ythgpgnijbajlgaa", sum := "b0cc124df7331f8131a0317355402c0eba8ed420e7653350eeacdb8c5b302d62", func := "meniscus/meniscuslaw7.NewtonTells", spec := "newtonTells", unfollowed := true, recurses := true, apart := false, narrowed := true }
def NewtonTellsUptoSaid : Prop := newtonTellsUptoRow.holds Try.pinned (OpenSpec.upto newtonTellsSpec)

/-- 'meniscuslaw7.NewtonAsks', WHERE WHAT IT READS IS OF BULK AT MOST 1048576: true; the input reads as it did. -/
def newtonAsksUptoRow : OpenClaim := { program := "ythgpgnijbajlgaa", sum := "b0cc124df7331f8131a0317355402c0eba8ed420e7653350eeacdb8c5b302d62", func := "meniscus/meniscuslaw7.NewtonAsks", spec := "newtonAsks", unfollowed := true, recurses := true, apart := false, narrowed := true }
def NewtonAsksUptoSaid : Prop := newtonAsksUptoRow.holds Try.pinned (OpenSpec.upto newtonAsksSpec)

/-- 'meniscuslaw7.NewtonWhole', WHERE WHAT IT READS IS OF BULK AT MOST 1048576: true; the input reads as it did. -/
def newtonWholeUptoRow : OpenClaim := { program := "ythgpgnijbajlgaa", sum := "b0cc124df7331f8131a0317355402c0eba8ed420e7653350eeacdb8c5b302d62", func := "meniscus/meniscuslaw7.NewtonWhole", spec := "newtonWhole", unfollowed := true, recurses := true, apart := false, narrowed := true }
def NewtonWholeUptoSaid : Prop := newtonWholeUptoRow.holds Try.pinned (OpenSpec.upto newtonWholeSpec)

/-- 'meniscuslaw7.NewtonRoots', WHERE WHAT IT READS IS OF BULK AT MOST 1048576: true; the input reads as it did. -/
def newtonRootsUptoRow : OpenClaim := { program := "ythgpgnijbajlgaa", sum := "b0cc124df7331f8131a0317355402c0eba8ed420e7653350eeacdb8c5b302d62", func := "meniscus/meniscuslaw7.NewtonRoots", spec := "newtonRoots", unfollowed := true, recurses := true, apart := false, narrowed := true }
def NewtonRootsUptoSaid : Prop := newtonRootsUptoRow.holds Try.pinned (OpenSpec.upto newtonRootsSpec)

/-- 'meniscuslaw7.NewtonKnown', WHERE WHAT IT READS IS OF BULK AT MOST 1048576: true; the input reads as it did. -/
def newtonKnownUptoRow : OpenClaim := { program := "ythgpgnijbajlgaa", sum := "b0cc124df7331f8131a0317355402c0eba8ed420e7653350eeacdb8c5b302d62", func := "meniscus/meniscuslaw7.NewtonKnown", spec := "newtonKnown", unfollowed := true, recurses := true, apart := false, narrowed := true }
def NewtonKnownUptoSaid : Prop := newtonKnownUptoRow.holds Try.pinned (OpenSpec.upto newtonKnownSpec)

/-- 'meniscuslaw20.ParaxBeams', WHERE WHAT IT READS IS OF BULK AT MOST 1048576: true; the input reads as it did. -/
def paraxBeamsUptoRow : OpenClaim := { program := "ythgpgnijbajlgaa", sum := "b0cc124df7331f8131a0317355402c0eba8ed420e7653350eeacdb8c5b302d62", func := "meniscus/meniscuslaw20.ParaxBeams", spec := "paraxBeams", inPlace := ["math.archTrunc", "math.Float64bits", "math.Float64frombits"], unfollowed := true, recurses := true, apart := false, narrowed := true }
def ParaxBeamsUptoSaid : Prop := paraxBeamsUptoRow.holds Try.pinned (OpenSpec.upto paraxBeamsSpec)

end Rows
end Go.Proofs.Ythgpgnijbajlgaa
