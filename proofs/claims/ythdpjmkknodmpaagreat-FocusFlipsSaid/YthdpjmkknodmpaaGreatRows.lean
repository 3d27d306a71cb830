/-
  No cell of these rows narrows 'for every input' (looked for: loops, veiled, ifaces, maps, wideKeys, modest, calm, conditions, laid).
  DERIVED. THE GIVEN ROWS OF THIS SEAT. 3 by the template 'for every input the law returns true; each argument reads behind the call as it read before'; 0 by the template 'total and deterministic' (their statements: YthdpjmkknodmpaaGreatTotals.lean).
  GIVEN WITH THE SEED: the statements are not yours to turn. If you find one false, say at which input.
  Laid BY PROGRAM, IN A SANDBOX (cutbox-rows.mjs): the forced cells as the released guide's own fill.sh prints them over the translation 624c8cabf0e8307e… (all of the seat's roots in one cut). By AI agents, Wed Nov 11 2026. No macro, syntax, notation, axiom, sorry.
-/
import Derived.Test.YthdpjmkknodmpaaGreatChecked
import GoSem.Claim
import GoSem.ClaimJoined
import GoSem.ClaimMapViews
import Derived.JoinedTies
import Derived.KernelRfl
namespace Go.Proofs.YthdpjmkknodmpaaGreat
/- THE CELL 'sum', in the pinned program and in every row, IS THE sha256 OF THE DUMP (.gsa) THAT YthdpjmkknodmpaaGreatProg.lean LOADS. Nothing in Lean hashes anything: it is a label: what it is worth is what the hold of that sum in a sandbox is worth. -/
noncomputable def Tryz.pinned : Pinned := { name := "ythdpjmkknodmpaagreat", sum := "624c8cabf0e8307e982d10ce16a17b656a21487982989a23389f59b6523c56f1", checked := Tryz.checked }
namespace Rows
def none {H : Type} : Left H := { results := [], args := [] }

/-- 'meniscuslaw21.FocusTells': WHATEVER THE INPUT: true; the input reads as it did. -/
def focusTellsSpec : ChangeSpec := { name := "focusTells", fn := fun _ => fun
  | [d1, d2, d3, d4, d5, d6, d7, d8, d9, d10] => { results := [.lit (.bool true)], args := [d1, d2, d3, d4, d5, d6, d7, d8, d9, d10] }
  | _ => none }
def focusTellsRow : OpenClaim := { program := "ythdpjmkknodmpaagreat", sum := "624c8cabf0e8307e982d10ce16a17b656a21487982989a23389f59b6523c56f1", func := "meniscus/meniscuslaw21.FocusTells", spec := "focusTells", unfollowed := true, recurses := true, apart := false }
def FocusTellsSaid : Prop := focusTellsRow.holds Tryz.pinned (OpenSpec.ofChange focusTellsSpec)

/-- ITS FALSE NEIGHBOUR: 'it returns false'. Refute it at one input. -/
def focusTellsWrong : ChangeSpec := { name := "focusTells", fn := fun _ => fun
  | [d1, d2, d3, d4, d5, d6, d7, d8, d9, d10] => { results := [.lit (.bool false)], args := [d1, d2, d3, d4, d5, d6, d7, d8, d9, d10] }
  | _ => none }
def FocusTellsWrongFalsely : Prop := focusTellsRow.holds Tryz.pinned (OpenSpec.ofChange focusTellsWrong)

/-- 'meniscuslaw21.FocusSigns': WHATEVER THE INPUT: true; the input reads as it did. -/
def focusSignsSpec : ChangeSpec := { name := "focusSigns", fn := fun _ => fun
  | [d1, d2, d3, d4, d5, d6] => { results := [.lit (.bool true)], args := [d1, d2, d3, d4, d5, d6] }
  | _ => none }
def focusSignsRow : OpenClaim := { program := "ythdpjmkknodmpaagreat", sum := "624c8cabf0e8307e982d10ce16a17b656a21487982989a23389f59b6523c56f1", func := "meniscus/meniscuslaw21.FocusSigns", spec := "focusSigns", unfollowed := true, recurses := true, apart := false }
def FocusSignsSaid : Prop := focusSignsRow.holds Tryz.pinned (OpenSpec.ofChange focusSignsSpec)

/-- ITS FALSE NEIGHBOUR: 'it returns false'. Refute it at one input. -/
def focusSignsWrong : ChangeSpec := { name := "focusSigns", fn := fun _ => fun
  | [d1, d2, d3, d4, d5, d6] => { results := [.lit (.bool false)], args := [d1, d2, d3, d4, d5, d6] }
  | _ => none }
def FocusSignsWrongFalsely : Prop := focusSignsRow.holds Tryz.pinned (OpenSpec.ofChange focusSignsWrong)

/-- 'meniscuslaw21.FocusFlips': WHATEVER THE INPUT: true; the input reads as it did. -/
def focusFlipsSpec : ChangeSpec := { name := "focusFlips", fn := fun _ => fun
  | [d1, d2, d3, d4, d5, d6, d7, d8, d9] => { results := [.lit (.bool true)], args := [d1, d2, d3, d4, d5, d6, d7, d8, d9] }
  | _ => none }
def focusFlipsRow : OpenClaim := { program := "ythdpjmkknodmpaagreat", sum := "624c8cabf0e8307e982d10ce16a17b656a21487982989a23389f59b6523c56f1", func := "meniscus/meniscuslaw21.FocusFlips", spec := "focusFlips", unfollowed := true, recurses := true, apart := false }
def FocusFlipsSaid : Prop := focusFlipsRow.holds Tryz.pinned (OpenSpec.ofChange focusFlipsSpec)

/-- ITS FALSE NEIGHBOUR: 'it returns false'. Refute it at one input. -/
def focusFlipsWrong : ChangeSpec := { name := "focusFlips", fn := fun _ => fun
  | [d1, d2, d3, d4, d5, d6, d7, d8, d9] => { results := [.lit (.bool false)], args := [d1, d2, d3, d4, d5, d6, d7, d8, d9] }
  | _ => none }
def FocusFlipsWrongFalsely : Prop := focusFlipsRow.holds Tryz.pinned (OpenSpec.ofChange focusFlipsWrong)

/- THE SECOND FORM. 'bulk': how many values and letters a reading holds, each counted each time it is reached (what is shared counts as often as it is met; a slice's spare places count too). A statement '..UptoSaid' is the law's where the arguments, and the package variables that the reading takes, are together of bulk at most 1048576: NARROWER than '..Said'. Prove '..Said' where nothing that the law and all that it calls make is longer than what came in: it says more and counts as full. Else prove '..UptoSaid'. A law counts once. -/
mutual
def uptoBulk {H : Type} : DataW H → Nat
  | .lit (.string bytes) => bytes.length + 1
  | .lit _ => 1
  | .nil => 1
  | .ptr d => uptoBulk d + 1
  | .slice elems spare => uptoBulkAll elems + uptoBulkAll spare + 1
  | .agg parts => uptoBulkAll parts + 1
  | .iface _ d => uptoBulk d + 1
  | .map entries => uptoBulkEntries entries + 1
  | .held _ => 1
def uptoBulkAll {H : Type} : List (DataW H) → Nat
  | [] => 0
  | d :: r => uptoBulk d + uptoBulkAll r
def uptoBulkEntries {H : Type} : List (Lit × DataW H) → Nat
  | [] => 0
  | x :: r => uptoBulkEntry x + uptoBulkEntries r
def uptoBulkEntry {H : Type} : Lit × DataW H → Nat
  | (.string bytes, d) => bytes.length + uptoBulk d + 1
  | (_, d) => uptoBulk d + 1
 end
def uptoSmall : (H : Type) → List (DataW H) → Bool := fun _ ds => decide (uptoBulkAll ds ≤ 1048576)
def OpenSpec.upto (s : _root_.Go.ChangeSpec) : _root_.Go.OpenSpec := { _root_.Go.OpenSpec.ofChange s with cond := some uptoSmall }

/-- 'meniscuslaw21.FocusTells', WHERE WHAT IT READS IS OF BULK AT MOST 1048576: true; the input reads as it did. -/
def focusTellsUptoRow : OpenClaim := { program := "ythdpjmkknodmpaagreat", sum := "624c8cabf0e8307e982d10ce16a17b656a21487982989a23389f59b6523c56f1", func := "meniscus/meniscuslaw21.FocusTells", spec := "focusTells", unfollowed := true, recurses := true, apart := false, narrowed := true }
def FocusTellsUptoSaid : Prop := focusTellsUptoRow.holds Tryz.pinned (OpenSpec.upto focusTellsSpec)

/-- 'meniscuslaw21.FocusSigns', WHERE WHAT IT READS IS OF BULK AT MOST 1048576: true; the input reads as it did. -/
def focusSignsUptoRow : OpenClaim := { program := "ythdpjmkknodmpaagreat", sum := "624c8cabf0e8307e982d10ce16a17b656a21487982989a23389f59b6523c56f1", func := "meniscus/meniscuslaw21.FocusSigns", spec := "focusSigns", unfollowed := true, recurses := true, apart := false, narrowed := true }
def FocusSignsUptoSaid : Prop := focusSignsUptoRow.holds Tryz.pinned (OpenSpec.upto focusSignsSpec)

/-- 'meniscuslaw21.FocusFlips', WHERE WHAT IT READS IS OF BULK AT MOST 1048576: true; the input reads as it did. -/
def focusFlipsUptoRow : OpenClaim := { program := "ythdpjmkknodmpaagreat", sum := "624c8cabf0e8307e982d10ce16a17b656a21487982989a23389f59b6523c56f1", func := "meniscus/meniscuslaw21.FocusFlips", spec := "focusFlips", unfollowed := true, recurses := true, apart := false, narrowed := true }
def FocusFlipsUptoSaid : Prop := focusFlipsUptoRow.holds Tryz.pinned (OpenSpec.upto focusFlipsSpec)

end Rows
end Go.Proofs.YthdpjmkknodmpaaGreat
