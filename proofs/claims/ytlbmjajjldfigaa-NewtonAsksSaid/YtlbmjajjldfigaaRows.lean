/-
  No cell of these rows narrows 'for every input' (looked for: loops, veiled, ifaces, maps, wideKeys, modest, calm, conditions, laid).
  DERIVED. THE GIVEN ROWS OF THIS SEAT. 2 by the template 'for every input the law returns true; each argument reads behind the call as it read before'; 0 by the template 'total and deterministic' (their statements: YtlbmjajjldfigaaTotals.lean).
  GIVEN WITH THE SEED: the statements are not yours to turn. If you find one false, say at which input.
  Laid BY PROGRAM, IN A SANDBOX (cutbox-rows.mjs): the forced cells as the released guide's own fill.sh prints them over the translation ae4b5478a202e8a2… (all of the seat's roots in one cut). By AI agents, Wed Nov 11 2026. No macro, syntax, notation, axiom, sorry.
-/
import Derived.Test.YtlbmjajjldfigaaChecked
import GoSem.Claim
import GoSem.ClaimJoined
import GoSem.ClaimMapViews
import Derived.JoinedTies
import Derived.KernelRfl
namespace Go.Proofs.Ytlbmjajjldfigaa
/- THE CELL 'sum', in the pinned program and in every row, IS THE sha256 OF THE DUMP (.gsa) THAT YtlbmjajjldfigaaProg.lean LOADS. Nothing in Lean hashes anything: it is a label: what it is worth is what the hold of that sum in a sandbox is worth. -/
noncomputable def Try.pinned : Pinned := { name := "ytlbmjajjldfigaa", sum := "ae4b5478a202e8a23fe2e39dc58a929c6584bc850a2a470a4f3aab53980ef854", checked := Try.checked }
namespace Rows
def none {H : Type} : Left H := { results := [], args := [] }

/-- 'meniscuslaw7.NewtonAsks': WHATEVER THE INPUT: true; the input reads as it did. -/
def newtonAsksSpec : ChangeSpec := { name := "newtonAsks", fn := fun _ => fun
  | [d1, d2, d3, d4] => { results := [.lit (.bool true)], args := [d1, d2, d3, d4] }
  | _ => none }
def newtonAsksRow : OpenClaim := { program := "ytlbmjajjldfigaa", sum := "ae4b5478a202e8a23fe2e39dc58a929c6584bc850a2a470a4f3aab53980ef854", func := "meniscus/meniscuslaw7.NewtonAsks", spec := "newtonAsks", unfollowed := true, recurses := true, apart := false }
def NewtonAsksSaid : Prop := newtonAsksRow.holds Try.pinned (OpenSpec.ofChange newtonAsksSpec)

/-- ITS FALSE NEIGHBOUR: 'it returns false'. Refute it at one input. -/
def newtonAsksWrong : ChangeSpec := { name := "newtonAsks", fn := fun _ => fun
  | [d1, d2, d3, d4] => { results := [.lit (.bool false)], args := [d1, d2, d3, d4] }
  | _ => none }
def NewtonAsksWrongFalsely : Prop := newtonAsksRow.holds Try.pinned (OpenSpec.ofChange newtonAsksWrong)

/-- 'meniscuslaw15.HitOn': WHATEVER THE INPUT: true; the input reads as it did. -/
def hitOnSpec : ChangeSpec := { name := "hitOn", fn := fun _ => fun
  | [d1, d2, d3] => { results := [.lit (.bool true)], args := [d1, d2, d3] }
  | _ => none }
def hitOnRow : OpenClaim := { program := "ytlbmjajjldfigaa", sum := "ae4b5478a202e8a23fe2e39dc58a929c6584bc850a2a470a4f3aab53980ef854", func := "meniscus/meniscuslaw15.HitOn", spec := "hitOn", unfollowed := true, recurses := true, apart := false }
def HitOnSaid : Prop := hitOnRow.holds Try.pinned (OpenSpec.ofChange hitOnSpec)

/-- ITS FALSE NEIGHBOUR: 'it returns false'. Refute it at one input. -/
def hitOnWrong : ChangeSpec := { name := "hitOn", fn := fun _ => fun
  | [d1, d2, d3] => { results := [.lit (.bool false)], args := [d1, d2, d3] }
  | _ => none }
def HitOnWrongFalsely : Prop := hitOnRow.holds Try.pinned (OpenSpec.ofChange hitOnWrong)

/- THE SECOND FORM. 'bulk': how many values and letters a reading holds, each counted each time it is reached (what is shared counts as often as it is met; a slice's spare places count too). A statement '..UptoSaid' is the law's where the arguments, and the package variables that the reading takes, are together of bulk at most 1048576: NARROWER than '..Said'. Prove '..Said' where nothing that the law and all that it calls make is longer than what came in: it says more and counts as full. Else prove '..UptoSaid'. A law counts once. -/
mutual
def uptoBulk {H : Type} : DataW H → Nat
  | .lit (.string bytes) => bytes.length + 1
  | .lit _ => 1
  | .nil => 1
  | .ptr d => uptoBulk d + 1
  | .slice elems spare => uptoBulkAll elems + uptoBulkAll spare + 1
  | .agg parts => uptoBulkAll parts + 1
  | .iface _ d => uptoBulk d + 1
  | .map entries => uptoBulkEntries entries + 1
  | .held _ => 1
def uptoBulkAll {H : Type} : List (DataW H) → Nat
  | [] => 0
  | d :: r => uptoBulk d + uptoBulkAll r
def uptoBulkEntries {H : Type} : List (Lit × DataW H) → Nat
  | [] => 0
  | x :: r => uptoBulkEntry x + uptoBulkEntries r
def uptoBulkEntry {H : Type} : Lit × DataW H → Nat
  | (.string bytes, d) => bytes.length + uptoBulk d + 1
  | (_, d) => uptoBulk d + 1
 end
def uptoSmall : (H : Type) → List (DataW H) → Bool := fun _ ds => decide (uptoBulkAll ds ≤ 1048576)
def OpenSpec.upto (s : _root_.Go.ChangeSpec) : _root_.Go.OpenSpec := { _root_.Go.OpenSpec.ofChange s with cond := some uptoSmall }

/-- 'meniscuslaw7.NewtonAsks', WHERE WHAT IT READS IS OF BULK AT MOST 1048576: true; the input reads as it did. -/
def newtonAsksUptoRow : OpenClaim := { program := "ytlbmjajjldfigaa", sum := "ae4b5478a202e8a23fe2e39dc58a929c6584bc850a2a470a4f3aab53980ef854", func := "meniscus/meniscuslaw7.NewtonAsks", spec := "newtonAsks", unfollowed := true, recurses := true, apart := false, narrowed := true }
def NewtonAsksUptoSaid : Prop := newtonAsksUptoRow.holds Try.pinned (OpenSpec.upto newtonAsksSpec)

/-- 'meniscuslaw15.HitOn', WHERE WHAT IT READS IS OF BULK AT MOST 1048576: true; the input reads as it did. -/
def hitOnUptoRow : OpenClaim := { program := "ytlbmjajjldfigaa", sum := "ae4b5478a202e8a23fe2e39dc58a929c6584bc850a2a470a4f3aab53980ef854", func := "meniscus/meniscuslaw15.HitOn", spec := "hitOn", unfollowed := true, recurses := true, apart := false, narrowed := true }
def HitOnUptoSaid : Prop := hitOnUptoRow.holds Try.pinned (OpenSpec.upto hitOnSpec)

end Rows
end Go.Proofs.Ytlbmjajjldfigaa
