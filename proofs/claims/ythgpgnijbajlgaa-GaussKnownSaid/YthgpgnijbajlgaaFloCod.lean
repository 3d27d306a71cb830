/-
  Floats, complex numbers, beams: how they lie in values.
-/
import Derived.Test.YthgpgnijbajlgaaEvCod
import Derived.Test.YthgpgnijbajlgaaFlo3
namespace Go.Proofs.Ythgpgnijbajlgaa.Ev
open Go Go.RowKit
def cF64 : Cod Nat where
  enc n := .float .f64 n
  dec a := match a with
    | .c (.v (.float .f64 n)) => some n
    | _ => none
  ok := by
    intro a x h N
    split at h <;> simp at h <;> subst h <;> rfl
def cCx : Cod Cx where
  enc n := .complex .f64 n.1 n.2
  dec a := match a with
    | .c (.v (.complex .f64 a b)) => some (a, b)
    | _ => none
  ok := by
    intro a x h N
    split at h <;> simp at h <;> subst h <;> rfl
abbrev Beam := Cx × Cx
def ccBeam : CC Beam := ccTwo ccCx ccCx
theorem ccBeam_ok : ccBeam.Ok 2 := ccTwo_ok ccCx_ok ccCx_ok
def cBeam : Cod Beam := ccBeam.agg ccBeam_ok
abbrev DBeam := Pair × Pair
def ccDBeam : CC DBeam := ccTwo ccPair ccPair
theorem ccDBeam_ok : ccDBeam.Ok 4 := ccTwo_ok ccPair_ok ccPair_ok
def cDBeam : Cod DBeam := ccDBeam.agg ccDBeam_ok
end Go.Proofs.Ythgpgnijbajlgaa.Ev
