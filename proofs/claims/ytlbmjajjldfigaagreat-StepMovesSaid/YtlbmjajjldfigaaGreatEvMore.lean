/-
  Results of traces, six numbers: how they lie in values.
-/
import Derived.Test.YtlbmjajjldfigaaGreatEvCod
import Derived.Test.YtlbmjajjldfigaaGreatCore8
namespace Go.Proofs.YtlbmjajjldfigaaGreat.Ev
open Go Go.RowKit
abbrev Six := Int × Int × Int × Int × Int × Int
def ccRes : CC Res := ccTwo ccInt (ccTwo ccInt ccRay)
theorem ccRes_ok : ccRes.Ok 20 := ccTwo_ok ccInt_ok (ccTwo_ok ccInt_ok ccRay_ok)
def cRes : Cod Res := ccRes.agg ccRes_ok
def cSix : Cod Six := ccSix.agg ccSix_ok
end Go.Proofs.YtlbmjajjldfigaaGreat.Ev
