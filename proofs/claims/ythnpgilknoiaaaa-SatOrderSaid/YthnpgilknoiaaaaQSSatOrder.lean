/- Written by the session's own program hyb.py: what functions of the program compute; Lean checks it. -/
import Derived.Test.YthnpgilknoiaaaaQx8
import Derived.Test.YthnpgilknoiaaaaQo
namespace Go.Proofs.Ythnpgilknoiaaaa.Q
open Go.RowKit Go.ChangeShapes Go.WideShapes
def SatOrder.Pure : Prop := ∀ (x0 : S24) (x1 : S24), q24 x0 → q24 x1 → ∃ k, turnstilelaw03_SatOrder.f k (x0.f0) (x0.f1) (x1.f0) (x1.f1) = some true
end Go.Proofs.Ythnpgilknoiaaaa.Q
