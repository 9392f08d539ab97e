/- Written by the session's own program hyb.py: what functions of the program compute; Lean checks it. -/
import Derived.Test.YthnpgilknoiaaaaQx27
import Derived.Test.YthnpgilknoiaaaaQo
namespace Go.Proofs.Ythnpgilknoiaaaa.Q
open Go.RowKit Go.ChangeShapes Go.WideShapes
def GcraMost.Pure : Prop := ∀ (x0 : S46), q46 x0 → ∃ k, turnstilelaw04_GcraMost.f k (x0.f0) (x0.f1) (x0.f2) (x0.f3) (x0.f4) = some true
end Go.Proofs.Ythnpgilknoiaaaa.Q
