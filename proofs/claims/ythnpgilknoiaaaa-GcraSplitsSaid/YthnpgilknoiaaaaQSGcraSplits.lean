/- Written by the session's own program hyb.py: what functions of the program compute; Lean checks it. -/
import Derived.Test.YthnpgilknoiaaaaQx28
import Derived.Test.YthnpgilknoiaaaaQo
namespace Go.Proofs.Ythnpgilknoiaaaa.Q
open Go.RowKit Go.ChangeShapes Go.WideShapes
def GcraSplits.Pure : Prop := ∀ (x0 : S46) (a1 : Int), q46 x0 → (Lit.int .u64 a1).wf = true → ∃ k, turnstilelaw04_GcraSplits.f k (x0.f0) (x0.f1) (x0.f2) (x0.f3) (x0.f4) a1 = some true
end Go.Proofs.Ythnpgilknoiaaaa.Q
