/- Written by the session's own program hyb.py: what functions of the program compute; Lean checks it. -/
import Derived.Test.YthnpgilknoiaaaaQx5
import Derived.Test.YthnpgilknoiaaaaQo
namespace Go.Proofs.Ythnpgilknoiaaaa.Q
open Go.RowKit Go.ChangeShapes Go.WideShapes
def SatDivides.Pure : Prop := ∀ (x0 : S24) (a1 : Int), q24 x0 → (Lit.int .u64 a1).wf = true → ∃ k, turnstilelaw03_SatDivides.f k (x0.f0) (x0.f1) a1 = some true
end Go.Proofs.Ythnpgilknoiaaaa.Q
