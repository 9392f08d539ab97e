/- Written by the session's own program hyb.py: what functions of the program compute; Lean checks it. -/
import Derived.Test.YthnpgilknoiaaaaQx29
import Derived.Test.YthnpgilknoiaaaaQo
namespace Go.Proofs.Ythnpgilknoiaaaa.Q
open Go.RowKit Go.ChangeShapes Go.WideShapes
def GcraLesser.Pure : Prop := ∀ (x0 : S46) (a1 : Int) (a2 : Int), q46 x0 → (Lit.int .u64 a1).wf = true → (Lit.int .u64 a2).wf = true → ∃ k, turnstilelaw04_GcraLesser.f k (x0.f0) (x0.f1) (x0.f2) (x0.f3) (x0.f4) a1 a2 = some true
end Go.Proofs.Ythnpgilknoiaaaa.Q
