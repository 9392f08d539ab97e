/- Written by the session's own program hyb.py: what functions of the program compute; Lean checks it. -/
import Derived.Test.YthnpgilknoiaaaaQx31
import Derived.Test.YthnpgilknoiaaaaQo
namespace Go.Proofs.Ythnpgilknoiaaaa.Q
open Go.RowKit Go.ChangeShapes Go.WideShapes
def GcraIntervals.Pure : Prop := ∀ (a0 : Int) (a1 : Int) (l2 : List (S57)), (Lit.int .u64 a0).wf = true → (Lit.int .u64 a1).wf = true → (l2.length ≤ maxLen ∧ l2.length * 16 ≤ 140737488351232 ∧ ∀ y ∈ l2, q57 y) → ∃ k, turnstilelaw04_GcraIntervals.f k a0 a1 l2 = some true
end Go.Proofs.Ythnpgilknoiaaaa.Q
