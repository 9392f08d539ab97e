/- Written by the session's own program hyb.py: what functions of the program compute; Lean checks it. -/
import Derived.Test.YthnpgilknoiaaaaQx22
import Derived.Test.YthnpgilknoiaaaaQo
namespace Go.Proofs.Ythnpgilknoiaaaa.Q
open Go.RowKit Go.ChangeShapes Go.WideShapes
def GcraAdmits.Pure : Prop := ∀ (l0 : List (S46)), (l0.length ≤ maxLen ∧ l0.length * 40 ≤ 140737488351232 ∧ ∀ y ∈ l0, q46 y) → ∃ k, turnstilelaw04_GcraAdmits.f k l0 = some true
end Go.Proofs.Ythnpgilknoiaaaa.Q
