/- Written by the session's own program hyb.py: what functions of the program compute; Lean checks it. -/
import Derived.Test.YthnpgilknoiaaaaQx17
import Derived.Test.YthnpgilknoiaaaaQo
namespace Go.Proofs.Ythnpgilknoiaaaa.Q
open Go.RowKit Go.ChangeShapes Go.WideShapes
def SatExact.Pure : Prop := ∀ (l0 : List (S40)), (l0.length ≤ maxLen ∧ l0.length * 32 ≤ 140737488351232 ∧ ∀ y ∈ l0, q40 y) → ∃ k, turnstilelaw03_SatExact.f k l0 = some true
end Go.Proofs.Ythnpgilknoiaaaa.Q
