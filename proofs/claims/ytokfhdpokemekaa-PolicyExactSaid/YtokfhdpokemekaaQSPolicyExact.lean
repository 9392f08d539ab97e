/- Written by the session's own program hyb.py: what functions of the program compute; Lean checks it. -/
import Derived.Test.YtokfhdpokemekaaQx29
import Derived.Test.YtokfhdpokemekaaQo
namespace Go.Proofs.Ytokfhdpokemekaa.Q
open Go.RowKit Go.ChangeShapes Go.WideShapes
def PolicyExact.Pure : Prop := ∀ (l0 : List (S31)), (l0.length ≤ maxLen ∧ l0.length * 104 ≤ 140737488351232 ∧ ∀ y ∈ l0, q31 y) → ∃ k, turnstilelaw06_PolicyExact.f k l0 = some true
end Go.Proofs.Ytokfhdpokemekaa.Q
