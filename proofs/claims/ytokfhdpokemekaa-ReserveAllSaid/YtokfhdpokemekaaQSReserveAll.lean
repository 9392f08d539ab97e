/- Written by the session's own program hyb.py: what functions of the program compute; Lean checks it. -/
import Derived.Test.YtokfhdpokemekaaQx45
import Derived.Test.YtokfhdpokemekaaQo
namespace Go.Proofs.Ytokfhdpokemekaa.Q
open Go.RowKit Go.ChangeShapes Go.WideShapes
def ReserveAll.Pure : Prop := ∀ (l0 : List (S55)), (l0.length ≤ maxLen ∧ l0.length * 152 ≤ 140737488351232 ∧ ∀ y ∈ l0, q55 y) → ∃ k, turnstilelaw17_ReserveAll.f k l0 = some true
end Go.Proofs.Ytokfhdpokemekaa.Q
