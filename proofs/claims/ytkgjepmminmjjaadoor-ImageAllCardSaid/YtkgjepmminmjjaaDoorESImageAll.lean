/- Written by the session's own program hyb.py: what functions of the program compute; Lean checks it. -/
import Derived.Test.YtkgjepmminmjjaaDoorEx42
import Derived.Test.YtkgjepmminmjjaaDoorEo
namespace Go.Proofs.YtkgjepmminmjjaaDoor.E
open Go.RowKit Go.ChangeShapes Go.WideShapes
def ImageAll.Pure : Prop := ∀ (l0 : List (S53)), (l0.length ≤ maxLen ∧ l0.length * 72 ≤ 140737488351232 ∧ ∀ y ∈ l0, q53 y) → ∃ k, turnstilelaw14_ImageAll.f k l0 = some true
end Go.Proofs.YtkgjepmminmjjaaDoor.E
