/- Written by the session's own program hyb.py: what functions of the program compute; Lean checks it. -/
import Derived.Test.YtkgjepmminmjjaaDoorEx30
import Derived.Test.YtkgjepmminmjjaaDoorEo
namespace Go.Proofs.YtkgjepmminmjjaaDoor.E
open Go.RowKit Go.ChangeShapes Go.WideShapes
def ImageForth.Pure : Prop := ∀ (l0 : List Int), (l0.length ≤ maxLen ∧ l0.length * 1 ≤ 140737488351232 ∧ ∀ y ∈ l0, (Lit.int .u8 y).wf = true) → ∃ k, turnstilelaw14_ImageForth.f k l0 = some true
end Go.Proofs.YtkgjepmminmjjaaDoor.E
