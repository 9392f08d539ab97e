/- Written by the session's own program hyb.py: what functions of the program compute; Lean checks it. -/
import Derived.Test.YtkgjepmminmjjaaDoorEx28
import Derived.Test.YtkgjepmminmjjaaDoorEo
namespace Go.Proofs.YtkgjepmminmjjaaDoor.E
open Go.RowKit Go.ChangeShapes Go.WideShapes
def ImageBack.Pure : Prop := ∀ (x0 : S51), q51 x0 → ∃ k, turnstilelaw14_ImageBack.f k (x0.f0) (x0.f1) (x0.f2) = some true
end Go.Proofs.YtkgjepmminmjjaaDoor.E
