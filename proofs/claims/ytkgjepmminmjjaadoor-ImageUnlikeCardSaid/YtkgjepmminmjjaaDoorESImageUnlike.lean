/- Written by the session's own program hyb.py: what functions of the program compute; Lean checks it. -/
import Derived.Test.YtkgjepmminmjjaaDoorEx31
import Derived.Test.YtkgjepmminmjjaaDoorEo
namespace Go.Proofs.YtkgjepmminmjjaaDoor.E
open Go.RowKit Go.ChangeShapes Go.WideShapes
def ImageUnlike.Pure : Prop := ∀ (x0 : S51) (x1 : S51), q51 x0 → q51 x1 → ∃ k, turnstilelaw14_ImageUnlike.f k (x0.f0) (x0.f1) (x0.f2) (x1.f0) (x1.f1) (x1.f2) = some true
end Go.Proofs.YtkgjepmminmjjaaDoor.E
