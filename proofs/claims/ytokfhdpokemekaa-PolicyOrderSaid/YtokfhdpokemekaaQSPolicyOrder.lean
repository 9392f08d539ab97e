/- Written by the session's own program hyb.py: what functions of the program compute; Lean checks it. -/
import Derived.Test.YtokfhdpokemekaaQx32
import Derived.Test.YtokfhdpokemekaaQo
namespace Go.Proofs.Ytokfhdpokemekaa.Q
open Go.RowKit Go.ChangeShapes Go.WideShapes
def PolicyOrder.Pure : Prop := ∀ (x0 : S31) (x1 : S29), q31 x0 → q29 x1 → ∃ k, turnstilelaw06_PolicyOrder.f k (x0.f0.f0) (x0.f0.f1) (x0.f0.f2) (x0.f0.f3) (x0.f0.f4) (x0.f1.f0) (x0.f1.f1) (x0.f1.f2) (x0.f2.f0) (x0.f2.f1) (x0.f2.f2) (x0.f3) (x0.f4) (x1.f0) (x1.f1) (x1.f2) = some true
end Go.Proofs.Ytokfhdpokemekaa.Q
