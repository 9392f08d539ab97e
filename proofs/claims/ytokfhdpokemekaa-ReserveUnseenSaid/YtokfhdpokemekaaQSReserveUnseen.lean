/- Written by the session's own program hyb.py: what functions of the program compute; Lean checks it. -/
import Derived.Test.YtokfhdpokemekaaQx46
import Derived.Test.YtokfhdpokemekaaQo
namespace Go.Proofs.Ytokfhdpokemekaa.Q
open Go.RowKit Go.ChangeShapes Go.WideShapes
def ReserveUnseen.Pure : Prop := ∀ (x0 : S55) (x1 : S53) (x2 : S29), q55 x0 → q53 x1 → q29 x2 → ∃ k, turnstilelaw17_ReserveUnseen.f k (x0.f0) (x0.f1.f0) (x0.f1.f1) (x0.f1.f2) (x0.f1.f3) (x0.f1.f4) (x0.f2.f0) (x0.f2.f1) (x0.f2.f2) (x0.f2.f3) (x0.f2.f4) (x0.f3.f0) (x0.f3.f1) (x0.f3.f2) (x0.f4.f0) (x0.f4.f1) (x0.f4.f2) (x0.f5) (x0.f6) (x1.f0) (x1.f1) (x1.f2) (x1.f3) (x1.f4) (x2.f0) (x2.f1) (x2.f2) = some true
end Go.Proofs.Ytokfhdpokemekaa.Q
