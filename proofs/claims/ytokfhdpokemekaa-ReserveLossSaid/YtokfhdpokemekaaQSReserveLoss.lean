/- Written by the session's own program hyb.py: what functions of the program compute; Lean checks it. -/
import Derived.Test.YtokfhdpokemekaaQx24
import Derived.Test.YtokfhdpokemekaaQo
namespace Go.Proofs.Ytokfhdpokemekaa.Q
open Go.RowKit Go.ChangeShapes Go.WideShapes
def ReserveLoss.Pure : Prop := ∀ (x0 : S53) (x1 : S27) (x2 : S29) (a3 : Int), q53 x0 → q27 x1 → q29 x2 → (Lit.int .u64 a3).wf = true → ∃ k, turnstilelaw17_ReserveLoss.f k (x0.f0) (x0.f1) (x0.f2) (x0.f3) (x0.f4) (x1.f0) (x1.f1) (x1.f2) (x1.f3) (x1.f4) (x2.f0) (x2.f1) (x2.f2) a3 = some true
end Go.Proofs.Ytokfhdpokemekaa.Q
