/- Written by the session's own program hyb.py: what functions of the program compute; Lean checks it. -/
import Derived.Test.YtnhngjhodcikiaaDoorFx45
import Derived.Test.YtnhngjhodcikiaaDoorFo
namespace Go.Proofs.YtnhngjhodcikiaaDoor.F
open Go.RowKit Go.ChangeShapes Go.WideShapes
def StateRises.Pure : Prop := ∀ (x0 : S27) (x1 : S39), q27 x0 → q39 x1 → ∃ k, turnstilelaw13_StateRises.f k (x0.f0) (x0.f1) (x0.f2) (x1.f0) (x1.f1) (x1.f2) (x1.f3.f0) (x1.f3.f1) (x1.f3.f2) (x1.f3.f3) (x1.f3.f4) (x1.f4.f0) (x1.f4.f1) (x1.f4.f2) = some true
end Go.Proofs.YtnhngjhodcikiaaDoor.F
