/- Written by the session's own program hyb.py: what functions of the program compute; Lean checks it. -/
import Derived.Test.YtnhngjhodcikiaaDoorFx46
import Derived.Test.YtnhngjhodcikiaaDoorFo
namespace Go.Proofs.YtnhngjhodcikiaaDoor.F
open Go.RowKit Go.ChangeShapes Go.WideShapes
def StateFinds.Pure : Prop := ∀ (x0 : S27) (a1 : ByteArray), q27 x0 → a1.size ≤ 140737488351232 → ∃ k, turnstilelaw13_StateFinds.f k (x0.f0) (x0.f1) (x0.f2) a1 = some true
end Go.Proofs.YtnhngjhodcikiaaDoor.F
