/- Written by the session's own program hyb.py: what functions of the program compute; Lean checks it. -/
import Derived.Test.YtnhngjhodcikiaaDoorFx36
import Derived.Test.YtnhngjhodcikiaaDoorFo
namespace Go.Proofs.YtnhngjhodcikiaaDoor.F
open Go.RowKit Go.ChangeShapes Go.WideShapes
def StateLooks.Pure : Prop := ∀ (l0 : List (S27)) (a1 : ByteArray), (l0.length ≤ maxLen ∧ l0.length * 40 ≤ 140737488351232 ∧ ∀ y ∈ l0, q27 y) → a1.size ≤ 140737488351232 → ∃ k, turnstilelaw13_StateLooks.f k l0 a1 = some true
end Go.Proofs.YtnhngjhodcikiaaDoor.F
