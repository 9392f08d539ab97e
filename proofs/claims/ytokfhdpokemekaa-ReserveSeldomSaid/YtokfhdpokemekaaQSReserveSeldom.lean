/- Written by the session's own program hyb.py: what functions of the program compute; Lean checks it. -/
import Derived.Test.YtokfhdpokemekaaQx48
import Derived.Test.YtokfhdpokemekaaQo
namespace Go.Proofs.Ytokfhdpokemekaa.Q
open Go.RowKit Go.ChangeShapes Go.WideShapes
def ReserveSeldom.Pure : Prop := ∀ (x0 : S53) (x1 : S27) (l2 : List (S64)), q53 x0 → q27 x1 → (l2.length ≤ maxLen ∧ l2.length * 24 ≤ 140737488351232 ∧ ∀ y ∈ l2, q64 y) → ∃ k, turnstilelaw17_ReserveSeldom.f k (x0.f0) (x0.f1) (x0.f2) (x0.f3) (x0.f4) (x1.f0) (x1.f1) (x1.f2) (x1.f3) (x1.f4) l2 = some true
end Go.Proofs.Ytokfhdpokemekaa.Q
