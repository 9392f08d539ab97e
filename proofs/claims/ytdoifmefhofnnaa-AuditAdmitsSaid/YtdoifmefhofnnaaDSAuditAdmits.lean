/- Written by the session's own program hyb.py: what functions of the program compute; Lean checks it. -/
import Derived.Test.YtdoifmefhofnnaaDx44
import Derived.Test.YtdoifmefhofnnaaDo
namespace Go.Proofs.Ytdoifmefhofnnaa.D
open Go.RowKit Go.ChangeShapes Go.WideShapes
def AuditAdmits.Pure : Prop := ∀ (x0 : S24) (l1 : List (S71)), q24 x0 → (l1.length ≤ maxLen ∧ l1.length * 16 ≤ 140737488351232 ∧ ∀ y ∈ l1, q71 y) → ∃ k, turnstilelaw24_AuditAdmits.f k (x0.f0) (x0.f1) (x0.f2) (x0.f3) (x0.f4) l1 = some true
end Go.Proofs.Ytdoifmefhofnnaa.D
