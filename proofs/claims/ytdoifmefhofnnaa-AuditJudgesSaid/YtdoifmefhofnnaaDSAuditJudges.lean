/- Written by the session's own program hyb.py: what functions of the program compute; Lean checks it. -/
import Derived.Test.YtdoifmefhofnnaaDx39
import Derived.Test.YtdoifmefhofnnaaDo
namespace Go.Proofs.Ytdoifmefhofnnaa.D
open Go.RowKit Go.ChangeShapes Go.WideShapes
def AuditJudges.Pure : Prop := ∀ (x0 : S24) (l1 : List (S31)) (a2 : Int), q24 x0 → (l1.length ≤ maxLen ∧ l1.length * 16 ≤ 140737488351232 ∧ ∀ y ∈ l1, q31 y) → (Lit.int .i64 a2).wf = true → ∃ k, turnstilelaw24_AuditJudges.f k (x0.f0) (x0.f1) (x0.f2) (x0.f3) (x0.f4) l1 a2 = some true
end Go.Proofs.Ytdoifmefhofnnaa.D
