/- Written by the session's own program hyb.py: what functions of the program compute; Lean checks it. -/
import Derived.Test.YtdoifmefhofnnaaDx39
import Derived.Test.YtdoifmefhofnnaaDo
namespace Go.Proofs.Ytdoifmefhofnnaa.D
open Go.RowKit Go.ChangeShapes Go.WideShapes
def AuditSplits.Pure : Prop := ∀ (x0 : S55), q55 x0 → ∃ k, turnstilelaw24_AuditSplits.f k (x0.f0.f0) (x0.f0.f1) (x0.f0.f2) (x0.f0.f3) (x0.f0.f4) (x0.f1) (x0.f2) (x0.f3) = some true
end Go.Proofs.Ytdoifmefhofnnaa.D
