/- Written by the session's own program hyb.py: what functions of the program compute; Lean checks it. -/
import Derived.Test.YtkgjepmminmjjaaDoorEx29
import Derived.Test.YtkgjepmminmjjaaDoorEo
namespace Go.Proofs.YtkgjepmminmjjaaDoor.E
open Go.RowKit Go.ChangeShapes Go.WideShapes
def ImageTurned.Pure : Prop := ∀ (x0 : S51) (a1 : Int) (a2 : Int) (a3 : Int), q51 x0 → (Lit.int .i64 a1).wf = true → (Lit.int .u8 a2).wf = true → (Lit.int .i64 a3).wf = true → ∃ k, turnstilelaw14_ImageTurned.f k (x0.f0) (x0.f1) (x0.f2) a1 a2 a3 = some true
end Go.Proofs.YtkgjepmminmjjaaDoor.E
