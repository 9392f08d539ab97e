/- Written by the session's own program hyb.py: what functions of the program compute; Lean checks it. -/
import Derived.Test.YtokfhdpokemekaaQx34
import Derived.Test.YtokfhdpokemekaaQo
namespace Go.Proofs.Ytokfhdpokemekaa.Q
open Go.RowKit Go.ChangeShapes Go.WideShapes
def PolicyForm.Pure : Prop := ∀ (x0 : S31) (a1 : Int) (a2 : Int), q31 x0 → (Lit.int .u64 a1).wf = true → (Lit.int .u64 a2).wf = true → ∃ k, turnstilelaw06_PolicyForm.f k (x0.f0.f0) (x0.f0.f1) (x0.f0.f2) (x0.f0.f3) (x0.f0.f4) (x0.f1.f0) (x0.f1.f1) (x0.f1.f2) (x0.f2.f0) (x0.f2.f1) (x0.f2.f2) (x0.f3) (x0.f4) a1 a2 = some true
end Go.Proofs.Ytokfhdpokemekaa.Q
