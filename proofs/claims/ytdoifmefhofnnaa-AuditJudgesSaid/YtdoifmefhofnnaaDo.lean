/- Written by the session's own program hyb.py: what functions of the program compute; Lean checks it. -/
import Derived.Test.YtdoifmefhofnnaaDx0
import Derived.Test.YtdoifmefhofnnaaWOpen
namespace Go.Proofs.Ytdoifmefhofnnaa.D
open Go.ChangeShapes Go.WideShapes Go.RowKit Go.Proofs.YtdoifmefhofnnaaW.PrintWords Go.Proofs.YtdoifmefhofnnaaW.PrintOpen
set_option linter.unusedVariables false
def q24 (x : S24) : Prop := (Lit.int .i64 x.f0).wf = true ∧ (Lit.int .u64 x.f1).wf = true ∧ (Lit.int .u64 x.f2).wf = true ∧ (Lit.int .u64 x.f3).wf = true ∧ (Lit.int .u64 x.f4).wf = true
theorem op24 {H : Type} {enc : TypeId × Value → H} : Opens enc Try.prog 24 k24 q24 :=
  opens_struct (g := fun b => ⟨b.1, b.2.1, b.2.2.1, b.2.2.2.1, b.2.2.2.2⟩) Try.underlying24 (by kernel_rfl) (opensF_cons rfl (by kernel_rfl) (by first | rfl | kernel_rfl) (opens_int Try.underlying3) (opensF_cons rfl (by kernel_rfl) (by first | rfl | kernel_rfl) (opens_int Try.underlying22) (opensF_cons rfl (by kernel_rfl) (by first | rfl | kernel_rfl) (opens_int Try.underlying22) (opensF_cons rfl (by kernel_rfl) (by first | rfl | kernel_rfl) (opens_int Try.underlying22) (opensF_one rfl (by kernel_rfl) (by first | rfl | kernel_rfl) (opens_int Try.underlying22)))))) (fun _ => rfl) (fun _ h => h)
def q31 (x : S31) : Prop := (Lit.int .u64 x.f0).wf = true ∧ (Lit.int .u64 x.f1).wf = true
theorem op31 {H : Type} {enc : TypeId × Value → H} : Opens enc Try.prog 31 k31 q31 :=
  opens_struct (g := fun b => ⟨b.1, b.2⟩) Try.underlying31 (by kernel_rfl) (opensF_cons rfl (by kernel_rfl) (by first | rfl | kernel_rfl) (opens_int Try.underlying22) (opensF_one rfl (by kernel_rfl) (by first | rfl | kernel_rfl) (opens_int Try.underlying22))) (fun _ => rfl) (fun _ h => h)
end Go.Proofs.Ytdoifmefhofnnaa.D
