/- Written by the session's own program hyb.py: what functions of the program compute; Lean checks it. -/
import Derived.Test.YthnpgilknoiaaaaQx0
import Derived.Test.YthnpgilknoiaaaaWOpen
namespace Go.Proofs.Ythnpgilknoiaaaa.Q
open Go.ChangeShapes Go.WideShapes Go.RowKit Go.Proofs.YthnpgilknoiaaaaW.PrintWords Go.Proofs.YthnpgilknoiaaaaW.PrintOpen
set_option linter.unusedVariables false
def q24 (x : S24) : Prop := (Lit.int .u64 x.f0).wf = true ∧ (Lit.int .u64 x.f1).wf = true
theorem op24 {H : Type} {enc : TypeId × Value → H} : Opens enc Try.prog 24 k24 q24 :=
  opens_struct (g := fun b => ⟨b.1, b.2⟩) Try.underlying24 (by kernel_rfl) (opensF_cons rfl (by kernel_rfl) (by first | rfl | kernel_rfl) (opens_int Try.underlying22) (opensF_one rfl (by kernel_rfl) (by first | rfl | kernel_rfl) (opens_int Try.underlying22))) (fun _ => rfl) (fun _ h => h)
def q40 (x : S40) : Prop := (Lit.int .u64 x.f0).wf = true ∧ (Lit.int .u64 x.f1).wf = true ∧ (Lit.int .u64 x.f2).wf = true ∧ (Lit.int .u64 x.f3).wf = true
theorem op40 {H : Type} {enc : TypeId × Value → H} : Opens enc Try.prog 40 k40 q40 :=
  opens_struct (g := fun b => ⟨b.1, b.2.1, b.2.2.1, b.2.2.2⟩) Try.underlying40 (by kernel_rfl) (opensF_cons rfl (by kernel_rfl) (by first | rfl | kernel_rfl) (opens_int Try.underlying22) (opensF_cons rfl (by kernel_rfl) (by first | rfl | kernel_rfl) (opens_int Try.underlying22) (opensF_cons rfl (by kernel_rfl) (by first | rfl | kernel_rfl) (opens_int Try.underlying22) (opensF_one rfl (by kernel_rfl) (by first | rfl | kernel_rfl) (opens_int Try.underlying22))))) (fun _ => rfl) (fun _ h => h)
def q46 (x : S46) : Prop := (Lit.int .u64 x.f0).wf = true ∧ (Lit.int .u64 x.f1).wf = true ∧ (Lit.int .u64 x.f2).wf = true ∧ (Lit.int .u64 x.f3).wf = true ∧ (Lit.int .u64 x.f4).wf = true
theorem op46 {H : Type} {enc : TypeId × Value → H} : Opens enc Try.prog 46 k46 q46 :=
  opens_struct (g := fun b => ⟨b.1, b.2.1, b.2.2.1, b.2.2.2.1, b.2.2.2.2⟩) Try.underlying46 (by kernel_rfl) (opensF_cons rfl (by kernel_rfl) (by first | rfl | kernel_rfl) (opens_int Try.underlying22) (opensF_cons rfl (by kernel_rfl) (by first | rfl | kernel_rfl) (opens_int Try.underlying22) (opensF_cons rfl (by kernel_rfl) (by first | rfl | kernel_rfl) (opens_int Try.underlying22) (opensF_cons rfl (by kernel_rfl) (by first | rfl | kernel_rfl) (opens_int Try.underlying22) (opensF_one rfl (by kernel_rfl) (by first | rfl | kernel_rfl) (opens_int Try.underlying22)))))) (fun _ => rfl) (fun _ h => h)
def q57 (x : S57) : Prop := (Lit.int .u64 x.f0).wf = true ∧ (Lit.int .u64 x.f1).wf = true
theorem op57 {H : Type} {enc : TypeId × Value → H} : Opens enc Try.prog 57 k57 q57 :=
  opens_struct (g := fun b => ⟨b.1, b.2⟩) Try.underlying57 (by kernel_rfl) (opensF_cons rfl (by kernel_rfl) (by first | rfl | kernel_rfl) (opens_int Try.underlying22) (opensF_one rfl (by kernel_rfl) (by first | rfl | kernel_rfl) (opens_int Try.underlying22))) (fun _ => rfl) (fun _ h => h)
end Go.Proofs.Ythnpgilknoiaaaa.Q
