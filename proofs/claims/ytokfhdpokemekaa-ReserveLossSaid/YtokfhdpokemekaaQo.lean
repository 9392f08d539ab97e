/- Written by the session's own program hyb.py: what functions of the program compute; Lean checks it. -/
import Derived.Test.YtokfhdpokemekaaQx0
import Derived.Test.YtokfhdpokemekaaWOpen
namespace Go.Proofs.Ytokfhdpokemekaa.Q
open Go.ChangeShapes Go.WideShapes Go.RowKit Go.Proofs.YtokfhdpokemekaaW.PrintWords Go.Proofs.YtokfhdpokemekaaW.PrintOpen
set_option linter.unusedVariables false
def q53 (x : S53) : Prop := (Lit.int .u64 x.f0).wf = true ∧ (Lit.int .u64 x.f1).wf = true ∧ (Lit.int .i64 x.f2).wf = true ∧ (Lit.int .i64 x.f3).wf = true ∧ (Lit.int .i64 x.f4).wf = true
theorem op53 {H : Type} {enc : TypeId × Value → H} : Opens enc Try.prog 53 k53 q53 :=
  opens_struct (g := fun b => ⟨b.1, b.2.1, b.2.2.1, b.2.2.2.1, b.2.2.2.2⟩) Try.underlying53 (by kernel_rfl) (opensF_cons rfl (by kernel_rfl) (by first | rfl | kernel_rfl) (opens_int Try.underlying25) (opensF_cons rfl (by kernel_rfl) (by first | rfl | kernel_rfl) (opens_int Try.underlying25) (opensF_cons rfl (by kernel_rfl) (by first | rfl | kernel_rfl) (opens_int Try.underlying3) (opensF_cons rfl (by kernel_rfl) (by first | rfl | kernel_rfl) (opens_int Try.underlying3) (opensF_one rfl (by kernel_rfl) (by first | rfl | kernel_rfl) (opens_int Try.underlying3)))))) (fun _ => rfl) (fun _ h => h)
def q27 (x : S27) : Prop := (Lit.int .i64 x.f0).wf = true ∧ (Lit.int .u64 x.f1).wf = true ∧ (Lit.int .u64 x.f2).wf = true ∧ (Lit.int .u64 x.f3).wf = true ∧ (Lit.int .u64 x.f4).wf = true
theorem op27 {H : Type} {enc : TypeId × Value → H} : Opens enc Try.prog 27 k27 q27 :=
  opens_struct (g := fun b => ⟨b.1, b.2.1, b.2.2.1, b.2.2.2.1, b.2.2.2.2⟩) Try.underlying27 (by kernel_rfl) (opensF_cons rfl (by kernel_rfl) (by first | rfl | kernel_rfl) (opens_int Try.underlying3) (opensF_cons rfl (by kernel_rfl) (by first | rfl | kernel_rfl) (opens_int Try.underlying25) (opensF_cons rfl (by kernel_rfl) (by first | rfl | kernel_rfl) (opens_int Try.underlying25) (opensF_cons rfl (by kernel_rfl) (by first | rfl | kernel_rfl) (opens_int Try.underlying25) (opensF_one rfl (by kernel_rfl) (by first | rfl | kernel_rfl) (opens_int Try.underlying25)))))) (fun _ => rfl) (fun _ h => h)
def q29 (x : S29) : Prop := (Lit.int .u64 x.f0).wf = true ∧ (Lit.int .u64 x.f1).wf = true ∧ (Lit.int .u64 x.f2).wf = true
theorem op29 {H : Type} {enc : TypeId × Value → H} : Opens enc Try.prog 29 k29 q29 :=
  opens_struct (g := fun b => ⟨b.1, b.2.1, b.2.2⟩) Try.underlying29 (by kernel_rfl) (opensF_cons rfl (by kernel_rfl) (by first | rfl | kernel_rfl) (opens_int Try.underlying25) (opensF_cons rfl (by kernel_rfl) (by first | rfl | kernel_rfl) (opens_int Try.underlying25) (opensF_one rfl (by kernel_rfl) (by first | rfl | kernel_rfl) (opens_int Try.underlying25)))) (fun _ => rfl) (fun _ h => h)
end Go.Proofs.Ytokfhdpokemekaa.Q
