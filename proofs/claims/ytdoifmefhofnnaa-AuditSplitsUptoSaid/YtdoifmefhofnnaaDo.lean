/- Written by the session's own program hyb.py: what functions of the program compute; Lean checks it. -/
import Derived.Test.YtdoifmefhofnnaaDx0
import Derived.Test.YtdoifmefhofnnaaWOpen
namespace Go.Proofs.Ytdoifmefhofnnaa.D
open Go.ChangeShapes Go.WideShapes Go.RowKit Go.Proofs.YtdoifmefhofnnaaW.PrintWords Go.Proofs.YtdoifmefhofnnaaW.PrintOpen
set_option linter.unusedVariables false
def q24 (x : S24) : Prop := (Lit.int .i64 x.f0).wf = true ∧ (Lit.int .u64 x.f1).wf = true ∧ (Lit.int .u64 x.f2).wf = true ∧ (Lit.int .u64 x.f3).wf = true ∧ (Lit.int .u64 x.f4).wf = true
theorem op24 {H : Type} {enc : TypeId × Value → H} : Opens enc Try.prog 24 k24 q24 :=
  opens_struct (g := fun b => ⟨b.1, b.2.1, b.2.2.1, b.2.2.2.1, b.2.2.2.2⟩) Try.underlying24 (by kernel_rfl) (opensF_cons rfl (by kernel_rfl) (by first | rfl | kernel_rfl) (opens_int Try.underlying3) (opensF_cons rfl (by kernel_rfl) (by first | rfl | kernel_rfl) (opens_int Try.underlying22) (opensF_cons rfl (by kernel_rfl) (by first | rfl | kernel_rfl) (opens_int Try.underlying22) (opensF_cons rfl (by kernel_rfl) (by first | rfl | kernel_rfl) (opens_int Try.underlying22) (opensF_one rfl (by kernel_rfl) (by first | rfl | kernel_rfl) (opens_int Try.underlying22)))))) (fun _ => rfl) (fun _ h => h)
def q31 (x : S31) : Prop := (Lit.int .u64 x.f0).wf = true ∧ (Lit.int .u64 x.f1).wf = true
theorem op31 {H : Type} {enc : TypeId × Value → H} : Opens enc Try.prog 31 k31 q31 :=
  opens_struct (g := fun b => ⟨b.1, b.2⟩) Try.underlying31 (by kernel_rfl) (opensF_cons rfl (by kernel_rfl) (by first | rfl | kernel_rfl) (opens_int Try.underlying22) (opensF_one rfl (by kernel_rfl) (by first | rfl | kernel_rfl) (opens_int Try.underlying22))) (fun _ => rfl) (fun _ h => h)
def q55 (x : S55) : Prop := q24 x.f0 ∧ (x.f1.length ≤ maxLen ∧ x.f1.length * 16 ≤ 140737488351232 ∧ ∀ y ∈ x.f1, q31 y) ∧ (Lit.int .i64 x.f2).wf = true ∧ (Lit.int .u64 x.f3).wf = true
theorem op55 {H : Type} {enc : TypeId × Value → H} : Opens enc Try.prog 55 k55 q55 :=
  opens_struct (g := fun b => ⟨b.1, b.2.1, b.2.2.1, b.2.2.2⟩) Try.underlying55 (by kernel_rfl) (opensF_cons rfl (by kernel_rfl) (by first | rfl | kernel_rfl) op24 (opensF_cons rfl (by kernel_rfl) (by first | rfl | kernel_rfl) (opens_slice (B := 16) Try.underlying25 (by kernel_rfl) (by kernel_rfl) op31) (opensF_cons rfl (by kernel_rfl) (by first | rfl | kernel_rfl) (opens_int Try.underlying3) (opensF_one rfl (by kernel_rfl) (by first | rfl | kernel_rfl) (opens_int Try.underlying22))))) (fun _ => rfl) (fun _ h => h)
def q71 (x : S71) : Prop := (Lit.int .u64 x.f0).wf = true ∧ (Lit.int .u64 x.f1).wf = true
theorem op71 {H : Type} {enc : TypeId × Value → H} : Opens enc Try.prog 71 k71 q71 :=
  opens_struct (g := fun b => ⟨b.1, b.2⟩) Try.underlying71 (by kernel_rfl) (opensF_cons rfl (by kernel_rfl) (by first | rfl | kernel_rfl) (opens_int Try.underlying22) (opensF_one rfl (by kernel_rfl) (by first | rfl | kernel_rfl) (opens_int Try.underlying22))) (fun _ => rfl) (fun _ h => h)
end Go.Proofs.Ytdoifmefhofnnaa.D
