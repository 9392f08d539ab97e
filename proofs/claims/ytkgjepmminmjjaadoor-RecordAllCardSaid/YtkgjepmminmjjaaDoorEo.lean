/- Written by the session's own program hyb.py: what functions of the program compute; Lean checks it. -/
import Derived.Test.YtkgjepmminmjjaaDoorEx0
import Derived.Test.YtkgjepmminmjjaaDoorWOpen
namespace Go.Proofs.YtkgjepmminmjjaaDoor.E
open Go.ChangeShapes Go.WideShapes Go.RowKit Go.Proofs.YtkgjepmminmjjaaDoorW.PrintWords Go.Proofs.YtkgjepmminmjjaaDoorW.PrintOpen
set_option linter.unusedVariables false
def q28 (x : S28) : Prop := (Lit.int .i64 x.f0).wf = true ∧ (Lit.int .u64 x.f1).wf = true ∧ (Lit.int .u64 x.f2).wf = true ∧ (Lit.int .u64 x.f3).wf = true ∧ (Lit.int .u64 x.f4).wf = true
theorem op28 {H : Type} {enc : TypeId × Value → H} : Opens enc Tryd.prog 28 k28 q28 :=
  opens_struct (g := fun b => ⟨b.1, b.2.1, b.2.2.1, b.2.2.2.1, b.2.2.2.2⟩) Tryd.underlying28 (by kernel_rfl) (opensF_cons rfl (by kernel_rfl) (by first | rfl | kernel_rfl) (opens_int Tryd.underlying3) (opensF_cons rfl (by kernel_rfl) (by first | rfl | kernel_rfl) (opens_int Tryd.underlying26) (opensF_cons rfl (by kernel_rfl) (by first | rfl | kernel_rfl) (opens_int Tryd.underlying26) (opensF_cons rfl (by kernel_rfl) (by first | rfl | kernel_rfl) (opens_int Tryd.underlying26) (opensF_one rfl (by kernel_rfl) (by first | rfl | kernel_rfl) (opens_int Tryd.underlying26)))))) (fun _ => rfl) (fun _ h => h)
def q30 (x : S30) : Prop := (Lit.int .u64 x.f0).wf = true ∧ (Lit.int .u64 x.f1).wf = true ∧ (Lit.int .u64 x.f2).wf = true
theorem op30 {H : Type} {enc : TypeId × Value → H} : Opens enc Tryd.prog 30 k30 q30 :=
  opens_struct (g := fun b => ⟨b.1, b.2.1, b.2.2⟩) Tryd.underlying30 (by kernel_rfl) (opensF_cons rfl (by kernel_rfl) (by first | rfl | kernel_rfl) (opens_int Tryd.underlying26) (opensF_cons rfl (by kernel_rfl) (by first | rfl | kernel_rfl) (opens_int Tryd.underlying26) (opensF_one rfl (by kernel_rfl) (by first | rfl | kernel_rfl) (opens_int Tryd.underlying26)))) (fun _ => rfl) (fun _ h => h)
def q32 (x : S32) : Prop := (Lit.int .i64 x.f0).wf = true ∧ (Lit.int .u64 x.f1).wf = true ∧ x.f2.size ≤ 140737488351232 ∧ q28 x.f3 ∧ q30 x.f4
theorem op32 {H : Type} {enc : TypeId × Value → H} : Opens enc Tryd.prog 32 k32 q32 :=
  opens_struct (g := fun b => ⟨b.1, b.2.1, b.2.2.1, b.2.2.2.1, b.2.2.2.2⟩) Tryd.underlying32 (by kernel_rfl) (opensF_cons rfl (by kernel_rfl) (by first | rfl | kernel_rfl) (opens_int Tryd.underlying3) (opensF_cons rfl (by kernel_rfl) (by first | rfl | kernel_rfl) (opens_int Tryd.underlying26) (opensF_cons rfl (by kernel_rfl) (by first | rfl | kernel_rfl) (opens_string Tryd.underlying9) (opensF_cons rfl (by kernel_rfl) (by first | rfl | kernel_rfl) op28 (opensF_one rfl (by kernel_rfl) (by first | rfl | kernel_rfl) op30))))) (fun _ => rfl) (fun _ h => h)
def q35 (x : S35) : Prop := (Lit.int .i64 x.f0).wf = true ∧ q32 x.f1 ∧ (x.f2.length ≤ maxLen ∧ x.f2.length * 1 ≤ 140737488351232 ∧ ∀ y ∈ x.f2, (Lit.int .u8 y).wf = true)
theorem op35 {H : Type} {enc : TypeId × Value → H} : Opens enc Tryd.prog 35 k35 q35 :=
  opens_struct (g := fun b => ⟨b.1, b.2.1, b.2.2⟩) Tryd.underlying35 (by kernel_rfl) (opensF_cons rfl (by kernel_rfl) (by first | rfl | kernel_rfl) (opens_int Tryd.underlying3) (opensF_cons rfl (by kernel_rfl) (by first | rfl | kernel_rfl) op32 (opensF_one rfl (by kernel_rfl) (by first | rfl | kernel_rfl) (opens_slice (B := 1) Tryd.underlying33 (by kernel_rfl) (by kernel_rfl) (opens_int Tryd.underlying5))))) (fun _ => rfl) (fun _ h => h)
end Go.Proofs.YtkgjepmminmjjaaDoor.E
