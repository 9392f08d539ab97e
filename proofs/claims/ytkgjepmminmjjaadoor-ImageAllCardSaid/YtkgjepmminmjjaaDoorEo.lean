/- Written by the session's own program hyb.py: what functions of the program compute; Lean checks it. -/
import Derived.Test.YtkgjepmminmjjaaDoorEx0
import Derived.Test.YtkgjepmminmjjaaDoorWOpen
namespace Go.Proofs.YtkgjepmminmjjaaDoor.E
open Go.ChangeShapes Go.WideShapes Go.RowKit Go.Proofs.YtkgjepmminmjjaaDoorW.PrintWords Go.Proofs.YtkgjepmminmjjaaDoorW.PrintOpen
set_option linter.unusedVariables false
def q28 (x : S28) : Prop := (Lit.int .i64 x.f0).wf = true ∧ (Lit.int .u64 x.f1).wf = true ∧ (Lit.int .u64 x.f2).wf = true ∧ (Lit.int .u64 x.f3).wf = true ∧ (Lit.int .u64 x.f4).wf = true
theorem op28 {H : Type} {enc : TypeId × Value → H} : Opens enc Tryd.prog 28 k28 q28 :=
  opens_struct (g := fun b => ⟨b.1, b.2.1, b.2.2.1, b.2.2.2.1, b.2.2.2.2⟩) Tryd.underlying28 (by kernel_rfl) (opensF_cons rfl (by kernel_rfl) (by first | rfl | kernel_rfl) (opens_int Tryd.underlying3) (opensF_cons rfl (by kernel_rfl) (by first | rfl | kernel_rfl) (opens_int Tryd.underlying26) (opensF_cons rfl (by kernel_rfl) (by first | rfl | kernel_rfl) (opens_int Tryd.underlying26) (opensF_cons rfl (by kernel_rfl) (by first | rfl | kernel_rfl) (opens_int Tryd.underlying26) (opensF_one rfl (by kernel_rfl) (by first | rfl | kernel_rfl) (opens_int Tryd.underlying26)))))) (fun _ => rfl) (fun _ h => h)
def q30 (x : S30) : Prop := (Lit.int .u64 x.f0).wf = true ∧ (Lit.int .u64 x.f1).wf = true ∧ (Lit.int .u64 x.f2).wf = true
theorem op30 {H : Type} {enc : TypeId × Value → H} : Opens enc Tryd.prog 30 k30 q30 :=
  opens_struct (g := fun b => ⟨b.1, b.2.1, b.2.2⟩) Tryd.underlying30 (by kernel_rfl) (opensF_cons rfl (by kernel_rfl) (by first | rfl | kernel_rfl) (opens_int Tryd.underlying26) (opensF_cons rfl (by kernel_rfl) (by first | rfl | kernel_rfl) (opens_int Tryd.underlying26) (opensF_one rfl (by kernel_rfl) (by first | rfl | kernel_rfl) (opens_int Tryd.underlying26)))) (fun _ => rfl) (fun _ h => h)
def q79 (x : S79) : Prop := x.f0.size ≤ 140737488351232 ∧ q28 x.f1 ∧ q30 x.f2
theorem op79 {H : Type} {enc : TypeId × Value → H} : Opens enc Tryd.prog 79 k79 q79 :=
  opens_struct (g := fun b => ⟨b.1, b.2.1, b.2.2⟩) Tryd.underlying79 (by kernel_rfl) (opensF_cons rfl (by kernel_rfl) (by first | rfl | kernel_rfl) (opens_string Tryd.underlying9) (opensF_cons rfl (by kernel_rfl) (by first | rfl | kernel_rfl) op28 (opensF_one rfl (by kernel_rfl) (by first | rfl | kernel_rfl) op30))) (fun _ => rfl) (fun _ h => h)
def q51 (x : S51) : Prop := (Lit.int .u64 x.f0).wf = true ∧ (Lit.int .u64 x.f1).wf = true ∧ (x.f2.length ≤ maxLen ∧ x.f2.length * 80 ≤ 140737488351232 ∧ ∀ y ∈ x.f2, q79 y)
theorem op51 {H : Type} {enc : TypeId × Value → H} : Opens enc Tryd.prog 51 k51 q51 :=
  opens_struct (g := fun b => ⟨b.1, b.2.1, b.2.2⟩) Tryd.underlying51 (by kernel_rfl) (opensF_cons rfl (by kernel_rfl) (by first | rfl | kernel_rfl) (opens_int Tryd.underlying26) (opensF_cons rfl (by kernel_rfl) (by first | rfl | kernel_rfl) (opens_int Tryd.underlying26) (opensF_one rfl (by kernel_rfl) (by first | rfl | kernel_rfl) (opens_slice (B := 80) Tryd.underlying49 (by kernel_rfl) (by kernel_rfl) op79)))) (fun _ => rfl) (fun _ h => h)
def q53 (x : S53) : Prop := (Lit.int .i64 x.f0).wf = true ∧ q51 x.f1 ∧ (x.f2.length ≤ maxLen ∧ x.f2.length * 1 ≤ 140737488351232 ∧ ∀ y ∈ x.f2, (Lit.int .u8 y).wf = true)
theorem op53 {H : Type} {enc : TypeId × Value → H} : Opens enc Tryd.prog 53 k53 q53 :=
  opens_struct (g := fun b => ⟨b.1, b.2.1, b.2.2⟩) Tryd.underlying53 (by kernel_rfl) (opensF_cons rfl (by kernel_rfl) (by first | rfl | kernel_rfl) (opens_int Tryd.underlying3) (opensF_cons rfl (by kernel_rfl) (by first | rfl | kernel_rfl) op51 (opensF_one rfl (by kernel_rfl) (by first | rfl | kernel_rfl) (opens_slice (B := 1) Tryd.underlying33 (by kernel_rfl) (by kernel_rfl) (opens_int Tryd.underlying5))))) (fun _ => rfl) (fun _ h => h)
end Go.Proofs.YtkgjepmminmjjaaDoor.E
