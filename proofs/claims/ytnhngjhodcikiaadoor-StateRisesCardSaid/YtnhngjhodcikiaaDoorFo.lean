/- Written by the session's own program hyb.py: what functions of the program compute; Lean checks it. -/
import Derived.Test.YtnhngjhodcikiaaDoorFx0
import Derived.Test.YtnhngjhodcikiaaDoorWOpen
namespace Go.Proofs.YtnhngjhodcikiaaDoor.F
open Go.ChangeShapes Go.WideShapes Go.RowKit Go.Proofs.YtnhngjhodcikiaaDoorW.PrintWords Go.Proofs.YtnhngjhodcikiaaDoorW.PrintOpen
set_option linter.unusedVariables false
def q35 (x : S35) : Prop := (Lit.int .i64 x.f0).wf = true ∧ (Lit.int .u64 x.f1).wf = true ∧ (Lit.int .u64 x.f2).wf = true ∧ (Lit.int .u64 x.f3).wf = true ∧ (Lit.int .u64 x.f4).wf = true
theorem op35 {H : Type} {enc : TypeId × Value → H} : Opens enc Tryd.prog 35 k35 q35 :=
  opens_struct (g := fun b => ⟨b.1, b.2.1, b.2.2.1, b.2.2.2.1, b.2.2.2.2⟩) Tryd.underlying35 (by kernel_rfl) (opensF_cons rfl (by kernel_rfl) (by first | rfl | kernel_rfl) (opens_int Tryd.underlying3) (opensF_cons rfl (by kernel_rfl) (by first | rfl | kernel_rfl) (opens_int Tryd.underlying24) (opensF_cons rfl (by kernel_rfl) (by first | rfl | kernel_rfl) (opens_int Tryd.underlying24) (opensF_cons rfl (by kernel_rfl) (by first | rfl | kernel_rfl) (opens_int Tryd.underlying24) (opensF_one rfl (by kernel_rfl) (by first | rfl | kernel_rfl) (opens_int Tryd.underlying24)))))) (fun _ => rfl) (fun _ h => h)
def q37 (x : S37) : Prop := (Lit.int .u64 x.f0).wf = true ∧ (Lit.int .u64 x.f1).wf = true ∧ (Lit.int .u64 x.f2).wf = true
theorem op37 {H : Type} {enc : TypeId × Value → H} : Opens enc Tryd.prog 37 k37 q37 :=
  opens_struct (g := fun b => ⟨b.1, b.2.1, b.2.2⟩) Tryd.underlying37 (by kernel_rfl) (opensF_cons rfl (by kernel_rfl) (by first | rfl | kernel_rfl) (opens_int Tryd.underlying24) (opensF_cons rfl (by kernel_rfl) (by first | rfl | kernel_rfl) (opens_int Tryd.underlying24) (opensF_one rfl (by kernel_rfl) (by first | rfl | kernel_rfl) (opens_int Tryd.underlying24)))) (fun _ => rfl) (fun _ h => h)
def q56 (x : S56) : Prop := x.f0.size ≤ 140737488351232 ∧ q35 x.f1 ∧ q37 x.f2
theorem op56 {H : Type} {enc : TypeId × Value → H} : Opens enc Tryd.prog 56 k56 q56 :=
  opens_struct (g := fun b => ⟨b.1, b.2.1, b.2.2⟩) Tryd.underlying56 (by kernel_rfl) (opensF_cons rfl (by kernel_rfl) (by first | rfl | kernel_rfl) (opens_string Tryd.underlying9) (opensF_cons rfl (by kernel_rfl) (by first | rfl | kernel_rfl) op35 (opensF_one rfl (by kernel_rfl) (by first | rfl | kernel_rfl) op37))) (fun _ => rfl) (fun _ h => h)
def q27 (x : S27) : Prop := (Lit.int .u64 x.f0).wf = true ∧ (Lit.int .u64 x.f1).wf = true ∧ (x.f2.length ≤ maxLen ∧ x.f2.length * 80 ≤ 140737488351232 ∧ ∀ y ∈ x.f2, q56 y)
theorem op27 {H : Type} {enc : TypeId × Value → H} : Opens enc Tryd.prog 27 k27 q27 :=
  opens_struct (g := fun b => ⟨b.1, b.2.1, b.2.2⟩) Tryd.underlying27 (by kernel_rfl) (opensF_cons rfl (by kernel_rfl) (by first | rfl | kernel_rfl) (opens_int Tryd.underlying24) (opensF_cons rfl (by kernel_rfl) (by first | rfl | kernel_rfl) (opens_int Tryd.underlying24) (opensF_one rfl (by kernel_rfl) (by first | rfl | kernel_rfl) (opens_slice (B := 80) Tryd.underlying25 (by kernel_rfl) (by kernel_rfl) op56)))) (fun _ => rfl) (fun _ h => h)
def q39 (x : S39) : Prop := (Lit.int .i64 x.f0).wf = true ∧ (Lit.int .u64 x.f1).wf = true ∧ x.f2.size ≤ 140737488351232 ∧ q35 x.f3 ∧ q37 x.f4
theorem op39 {H : Type} {enc : TypeId × Value → H} : Opens enc Tryd.prog 39 k39 q39 :=
  opens_struct (g := fun b => ⟨b.1, b.2.1, b.2.2.1, b.2.2.2.1, b.2.2.2.2⟩) Tryd.underlying39 (by kernel_rfl) (opensF_cons rfl (by kernel_rfl) (by first | rfl | kernel_rfl) (opens_int Tryd.underlying3) (opensF_cons rfl (by kernel_rfl) (by first | rfl | kernel_rfl) (opens_int Tryd.underlying24) (opensF_cons rfl (by kernel_rfl) (by first | rfl | kernel_rfl) (opens_string Tryd.underlying9) (opensF_cons rfl (by kernel_rfl) (by first | rfl | kernel_rfl) op35 (opensF_one rfl (by kernel_rfl) (by first | rfl | kernel_rfl) op37))))) (fun _ => rfl) (fun _ h => h)
end Go.Proofs.YtnhngjhodcikiaaDoor.F
