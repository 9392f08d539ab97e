/- Plain lemmas on 64-bit numbers, as the printed functions spell them. -/
import Derived.Test.YtkgjepmminmjjaaDoorWAll
import Derived.Laws.BitsLemmas
import Derived.Laws.Wrap64
namespace Go.Proofs.YtkgjepmminmjjaaDoor.M
open Go.RowKit Go.Proofs.YtkgjepmminmjjaaDoorW.PrintWords Go.Proofs.YtkgjepmminmjjaaDoorW.PrintLast Go.Proofs.YtkgjepmminmjjaaDoorW.PrintMore
/-- A number of 64 bits. -/
def U (x : Int) : Prop := 0 ≤ x ∧ x < 18446744073709551616
theorem U_wf {x : Int} (h : (Lit.int .u64 x).wf = true) : U x := by
  simp [Lit.wf, IntKind.min, IntKind.max, IntKind.signed, IntKind.bits] at h
  unfold U; omega
theorem wr (n : Int) : IntKind.u64.wrap n = n % 18446744073709551616 := IntKind.wrap_u64 n
theorem wr_id {n : Int} (h : U n) : IntKind.u64.wrap n = n := by rw [wr]; unfold U at h; omega
end Go.Proofs.YtkgjepmminmjjaaDoor.M
