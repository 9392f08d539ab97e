/- Plain lemmas on 64-bit numbers, as the printed functions spell them. -/
import Derived.Test.YtnhngjhodcikiaaDoorWAll
import Derived.Laws.BitsLemmas
import Derived.Laws.Wrap64
namespace Go.Proofs.YtnhngjhodcikiaaDoor.M
open Go.RowKit Go.Proofs.YtnhngjhodcikiaaDoorW.PrintWords Go.Proofs.YtnhngjhodcikiaaDoorW.PrintLast Go.Proofs.YtnhngjhodcikiaaDoorW.PrintMore

/-- A number of 64 bits. -/
def U (x : Int) : Prop := 0 ≤ x ∧ x < 18446744073709551616
theorem U_wf {x : Int} (h : (Lit.int .u64 x).wf = true) : U x := by
  simp [Lit.wf, IntKind.min, IntKind.max, IntKind.signed, IntKind.bits] at h
  unfold U; omega
theorem wr (n : Int) : IntKind.u64.wrap n = n % 18446744073709551616 := IntKind.wrap_u64 n
theorem U_wr (n : Int) : U (IntKind.u64.wrap n) := by rw [wr]; unfold U; omega
theorem wr_id {n : Int} (h : U n) : IntKind.u64.wrap n = n := by rw [wr]; unfold U at h; omega
theorem hk64 (n : Int) (h0 : 0 ≤ n) (h1 : n < 2 ^ 64) : IntKind.u64.wrap n = n := by
  apply wr_id; unfold U; simp at h1; omega
theorem and32 {x : Int} (h : U x) : Go.bits .and .u64 x 4294967295 = x % 4294967296 := by
  have := bits_mask .u64 64 (by decide) hk64 32 (by decide) x h.1 (by unfold U at h; simp; omega)
  simpa using this
theorem tdiv_of {a b : Int} (h : 0 ≤ a) : Int.tdiv a b = a / b := Int.tdiv_eq_ediv_of_nonneg h
theorem tmod_of {a b : Int} (h : 0 ≤ a) : Int.tmod a b = a % b := Int.tmod_eq_emod_of_nonneg h
theorem mul_lt {a b A B : Int} (ha : 0 ≤ a) (hb : 0 ≤ b) (hA : a ≤ A) (hB : b ≤ B) : 0 ≤ a * b ∧ a * b ≤ A * B :=
  ⟨Int.mul_nonneg ha hb, Int.mul_le_mul hA hB hb (by omega)⟩
end Go.Proofs.YtnhngjhodcikiaaDoor.M
