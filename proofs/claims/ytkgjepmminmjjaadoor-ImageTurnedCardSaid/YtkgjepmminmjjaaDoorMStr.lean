/- The order of texts, plainly: it is an order, and a search by halves in a rising row finds how many stand ahead. -/
import Derived.Test.YtkgjepmminmjjaaDoorWAll
import Derived.Test.YtkgjepmminmjjaaDoorMBase
import Derived.Test.YtkgjepmminmjjaaDoorEx0
namespace Go.Proofs.YtkgjepmminmjjaaDoor.M
open Go.RowKit Go.Proofs.YtkgjepmminmjjaaDoor.E Go.Proofs.YtkgjepmminmjjaaDoorW.PrintWords Go.Proofs.YtkgjepmminmjjaaDoorW.PrintLast Go.Proofs.YtkgjepmminmjjaaDoorW.PrintMore
theorem bl_irrefl : ∀ x : List UInt8, Op.bytesLess x x = false
  | [] => rfl
  | a :: x => by
    rw [Op.bytesLess]
    simp [bl_irrefl x]
theorem bl_trans : ∀ {x y z : List UInt8}, Op.bytesLess x y = true → Op.bytesLess y z = true → Op.bytesLess x z = true
  | [], [], _, h, _ => by simp [Op.bytesLess] at h
  | [], b :: y, [], _, h => by simp [Op.bytesLess] at h
  | [], b :: y, c :: z, _, _ => rfl
  | a :: x, [], _, h, _ => by simp [Op.bytesLess] at h
  | a :: x, b :: y, [], _, h => by simp [Op.bytesLess] at h
  | a :: x, b :: y, c :: z, h1, h2 => by
    simp only [Op.bytesLess, Bool.or_eq_true, Bool.and_eq_true, decide_eq_true_eq, beq_iff_eq] at h1 h2 ⊢
    rcases h1 with h1 | ⟨e1, h1⟩ <;> rcases h2 with h2 | ⟨e2, h2⟩
    · left; exact UInt8.lt_trans h1 h2
    · subst e2; left; exact h1
    · subst e1; left; exact h2
    · subst e1; subst e2; right; exact ⟨rfl, bl_trans h1 h2⟩
theorem bl_tri : ∀ {x y : List UInt8}, Op.bytesLess x y = false → Op.bytesLess y x = false → x = y
  | [], [], _, _ => rfl
  | [], b :: y, h, _ => by simp [Op.bytesLess] at h
  | a :: x, [], _, h => by simp [Op.bytesLess] at h
  | a :: x, b :: y, h1, h2 => by
    simp only [Op.bytesLess, Bool.or_eq_false_iff, Bool.and_eq_false_iff, decide_eq_false_iff_not, beq_eq_false_iff_ne] at h1 h2
    have e : a = b := by
      have := h1.1
      have := h2.1
      apply UInt8.toNat_inj.1
      have h3 : ¬ a.toNat < b.toNat := fun h => h1.1 (UInt8.lt_iff_toNat_lt.2 h)
      have h4 : ¬ b.toNat < a.toNat := fun h => h2.1 (UInt8.lt_iff_toNat_lt.2 h)
      omega
    subst e
    rw [bl_tri (h1.2.resolve_left (by simp)) (h2.2.resolve_left (by simp))]
theorem bl_asymm {x y : List UInt8} (h : Op.bytesLess x y = true) : Op.bytesLess y x = false := by
  cases e : Op.bytesLess y x
  · rfl
  · have := bl_trans h e
    rw [bl_irrefl] at this
    cases this
/-- The keys of a row rise (n of them). -/
def Rise (l : List S79) (n : Nat) : Prop := ∀ i, i + 1 < n → Op.bytesLess (rd_T79 l (i : Nat)).f0.toList (rd_T79 l ((i + 1 : Nat) : Int)).f0.toList = true
theorem Rise.lt {l : List S79} {n : Nat} (h : Rise l n) : ∀ (d i : Nat), i + d + 1 < n → Op.bytesLess (rd_T79 l (i : Nat)).f0.toList (rd_T79 l ((i + d + 1 : Nat) : Int)).f0.toList = true
  | 0, i, hi => h i hi
  | d + 1, i, hi => bl_trans (Rise.lt h d i (by omega)) (h (i + d + 1) (by omega))
theorem Rise.lt' {l : List S79} {n i j : Nat} (h : Rise l n) (hij : i < j) (hj : j < n) : Op.bytesLess (rd_T79 l (i : Nat)).f0.toList (rd_T79 l ((j : Nat) : Int)).f0.toList = true := by
  have := Rise.lt h (j - i - 1) i (by omega)
  rwa [show i + (j - i - 1) + 1 = j by omega] at this
end Go.Proofs.YtkgjepmminmjjaaDoor.M
