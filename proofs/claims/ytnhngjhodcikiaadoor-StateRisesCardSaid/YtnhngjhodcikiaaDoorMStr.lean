/- The order of texts, plainly: it is an order, and a search by halves in a rising row finds how many stand ahead. -/
import Derived.Test.YtnhngjhodcikiaaDoorWAll
import Derived.Test.YtnhngjhodcikiaaDoorMBase
import Derived.Test.YtnhngjhodcikiaaDoorFx18
namespace Go.Proofs.YtnhngjhodcikiaaDoor.M
open Go.RowKit Go.Proofs.YtnhngjhodcikiaaDoor.F Go.Proofs.YtnhngjhodcikiaaDoorW.PrintWords Go.Proofs.YtnhngjhodcikiaaDoorW.PrintLast Go.Proofs.YtnhngjhodcikiaaDoorW.PrintMore
theorem bl_irrefl : ∀ x : List UInt8, Op.bytesLess x x = false
  | [] => rfl
  | a :: x => by
    rw [Op.bytesLess]
    simp [bl_irrefl x]
theorem bl_trans : ∀ {x y z : List UInt8}, Op.bytesLess x y = true → Op.bytesLess y z = true → Op.bytesLess x z = true
  | [], [], _, h, _ => by simp [Op.bytesLess] at h
  | [], b :: y, [], _, h => by simp [Op.bytesLess] at h
  | [], b :: y, c :: z, _, _ => rfl
  | a :: x, [], _, h, _ => by simp [Op.bytesLess] at h
  | a :: x, b :: y, [], _, h => by simp [Op.bytesLess] at h
  | a :: x, b :: y, c :: z, h1, h2 => by
    simp only [Op.bytesLess, Bool.or_eq_true, Bool.and_eq_true, decide_eq_true_eq, beq_iff_eq] at h1 h2 ⊢
    rcases h1 with h1 | ⟨e1, h1⟩ <;> rcases h2 with h2 | ⟨e2, h2⟩
    · left; exact UInt8.lt_trans h1 h2
    · subst e2; left; exact h1
    · subst e1; left; exact h2
    · subst e1; subst e2; right; exact ⟨rfl, bl_trans h1 h2⟩
theorem bl_tri : ∀ {x y : List UInt8}, Op.bytesLess x y = false → Op.bytesLess y x = false → x = y
  | [], [], _, _ => rfl
  | [], b :: y, h, _ => by simp [Op.bytesLess] at h
  | a :: x, [], _, h => by simp [Op.bytesLess] at h
  | a :: x, b :: y, h1, h2 => by
    simp only [Op.bytesLess, Bool.or_eq_false_iff, Bool.and_eq_false_iff, decide_eq_false_iff_not, beq_eq_false_iff_ne] at h1 h2
    have e : a = b := by
      have := h1.1
      have := h2.1
      apply UInt8.toNat_inj.1
      have h3 : ¬ a.toNat < b.toNat := fun h => h1.1 (UInt8.lt_iff_toNat_lt.2 h)
      have h4 : ¬ b.toNat < a.toNat := fun h => h2.1 (UInt8.lt_iff_toNat_lt.2 h)
      omega
    subst e
    rw [bl_tri (h1.2.resolve_left (by simp)) (h2.2.resolve_left (by simp))]
theorem bl_asymm {x y : List UInt8} (h : Op.bytesLess x y = true) : Op.bytesLess y x = false := by
  cases e : Op.bytesLess y x
  · rfl
  · have := bl_trans h e
    rw [bl_irrefl] at this
    cases this
/-- The keys of a row rise (n of them). -/
def Rise (l : List S56) (n : Nat) : Prop := ∀ i, i + 1 < n → Op.bytesLess (rd_T56 l (i : Nat)).f0.toList (rd_T56 l ((i + 1 : Nat) : Int)).f0.toList = true
theorem Rise.lt {l : List S56} {n : Nat} (h : Rise l n) : ∀ (d i : Nat), i + d + 1 < n → Op.bytesLess (rd_T56 l (i : Nat)).f0.toList (rd_T56 l ((i + d + 1 : Nat) : Int)).f0.toList = true
  | 0, i, hi => h i hi
  | d + 1, i, hi => bl_trans (Rise.lt h d i (by omega)) (h (i + d + 1) (by omega))
theorem Rise.lt' {l : List S56} {n i j : Nat} (h : Rise l n) (hij : i < j) (hj : j < n) : Op.bytesLess (rd_T56 l (i : Nat)).f0.toList (rd_T56 l ((j : Nat) : Int)).f0.toList = true := by
  have := Rise.lt h (j - i - 1) i (by omega)
  rwa [show i + (j - i - 1) + 1 = j by omega] at this
/-- The search by halves. -/
theorem s_spec {l : List S56} {key : List UInt8} (h : Rise l l.length) : ∀ (m i j : Nat), i ≤ j → j ≤ l.length → j - i < m →
    (∀ p, p < i → Op.bytesLess (rd_T56 l (p : Nat)).f0.toList key = true) → (∀ p, j ≤ p → p < l.length → Op.bytesLess (rd_T56 l (p : Nat)).f0.toList key = false) →
    ∀ kb : ByteArray, kb.toList = key → let r := state_Find.s l kb m i j; r ≤ l.length ∧ (∀ p, p < r → Op.bytesLess (rd_T56 l (p : Nat)).f0.toList key = true) ∧ (∀ p, r ≤ p → p < l.length → Op.bytesLess (rd_T56 l (p : Nat)).f0.toList key = false)
  | 0, i, j, _, _, h, _, _ => by omega
  | m + 1, i, j, hij, hj, hm, ha, hb => by
    intro kb hk
    unfold state_Find.s
    by_cases c : i < j
    · rw [if_pos c]
      by_cases d : Op.bytesLess (rd_T56 l (((i + j) / 2 : Nat) : Int)).f0.toList kb.toList = true
      · rw [if_pos d]
        refine s_spec h m ((i + j) / 2 + 1) j (by omega) hj (by omega) (fun p hp => ?_) hb kb hk
        rw [hk] at d
        rcases Nat.lt_or_ge p ((i + j) / 2) with hlt | hge
        · exact bl_trans (h.lt' hlt (by omega)) d
        · rw [show p = (i + j) / 2 by omega]
          exact d
      · rw [if_neg d]
        refine s_spec h m i ((i + j) / 2) (by omega) (by omega) (by omega) ha (fun p hp hl => ?_) kb hk
        rw [hk] at d
        rcases Nat.eq_or_lt_of_le hp with he | hlt
        · rw [← he]
          exact Bool.eq_false_iff.mpr d
        · cases e : Op.bytesLess (rd_T56 l (p : Nat)).f0.toList key
          · rfl
          · exact absurd (bl_trans (h.lt' hlt hl) e) d
    · rw [if_neg c]
      have : i = j := by omega
      subst this
      exact ⟨hj, ha, hb⟩
theorem find_spec {l : List S56} (key : ByteArray) (h : Rise l l.length) : state_Find.at_ l key ≤ l.length ∧ (∀ p, p < state_Find.at_ l key → Op.bytesLess (rd_T56 l (p : Nat)).f0.toList key.toList = true) ∧ (∀ p, state_Find.at_ l key ≤ p → p < l.length → Op.bytesLess (rd_T56 l (p : Nat)).f0.toList key.toList = false) :=
  s_spec h (l.length + 1) 0 l.length (Nat.zero_le _) (Nat.le_refl _) (by omega) (fun p hp => absurd hp (Nat.not_lt_zero _)) (fun p h1 h2 => by omega) key rfl
end Go.Proofs.YtnhngjhodcikiaaDoor.M
