/- The laws' comparison of bytes, plainly. -/
import Derived.Test.YtkgjepmminmjjaaDoorMImgL
import Derived.Test.YtkgjepmminmjjaaDoorEx29
namespace Go.Proofs.YtkgjepmminmjjaaDoor.M
set_option linter.unusedVariables false
set_option linter.unusedSimpArgs false
open Go.RowKit Go.Proofs.YtkgjepmminmjjaaDoor.E Go.Proofs.YtkgjepmminmjjaaDoorW.PrintWords Go.Proofs.YtkgjepmminmjjaaDoorW.PrintLast Go.Proofs.YtkgjepmminmjjaaDoorW.PrintMore Go.Proofs.YtkgjepmminmjjaaDoorW.PrintShort
theorem same_go (x y : List Int) (hl : x.length ≤ 9223372036854775806) (hm : x.length = y.length) : ∀ (d i k : Nat), x.length - i = d → i ≤ x.length → d + 1 ≤ k →
    ∃ r, turnstilelaw14_same.l0 k x y (i : Int) = some r ∧ (r = true ↔ x.drop i = y.drop i)
  | 0, i, k, hd, hi, hk => by
    obtain ⟨k, rfl⟩ : ∃ q, k = q + 1 := ⟨k - 1, by omega⟩
    unfold turnstilelaw14_same.l0
    rw [if_neg (by omega)]
    exact ⟨true, rfl, by simp [List.drop_eq_nil_of_le (show x.length ≤ i by omega), List.drop_eq_nil_of_le (show y.length ≤ i by omega)]⟩
  | d + 1, i, k, hd, hi, hk => by
    obtain ⟨k, rfl⟩ : ∃ q, k = q + 1 := ⟨k - 1, by omega⟩
    have h1 : i < x.length := by omega
    have h2 : i < y.length := by omega
    have p1 : (i : Int) < (x.length : Int) := by omega
    have p2 : (i : Int) < (y.length : Int) := by omega
    have p0 : (0 : Int) ≤ (i : Int) := by omega
    have hw : wrap64 ((i : Int) + 1) = ((i + 1 : Nat) : Int) := by unfold wrap64; omega
    obtain ⟨r, hr, hiff⟩ := same_go x y hl hm d (i + 1) k (by omega) (by omega) (by omega)
    have e1 : rd x (i : Int) = x[i] := by unfold rd; simp [List.getD_eq_getElem?_getD, List.getElem?_eq_getElem h1]
    have e2 : rd y (i : Int) = y[i] := by unfold rd; simp [List.getD_eq_getElem?_getD, List.getElem?_eq_getElem h2]
    unfold turnstilelaw14_same.l0
    rw [if_pos p1, if_pos p0, if_pos p2, e1, e2, List.drop_eq_getElem_cons h1, List.drop_eq_getElem_cons h2, hw]
    by_cases he : x[i] = y[i]
    · rw [if_pos he]
      refine ⟨r, hr, ?_⟩
      rw [hiff]
      constructor
      · intro h; rw [he, h]
      · intro h; exact (List.cons.inj h).2
    · rw [if_neg he]
      refine ⟨false, rfl, ?_⟩
      constructor
      · intro h; cases h
      · intro h; exact absurd (List.cons.inj h).1 he
theorem same_f (x y : List Int) (hl : x.length ≤ 9223372036854775806) (k : Nat) (hk : x.length + 1 ≤ k) : ∃ r, turnstilelaw14_same.f k x y = some r ∧ (r = true ↔ x = y) := by
  unfold turnstilelaw14_same.f
  by_cases hm : x.length = y.length
  · rw [if_pos (by omega)]
    obtain ⟨r, hr, hi⟩ := same_go x y hl hm x.length 0 k (by omega) (by omega) hk
    exact ⟨r, hr, by rw [hi, List.drop_zero, List.drop_zero]⟩
  · rw [if_neg (by omega)]
    refine ⟨false, rfl, ?_⟩
    constructor
    · intro h; cases h
    · rintro rfl; exact absurd rfl hm
theorem same_self (x : List Int) (hl : x.length ≤ 9223372036854775806) (k : Nat) (hk : x.length + 1 ≤ k) : turnstilelaw14_same.f k x x = some true := by
  obtain ⟨r, hr, hi⟩ := same_f x x hl k hk
  rw [hr, hi.2 rfl]
end Go.Proofs.YtkgjepmminmjjaaDoor.M
