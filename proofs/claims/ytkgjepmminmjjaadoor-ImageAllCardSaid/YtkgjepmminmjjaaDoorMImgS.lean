import Derived.Test.YtkgjepmminmjjaaDoorMImgD
import Derived.Test.YtkgjepmminmjjaaDoorEo
import Derived.Test.YtkgjepmminmjjaaDoorEx25
import Derived.Test.YtkgjepmminmjjaaDoorEx26
import Derived.Test.YtkgjepmminmjjaaDoorEx27
import Derived.Test.YtkgjepmminmjjaaDoorEx29
/- The laws' own functions over states and bytes, plainly. -/
namespace Go.Proofs.YtkgjepmminmjjaaDoor.M
set_option linter.unusedVariables false
set_option linter.unusedSimpArgs false
open Go.RowKit Go.Proofs.YtkgjepmminmjjaaDoor.E Go.Proofs.YtkgjepmminmjjaaDoorW.PrintWords Go.Proofs.YtkgjepmminmjjaaDoorW.PrintLast Go.Proofs.YtkgjepmminmjjaaDoorW.PrintMore Go.Proofs.YtkgjepmminmjjaaDoorW.PrintShort
theorem copied_f (a b : Int) (l : List S79) (h : l.length * 80 ≤ 140737488351232) : turnstilelaw14_copied.f a b l = some (a, b, l) := by
  unfold turnstilelaw14_copied.f
  rw [Option.bind_some, if_pos (by simp; omega), List.nil_append]
theorem wide_go (a b : Int) (l : List S79) : ∀ (d i k : Nat) (s : Int), l.length - i = d → d < k → ∃ r, turnstilelaw14_wide.l0 k s (i : Int) a b l = some r
  | 0, i, k, s, hd, hk => by
    obtain ⟨k, rfl⟩ : ∃ q, k = q + 1 := ⟨k - 1, by omega⟩
    unfold turnstilelaw14_wide.l0
    rw [if_neg (by omega)]
    split <;> exact ⟨_, rfl⟩
  | d + 1, i, k, s, hd, hk => by
    obtain ⟨k, rfl⟩ : ∃ q, k = q + 1 := ⟨k - 1, by omega⟩
    unfold turnstilelaw14_wide.l0
    rw [if_pos (by omega)]
    by_cases h1 : s ≤ 16777216
    · rw [if_pos h1]
      by_cases h2 : (i : Int) ≤ 1048576
      · rw [if_pos h2, if_pos (by omega)]
        have hw : wrap64 ((i : Int) + 1) = ((i + 1 : Nat) : Int) := by unfold wrap64; omega
        rw [hw]
        exact wide_go a b l d (i + 1) k _ (by omega) (by omega)
      · rw [if_neg h2]
        split <;> exact ⟨_, rfl⟩
    · rw [if_neg h1]
      split <;> exact ⟨_, rfl⟩
theorem wide_ex (a b : Int) (l : List S79) (k : Nat) (hk : l.length < k) : ∃ r, turnstilelaw14_wide.f k a b l = some r := wide_go a b l l.length 0 k 0 (by omega) hk
theorem BA_ext {s t : ByteArray} (h : s.toList = t.toList) : s = t := by
  rw [ByteArray.toList_eq, ByteArray.toList_eq] at h
  obtain ⟨a⟩ := s
  obtain ⟨b⟩ := t
  have : a = b := Array.toList_inj.1 h
  rw [this]
theorem neE_iff (E F : S79) : neE E F = false ↔ E = F := by
  constructor
  · intro h
    unfold neE at h
    simp only [Bool.or_eq_false_iff, Bool.not_eq_false', beq_iff_eq] at h
    obtain ⟨h0, ⟨h1, h2, h3, h4, h5⟩, h6, h7, h8⟩ := h
    exact S79_eq (E := F) (BA_ext h0.symm) h1.symm h2.symm h3.symm h4.symm h5.symm h6.symm h7.symm h8.symm
  · rintro rfl
    exact neE_self E
theorem alike_go (a0 a1 b0 b1 : Int) (l m : List S79) (hl : l.length ≤ 9223372036854775806) (hm : l.length = m.length) : ∀ (d i k : Nat), l.length - i = d → i ≤ l.length → d + 1 ≤ k →
    ∃ r, turnstilelaw14_alike.l0 k (i : Int) a0 a1 l b0 b1 m = some r ∧ (r = true ↔ l.drop i = m.drop i)
  | 0, i, k, hd, hi, hk => by
    obtain ⟨k, rfl⟩ : ∃ q, k = q + 1 := ⟨k - 1, by omega⟩
    unfold turnstilelaw14_alike.l0
    rw [if_neg (by omega)]
    exact ⟨true, rfl, by simp [List.drop_eq_nil_of_le (show l.length ≤ i by omega), List.drop_eq_nil_of_le (show m.length ≤ i by omega)]⟩
  | d + 1, i, k, hd, hi, hk => by
    obtain ⟨k, rfl⟩ : ∃ q, k = q + 1 := ⟨k - 1, by omega⟩
    have h1 : i < l.length := by omega
    have h2 : i < m.length := by omega
    have e1 : rd_T79 l (i : Int) = l[i] := by unfold rd_T79; simp [List.getD_eq_getElem?_getD, List.getElem?_eq_getElem h1]
    have e2 : rd_T79 m (i : Int) = m[i] := by unfold rd_T79; simp [List.getD_eq_getElem?_getD, List.getElem?_eq_getElem h2]
    have hw : wrap64 ((i : Int) + 1) = ((i + 1 : Nat) : Int) := by unfold wrap64; omega
    unfold turnstilelaw14_alike.l0
    rw [if_pos (by omega), if_pos (by omega), if_pos (by omega), e1, e2, List.drop_eq_getElem_cons h1, List.drop_eq_getElem_cons h2, hw]
    by_cases hn : neE l[i] m[i] = true
    · refine ⟨false, ?_, ?_⟩
      · exact if_pos hn
      · constructor
        · intro h; cases h
        · intro h
          have := (neE_iff _ _).2 (List.cons.inj h).1
          rw [this] at hn
          cases hn
    · have hn2 : neE l[i] m[i] = false := by simpa using hn
      obtain ⟨r, hr, hiff⟩ := alike_go a0 a1 b0 b1 l m hl hm d (i + 1) k (by omega) (by omega) (by omega)
      refine ⟨r, ?_, ?_⟩
      · exact (if_neg hn).trans hr
      · rw [hiff]
        have he := (neE_iff _ _).1 hn2
        constructor
        · intro h; rw [he, h]
        · intro h; exact (List.cons.inj h).2
theorem alike_f (a0 a1 b0 b1 : Int) (l m : List S79) (hl : l.length ≤ 9223372036854775806) (k : Nat) (hk : l.length + 2 ≤ k) :
    ∃ r, turnstilelaw14_alike.f k a0 a1 l b0 b1 m = some r ∧ (r = true ↔ (a0 = b0 ∧ a1 = b1 ∧ l = m)) := by
  obtain ⟨k, rfl⟩ : ∃ q, k = q + 1 := ⟨k - 1, by omega⟩
  unfold turnstilelaw14_alike.f
  have no : ∀ x, x = true → turnstilelaw14_alike.j0 (k + 1) x a0 a1 l b0 b1 m = some false := by
    intro x hx
    rw [turnstilelaw14_alike.j0, if_pos hx]
  by_cases h0 : a0 = b0
  · rw [if_pos h0]
    by_cases h1 : a1 = b1
    · rw [if_pos h1]
      by_cases hm : l.length = m.length
      · obtain ⟨r, hr, hiff⟩ := alike_go a0 a1 b0 b1 l m hl hm l.length 0 k (by omega) (by omega) (by omega)
        refine ⟨r, ?_, ?_⟩
        · rw [turnstilelaw14_alike.j0, if_neg (by simp [hm])]
          exact hr
        · rw [hiff, List.drop_zero, List.drop_zero]
          exact ⟨fun h => ⟨h0, h1, h⟩, fun h => h.2.2⟩
      · refine ⟨false, no _ (by simp; omega), ?_⟩
        constructor
        · intro h; cases h
        · rintro ⟨_, _, rfl⟩; exact absurd rfl hm
    · rw [if_neg h1]
      exact ⟨false, no _ rfl, ⟨fun h => (by cases h), fun h => absurd h.2.1 h1⟩⟩
  · rw [if_neg h0]
    exact ⟨false, no _ rfl, ⟨fun h => (by cases h), fun h => absurd h.1 h0⟩⟩
theorem alike_self (a0 a1 : Int) (l : List S79) (hl : l.length ≤ 9223372036854775806) (k : Nat) (hk : l.length + 2 ≤ k) : turnstilelaw14_alike.f k a0 a1 l a0 a1 l = some true := by
  obtain ⟨r, hr, hi⟩ := alike_f a0 a1 a0 a1 l l hl k hk
  rw [hr, hi.2 ⟨rfl, rfl, rfl⟩]
def E1 : S79 := ⟨⟨#[107]⟩, ⟨1, 10, 30, 0, 0⟩, ⟨140, 0, 0⟩⟩
theorem E1_u : ∀ E ∈ [E1], EU E := by
  intro E hE
  rw [List.mem_singleton.1 hE]
  exact ⟨⟨by decide, by decide⟩, ⟨by decide, by decide⟩, ⟨by decide, by decide⟩, ⟨by decide, by decide⟩, ⟨by decide, by decide⟩, ⟨by decide, by decide⟩, ⟨by decide, by decide⟩⟩
theorem E1_v : valB 7 [E1] = true := by decide +kernel
theorem img1 : (imgS 7 100 [E1]).length = 56 ∧ rd (imgS 7 100 [E1]) 0 = 84 ∧ rd (imgS 7 100 [E1]) 4 = 7 ∧ rd (imgS 7 100 [E1]) 52 = 16 ∧ rd (imgS 7 100 [E1]) 55 = 156 := by decide +kernel
theorem awake_ok (k : Nat) (hk : 50 ≤ k) : turnstilelaw14_awake.f k = some true := by
  obtain ⟨k, rfl⟩ : ∃ q, k = q + 1 := ⟨k - 1, by omega⟩
  have u7 : U 7 := ⟨by decide, by decide⟩
  have u1 : U 100 := ⟨by decide, by decide⟩
  obtain ⟨hl, hv⟩ := val_VE E1_v
  have he := enc_ok u7 u1 hl hv E1_u E1_v (k + 1) (by simp; omega)
  have hd := dec_img u7 u1 E1_u E1_v
  have hs := alike_self 7 100 [E1] (by simp) k (by simp; omega)
  obtain ⟨i0, i1, i2, i3, i4⟩ := img1
  unfold turnstilelaw14_awake.f
  rw [Option.bind_some, show ([(⟨(⟨#[107]⟩ : ByteArray), (⟨1, 10, 30, 0, 0⟩ : S28), (⟨140, 0, 0⟩ : S30)⟩ : S79)] : List (S79)) = [E1] from rfl, he, Option.bind_some]
  dsimp only
  rw [if_pos (by decide), if_pos rfl, if_pos (by rw [i0]; rfl), if_pos (by rw [i0]; decide), if_pos i1, if_pos (by rw [i0]; decide), if_pos i2, if_pos (by rw [i0]; decide), if_pos i3, if_pos (by rw [i0]; decide)]
  rw [turnstilelaw14_awake.j0, if_neg (by rw [i4]; decide), hd, Option.bind_some]
  dsimp only
  rw [if_pos (by decide), if_pos rfl, hs, Option.bind_some]
theorem EU_of {E : S79} (h : q79 E) : EU E := ⟨U_wf h.2.1.2.1, U_wf h.2.1.2.2.1, U_wf h.2.1.2.2.2.1, U_wf h.2.1.2.2.2.2, U_wf h.2.2.1, U_wf h.2.2.2.1, U_wf h.2.2.2.2⟩
end Go.Proofs.YtkgjepmminmjjaaDoor.M
/- The laws' comparison of bytes, plainly. -/
namespace Go.Proofs.YtkgjepmminmjjaaDoor.M
set_option linter.unusedVariables false
set_option linter.unusedSimpArgs false
open Go.RowKit Go.Proofs.YtkgjepmminmjjaaDoor.E Go.Proofs.YtkgjepmminmjjaaDoorW.PrintWords Go.Proofs.YtkgjepmminmjjaaDoorW.PrintLast Go.Proofs.YtkgjepmminmjjaaDoorW.PrintMore Go.Proofs.YtkgjepmminmjjaaDoorW.PrintShort
theorem same_go (x y : List Int) (hl : x.length ≤ 9223372036854775806) (hm : x.length = y.length) : ∀ (d i k : Nat), x.length - i = d → i ≤ x.length → d + 1 ≤ k →
    ∃ r, turnstilelaw14_same.l0 k x y (i : Int) = some r ∧ (r = true ↔ x.drop i = y.drop i)
  | 0, i, k, hd, hi, hk => by
    obtain ⟨k, rfl⟩ : ∃ q, k = q + 1 := ⟨k - 1, by omega⟩
    unfold turnstilelaw14_same.l0
    rw [if_neg (by omega)]
    exact ⟨true, rfl, by simp [List.drop_eq_nil_of_le (show x.length ≤ i by omega), List.drop_eq_nil_of_le (show y.length ≤ i by omega)]⟩
  | d + 1, i, k, hd, hi, hk => by
    obtain ⟨k, rfl⟩ : ∃ q, k = q + 1 := ⟨k - 1, by omega⟩
    have h1 : i < x.length := by omega
    have h2 : i < y.length := by omega
    have p1 : (i : Int) < (x.length : Int) := by omega
    have p2 : (i : Int) < (y.length : Int) := by omega
    have p0 : (0 : Int) ≤ (i : Int) := by omega
    have hw : wrap64 ((i : Int) + 1) = ((i + 1 : Nat) : Int) := by unfold wrap64; omega
    obtain ⟨r, hr, hiff⟩ := same_go x y hl hm d (i + 1) k (by omega) (by omega) (by omega)
    have e1 : rd x (i : Int) = x[i] := by unfold rd; simp [List.getD_eq_getElem?_getD, List.getElem?_eq_getElem h1]
    have e2 : rd y (i : Int) = y[i] := by unfold rd; simp [List.getD_eq_getElem?_getD, List.getElem?_eq_getElem h2]
    unfold turnstilelaw14_same.l0
    rw [if_pos p1, if_pos p0, if_pos p2, e1, e2, List.drop_eq_getElem_cons h1, List.drop_eq_getElem_cons h2, hw]
    by_cases he : x[i] = y[i]
    · rw [if_pos he]
      refine ⟨r, hr, ?_⟩
      rw [hiff]
      constructor
      · intro h; rw [he, h]
      · intro h; exact (List.cons.inj h).2
    · rw [if_neg he]
      refine ⟨false, rfl, ?_⟩
      constructor
      · intro h; cases h
      · intro h; exact absurd (List.cons.inj h).1 he
theorem same_f (x y : List Int) (hl : x.length ≤ 9223372036854775806) (k : Nat) (hk : x.length + 1 ≤ k) : ∃ r, turnstilelaw14_same.f k x y = some r ∧ (r = true ↔ x = y) := by
  unfold turnstilelaw14_same.f
  by_cases hm : x.length = y.length
  · rw [if_pos (by omega)]
    obtain ⟨r, hr, hi⟩ := same_go x y hl hm x.length 0 k (by omega) (by omega) hk
    exact ⟨r, hr, by rw [hi, List.drop_zero, List.drop_zero]⟩
  · rw [if_neg (by omega)]
    refine ⟨false, rfl, ?_⟩
    constructor
    · intro h; cases h
    · rintro rfl; exact absurd rfl hm
theorem same_self (x : List Int) (hl : x.length ≤ 9223372036854775806) (k : Nat) (hk : x.length + 1 ≤ k) : turnstilelaw14_same.f k x x = some true := by
  obtain ⟨r, hr, hi⟩ := same_f x x hl k hk
  rw [hr, hi.2 rfl]
end Go.Proofs.YtkgjepmminmjjaaDoor.M
