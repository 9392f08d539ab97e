/- The reference's product of layer 3: rows of digits in base 2^16. -/
import Derived.Test.YthnpgilknoiaaaaMRef3
namespace Go.Proofs.Ythnpgilknoiaaaa.M
set_option linter.unusedVariables false
open Go.RowKit Go.Proofs.Ythnpgilknoiaaaa.Q Go.Proofs.YthnpgilknoiaaaaW.PrintWords
/-- The number of a row of digits, the lowest first. -/
def val : List Int → Int
  | [] => 0
  | d :: t => d + 65536 * val t
def Digs (l : List Int) : Prop := ∀ d ∈ l, 0 ≤ d ∧ d < 65536
theorem Digs.tail {d : Int} {t : List Int} (h : Digs (d :: t)) : Digs t := fun x hx => h x (List.mem_cons_of_mem _ hx)
theorem Digs.head {d : Int} {t : List Int} (h : Digs (d :: t)) : 0 ≤ d ∧ d < 65536 := h d (List.mem_cons_self ..)
theorem val_nonneg : ∀ {l : List Int}, Digs l → 0 ≤ val l
  | [], _ => by decide
  | d :: t, h => by
    have := val_nonneg h.tail
    have := h.head
    unfold val
    omega
theorem val_zero : ∀ {l : List Int}, Digs l → val l = 0 → ∀ d ∈ l, d = 0
  | [], _, _, d, hd => by cases hd
  | a :: t, h, h0, d, hd => by
    have h1 := val_nonneg h.tail
    have h2 := h.head
    unfold val at h0
    rcases List.mem_cons.1 hd with rfl | hd
    · omega
    · exact val_zero h.tail (by omega) d hd
theorem Digs.set {l : List Int} (h : Digs l) (i : Nat) {x : Int} (hx : 0 ≤ x ∧ x < 65536) : Digs (l.set i x) := fun d hd => by
  rcases List.mem_or_eq_of_mem_set hd with hd | rfl
  · exact h d hd
  · exact hx
theorem gd_lt {l : List Int} {i : Nat} (h : i < l.length) : l.getD i 0 = l[i] := by simp [List.getD_eq_getElem?_getD, h]
theorem gd_ge {l : List Int} {i : Nat} (h : l.length ≤ i) : l.getD i 0 = 0 := by simp [List.getD_eq_getElem?_getD, h]
theorem Digs.getD {l : List Int} (h : Digs l) (i : Nat) : 0 ≤ l.getD i 0 ∧ l.getD i 0 < 65536 := by
  by_cases hi : i < l.length
  · rw [gd_lt hi]; exact h _ (List.getElem_mem hi)
  · rw [gd_ge (by omega)]; decide
theorem val_set : ∀ (l : List Int) (i : Nat) (x : Int), i < l.length → val (l.set i x) = val l + (x - l.getD i 0) * 65536 ^ i
  | [], i, x, h => by simp at h
  | d :: t, 0, x, h => by simp [val]; omega
  | d :: t, i + 1, x, h => by
    have e := val_set t i x (by simpa using h)
    simp only [List.set_cons_succ, val, List.getD_cons_succ, e, Int.pow_succ]
    grind
theorem val_drop : ∀ (l : List Int) (j : Nat), j < l.length → val (l.drop j) = l.getD j 0 + 65536 * val (l.drop (j + 1))
  | [], j, h => by simp at h
  | d :: t, 0, h => by simp [val]
  | d :: t, j + 1, h => by
    have e := val_drop t j (by simpa using h)
    simpa using e
theorem wn64 (n : Nat) (h : n < 1000) : wrap64 (n : Int) = n := by
  unfold wrap64
  omega
/-- number over more than eight digits: the rest must be zero. -/
theorem num_tail {v a0 a1 a2 a3 a4 a5 a6 a7 : Int} (A : Dg v a0 a1 a2 a3 a4 a5 a6 a7) (t : List Int) (ht : t.length < 100) (hz : ∀ d ∈ t, d = 0) : ∀ (m i k : Nat), i + m = t.length → m + 20 ≤ k →
    turnstileref03_number.l0 k (a0 :: a1 :: a2 :: a3 :: a4 :: a5 :: a6 :: a7 :: t) ((8 + i : Nat) : Int) = some (W v)
  | 0, i, k, hi, hk => by
    obtain ⟨q, rfl⟩ : ∃ q, k = q + 1 := ⟨k - 1, by omega⟩
    rw [turnstileref03_number.l0, if_neg (by simp; omega)]
    exact num1 A t q (by omega)
  | m + 1, i, k, hi, hk => by
    obtain ⟨q, rfl⟩ : ∃ q, k = q + 1 := ⟨k - 1, by omega⟩
    have e : rd (a0 :: a1 :: a2 :: a3 :: a4 :: a5 :: a6 :: a7 :: t) ((8 + i : Nat) : Int) = 0 := by
      unfold rd
      have : ((8 + i : Nat) : Int).toNat = i + 8 := by omega
      rw [this]
      show t.getD i 0 = 0
      rw [gd_lt (by omega)]
      exact hz _ (List.getElem_mem _)
    rw [turnstileref03_number.l0, if_pos (by simp; omega), if_pos (by omega), if_pos e]
    have e2 : wrap64 (((8 + i : Nat) : Int) + 1) = ((8 + (i + 1) : Nat) : Int) := by
      have := wn64 (8 + (i + 1)) (by omega)
      rw [← this]
      congr 1
    rw [e2]
    exact num_tail A t ht hz m (i + 1) q (by omega) (by omega)
theorem rdN (l : List Int) (i : Nat) : rd l (i : Int) = l.getD i 0 := by unfold rd; rw [Int.toNat_natCast]
end Go.Proofs.Ythnpgilknoiaaaa.M
