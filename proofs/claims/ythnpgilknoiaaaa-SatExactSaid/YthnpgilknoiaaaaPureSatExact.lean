/- SatExact: every answer of every call of layer 3 is the document's. -/
import Derived.Test.YthnpgilknoiaaaaMRef3Q
import Derived.Test.YthnpgilknoiaaaaMRef3D
import Derived.Test.YthnpgilknoiaaaaQSSatExact
import Derived.Test.YthnpgilknoiaaaaQx10
import Derived.Test.YthnpgilknoiaaaaQx11
import Derived.Test.YthnpgilknoiaaaaQx14
import Derived.Test.YthnpgilknoiaaaaQx16
namespace Go.Proofs.Ythnpgilknoiaaaa.Pure
set_option linter.unusedVariables false
open Go.RowKit Go.Proofs.Ythnpgilknoiaaaa.Q Go.Proofs.Ythnpgilknoiaaaa.M Go.Proofs.YthnpgilknoiaaaaW.PrintWords Go.Proofs.YthnpgilknoiaaaaW.PrintMore
theorem RefSub {a b : Int} (ua : U a) (ub : U b) : turnstileref03_Sub.f a b = some (if b ≤ a then a - b else 0) := by
  unfold turnstileref03_Sub.f
  by_cases h : b ≤ a
  · rw [if_neg (by omega), if_pos h, wr_id (by unfold U at *; omega)]
  · rw [if_pos (by omega), if_neg h]
theorem diff (a : Int × Int) : (!(a.1 == a.1) || (!(a.2 == a.2))) = false := by simp
theorem right_j3 {h l c x y : Int} (uh : U h) (ul : U l) (uc : U c) (k : Nat) (hk : 410 ≤ k) : turnstilelaw03_right.j3 k false h l c x h l h l = some true := by
  obtain ⟨m, rfl⟩ : ∃ m, k = m + 1 := ⟨k - 1, by omega⟩
  rw [turnstilelaw03_right.j3, if_neg (by decide), DivMod uh ul uc m (by omega), RefDivMod uh ul uc m (by omega), Option.bind_some, Option.bind_some]
  unfold turnstilelaw03_wide.f
  rw [Option.bind_some, if_pos (by simp)]
  simp
theorem right_j2 {h l c x : Int} (uh : U h) (ul : U l) (uc : U c) (k : Nat) (hk : 411 ≤ k) : turnstilelaw03_right.j2 k false h l c x h l h l = some true := by
  obtain ⟨m, rfl⟩ : ∃ m, k = m + 1 := ⟨k - 1, by omega⟩
  have e := Narrow (V_of uh ul)
  rw [W_of ul] at e
  have e2 : turnstileref03_Wide_Narrow.f h l = some (if h * 18446744073709551616 + l < 18446744073709551616 then (h * 18446744073709551616 + l, true) else (0, false)) := by
    unfold turnstileref03_Wide_Narrow.f U at *
    by_cases h0 : h = 0
    · rw [if_pos h0, if_pos (by omega)]; congr 2; omega
    · rw [if_neg h0, if_neg (by omega)]
  rw [turnstilelaw03_right.j2, if_neg (by decide), e, e2, Option.bind_some, Option.bind_some, if_pos rfl, bne_self_eq_false]
  exact right_j3 (y := l) uh ul uc m (by omega)
theorem right_j1 {h l c d : Int} (uh : U h) (ul : U l) (uc : U c) (ud : U d) (k : Nat) (hk : 412 ≤ k) : turnstilelaw03_right.j1 k false h l c d = some true := by
  obtain ⟨m, rfl⟩ : ∃ m, k = m + 1 := ⟨k - 1, by omega⟩
  have v1 := V_of uh ul
  have v2 := V_of uc ud
  have p1 := Plus v1 v2
  have m1 := Minus v1 v2
  have m2 := Minus v2 v1
  have c1 := Cmp v1 v2
  rw [W_of ul, W_of ud] at p1 m1 m2 c1
  rw [turnstilelaw03_right.j1, if_neg (by decide)]
  unfold turnstilelaw03_wide.f
  simp only [Option.bind_some]
  rw [p1, RefPlus uh ul uc ud m (by omega)]
  simp only [Option.bind_some]
  rw [if_neg (by simp), m1, RefMinus uh ul uc ud m (by omega)]
  simp only [Option.bind_some]
  rw [if_neg (by simp), c1, RefCmp uh ul uc ud m (by omega), Option.bind_some, Option.bind_some, if_pos rfl, m2, RefMinus uc ud uh ul m (by omega)]
  simp only [Option.bind_some]
  rw [diff]
  exact right_j2 uh ul uc m (by omega)
theorem right_j0 {h l c d : Int} (uh : U h) (ul : U l) (uc : U c) (ud : U d) (k : Nat) (hk : 413 ≤ k) : turnstilelaw03_right.j0 k false h l c d = some true := by
  obtain ⟨m, rfl⟩ : ∃ m, k = m + 1 := ⟨k - 1, by omega⟩
  rw [turnstilelaw03_right.j0, if_neg (by decide), Of]
  unfold turnstileref03_Of.f turnstilelaw03_wide.f
  simp only [Option.bind_some]
  rw [if_neg (by simp), Product uh uc, RefProduct uh uc m (by omega)]
  simp only [Option.bind_some]
  rw [diff]
  exact right_j1 uh ul uc ud m (by omega)
theorem right {a b c d : Int} (ua : U a) (ub : U b) (uc : U c) (ud : U d) (k : Nat) (hk : 413 ≤ k) : turnstilelaw03_right.f k a b c d = some true := by
  unfold turnstilelaw03_right.f
  rw [Add ua ub, RefAdd ua ub k (by omega), Option.bind_some, Option.bind_some, if_pos rfl, Sub ua ub, RefSub ua ub, Option.bind_some, Option.bind_some, if_pos rfl, Mul ua ub, RefMul ua ub k (by omega), Option.bind_some, Option.bind_some, bne_self_eq_false]
  exact right_j0 ua ub uc ud k hk
theorem rd40_mem {l : List S40} {i : Int} (h0 : 0 ≤ i) (h1 : i < (l.length : Int)) (h : ∀ y ∈ l, q40 y) : q40 (rd_T40 l i) := by
  unfold rd_T40
  have hi : i.toNat < l.length := by omega
  rw [List.getD_eq_getElem?_getD, List.getElem?_eq_getElem hi]
  exact h _ (List.getElem_mem hi)
theorem exact_loop (l : List S40) (hl : l.length ≤ maxLen) (h : ∀ y ∈ l, q40 y) : ∀ (d : Nat) (k : Nat) (i : Int), 0 ≤ i → (l.length : Int) ≤ i + d → i ≤ l.length → d + 415 ≤ k → turnstilelaw03_SatExact.l0 k l i = some true := by
  unfold maxLen at hl
  intro d
  induction d with
  | zero =>
    intro k i h0 h1 h2 hk
    obtain ⟨k, rfl⟩ : ∃ j, k = j + 1 := ⟨k - 1, by omega⟩
    rw [turnstilelaw03_SatExact.l0, if_neg (by omega)]
  | succ d ih =>
    intro k i h0 h1 h2 hk
    obtain ⟨k, rfl⟩ : ∃ j, k = j + 1 := ⟨k - 1, by omega⟩
    rw [turnstilelaw03_SatExact.l0]
    by_cases hlt : i < (l.length : Int)
    · obtain ⟨h1', h2', h3', h4'⟩ := rd40_mem h0 hlt h
      rw [if_pos hlt, if_pos h0, right (U_wf h1') (U_wf h2') (U_wf h3') (U_wf h4') k (by omega), Option.bind_some, if_pos rfl]
      have hwr : wrap64 (i + 1) = i + 1 := by unfold wrap64; omega
      rw [hwr]
      exact ih k (i + 1) (by omega) (by omega) (by omega) (by omega)
    · rw [if_neg hlt]
theorem SatExact : SatExact.Pure := by
  intro l hl
  obtain ⟨hl, _, h⟩ := hl
  refine ⟨l.length + 430, ?_⟩
  unfold turnstilelaw03_SatExact.f
  rw [awake3 (l.length + 430) (by omega), Option.bind_some, if_pos rfl]
  exact exact_loop l hl h l.length (l.length + 430) 0 (by omega) (by omega) (by omega) (by omega)
end Go.Proofs.Ythnpgilknoiaaaa.Pure
