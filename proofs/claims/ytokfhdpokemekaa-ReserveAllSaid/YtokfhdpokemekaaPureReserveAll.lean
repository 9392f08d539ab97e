/- ReserveAll: every call of layer 17 equals the document's answer. -/
import Derived.Test.YtokfhdpokemekaaMAsk17
import Derived.Test.YtokfhdpokemekaaMResR
import Derived.Test.YtokfhdpokemekaaQSReserveAll
import Derived.Test.YtokfhdpokemekaaQx44
namespace Go.Proofs.Ytokfhdpokemekaa.Pure
set_option linter.unusedVariables false
open Go.RowKit Go.Proofs.Ytokfhdpokemekaa.Q Go.Proofs.Ytokfhdpokemekaa.M Go.Proofs.YtokfhdpokemekaaW.PrintWords Go.Proofs.YtokfhdpokemekaaW.PrintMore
theorem plays {c : Cfg} {p : Pol} {v t : Lev} {now n : Int} (kind : Int) (hc : c.U) (hp : p.U) (hv : v.U) (ht : t.U) (hw : U now) (hn : U n) (k : Nat) (hk : 70 ≤ k) :
    turnstilelaw17_plays.f (k + 3) kind c.block c.credit c.keys c.blocks c.every p.kind p.gap p.slack p.lim p.span v.tat v.ix v.cnt t.tat t.ix t.cnt now n = some true := by
  unfold turnstilelaw17_plays.f
  by_cases h1 : kind = 1
  · rw [if_pos h1, R17Valid, RValid]; simp
  rw [if_neg h1]
  by_cases h2 : kind = 2
  · rw [if_pos h2, RCeil hc hv, R17Ceil hc hp hv]; simp
  rw [if_neg h2]
  by_cases h3 : kind = 3
  · rw [if_pos h3, RWithin hc hv, R17Within hc hp hv]; simp
  rw [if_neg h3]
  by_cases h4 : kind = 4
  · rw [if_pos h4, show k + 3 = (k + 2) + 1 from rfl, RChoose hc hp hv hw hn, show k + 2 + 1 = k + 3 from rfl, R17Choose hc hp hv hw hn k hk]; simp
  rw [if_neg h4]
theorem rd55_mem {l : List S55} {i : Int} (h0 : 0 ≤ i) (h1 : i < (l.length : Int)) (h : ∀ y ∈ l, q55 y) : q55 (rd_T55 l i) := by
  unfold rd_T55
  have hi : i.toNat < l.length := by omega
  rw [List.getD_eq_getElem?_getD, List.getElem?_eq_getElem hi]
  exact h _ (List.getElem_mem hi)
theorem all_loop (l : List S55) (hl : l.length ≤ maxLen) (h : ∀ y ∈ l, q55 y) : ∀ (d : Nat) (k : Nat) (i : Int), 0 ≤ i → (l.length : Int) ≤ i + d → i ≤ l.length → d + 80 ≤ k → turnstilelaw17_ReserveAll.l0 k l true i = some true := by
  unfold maxLen at hl
  intro d
  induction d with
  | zero =>
    intro k i h0 h1 h2 hk
    obtain ⟨k, rfl⟩ : ∃ j, k = j + 1 := ⟨k - 1, by omega⟩
    rw [turnstilelaw17_ReserveAll.l0, if_neg (by omega)]
  | succ d ih =>
    intro k i h0 h1 h2 hk
    obtain ⟨k, rfl⟩ : ∃ j, k = j + 3 + 1 := ⟨k - 4, by omega⟩
    rw [turnstilelaw17_ReserveAll.l0]
    by_cases hlt : i < (l.length : Int)
    · obtain ⟨hc, hp, hv, ht, hw, hn⟩ := op_U (rd55_mem h0 hlt h)
      have e := plays (rd_T55 l i).f0 hc hp hv ht hw hn k (by omega)
      simp only [oC, oP, oV, oT] at e
      rw [if_pos hlt, if_pos rfl, if_pos h0, e, Option.bind_some]
      have hwr : wrap64 (i + 1) = i + 1 := by unfold wrap64; omega
      rw [hwr]
      exact ih (k + 3) (i + 1) (by omega) (by omega) (by omega) (by omega)
    · rw [if_neg hlt]
theorem ReserveAll : ReserveAll.Pure := by
  intro l hl
  obtain ⟨hl, _, h⟩ := hl
  refine ⟨l.length + 90 + 1, ?_⟩
  unfold turnstilelaw17_ReserveAll.f
  rw [awake17, Option.bind_some]
  exact all_loop l hl h l.length (l.length + 90 + 1) 0 (by omega) (by omega) (by omega) (by omega)
end Go.Proofs.Ytokfhdpokemekaa.Pure
