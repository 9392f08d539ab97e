/- GcraRetries: every Retry, Burst and Delay. -/
import Derived.Test.YthnpgilknoiaaaaMLives
import Derived.Test.YthnpgilknoiaaaaMRef4
import Derived.Test.YthnpgilknoiaaaaQSGcraRetries
namespace Go.Proofs.Ythnpgilknoiaaaa.Pure
set_option linter.unusedVariables false
open Go.RowKit Go.Proofs.Ythnpgilknoiaaaa.Q Go.Proofs.Ythnpgilknoiaaaa.M Go.Proofs.YthnpgilknoiaaaaW.PrintWords Go.Proofs.YthnpgilknoiaaaaW.PrintMore
theorem rd46_mem' {l : List S46} {i : Int} (h0 : 0 ≤ i) (h1 : i < (l.length : Int)) (h : ∀ y ∈ l, q46 y) : q46 (rd_T46 l i) := by
  unfold rd_T46
  have hi : i.toNat < l.length := by omega
  rw [List.getD_eq_getElem?_getD, List.getElem?_eq_getElem hi]
  exact h _ (List.getElem_mem hi)
theorem retries_loop (l : List S46) (hl : l.length ≤ maxLen) (h : ∀ y ∈ l, q46 y) : ∀ (d : Nat) (k : Nat) (i : Int), 0 ≤ i → (l.length : Int) ≤ i + d → i ≤ l.length → d + 75 ≤ k → turnstilelaw04_GcraRetries.l0 k l i = some true := by
  unfold maxLen at hl
  intro d
  induction d with
  | zero =>
    intro k i h0 h1 h2 hk
    obtain ⟨k, rfl⟩ : ∃ j, k = j + 1 := ⟨k - 1, by omega⟩
    rw [turnstilelaw04_GcraRetries.l0, if_neg (by omega)]
  | succ d ih =>
    intro k i h0 h1 h2 hk
    obtain ⟨k, rfl⟩ : ∃ j, k = j + 2 := ⟨k - 2, by omega⟩
    rw [turnstilelaw04_GcraRetries.l0]
    by_cases hlt : i < (l.length : Int)
    · obtain ⟨hg, hs, ht, hw, hn⟩ := rd46_mem' h0 hlt h
      replace hg := U_wf hg
      replace hs := U_wf hs
      replace ht := U_wf ht
      replace hw := U_wf hw
      replace hn := U_wf hn
      rw [if_pos hlt, if_pos h0, Retry hg hs ht hw hn, r4Retry hg hs ht hw hn k (by omega), Burst hg hs ht hw k (by omega), r4Burst hg hs ht hw k (by omega), Delay hg hs ht hw, r4Delay hg hs ht hw k (by omega)]
      simp only [Option.bind_some, if_true]
      have hwr : wrap64 (i + 1) = i + 1 := by unfold wrap64; omega
      rw [hwr]
      exact ih (k + 1) (i + 1) (by omega) (by omega) (by omega) (by omega)
    · rw [if_neg hlt]
theorem GcraRetries : GcraRetries.Pure := by
  intro l hl
  obtain ⟨hl, _, h⟩ := hl
  refine ⟨l.length + 100, ?_⟩
  unfold turnstilelaw04_GcraRetries.f
  rw [show l.length + 100 = l.length + 99 + 1 from rfl, lives (l.length + 99) (by omega)]
  simp only [Option.bind_some, if_true]
  exact retries_loop l hl h l.length (l.length + 99 + 1) 0 (by omega) (by omega) (by omega) (by omega)
end Go.Proofs.Ythnpgilknoiaaaa.Pure
