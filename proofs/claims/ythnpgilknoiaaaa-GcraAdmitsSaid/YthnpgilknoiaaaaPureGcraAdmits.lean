/- GcraAdmits: every Admit, alone and one behind the other. -/
import Derived.Test.YthnpgilknoiaaaaMLives
import Derived.Test.YthnpgilknoiaaaaMRef4
import Derived.Test.YthnpgilknoiaaaaQSGcraAdmits
import Derived.Test.YthnpgilknoiaaaaQx22
namespace Go.Proofs.Ythnpgilknoiaaaa.Pure
set_option linter.unusedVariables false
open Go.RowKit Go.Proofs.Ythnpgilknoiaaaa.Q Go.Proofs.Ythnpgilknoiaaaa.M Go.Proofs.YthnpgilknoiaaaaW.PrintWords Go.Proofs.YthnpgilknoiaaaaW.PrintMore
theorem admits {g s t now n : Int} (hg : U g) (hs : U s) (ht : U t) (hw : U now) (hn : U n) (k : Nat) : turnstilelaw04_admits.f (k + 1) g s t now n = some true := by
  unfold turnstilelaw04_admits.f
  rw [r4Admit hg hs ht hw hn, Admit hg hs ht hw hn]
  simp
theorem rd46_mem {l : List S46} {i : Int} (h0 : 0 ≤ i) (h1 : i < (l.length : Int)) (h : ∀ y ∈ l, q46 y) : q46 (rd_T46 l i) := by
  unfold rd_T46
  have hi : i.toNat < l.length := by omega
  rw [List.getD_eq_getElem?_getD, List.getElem?_eq_getElem hi]
  exact h _ (List.getElem_mem hi)
theorem admits_loop (l : List S46) (hl : l.length ≤ maxLen) (h : ∀ y ∈ l, q46 y) : ∀ (d : Nat) (k : Nat) (i t : Int), 0 ≤ i → (l.length : Int) ≤ i + d → i ≤ l.length → d + 3 ≤ k → U t → turnstilelaw04_GcraAdmits.l0 k l t i = some true := by
  unfold maxLen at hl
  intro d
  induction d with
  | zero =>
    intro k i t h0 h1 h2 hk ht
    obtain ⟨k, rfl⟩ : ∃ j, k = j + 1 := ⟨k - 1, by omega⟩
    rw [turnstilelaw04_GcraAdmits.l0, if_neg (by omega)]
  | succ d ih =>
    intro k i t h0 h1 h2 hk ht
    obtain ⟨k, rfl⟩ : ∃ j, k = j + 2 := ⟨k - 2, by omega⟩
    rw [turnstilelaw04_GcraAdmits.l0]
    by_cases hlt : i < (l.length : Int)
    · obtain ⟨hg, hs, ht', hw, hn⟩ := rd46_mem h0 hlt h
      replace hg := U_wf hg
      replace hs := U_wf hs
      replace ht' := U_wf ht'
      replace hw := U_wf hw
      replace hn := U_wf hn
      rw [if_pos hlt, if_pos h0, admits hg hs ht' hw hn, admits hg hs ht hw hn, Admit hg hs ht hw hn]
      simp only [Option.bind_some, if_true]
      have hwr : wrap64 (i + 1) = i + 1 := by unfold wrap64; omega
      rw [hwr]
      refine ih (k + 1) (i + 1) _ (by omega) (by omega) (by omega) (by omega) ?_
      cases hA : gOk (rd_T46 l i).f0 (rd_T46 l i).f1 t (rd_T46 l i).f3 (rd_T46 l i).f4 with
      | true => exact admit_U ht hw hA
      | false => exact ht
    · rw [if_neg hlt]
theorem GcraAdmits : GcraAdmits.Pure := by
  intro l hl
  obtain ⟨hl, _, h⟩ := hl
  refine ⟨l.length + 30, ?_⟩
  unfold turnstilelaw04_GcraAdmits.f
  rw [show l.length + 30 = l.length + 29 + 1 from rfl, lives (l.length + 29) (by omega)]
  simp only [Option.bind_some, if_true]
  exact admits_loop l hl h l.length (l.length + 29 + 1) 0 0 (by omega) (by omega) (by omega) (by omega) (by unfold U; omega)
end Go.Proofs.Ythnpgilknoiaaaa.Pure
