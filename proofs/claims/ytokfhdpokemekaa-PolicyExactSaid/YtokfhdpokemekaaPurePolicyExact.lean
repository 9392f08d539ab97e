/- PolicyExact: every answer of every call of layer 6 is the document's. -/
import Derived.Test.YtokfhdpokemekaaMAsk6
import Derived.Test.YtokfhdpokemekaaMPolR
import Derived.Test.YtokfhdpokemekaaQSPolicyExact
import Derived.Test.YtokfhdpokemekaaQx28
namespace Go.Proofs.Ytokfhdpokemekaa.Pure
set_option linter.unusedVariables false
open Go.RowKit Go.Proofs.Ytokfhdpokemekaa.Q Go.Proofs.Ytokfhdpokemekaa.M Go.Proofs.YtokfhdpokemekaaW.PrintWords Go.Proofs.YtokfhdpokemekaaW.PrintMore
theorem right {p : Pol} {v x : Lev} {now n : Int} (hp : p.U) (hv : v.U) (hx : x.U) (hw : U now) (hn : U n) (k : Nat) (hk : 80 ≤ k) :
    turnstilelaw06_right.f (k + 4) p.kind p.gap p.slack p.lim p.span v.tat v.ix v.cnt x.tat x.ix x.cnt now n = some true := by
  unfold turnstilelaw06_right.f
  rw [PValid, R6Valid, Option.bind_some, Option.bind_some, if_neg (by simp), PFits, R6Fits, Option.bind_some, Option.bind_some, bne_self_eq_false, turnstilelaw06_right.j0, if_neg (by decide)]
  rw [show k + 3 = (k + 2) + 1 from rfl, PAdmit hp hv hw hn, show k + 2 + 1 = k + 3 from rfl, R6Admit hp hv hw hn k (by omega)]
  simp only [Option.bind_some]
  rw [if_neg (by simp), if_neg (by simp), if_pos (by trivial), show k + 3 = (k + 2) + 1 from rfl, PLeft hp hv hw _ (by omega), R6Left hp hv hw _ (by omega)]
  simp only [Option.bind_some]
  rw [bne_self_eq_false, turnstilelaw06_right.j1, if_neg (by decide), PCovers, R6Covers, PMax, R6Max]
  simp only [Option.bind_some]
  rw [if_pos (by simp)]
  simp
theorem rd31_mem {l : List S31} {i : Int} (h0 : 0 ≤ i) (h1 : i < (l.length : Int)) (h : ∀ y ∈ l, q31 y) : q31 (rd_T31 l i) := by
  unfold rd_T31
  have hi : i.toNat < l.length := by omega
  rw [List.getD_eq_getElem?_getD, List.getElem?_eq_getElem hi]
  exact h _ (List.getElem_mem hi)
theorem exact_loop (l : List S31) (hl : l.length ≤ maxLen) (h : ∀ y ∈ l, q31 y) : ∀ (d : Nat) (k : Nat) (i : Int), 0 ≤ i → (l.length : Int) ≤ i + d → i ≤ l.length → d + 90 ≤ k → turnstilelaw06_PolicyExact.l0 k l i = some true := by
  unfold maxLen at hl
  intro d
  induction d with
  | zero =>
    intro k i h0 h1 h2 hk
    obtain ⟨k, rfl⟩ : ∃ j, k = j + 1 := ⟨k - 1, by omega⟩
    rw [turnstilelaw06_PolicyExact.l0, if_neg (by omega)]
  | succ d ih =>
    intro k i h0 h1 h2 hk
    obtain ⟨k, rfl⟩ : ∃ j, k = j + 4 + 1 := ⟨k - 5, by omega⟩
    rw [turnstilelaw06_PolicyExact.l0]
    by_cases hlt : i < (l.length : Int)
    · obtain ⟨hp, hv, hx, hw, hn⟩ := ask_U (rd31_mem h0 hlt h)
      have e := right hp hv hx hw hn k (by omega)
      simp only [aP, aV, aW] at e
      rw [if_pos hlt, if_pos h0, e, Option.bind_some, if_pos rfl]
      have hwr : wrap64 (i + 1) = i + 1 := by unfold wrap64; omega
      rw [hwr]
      exact ih (k + 4) (i + 1) (by omega) (by omega) (by omega) (by omega)
    · rw [if_neg hlt]
theorem PolicyExact : PolicyExact.Pure := by
  intro l hl
  obtain ⟨hl, _, h⟩ := hl
  refine ⟨l.length + 97 + 3, ?_⟩
  unfold turnstilelaw06_PolicyExact.f
  rw [awake6 (l.length + 97) (by omega), Option.bind_some, if_pos rfl]
  exact exact_loop l hl h l.length (l.length + 97 + 3) 0 (by omega) (by omega) (by omega) (by omega)
end Go.Proofs.Ytokfhdpokemekaa.Pure
