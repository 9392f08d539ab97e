/- StateLooks, plainly: Valid of every state, Find in those that are valid, Equal of every two, are the document's. -/
import Derived.Test.YtnhngjhodcikiaaDoorFSStateLooks
import Derived.Test.YtnhngjhodcikiaaDoorMLook
namespace Go.Proofs.YtnhngjhodcikiaaDoor.Pure
set_option linter.unusedVariables false
set_option linter.unusedSimpArgs false
open Go.RowKit Go.Proofs.YtnhngjhodcikiaaDoor.F Go.Proofs.YtnhngjhodcikiaaDoor.M Go.Proofs.YtnhngjhodcikiaaDoorW.PrintWords Go.Proofs.YtnhngjhodcikiaaDoorW.PrintLast Go.Proofs.YtnhngjhodcikiaaDoorW.PrintMore

theorem rd27 {l : List S27} {Q : S27 → Prop} (h : ∀ y ∈ l, Q y) {i : Nat} (hi : i < l.length) : Q (rd_T27 l (i : Nat)) := by
  have e : rd_T27 l (i : Nat) = l[i] := by
    show l.getD ((i : Int)).toNat z27 = l[i]
    rw [Int.toNat_natCast, List.getD_eq_getElem?_getD, List.getElem?_eq_getElem hi, Option.getD_some]
  rw [e]
  exact h _ (List.getElem_mem hi)
/-- A state that is not too great for so many rounds. -/
def Fine (K : Nat) (x : S27) : Prop := x.f2.length ≤ 9223372036854775806 ∧ ∃ S : Nat, S ≤ 9223372036854775806 ∧ (∀ e ∈ x.f2, e.f0.size ≤ S) ∧ x.f2.length + 2 * S + 9003 ≤ K
theorem round (l : List S27) (key : ByteArray) (K : Nat) (hl : l.length ≤ 9223372036854775806) (hF : ∀ y ∈ l, Fine K y) : ∀ (d i k : Nat), l.length - i = d → i ≤ l.length → 2 * d + K + 1 ≤ k → turnstilelaw13_StateLooks.l0 k l key (i : Int) = some true := by
  intro d
  induction d with
  | zero =>
    intro i k hd hi hk
    obtain ⟨k, rfl⟩ : ∃ m, k = m + 1 := ⟨k - 1, by omega⟩
    simp only [turnstilelaw13_StateLooks.l0]
    rw [if_neg (by omega)]
  | succ d ih =>
    intro i k hd hi hk
    obtain ⟨k, rfl⟩ : ∃ m, k = m + 2 := ⟨k - 2, by omega⟩
    have hlt : i < l.length := by omega
    have nxt := ih (i + 1) k (by omega) (by omega) (by omega)
    obtain ⟨h1, S, h2, h3, h4⟩ := rd27 hF hlt
    have fin : turnstilelaw13_StateLooks.j1 (k + 1) l key (i : Int) false (rd_T27 l (i : Nat)).f0 (rd_T27 l (i : Nat)).f1 (rd_T27 l (i : Nat)).f2 = some true := by
      simp only [turnstilelaw13_StateLooks.j1]
      rw [if_neg (by simp), equal_B _ _ _ _ _ _ h1 k (by omega), eqS_self, Option.bind_some, if_pos rfl, show wrap64 ((i : Int) + 1) = ((i + 1 : Nat) : Int) by unfold wrap64; omega]
      by_cases c : 0 < i
      · obtain ⟨g1, S', g2, g3, g4⟩ := rd27 hF (show i - 1 < l.length by omega)
        rw [if_pos (by omega), show wrap64 ((i : Int) - 1) = ((i - 1 : Nat) : Int) by unfold wrap64; omega, if_pos (by omega), if_pos (by omega)]
        rw [equal_B _ _ _ _ _ _ g1 k (by omega), Option.bind_some, requal_B _ _ _ _ _ _ g1 k (by omega), Option.bind_some, if_neg (by simp)]
        rw [equal_B _ _ _ _ _ _ h1 k (by omega), Option.bind_some, requal_B _ _ _ _ _ _ h1 k (by omega), Option.bind_some, if_neg (by simp)]
        exact nxt
      · rw [if_neg (by omega)]
        exact nxt
    simp only [turnstilelaw13_StateLooks.l0]
    rw [if_pos (by omega), if_pos (by omega), rvalid_B _ _ _ (k + 1) (by omega), Option.bind_some, valid_B, Option.bind_some, if_neg (by simp)]
    obtain ⟨n, b, e1, e2⟩ := rfind_B (rd_T27 l (i : Nat)).f2 key (rd_T27 l (i : Nat)).f0 (rd_T27 l (i : Nat)).f1 S h2 h1 h3 (k + 1) (by omega)
    rw [e1]
    simp only [state_Find.f, Option.bind_some]
    cases hv : valB (rd_T27 l (i : Nat)).f0 (rd_T27 l (i : Nat)).f2
    · rw [if_neg (by simp)]
      exact fin
    · obtain ⟨e3, e4⟩ := e2 (val_rise hv)
      rw [if_pos rfl, if_pos e3.symm, e4]
      simpa using fin
/-- The statement. -/
theorem StateLooks : StateLooks.Pure := by
  intro l a1 hq hs
  obtain ⟨K, hK⟩ : ∃ K : Nat, 422212465066700 ≤ K := ⟨_, Nat.le_refl _⟩
  have hl : l.length ≤ 9223372036854775806 := by have := hq.2.1; omega
  refine ⟨2 * l.length + K + 1, ?_⟩
  simp only [turnstilelaw13_StateLooks.f, turnstilelaw13_lives.f, Option.bind_some, if_true]
  refine round l a1 K hl (fun y hy => ?_) l.length 0 _ (by omega) (Nat.zero_le _) (Nat.le_refl _)
  have h := hq.2.2 y hy
  simp only [q27] at h
  refine ⟨by omega, 140737488351232, by omega, fun e he => (h.2.2.2.2 e he).1, by omega⟩
end Go.Proofs.YtnhngjhodcikiaaDoor.Pure
