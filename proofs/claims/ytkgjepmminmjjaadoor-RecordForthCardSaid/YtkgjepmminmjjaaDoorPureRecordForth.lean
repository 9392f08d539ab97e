import Derived.Test.YtkgjepmminmjjaaDoorEx31
import Derived.Test.YtkgjepmminmjjaaDoorEo
import Derived.Test.YtkgjepmminmjjaaDoorMRecD
/- Written by the session's own program hyb.py: what functions of the program compute; Lean checks it. -/
namespace Go.Proofs.YtkgjepmminmjjaaDoor.E
open Go.RowKit Go.ChangeShapes Go.WideShapes
def RecordForth.Pure : Prop := ∀ (l0 : List Int), (l0.length ≤ maxLen ∧ l0.length * 1 ≤ 140737488351232 ∧ ∀ y ∈ l0, (Lit.int .u8 y).wf = true) → ∃ k, turnstilelaw11_RecordForth.f k l0 = some true
end Go.Proofs.YtkgjepmminmjjaaDoor.E
namespace Go.Proofs.YtkgjepmminmjjaaDoor.Pure
set_option linter.unusedVariables false
set_option linter.unusedSimpArgs false
open Go.RowKit Go.Proofs.YtkgjepmminmjjaaDoor.E Go.Proofs.YtkgjepmminmjjaaDoor.M Go.Proofs.YtkgjepmminmjjaaDoorW.PrintWords Go.Proofs.YtkgjepmminmjjaaDoorW.PrintLast

theorem By_wf {l : List Int} (h : ∀ y ∈ l, (Lit.int .u8 y).wf = true) : By l := fun x hx => by
  have := h x hx
  simp [Lit.wf, IntKind.min, IntKind.max, IntKind.signed, IntKind.bits] at this
  omega
theorem RecordForth : RecordForth.Pure := by
  intro l q
  obtain ⟨q0, q1, q2⟩ := q
  have hB : By l := By_wf q2
  have hl : l.length ≤ 140737488351232 := by omega
  refine ⟨l.length + 20, ?_⟩
  have key : (∃ e : Int, (e = 2 ∨ e = 3) ∧ record_Decode.f (l.length + 20) l = some (Rec.zero.out e)) ∨ ∃ r, RV r ∧ Raw r ∧ l = enc r ∧ record_Decode.f (l.length + 20) l = some (r.out 0) := by
    rcases Dec_form l hB (by omega) (l.length + 17) with h | ⟨b, ys, _, _, h⟩ | ⟨r, rest, hr, hrest, e⟩
    · exact Or.inl ⟨2, Or.inl rfl, h⟩
    · exact Or.inl ⟨3, Or.inr rfl, h⟩
    · have hD := Dec_enc hr rest hrest (by rw [← e]; omega) (l.length + 17)
      rw [← e] at hD
      unfold dec decOut at hD
      by_cases c : rest.length > 0 ∨ ¬ RV r
      · rw [if_pos c] at hD
        exact Or.inl ⟨3, Or.inr rfl, hD⟩
      · rw [if_neg c] at hD
        have v : RV r := Classical.not_not.1 (fun n => c (Or.inr n))
        have e0 : rest = [] := List.length_eq_zero_iff.1 (by have : ¬ rest.length > 0 := fun n => c (Or.inl n); omega)
        exact Or.inr ⟨r, v, hr, by rw [e, e0, List.append_nil], hD⟩
  have hA : turnstilelaw11_awake.f (l.length + 20) = some true := awake_at (l.length + 6)
  unfold turnstilelaw11_RecordForth.f
  rw [hA, Option.bind_some, if_pos rfl, Option.bind_some, if_pos (by simp; omega), List.nil_append]
  rcases key with ⟨e, he, hd⟩ | ⟨r, v, hr, el, hD⟩
  · rw [hd, Option.bind_some]
    rcases he with rfl | rfl
    · simp [Rec.out, Rec.zero]
    · simp [Rec.out, Rec.zero]
  · have hn := enc_len v
    have hE := REncode r (Raw_un hr) (l.length + 14)
    have hV := RValid r (l.length + 19)
    rw [if_pos v] at hE
    unfold encf at hE
    unfold vrec at hV
    rw [hD, Option.bind_some]
    simp only [Rec.out, Int.le_refl, if_true]
    rw [hE, Option.bind_some, hV, Option.bind_some, if_pos (decide_eq_true v)]
    simp only [Int.le_refl, if_true]
    rw [el, same_self (enc r) (by omega) _ (by omega)]
    rfl

end Go.Proofs.YtkgjepmminmjjaaDoor.Pure
