import Derived.Test.YtkgjepmminmjjaaDoorEx30
import Derived.Test.YtkgjepmminmjjaaDoorEo
import Derived.Test.YtkgjepmminmjjaaDoorMRecD
/- Written by the session's own program hyb.py: what functions of the program compute; Lean checks it. -/
namespace Go.Proofs.YtkgjepmminmjjaaDoor.E
open Go.RowKit Go.ChangeShapes Go.WideShapes
def RecordBack.Pure : Prop := ∀ (x0 : S32), q32 x0 → ∃ k, turnstilelaw11_RecordBack.f k (x0.f0) (x0.f1) (x0.f2) (x0.f3.f0) (x0.f3.f1) (x0.f3.f2) (x0.f3.f3) (x0.f3.f4) (x0.f4.f0) (x0.f4.f1) (x0.f4.f2) = some true
end Go.Proofs.YtkgjepmminmjjaaDoor.E
namespace Go.Proofs.YtkgjepmminmjjaaDoor.Pure
set_option linter.unusedVariables false
set_option linter.unusedSimpArgs false
open Go.RowKit Go.Proofs.YtkgjepmminmjjaaDoor.E Go.Proofs.YtkgjepmminmjjaaDoor.M Go.Proofs.YtkgjepmminmjjaaDoorW.PrintWords Go.Proofs.YtkgjepmminmjjaaDoorW.PrintLast

theorem RecordBack : RecordBack.Pure := by
  intro x q
  obtain ⟨q0, q1, q2, ⟨q3, q4, q5, q6, q7⟩, q8, q9, q10⟩ := q
  let r : Rec := ⟨x.f0, x.f1, x.f2, x.f3.f0, x.f3.f1, x.f3.f2, x.f3.f3, x.f3.f4, x.f4.f0, x.f4.f1, x.f4.f2⟩
  have hu : r.Un := ⟨U_wf q1, U_wf q4, U_wf q5, U_wf q6, U_wf q7, U_wf q8, U_wf q9, U_wf q10⟩
  refine ⟨20, ?_⟩
  have hA := awake_at 6
  have hE := REncode r hu 14
  have hV := RValid r 19
  unfold encf at hE
  unfold vrec at hV
  have goal : ∀ (a0 a1 : Int) (a2 : ByteArray) (a3 a4 a5 a6 a7 a8 a9 a10 : Int), r = ⟨a0, a1, a2, a3, a4, a5, a6, a7, a8, a9, a10⟩ → turnstilelaw11_RecordBack.f 20 a0 a1 a2 a3 a4 a5 a6 a7 a8 a9 a10 = some true := by
    intro a0 a1 a2 a3 a4 a5 a6 a7 a8 a9 a10 hr
    rw [hr] at hE hV
    simp only at hE hV
    unfold turnstilelaw11_RecordBack.f
    rw [hA, Option.bind_some, if_pos rfl, hE, Option.bind_some, hV, Option.bind_some]
    rw [← hr]
    by_cases v : RV r
    · have hl := enc_len v
      have hD := Dec_enc (Raw_of hu v) [] By.nil (by rw [List.append_nil]; omega) 17
      unfold dec decOut at hD
      rw [List.append_nil, if_neg (by simp [v])] at hD
      rw [if_pos (decide_eq_true v), if_pos v]
      simp only
      rw [hD, Option.bind_some, hr]
      rw [hr] at hl
      simp only [Rec.out, Int.le_refl, if_true, beq_self_eq_true, Bool.and_self]
      rw [if_pos (by omega)]
      exact congrArg some (decide_eq_true (by omega))
    · rw [if_neg (by simpa using v), if_neg v]
      simp
  exact goal _ _ _ _ _ _ _ _ _ _ _ rfl

end Go.Proofs.YtkgjepmminmjjaaDoor.Pure
