import Derived.Test.YtkgjepmminmjjaaDoorESImageBack
import Derived.Test.YtkgjepmminmjjaaDoorMImgL
namespace Go.Proofs.YtkgjepmminmjjaaDoor.Pure
set_option linter.unusedVariables false
set_option linter.unusedSimpArgs false
open Go.RowKit Go.Proofs.YtkgjepmminmjjaaDoor.E Go.Proofs.YtkgjepmminmjjaaDoor.M Go.Proofs.YtkgjepmminmjjaaDoorW.PrintWords Go.Proofs.YtkgjepmminmjjaaDoorW.PrintLast

theorem ImageBack : ImageBack.Pure := by
  intro x q
  obtain ⟨q0, q1, q2, q3, q4⟩ := q
  have ua := U_wf q0
  have ub := U_wf q1
  have hu : ∀ E ∈ x.f2, EU E := fun E hE => EU_of (q4 E hE)
  generalize x.f0 = a at *
  generalize x.f1 = b at *
  generalize x.f2 = l at *
  have hlen : l.length ≤ 1759218604390 := by omega
  refine ⟨(40000 + l.length) + 1, ?_⟩
  have hcp := copied_f a b l q3
  obtain ⟨w, hw⟩ := wide_ex a b l (40000 + l.length + 1) (by omega)
  unfold turnstilelaw14_ImageBack.f
  rw [awake_ok _ (by omega), Option.bind_some, if_pos rfl, hw, Option.bind_some, turnstilelaw14_ImageBack.j0]
  cases w with
  | true => rw [if_pos rfl]
  | false =>
    rw [if_neg (by decide), hcp, Option.bind_some]
    dsimp only
    cases hV : valB a l with
    | false =>
      rw [enc_no hV, Option.bind_some, Option.bind_some]
      dsimp only
      rw [valid_B, hV, Option.bind_some, if_neg (by decide), if_pos (by decide), if_pos (by decide), if_pos rfl]
      rfl
    | true =>
      obtain ⟨hl, hv⟩ := val_VE hV
      rw [enc_ok ua ub hl hv hu hV _ (by omega), Option.bind_some, Option.bind_some]
      dsimp only
      rw [valid_B, hV, Option.bind_some, if_pos rfl, dec_img ua ub hu hV, Option.bind_some]
      dsimp only
      rw [if_pos (by decide), if_pos rfl, if_pos (by decide), if_pos rfl, alike_self a b l (by omega) _ (by omega), Option.bind_some]
end Go.Proofs.YtkgjepmminmjjaaDoor.Pure
