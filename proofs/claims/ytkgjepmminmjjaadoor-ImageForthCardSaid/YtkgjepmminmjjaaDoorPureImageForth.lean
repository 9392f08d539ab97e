import Derived.Test.YtkgjepmminmjjaaDoorESImageForth
import Derived.Test.YtkgjepmminmjjaaDoorMImgS
namespace Go.Proofs.YtkgjepmminmjjaaDoor.Pure
set_option linter.unusedVariables false
set_option linter.unusedSimpArgs false
open Go.RowKit Go.Proofs.YtkgjepmminmjjaaDoor.E Go.Proofs.YtkgjepmminmjjaaDoor.M Go.Proofs.YtkgjepmminmjjaaDoorW.PrintWords Go.Proofs.YtkgjepmminmjjaaDoorW.PrintLast

theorem By_wf {l : List Int} (h : ∀ y ∈ l, (Lit.int .u8 y).wf = true) : By l := fun x hx => by
  have := h x hx
  simp [Lit.wf, IntKind.min, IntKind.max, IntKind.signed, IntKind.bits] at this
  omega
theorem empty_f (k : Nat) (hk : 2 ≤ k) : turnstilelaw14_empty.f k 0 0 [] = some true := by
  unfold turnstilelaw14_empty.f
  rw [alike_self 0 0 [] (by simp) k (by simpa using hk), Option.bind_some]
theorem ImageForth : ImageForth.Pure := by
  intro xs q
  obtain ⟨q0, q1, q2⟩ := q
  have hby := By_wf q2
  rw [Nat.mul_one] at q1
  refine ⟨(40000 + xs.length) + 1, ?_⟩
  unfold turnstilelaw14_ImageForth.f
  rw [awake_ok _ (by omega), Option.bind_some, if_pos rfl, turnstilelaw14_ImageForth.j0]
  by_cases hbig : decide ((xs.length : Int) > 16777216) = true
  · rw [if_pos hbig]
  rw [if_neg hbig, Option.bind_some, if_pos (by simp; omega), List.nil_append]
  have hsm : xs.length ≤ 16777216 := by simp at hbig; omega
  obtain ⟨a, b, l, e, he, hd⟩ := dec_form xs hby (by omega)
  rw [he, Option.bind_some]
  dsimp only
  rcases hd with ⟨rfl, hx, hV, ua, ub, hu⟩ | ⟨h3, rfl, rfl, rfl⟩
  · obtain ⟨hl, hv⟩ := val_VE hV
    rw [if_pos (by decide), if_pos rfl, copied_f a b l (by omega), Option.bind_some]
    dsimp only
    rw [enc_ok ua ub hl hv hu hV _ (by omega), Option.bind_some, valid_B, hV, Option.bind_some, if_pos rfl]
    dsimp only
    rw [if_pos (by decide), if_pos rfl, ← hx, same_self xs (by omega) _ (by omega), Option.bind_some]
  · rw [if_pos (by omega), if_neg (by omega), empty_f _ (by omega), Option.bind_some, if_pos rfl, if_pos (by omega)]
    rcases h3 with rfl | rfl | rfl
    · rw [if_pos rfl]
    · rw [if_neg (by decide), if_pos rfl]
    · rw [if_neg (by decide), if_neg (by decide)]; rfl
end Go.Proofs.YtkgjepmminmjjaaDoor.Pure
