import Derived.Test.YtkgjepmminmjjaaDoorESImageUnlike
import Derived.Test.YtkgjepmminmjjaaDoorMImgS
namespace Go.Proofs.YtkgjepmminmjjaaDoor.Pure
set_option linter.unusedVariables false
set_option linter.unusedSimpArgs false
open Go.RowKit Go.Proofs.YtkgjepmminmjjaaDoor.E Go.Proofs.YtkgjepmminmjjaaDoor.M Go.Proofs.YtkgjepmminmjjaaDoorW.PrintWords Go.Proofs.YtkgjepmminmjjaaDoorW.PrintLast

theorem ImageUnlike : ImageUnlike.Pure := by
  intro x y qx qy
  obtain ⟨q0, q1, q2, q3, q4⟩ := qx
  obtain ⟨p0, p1, p2, p3, p4⟩ := qy
  have ua := U_wf q0
  have ub := U_wf q1
  have hu : ∀ E ∈ x.f2, EU E := fun E hE => EU_of (q4 E hE)
  have va := U_wf p0
  have vb := U_wf p1
  have hw : ∀ E ∈ y.f2, EU E := fun E hE => EU_of (p4 E hE)
  generalize x.f0 = a at *
  generalize x.f1 = b at *
  generalize x.f2 = l at *
  generalize y.f0 = c at *
  generalize y.f1 = d at *
  generalize y.f2 = m at *
  obtain ⟨K, hK⟩ : ∃ K, K = 500000 + l.length + m.length := ⟨_, rfl⟩
  refine ⟨(K + 1) + 1, ?_⟩
  have hj : ∀ t, turnstilelaw14_ImageUnlike.j0 (K + 1 + 1) true t a b l c d m = some true := by
    intro t
    rw [turnstilelaw14_ImageUnlike.j0]
    cases t with
    | true => rw [if_pos rfl]
    | false =>
      rw [if_neg (by decide), copied_f a b l q3, Option.bind_some]
      dsimp only
      cases hV : valB a l with
      | false =>
        rw [enc_no hV, Option.bind_some, copied_f c d m p3, Option.bind_some]
        dsimp only
        have hj1 : ∀ (X Y : List Int), turnstilelaw14_ImageUnlike.j1 (K + 1) X Y true a b l c d m = some true := fun X Y => by rw [turnstilelaw14_ImageUnlike.j1, if_pos rfl]
        cases hW : valB c m with
        | false =>
          rw [enc_no hW, Option.bind_some]
          dsimp only
          rw [if_pos (by decide), if_neg (by decide), hj1]
        | true =>
          obtain ⟨hl2, hv2⟩ := val_VE hW
          rw [enc_ok va vb hl2 hv2 hw hW _ (by omega), Option.bind_some]
          dsimp only
          rw [if_pos (by decide), if_neg (by decide), hj1]
      | true =>
        obtain ⟨hl, hv⟩ := val_VE hV
        rw [enc_ok ua ub hl hv hu hV _ (by omega), Option.bind_some, copied_f c d m p3, Option.bind_some]
        dsimp only
        cases hW : valB c m with
        | false =>
          rw [enc_no hW, Option.bind_some]
          dsimp only
          rw [if_pos (by decide), if_pos rfl, if_pos (by decide), turnstilelaw14_ImageUnlike.j1, if_pos (by decide)]
        | true =>
          obtain ⟨hl2, hv2⟩ := val_VE hW
          rw [enc_ok va vb hl2 hv2 hw hW _ (by omega), Option.bind_some]
          dsimp only
          rw [if_pos (by decide), if_pos rfl, if_pos (by decide), turnstilelaw14_ImageUnlike.j1, if_neg (by decide)]
          have hel := encs_len l (fun E hE => (hv E hE).2.1)
          have hbl := body_len a b l
          have hlen : (imgS a b l).length = (bodyS a b l).length + 4 := by unfold imgS fin; rw [List.length_append, putN_length]
          obtain ⟨r, hr, hri⟩ := same_f (imgS a b l) (imgS c d m) (by omega) K (by omega)
          obtain ⟨s, hs, hsi⟩ := alike_f a b c d l m (by omega) K (by omega)
          rw [hr, Option.bind_some, hs, Option.bind_some]
          have hrs : r = s := bool_iff (by
            rw [hri, hsi]
            constructor
            · intro h
              have h1 := dec_img ua ub hu hV
              have h2 := dec_img va vb hw hW
              rw [h, h2] at h1
              simp only [Option.some.injEq, Prod.mk.injEq] at h1
              exact ⟨h1.1.symm, h1.2.1.symm, h1.2.2.1.symm⟩
            · rintro ⟨rfl, rfl, rfl⟩
              rfl)
          rw [hrs]
          simp
  unfold turnstilelaw14_ImageUnlike.f
  obtain ⟨t1, ht1⟩ := wide_ex a b l (K + 1 + 1) (by omega)
  obtain ⟨t2, ht2⟩ := wide_ex c d m (K + 1 + 1) (by omega)
  rw [awake_ok _ (by omega), Option.bind_some, if_pos rfl, ht1, Option.bind_some, ht2, Option.bind_some]
  cases t1 with
  | true => rw [if_pos rfl]; exact hj _
  | false => rw [if_neg (by decide)]; exact hj _
end Go.Proofs.YtkgjepmminmjjaaDoor.Pure
