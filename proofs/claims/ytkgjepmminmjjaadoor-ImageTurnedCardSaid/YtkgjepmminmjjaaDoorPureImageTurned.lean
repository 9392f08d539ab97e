import Derived.Test.YtkgjepmminmjjaaDoorESImageTurned
import Derived.Test.YtkgjepmminmjjaaDoorMImgT
import Derived.Laws.BitsAllLaws
namespace Go.Proofs.YtkgjepmminmjjaaDoor.Pure
set_option linter.unusedVariables false
set_option linter.unusedSimpArgs false
open Go.RowKit Go.Proofs.YtkgjepmminmjjaaDoor.E Go.Proofs.YtkgjepmminmjjaaDoor.M Go.Proofs.YtkgjepmminmjjaaDoorW.PrintWords Go.Proofs.YtkgjepmminmjjaaDoorW.PrintLast

theorem xor_turned {a x : Int} (ha : 0 ≤ a ∧ a < 256) (hx : 0 ≤ x ∧ x < 256) (h : x ≠ 0) : (0 ≤ Go.bits .xor .u8 a x ∧ Go.bits .xor .u8 a x < 256) ∧ Go.bits .xor .u8 a x ≠ a := by
  obtain ⟨A, rfl⟩ := Int.eq_ofNat_of_zero_le ha.1
  obtain ⟨X, rfl⟩ := Int.eq_ofNat_of_zero_le hx.1
  rw [Go.u8_xor_nat A X (by omega) (by omega)]
  have hl : A ^^^ X < 2 ^ 8 := Nat.xor_lt_two_pow (by omega) (by omega)
  refine ⟨⟨by omega, by omega⟩, ?_⟩
  intro he
  have he2 : A ^^^ X = A := by exact_mod_cast he
  have h2 : A ^^^ (A ^^^ X) = X := by rw [← Nat.xor_assoc, Nat.xor_self, Nat.zero_xor]
  rw [he2, Nat.xor_self] at h2
  exact h (by rw [← h2]; rfl)
theorem empty_f (k : Nat) (hk : 2 ≤ k) : turnstilelaw14_empty.f k 0 0 [] = some true := by
  unfold turnstilelaw14_empty.f
  rw [alike_self 0 0 [] (by simp) k (by simpa using hk), Option.bind_some]
theorem ImageTurned : ImageTurned.Pure := by
  intro x at_ y c qx q1 q2 q3
  obtain ⟨q0, q01, qn, q5, q4⟩ := qx
  have ua := U_wf q0
  have ub := U_wf q01
  have hu : ∀ E ∈ x.f2, EU E := fun E hE => EU_of (q4 E hE)
  have hy : 0 ≤ y ∧ y < 256 := by
    simp [Lit.wf, IntKind.min, IntKind.max, IntKind.signed, IntKind.bits] at q2
    omega
  generalize x.f0 = a at *
  generalize x.f1 = b at *
  generalize x.f2 = l at *
  obtain ⟨K, hK⟩ : ∃ K, K = 100000 + 9 * l.length := ⟨_, rfl⟩
  refine ⟨K + 1 + 1 + 1 + 1, ?_⟩
  unfold turnstilelaw14_ImageTurned.f
  obtain ⟨t1, ht1⟩ := wide_ex a b l (K + 1 + 1 + 1 + 1) (by omega)
  rw [awake_ok _ (by omega), Option.bind_some, if_pos rfl, ht1, Option.bind_some, turnstilelaw14_ImageTurned.j0]
  cases t1 with
  | true => rw [if_pos rfl]
  | false =>
    rw [if_neg (by decide), copied_f a b l q5, Option.bind_some]
    dsimp only
    cases hV : valB a l with
    | false =>
      rw [enc_no hV, Option.bind_some]
      dsimp only
      rw [if_pos (by decide), if_neg (by decide), if_pos (by decide)]
      rfl
    | true =>
      obtain ⟨hl, hv⟩ := val_VE hV
      rw [enc_ok ua ub hl hv hu hV _ (by omega), Option.bind_some]
      dsimp only
      rw [if_pos (by decide), if_pos rfl]
      have hel := encs_len l (fun E hE => (hv E hE).2.1)
      have hil := img_len a b l
      have hby : By (imgS a b l) := By_fin (By_body a b l)
      have hcut := fun k (hk : k < (imgS a b l).length) => dec_cut hu hV k hk
      have hturn := fun p (hp : p < (imgS a b l).length) z hz hne => dec_turned hu hV p hp z hz hne
      generalize imgS a b l = X at *
      have hj3 : ∀ t, (t = false → 0 ≤ c ∧ c < (X.length : Int)) → turnstilelaw14_ImageTurned.j3 (K + 1) c X t = some true := by
        intro t ht
        rw [turnstilelaw14_ImageTurned.j3]
        cases t with
        | true => rw [if_pos rfl]
        | false =>
          obtain ⟨c0, c1⟩ := ht rfl
          obtain ⟨k, rfl⟩ := Int.eq_ofNat_of_zero_le c0
          obtain ⟨e, he, h3, h28⟩ := hcut k (by omega)
          rw [if_neg (by decide), Option.bind_some, if_pos (by omega), if_pos (by omega), Option.bind_some, if_pos (by simp only [List.length_nil, List.length_take]; omega), List.nil_append, Int.toNat_natCast, he, Option.bind_some]
          dsimp only
          rw [empty_f _ (by omega), Option.bind_some, if_pos rfl, if_pos (by omega), if_neg (by omega)]
          by_cases c28 : (k : Int) ≥ 28
          · rw [if_pos c28]
          · rw [if_neg c28, if_pos (by omega), h28 (by omega)]
            rfl
      have hj2 : turnstilelaw14_ImageTurned.j2 (K + 1 + 1) c X = some true := by
        rw [turnstilelaw14_ImageTurned.j2]
        by_cases c0 : c < 0
        · rw [if_pos c0]
          exact hj3 _ (fun h => by cases h)
        · rw [if_neg c0]
          exact hj3 _ (fun h => by have := of_decide_eq_false h; omega)
      have hj1 : ∀ t, (t = true → 0 ≤ at_ ∧ at_ < (X.length : Int) ∧ y ≠ 0) → turnstilelaw14_ImageTurned.j1 (K + 1 + 1 + 1) at_ y c X t = some true := by
        intro t ht
        rw [turnstilelaw14_ImageTurned.j1]
        cases t with
        | false => rw [if_neg (by decide)]; exact hj2
        | true =>
          obtain ⟨p0, p1, p2⟩ := ht rfl
          obtain ⟨p, rfl⟩ := Int.eq_ofNat_of_zero_le p0
          have hp : p < X.length := by omega
          have er : rd X (p : Int) = X[p] := by unfold rd; simp [List.getD_eq_getElem?_getD, List.getElem?_eq_getElem hp]
          obtain ⟨hz, hne⟩ := xor_turned (hby _ (List.getElem_mem hp)) hy p2
          rw [if_pos rfl, Option.bind_some, if_pos (by simp only [List.length_nil]; omega), List.nil_append]
          unfold turnstilelaw14_ImageTurned.tn
          rw [if_pos ⟨by omega, p1⟩, Option.bind_some, er, Int.toNat_natCast, hturn p hp _ hz hne, Option.bind_some]
          dsimp only
          rw [empty_f _ (by omega), Option.bind_some, if_pos rfl]
          by_cases h4 : p < 4
          · rw [if_pos (by omega), if_pos h4, if_pos (by decide), if_pos (by decide), if_pos rfl, if_neg (by omega)]
            exact hj2
          · rw [if_neg (by omega), if_pos (by omega), if_neg h4, if_pos (by decide), if_pos (by decide), if_pos rfl]
            exact hj2
      by_cases c0 : at_ ≥ 0
      · rw [if_pos c0]
        by_cases c1 : at_ < (X.length : Int)
        · rw [if_pos c1]
          exact hj1 _ (fun h => ⟨c0, c1, by simpa using h⟩)
        · rw [if_neg c1]
          exact hj1 _ (fun h => by cases h)
      · rw [if_neg c0]
        exact hj1 _ (fun h => by cases h)
end Go.Proofs.YtkgjepmminmjjaaDoor.Pure
