import Derived.Test.YtkgjepmminmjjaaDoorESImageAll
import Derived.Test.YtkgjepmminmjjaaDoorMImgA
namespace Go.Proofs.YtkgjepmminmjjaaDoor.Pure
set_option linter.unusedVariables false
set_option linter.unusedSimpArgs false
open Go.RowKit Go.Proofs.YtkgjepmminmjjaaDoor.E Go.Proofs.YtkgjepmminmjjaaDoor.M Go.Proofs.YtkgjepmminmjjaaDoorW.PrintWords Go.Proofs.YtkgjepmminmjjaaDoorW.PrintLast

theorem By_wf {l : List Int} (h : ∀ y ∈ l, (Lit.int .u8 y).wf = true) : By l := fun x hx => by
  have := h x hx
  simp [Lit.wf, IntKind.min, IntKind.max, IntKind.signed, IntKind.bits] at this
  omega
theorem plays_ok (o a b : Int) (l : List S79) (B : List Int) (ha : U a) (hb : U b) (hu : ∀ E ∈ l, EU E) (hl80 : l.length * 80 ≤ 140737488351232) (hB : By B) (hBl : B.length ≤ 140737488351232) (k : Nat) (hk : 6000000 + 10 * B.length ≤ k) :
    turnstilelaw14_plays.f k o a b l B = some true := by
  unfold turnstilelaw14_plays.f
  by_cases c1 : o = 1
  · rw [if_pos c1, copied_f a b l hl80, Option.bind_some]
    dsimp only
    cases hV : valB a l with
    | false =>
      rw [enc_no hV, Option.bind_some, renc_no hV k (by omega), Option.bind_some]
      dsimp only
      rw [show turnstilesame_Is.f 1 1 = some true from rfl, Option.bind_some, if_pos rfl, same_self [] (by simp) k (by simp; omega), Option.bind_some]
    | true =>
      obtain ⟨hl, hv⟩ := val_VE hV
      have hel := encs_len l (fun E hE => (hv E hE).2.1)
      have hil : (imgS a b l).length = (bodyS a b l).length + 4 := by unfold imgS fin; rw [List.length_append, putN_length]
      have hbl := body_len a b l
      rw [enc_ok ha hb hl hv hu hV k (by omega), Option.bind_some, renc_ok ha hb hl hv hu hV k (by omega), Option.bind_some]
      dsimp only
      rw [show turnstilesame_Is.f 0 0 = some true from rfl, Option.bind_some, if_pos rfl, same_self (imgS a b l) (by omega) k (by omega), Option.bind_some]
  rw [if_neg c1]
  by_cases c2 : o = 2
  · obtain ⟨x, y, m, e, h1, h2, h3, h4⟩ := rdec B hB (by omega) k (by omega)
    rw [if_pos c2, Option.bind_some, if_pos (by simp; omega), List.nil_append, h1, Option.bind_some, h2, Option.bind_some]
    dsimp only
    have hIs : turnstilesame_Is.f e (if e = 6 then 5 else e) = some true := by
      rcases h3 with rfl | rfl | rfl | rfl <;> rfl
    rw [hIs, Option.bind_some, if_pos rfl, alike_self x y m (by omega) k (by omega), Option.bind_some]
  · rw [if_neg c2]
theorem rd53 (l : List S53) (i : Nat) (h : i < l.length) : rd_T53 l (i : Int) = l[i] := by
  unfold rd_T53
  rw [Int.toNat_natCast, List.getD_eq_getElem?_getD, List.getElem?_eq_getElem h]
  rfl
theorem top_of (l : List S53) : ∃ M : Nat, ∀ y ∈ l, y.f2.length ≤ M ∧ y.f1.f2.length ≤ M := by
  induction l with
  | nil => exact ⟨0, fun y hy => by cases hy⟩
  | cons x l ih =>
    obtain ⟨M, hM⟩ := ih
    refine ⟨M + x.f2.length + x.f1.f2.length, fun y hy => ?_⟩
    rcases List.mem_cons.1 hy with rfl | hy
    · omega
    · have := hM y hy
      omega
theorem much_go (l : List S53) (M : Nat) (hM : ∀ y ∈ l, y.f2.length ≤ M ∧ y.f1.f2.length ≤ M) (hl : l.length ≤ 9223372036854775806) : ∀ (d i k : Nat) (x y : Int), l.length - i = d → i ≤ l.length → 2 * d + M + 10 ≤ k → ∃ r, turnstilelaw14_much.l0 k l x y (i : Int) = some r
  | 0, i, k, x, y, hd, hi, hk => by
    obtain ⟨k, rfl⟩ : ∃ q, k = q + 1 + 1 := ⟨k - 2, by omega⟩
    rw [turnstilelaw14_much.l0, if_neg (by omega), turnstilelaw14_much.j1, if_neg (by decide)]
    split <;> exact ⟨_, rfl⟩
  | d + 1, i, k, x, y, hd, hi, hk => by
    obtain ⟨k, rfl⟩ : ∃ q, k = q + 1 + 1 := ⟨k - 2, by omega⟩
    have hlt : i < l.length := by omega
    have hj : ∀ t, ∃ r, turnstilelaw14_much.j1 (k + 1) l x y (i : Int) t = some r := by
      intro t
      rw [turnstilelaw14_much.j1]
      cases t with
      | false =>
        rw [if_neg (by decide)]
        split <;> exact ⟨_, rfl⟩
      | true =>
        have hm := hM _ (List.getElem_mem hlt)
        rw [if_pos rfl, if_pos (by omega), if_pos (by omega), rd53 l i hlt]
        obtain ⟨t1, ht1⟩ := wide_ex l[i].f1.f0 l[i].f1.f1 l[i].f1.f2 k (by omega)
        rw [ht1, Option.bind_some]
        cases t1 with
        | true => exact ⟨_, if_pos rfl⟩
        | false =>
          rw [if_neg (by decide), show wrap64 ((i : Int) + 1) = ((i + 1 : Nat) : Int) by unfold wrap64; omega]
          exact much_go l M hM hl d (i + 1) k _ _ (by omega) (by omega) (by omega)
    rw [turnstilelaw14_much.l0, if_pos (by omega)]
    split <;> exact hj _
theorem all_go (l : List S53) (M : Nat) (hM : ∀ y ∈ l, y.f2.length ≤ M ∧ y.f1.f2.length ≤ M) (hl : l.length ≤ 9223372036854775806) (hq : ∀ y ∈ l, q53 y) : ∀ (d i k : Nat), l.length - i = d → i ≤ l.length → d + 6000001 + 10 * M ≤ k → turnstilelaw14_ImageAll.l0 k l true (i : Int) = some true
  | 0, i, k, hd, hi, hk => by
    obtain ⟨k, rfl⟩ : ∃ q, k = q + 1 := ⟨k - 1, by omega⟩
    rw [turnstilelaw14_ImageAll.l0, if_neg (by omega)]
  | d + 1, i, k, hd, hi, hk => by
    obtain ⟨k, rfl⟩ : ∃ q, k = q + 1 := ⟨k - 1, by omega⟩
    have hlt : i < l.length := by omega
    have hm := List.getElem_mem hlt
    obtain ⟨q0, ⟨q1, q2, q3, q4, q5⟩, q6, q7, q8⟩ := hq _ hm
    have hM1 := hM _ hm
    rw [turnstilelaw14_ImageAll.l0, if_pos (by omega), if_pos rfl, if_pos (by omega), rd53 l i hlt,
      plays_ok _ _ _ _ _ (U_wf q1) (U_wf q2) (fun E hE => EU_of (q5 E hE)) q4 (By_wf q8) (by omega) k (by omega), Option.bind_some, show wrap64 ((i : Int) + 1) = ((i + 1 : Nat) : Int) by unfold wrap64; omega]
    exact all_go l M hM hl hq d (i + 1) k (by omega) (by omega) (by omega)
theorem ImageAll : ImageAll.Pure := by
  intro l ⟨h0, h1, hq⟩
  have hl : l.length ≤ 9223372036854775806 := by omega
  obtain ⟨M, hM⟩ := top_of l
  obtain ⟨K, hK⟩ : ∃ K, K = 2 * l.length + 6000100 + 10 * M := ⟨_, rfl⟩
  refine ⟨K + 1, ?_⟩
  obtain ⟨t, ht⟩ := much_go l M hM hl l.length 0 (K + 1) 0 0 (by omega) (by omega) (by omega)
  unfold turnstilelaw14_ImageAll.f turnstilelaw14_much.f
  rw [show ((0 : Nat) : Int) = 0 from rfl] at ht
  rw [awake_ok _ (by omega), Option.bind_some, if_pos rfl, ht, Option.bind_some, turnstilelaw14_ImageAll.j0]
  cases t with
  | true => rw [if_pos rfl]
  | false =>
    rw [if_neg (by decide)]
    exact all_go l M hM hl hq l.length 0 K (by omega) (by omega) (by omega)
end Go.Proofs.YtkgjepmminmjjaaDoor.Pure
