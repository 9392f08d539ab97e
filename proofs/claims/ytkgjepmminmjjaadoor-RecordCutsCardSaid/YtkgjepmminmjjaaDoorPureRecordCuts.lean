import Derived.Test.YtkgjepmminmjjaaDoorEx31
import Derived.Test.YtkgjepmminmjjaaDoorEo
import Derived.Test.YtkgjepmminmjjaaDoorMRecD
/- Written by the session's own program hyb.py: what functions of the program compute; Lean checks it. -/
namespace Go.Proofs.YtkgjepmminmjjaaDoor.E
open Go.RowKit Go.ChangeShapes Go.WideShapes
def RecordCuts.Pure : Prop := ∀ (x0 : S32) (a1 : Int) (l2 : List Int), q32 x0 → (Lit.int .i64 a1).wf = true → (l2.length ≤ maxLen ∧ l2.length * 1 ≤ 140737488351232 ∧ ∀ y ∈ l2, (Lit.int .u8 y).wf = true) → ∃ k, turnstilelaw11_RecordCuts.f k (x0.f0) (x0.f1) (x0.f2) (x0.f3.f0) (x0.f3.f1) (x0.f3.f2) (x0.f3.f3) (x0.f3.f4) (x0.f4.f0) (x0.f4.f1) (x0.f4.f2) a1 l2 = some true
end Go.Proofs.YtkgjepmminmjjaaDoor.E
namespace Go.Proofs.YtkgjepmminmjjaaDoor.Pure
set_option linter.unusedVariables false
set_option linter.unusedSimpArgs false
open Go.RowKit Go.Proofs.YtkgjepmminmjjaaDoor.E Go.Proofs.YtkgjepmminmjjaaDoor.M Go.Proofs.YtkgjepmminmjjaaDoorW.PrintWords Go.Proofs.YtkgjepmminmjjaaDoorW.PrintLast

theorem By_wf' {l : List Int} (h : ∀ y ∈ l, (Lit.int .u8 y).wf = true) : By l := fun x hx => by
  have := h x hx
  simp [Lit.wf, IntKind.min, IntKind.max, IntKind.signed, IntKind.bits] at this
  omega
theorem Dec_cut {r : Rec} (hr : Raw r) (v : RV r) (n : Nat) (hn : n < (enc r).length) (k : Nat) : dec (k + 3) ((enc r).take n) = some (Rec.zero.out 2) := by
  have hl := enc_len v
  have hB : By ((enc r).take n) := fun x hx => By_enc r x (List.mem_of_mem_take hx)
  have hs : (enc r).take n ++ (enc r).drop n = enc r := List.take_append_drop n (enc r)
  rcases Dec_form ((enc r).take n) hB (by rw [List.length_take]; omega) k with h | ⟨b, ys, e, hb, _⟩ | ⟨q, rest, hq, hrest, e⟩
  · exact h
  · rw [e] at hs
    unfold enc at hs
    have := (List.cons.inj hs).1
    have := hr.kind
    omega
  · rw [e, List.append_assoc] at hs
    have h0 := Dec_enc hr [] By.nil (by rw [List.append_nil]; omega) k
    have hd : By ((enc r).drop n) := fun x hx => By_enc r x (List.mem_of_mem_drop hx)
    have h1 := Dec_enc hq (rest ++ (enc r).drop n) (hrest.append hd) (by rw [hs]; omega) k
    rw [List.append_nil] at h0
    rw [hs, h0] at h1
    unfold decOut at h1
    rw [if_neg (by simp [v]), if_pos (Or.inl (by rw [List.length_append, List.length_drop]; omega))] at h1
    simp [Rec.out] at h1
theorem Dec_more {r : Rec} (hr : Raw r) (v : RV r) (l : List Int) (hB : By l) (hl : l.length ≤ 1048576) (h : (l.length : Int) ≠ 0) (k : Nat) : record_Decode.f (k + 3) (enc r ++ l) = some (Rec.zero.out 3) := by
  have hn := enc_len v
  have h1 := Dec_enc hr l hB (by rw [List.length_append]; omega) k
  unfold dec decOut at h1
  rw [if_pos (Or.inl (by omega))] at h1
  exact h1
theorem j2_ok {r : Rec} (hr : Raw r) (v : RV r) (l : List Int) (hB : By l) (hl : l.length ≤ 1048576) (k : Nat) : turnstilelaw11_RecordCuts.j2 (k + 4) l (enc r) false = some true := by
  have hn := enc_len v
  rw [turnstilelaw11_RecordCuts.j2, if_neg (by simp)]
  by_cases h : (l.length : Int) = 0
  · rw [if_pos h]
  · rw [if_neg h, Option.bind_some, if_pos (by simp; omega), Option.bind_some, if_pos (by simp; omega), List.nil_append, Dec_more hr v l hB hl h k, Option.bind_some]
    simp [Rec.out, Rec.zero]
theorem j1_ok' {r : Rec} (hr : Raw r) (v : RV r) (l : List Int) (hB : By l) (hl : l.length ≤ 1048576) (n : Int) (b : Bool) (hb : b = true → 0 ≤ n ∧ n < ((enc r).length : Int)) (k : Nat) : turnstilelaw11_RecordCuts.j1 (k + 5) n l (enc r) b = some true := by
  have hn := enc_len v
  rw [turnstilelaw11_RecordCuts.j1]
  by_cases c : b = true
  · obtain ⟨c0, c1⟩ := hb c
    have hc := Dec_cut hr v n.toNat (by omega) (k + 1)
    unfold dec at hc
    rw [if_pos c, Option.bind_some, if_pos c0, if_pos (by omega), Option.bind_some, if_pos (by simp; omega), List.nil_append, hc, Option.bind_some]
    have hj := j2_ok hr v l hB hl k
    simp [Rec.out, Rec.zero]
    exact hj
  · rw [if_neg c]
    by_cases h : (l.length : Int) = 0
    · rw [if_pos h]
    · rw [if_neg h, Option.bind_some, if_pos (by simp; omega), Option.bind_some, if_pos (by simp; omega), List.nil_append, Dec_more hr v l hB hl h (k + 1), Option.bind_some]
      simp [Rec.out, Rec.zero]
theorem RecordCuts : RecordCuts.Pure := by
  intro x n l q hn hl
  obtain ⟨q0, q1, q2, ⟨q3, q4, q5, q6, q7⟩, q8, q9, q10⟩ := q
  let r : Rec := ⟨x.f0, x.f1, x.f2, x.f3.f0, x.f3.f1, x.f3.f2, x.f3.f3, x.f3.f4, x.f4.f0, x.f4.f1, x.f4.f2⟩
  have hu : r.Un := ⟨U_wf q1, U_wf q4, U_wf q5, U_wf q6, U_wf q7, U_wf q8, U_wf q9, U_wf q10⟩
  have hB : By l := By_wf' hl.2.2
  have goal : ∀ (r : Rec), r.Un → turnstilelaw11_RecordCuts.f 20 r.kind r.floor r.key r.pk r.gap r.slack r.lim r.span r.tat r.ix r.cnt n l = some true := by
    intro r hu
    have hE := REncode r hu 13
    unfold encf at hE
    unfold turnstilelaw11_RecordCuts.f
    rw [awake_at 6, Option.bind_some, if_pos rfl, turnstilelaw11_RecordCuts.j0]
    by_cases c : (l.length : Int) > 1048576
    · rw [if_pos (decide_eq_true c)]
    · rw [if_neg (by simpa using c), hE, Option.bind_some]
      by_cases v : RV r
      · rw [if_pos v]
        simp only [Int.le_refl, if_true]
        by_cases g : n ≥ 0
        · rw [if_pos g]
          exact j1_ok' (Raw_of hu v) v l hB (by omega) n _ (fun h => ⟨g, of_decide_eq_true h⟩) 14
        · rw [if_neg g]
          exact j1_ok' (Raw_of hu v) v l hB (by omega) n _ (fun h => by cases h) 14
      · rw [if_neg v]
        simp
  exact ⟨20, goal r hu⟩

end Go.Proofs.YtkgjepmminmjjaaDoor.Pure
