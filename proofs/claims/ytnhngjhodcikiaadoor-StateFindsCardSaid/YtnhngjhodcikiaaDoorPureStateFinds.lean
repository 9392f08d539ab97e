/- StateFinds, plainly: in a row whose keys rise the search by halves answers how many stand ahead, and whether the key is there. -/
import Derived.Test.YtnhngjhodcikiaaDoorFSStateFinds
import Derived.Test.YtnhngjhodcikiaaDoorMStr
namespace Go.Proofs.YtnhngjhodcikiaaDoor.Pure
set_option linter.unusedVariables false
set_option linter.unusedSimpArgs false
open Go.RowKit Go.Proofs.YtnhngjhodcikiaaDoor.F Go.Proofs.YtnhngjhodcikiaaDoor.M Go.Proofs.YtnhngjhodcikiaaDoorW.PrintWords Go.Proofs.YtnhngjhodcikiaaDoorW.PrintLast Go.Proofs.YtnhngjhodcikiaaDoorW.PrintMore

theorem at_eq {l : List S56} {key : ByteArray} {n : Nat} (h : Rise l l.length) (hn : n ≤ l.length) (ha : ∀ p, p < n → Op.bytesLess (rd_T56 l (p : Nat)).f0.toList key.toList = true) (hb : ∀ p, n ≤ p → p < l.length → Op.bytesLess (rd_T56 l (p : Nat)).f0.toList key.toList = false) : state_Find.at_ l key = n := by
  obtain ⟨h1, h2, h3⟩ := find_spec key h
  rcases Nat.lt_trichotomy (state_Find.at_ l key) n with hlt | he | hgt
  · have a := h3 _ (Nat.le_refl _) (by omega)
    rw [ha _ hlt] at a
    cases a
  · exact he
  · have a := hb _ (Nat.le_refl _) (by omega)
    rw [h2 _ hgt] at a
    cases a
theorem is_eq {l : List S56} {key : ByteArray} (h : Rise l l.length) (th : Bool) (ht : th = true ↔ ∃ p, p < l.length ∧ (rd_T56 l (p : Nat)).f0.toList = key.toList) : state_Find.is_ l key = th := by
  obtain ⟨h1, h2, h3⟩ := find_spec key h
  rw [Bool.eq_iff_iff, ht]
  unfold state_Find.is_
  simp only [Bool.and_eq_true, decide_eq_true_eq, beq_iff_eq]
  constructor
  · rintro ⟨a, b⟩
    exact ⟨_, a, b⟩
  · rintro ⟨p, hp, e⟩
    have hl : ¬ p < state_Find.at_ l key := fun hlt => by
      have := h2 p hlt
      rw [e, bl_irrefl] at this
      cases this
    have he : state_Find.at_ l key = p := by
      rcases Nat.lt_or_ge (state_Find.at_ l key) p with hlt | hge
      · have a := h.lt' hlt hp
        rw [e] at a
        have b := h3 _ (Nat.le_refl _) (by omega)
        rw [a] at b
        cases b
      · omega
    rw [he]
    exact ⟨hp, e⟩
theorem w1 {n N : Nat} (h : n < N) (hN : N ≤ 9223372036854775807) : wrap64 ((n : Int) + 1) = ((n + 1 : Nat) : Int) := by unfold wrap64; omega
theorem w0 {n N : Nat} (h : n < N) (hN : N ≤ 9223372036854775807) (h0 : 0 < n) : wrap64 ((n : Int) - 1) = ((n - 1 : Nat) : Int) := by unfold wrap64; omega
theorem round (l : List S56) (key : ByteArray) (a0 a1 : Int) (hl : l.length ≤ 9223372036854775807) : ∀ (d i n : Nat) (th : Bool) (k : Nat), l.length - i = d → i ≤ l.length → 2 * d + 1 ≤ k → Rise l i → n ≤ i →
    (∀ p, p < n → Op.bytesLess (rd_T56 l (p : Nat)).f0.toList key.toList = true) → (∀ p, n ≤ p → p < i → Op.bytesLess (rd_T56 l (p : Nat)).f0.toList key.toList = false) →
    (th = true ↔ ∃ p, p < i ∧ (rd_T56 l (p : Nat)).f0.toList = key.toList) → turnstilelaw13_StateFinds.l0 k key (n : Int) th (i : Int) a0 a1 l = some true := by
  intro d
  induction d with
  | zero =>
    intro i n th k hd hi hk hR hn ha hb ht
    obtain ⟨k, rfl⟩ : ∃ m, k = m + 1 := ⟨k - 1, by omega⟩
    have : i = l.length := by omega
    subst this
    simp only [turnstilelaw13_StateFinds.l0]
    rw [if_neg (by omega)]
    simp only [state_Find.f, Option.bind_some, at_eq hR hn ha hb, is_eq hR th ht]
    simp
  | succ d ih =>
    intro i n th k hd hi hk hR hn ha hb ht
    obtain ⟨k, rfl⟩ : ∃ m, k = m + 2 := ⟨k - 2, by omega⟩
    have hlt : i < l.length := by omega
    have q1 : l.length - (i + 1) = d := by clear ht; omega
    have q2 : 2 * d + 1 ≤ k := by clear ht; omega
    have next : Rise l (i + 1) → turnstilelaw13_StateFinds.j1 (k + 1) key (n : Int) th (i : Int) false a0 a1 l = some true := by
      intro hR1
      simp only [turnstilelaw13_StateFinds.j1]
      rw [if_neg (by simp), if_pos (by omega), if_pos (by omega)]
      have ht2 : ∀ c : Bool, c = (th || ((rd_T56 l (i : Nat)).f0.toList == key.toList)) → (c = true ↔ ∃ p, p < i + 1 ∧ (rd_T56 l (p : Nat)).f0.toList = key.toList) := by
        intro c hc
        subst hc
        rw [Bool.or_eq_true, ht, beq_iff_eq]
        constructor
        · rintro (⟨p, h1, h2⟩ | h)
          · exact ⟨p, by omega, h2⟩
          · exact ⟨i, by omega, h⟩
        · rintro ⟨p, h1, h2⟩
          rcases Nat.lt_or_ge p i with h3 | h3
          · exact .inl ⟨p, h3, h2⟩
          · rw [show p = i by omega] at h2
            exact .inr h2
      by_cases hc : Op.bytesLess (rd_T56 l (i : Int)).f0.toList key.toList = true
      · rw [if_pos hc]
        have hni : n = i := by
          rcases Nat.lt_or_ge n i with h1 | h1
          · have a := hb n (Nat.le_refl _) h1
            rw [bl_trans (hR1.lt' h1 (by omega)) hc] at a
            cases a
          · omega
        subst hni
        rw [w1 hlt hl]
        have fin : ∀ c : Bool, c = (th || ((rd_T56 l (n : Nat)).f0.toList == key.toList)) → turnstilelaw13_StateFinds.l0 k key ((n + 1 : Nat) : Int) c ((n + 1 : Nat) : Int) a0 a1 l = some true := fun c e =>
          ih (n + 1) (n + 1) c k q1 hlt q2 hR1 (Nat.le_refl _) (fun p hp => by
            rcases Nat.lt_or_ge p n with h3 | h3
            · exact ha p h3
            · rw [show p = n by omega]; exact hc) (fun p h1 h2 => by omega) (ht2 c e)
        by_cases h6 : th = true
        · rw [if_pos h6]
          exact fin true (by rw [h6]; rfl)
        · rw [if_neg h6]
          exact fin _ (by rw [Bool.eq_false_iff.mpr h6]; rfl)
      · rw [if_neg hc]
        rw [w1 hlt hl]
        have fin : ∀ c : Bool, c = (th || ((rd_T56 l (i : Nat)).f0.toList == key.toList)) → turnstilelaw13_StateFinds.l0 k key (n : Int) c ((i + 1 : Nat) : Int) a0 a1 l = some true := fun c e =>
          ih (i + 1) n c k q1 hlt q2 hR1 (Nat.le_succ_of_le hn) ha (fun p h1 h2 => by
            rcases Nat.lt_or_ge p i with h3 | h3
            · exact hb p h1 h3
            · rw [show p = i by omega]; exact Bool.eq_false_iff.mpr hc) (ht2 c e)
        by_cases h6 : th = true
        · rw [if_pos h6]
          exact fin true (by rw [h6]; rfl)
        · rw [if_neg h6]
          exact fin _ (by rw [Bool.eq_false_iff.mpr h6]; rfl)
    simp only [turnstilelaw13_StateFinds.l0]
    rw [if_pos (by omega)]
    by_cases h0 : 0 < i
    · rw [if_pos (by omega), w0 hlt hl h0, if_pos (by omega), if_pos (by omega), if_pos (by omega)]
      by_cases hc : Op.bytesLess (rd_T56 l ((i - 1 : Nat) : Int)).f0.toList (rd_T56 l (i : Int)).f0.toList = true
      · rw [hc]
        refine next (fun p hp => ?_)
        rcases Nat.lt_or_ge (p + 1) i with h3 | h3
        · exact hR p h3
        · rw [show p + 1 = i by omega, show p = i - 1 by omega]
          exact hc
      · rw [Bool.eq_false_iff.mpr hc]
        simp [turnstilelaw13_StateFinds.j1]
    · rw [if_neg (by omega)]
      exact next (fun p hp => by omega)
/-- The statement. -/
theorem StateFinds : StateFinds.Pure := by
  intro x0 a1 hq hs
  have hl : x0.f2.length ≤ 9223372036854775807 := by
    have h := hq
    simp only [q27] at h
    omega
  refine ⟨2 * x0.f2.length + 1, ?_⟩
  simp only [turnstilelaw13_StateFinds.f, turnstilelaw13_lives.f, Option.bind_some, if_true]
  exact round x0.f2 a1 x0.f0 x0.f1 hl x0.f2.length 0 0 false _ (by omega) (Nat.zero_le _) (Nat.le_refl _) (fun p hp => by omega) (Nat.le_refl _) (fun p hp => by omega) (fun p h1 h2 => by omega) (by simp)
end Go.Proofs.YtnhngjhodcikiaaDoor.Pure
