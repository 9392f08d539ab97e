/- What a step of a state does, plainly: it answers always; a row with an entry put in, taken out, or with a new level. -/
import Derived.Test.YtnhngjhodcikiaaDoorMLook
import Derived.Test.YtnhngjhodcikiaaDoorFx21
import Derived.Test.YtnhngjhodcikiaaDoorFx22
import Derived.Test.YtnhngjhodcikiaaDoorFx26
import Derived.Test.YtnhngjhodcikiaaDoorFx27
namespace Go.Proofs.YtnhngjhodcikiaaDoor.M
set_option linter.unusedVariables false
set_option linter.unusedSimpArgs false
open Go.RowKit Go.Proofs.YtnhngjhodcikiaaDoor.F Go.Proofs.YtnhngjhodcikiaaDoorW.PrintWords Go.Proofs.YtnhngjhodcikiaaDoorW.PrintLast Go.Proofs.YtnhngjhodcikiaaDoorW.PrintMore
theorem rec_tot (k : Nat) (r0 r1 : Int) (r2 : ByteArray) (r3 r4 r5 r6 r7 r8 r9 r10 : Int) : ∃ b, record_Valid.f (k + 1) r0 r1 r2 r3 r4 r5 r6 r7 r8 r9 r10 = some b ∧ (b = true → 1 ≤ r2.size ∧ r2.size ≤ 64 ∧ (r0 = 1 ∨ r0 = 2 ∨ r0 = 3) ∧ (r0 = 1 → okB r3 r4 r5 r6 r7 = true)) := by
  unfold record_Valid.f
  by_cases c1 : (r2.size : Int) < 1
  · rw [if_pos c1]
    exact ⟨false, by simp [record_Valid.j0], fun h => by cases h⟩
  · rw [if_neg c1]
    by_cases c2 : (r2.size : Int) > 64
    · rw [decide_eq_true c2]
      exact ⟨false, by simp [record_Valid.j0], fun h => by cases h⟩
    · rw [decide_eq_false c2]
      simp only [record_Valid.j0, Bool.false_eq_true, if_false, policy_Valid.f, ok_B, Option.bind_some]
      by_cases h1 : r0 = 1
      · rw [if_pos h1]
        cases hb : okB r3 r4 r5 r6 r7
        · exact ⟨false, by simp, fun h => by cases h⟩
        · exact ⟨_, by rw [if_pos rfl], fun h => ⟨by omega, by omega, .inl h1, fun _ => rfl⟩⟩
      · rw [if_neg h1]
        by_cases h2 : r0 = 2
        · rw [if_pos h2]
          split
          · exact ⟨_, rfl, fun h => ⟨by omega, by omega, .inr (.inl h2), fun h3 => absurd h3 h1⟩⟩
          · exact ⟨false, rfl, fun h => by cases h⟩
        · rw [if_neg h2]
          by_cases h3 : r0 = 3
          · rw [if_pos h3]
            have g : ∀ b : Bool, (b = true → 1 ≤ r2.size ∧ r2.size ≤ 64 ∧ (r0 = 1 ∨ r0 = 2 ∨ r0 = 3) ∧ (r0 = 1 → okB r3 r4 r5 r6 r7 = true)) := fun b _ => ⟨by omega, by omega, .inr (.inr h3), fun h => absurd h h1⟩
            split
            · split
              · exact ⟨_, rfl, g _⟩
              · split
                · exact ⟨_, rfl, g _⟩
                · exact ⟨_, rfl, g _⟩
            · exact ⟨_, rfl, g _⟩
          · rw [if_neg h3]
            exact ⟨false, rfl, fun h => by cases h⟩
theorem cov_tot (a0 a1 a2 a3 a4 b0 b1 b2 c0 c1 c2 : Int) : ∃ b, policy_Covers.f a0 a1 a2 a3 a4 b0 b1 b2 c0 c1 c2 = some b := by
  simp only [policy_Covers.f, ok_B, Option.bind_some]
  split
  · split
    · exact ⟨_, rfl⟩
    · unfold policy_rules_12.f
      split
      · exact ⟨_, rfl⟩
      · split
        · exact ⟨_, rfl⟩
        · exact ⟨_, rfl⟩
  · exact ⟨_, rfl⟩
/-- An entry by itself. -/
def selfB (E : S56) : Bool := (decide (1 ≤ E.f0.size) && decide (E.f0.size ≤ 64)) && fitB E.f1.f0 E.f1.f1 E.f1.f2 E.f1.f3 E.f1.f4 E.f2.f0 E.f2.f1 E.f2.f2
theorem rd_get {l : List S56} {i : Nat} (h : i < l.length) : rd_T56 l (i : Nat) = l[i] := by
  show l.getD ((i : Int)).toNat z56 = l[i]
  rw [Int.toNat_natCast, List.getD_eq_getElem?_getD, List.getElem?_eq_getElem h, Option.getD_some]
theorem val_iff (a0 : Int) (l : List S56) : valB a0 l = true ↔ a0 ≤ 4611686018427387904 ∧ l.length ≤ 4096 ∧ (∀ E ∈ l, selfB E = true) ∧ Rise l l.length := by
  constructor
  · intro h
    refine ⟨?_, ?_, ?_, val_rise h⟩
    · unfold valB at h
      simp only [Bool.and_eq_true, decide_eq_true_eq] at h
      exact h.1
    · unfold valB at h
      simp only [Bool.and_eq_true, decide_eq_true_eq] at h
      exact h.2.1
    · intro E hE
      unfold valB at h
      simp only [Bool.and_eq_true, decide_eq_true_eq] at h
      obtain ⟨i, hi, e⟩ := List.getElem_of_mem hE
      have h2 := (allB_iff l l.length 0).1 h.2.2 i (Nat.zero_le _) (by omega)
      unfold entB at h2
      rw [rd_get hi, e] at h2
      unfold selfB
      simp only [Bool.and_eq_true] at h2 ⊢
      exact ⟨h2.1, h2.2.2⟩
  · rintro ⟨h1, h2, h3, h4⟩
    unfold valB
    simp only [Bool.and_eq_true, decide_eq_true_eq]
    refine ⟨h1, h2, (allB_iff l l.length 0).2 fun j _ hj => ?_⟩
    have hj' : j < l.length := by omega
    have h5 := h3 _ (List.getElem_mem hj')
    unfold entB
    rw [rd_get hj']
    unfold selfB at h5
    simp only [Bool.and_eq_true, Bool.or_eq_true, decide_eq_true_eq] at h5 ⊢
    refine ⟨h5.1, ?_, h5.2⟩
    rcases Nat.eq_zero_or_pos j with e | e
    · exact .inl e
    · right
      have h6 := h4 (j - 1) (by omega)
      rw [show j - 1 + 1 = j by omega, rd_get hj'] at h6
      exact h6
/-- A row with an entry put in, taken out. -/
def ins (l : List S56) (a : Nat) (X : S56) : List S56 := l.take a ++ [X] ++ l.drop a
def del (l : List S56) (a : Nat) : List S56 := l.take a ++ l.drop (a + 1)
theorem ins_len {l : List S56} {a : Nat} (X : S56) (h : a ≤ l.length) : (ins l a X).length = l.length + 1 := by
  unfold ins
  rw [List.length_append, List.length_append, List.length_take, List.length_drop, List.length_singleton]
  omega
theorem del_len {l : List S56} {a : Nat} (h : a < l.length) : (del l a).length = l.length - 1 := by
  unfold del
  rw [List.length_append, List.length_take, List.length_drop]
  omega
theorem rdq (l : List S56) (p : Nat) : rd_T56 l (p : Nat) = (l[p]?).getD z56 := by
  show l.getD ((p : Int)).toNat z56 = _
  rw [Int.toNat_natCast, List.getD_eq_getElem?_getD]
theorem ins_lo {l : List S56} {a p : Nat} (X : S56) (h : a ≤ l.length) (hp : p < a) : rd_T56 (ins l a X) (p : Nat) = rd_T56 l (p : Nat) := by
  rw [rdq, rdq]
  unfold ins
  rw [List.append_assoc, List.getElem?_append_left (by rw [List.length_take]; omega), List.getElem?_take_of_lt hp]
theorem ins_at {l : List S56} {a : Nat} (X : S56) (h : a ≤ l.length) : rd_T56 (ins l a X) (a : Nat) = X := by
  rw [rdq]
  unfold ins
  rw [List.append_assoc, List.getElem?_append_right (by rw [List.length_take]; omega), List.length_take, Nat.min_eq_left h, Nat.sub_self]
  rfl
theorem ins_hi {l : List S56} {a p : Nat} (X : S56) (h : a ≤ l.length) (hp : a ≤ p) : rd_T56 (ins l a X) ((p + 1 : Nat) : Int) = rd_T56 l (p : Nat) := by
  rw [rdq, rdq]
  unfold ins
  rw [List.append_assoc, List.getElem?_append_right (by rw [List.length_take]; omega), List.length_take, Nat.min_eq_left h, show p + 1 - a = (p - a) + 1 by omega, List.singleton_append, List.getElem?_cons_succ, List.getElem?_drop, show a + (p - a) = p by omega]
theorem del_lo {l : List S56} {a p : Nat} (h : a < l.length) (hp : p < a) : rd_T56 (del l a) (p : Nat) = rd_T56 l (p : Nat) := by
  rw [rdq, rdq]
  unfold del
  rw [List.getElem?_append_left (by rw [List.length_take]; omega), List.getElem?_take_of_lt hp]
theorem del_hi {l : List S56} {a p : Nat} (h : a < l.length) (hp : a ≤ p) : rd_T56 (del l a) (p : Nat) = rd_T56 l ((p + 1 : Nat) : Int) := by
  rw [rdq, rdq]
  unfold del
  rw [List.getElem?_append_right (by rw [List.length_take]; omega), List.length_take, Nat.min_eq_left (by omega), List.getElem?_drop, show a + 1 + (p - a) = p + 1 by omega]
theorem set_ne {l : List S56} {a p : Nat} (X : S56) (hp : p ≠ a) : rd_T56 (l.set a X) (p : Nat) = rd_T56 l (p : Nat) := by
  rw [rdq, rdq, List.getElem?_set_ne (Ne.symm hp)]
theorem set_at {l : List S56} {a : Nat} (X : S56) (h : a < l.length) : rd_T56 (l.set a X) (a : Nat) = X := by
  rw [rdq, List.getElem?_set_self h]
  rfl
/-- What a key's place says of the row. -/
theorem place_new {l : List S56} {key : ByteArray} (h : Rise l l.length) (hf : state_Find.is_ l key = false) : ∀ p, state_Find.at_ l key ≤ p → p < l.length → Op.bytesLess key.toList (rd_T56 l (p : Nat)).f0.toList = true := by
  obtain ⟨h1, h2, h3⟩ := find_spec key h
  intro p hp hl
  have first : Op.bytesLess key.toList (rd_T56 l ((state_Find.at_ l key : Nat) : Int)).f0.toList = true := by
    have a := h3 _ (Nat.le_refl _) (by omega)
    cases e : Op.bytesLess key.toList (rd_T56 l ((state_Find.at_ l key : Nat) : Int)).f0.toList
    · have := bl_tri a e
      unfold state_Find.is_ at hf
      rw [this, decide_eq_true (by omega)] at hf
      simp at hf
    · rfl
  rcases Nat.eq_or_lt_of_le hp with e | e
  · rw [← e]; exact first
  · exact bl_trans first (h.lt' e hl)
theorem ins_rise {l : List S56} {key : ByteArray} (X : S56) (hX : X.f0 = key) (h : Rise l l.length) (hf : state_Find.is_ l key = false) : Rise (ins l (state_Find.at_ l key) X) (ins l (state_Find.at_ l key) X).length := by
  obtain ⟨h1, h2, h3⟩ := find_spec key h
  have hn := place_new h hf
  generalize state_Find.at_ l key = a at *
  rw [ins_len X h1]
  intro i hi
  rcases Nat.lt_trichotomy (i + 1) a with c | c | c
  · rw [ins_lo X h1 (by omega), ins_lo X h1 c]
    exact h i (by omega)
  · rw [ins_lo X h1 (by omega), c, ins_at X h1, hX]
    exact h2 i (by omega)
  · rcases Nat.eq_or_lt_of_le (Nat.le_of_lt_succ c : a ≤ i) with e | e
    · subst e
      rw [ins_at X h1, ins_hi X h1 (Nat.le_refl _), hX]
      exact hn a (Nat.le_refl _) (by omega)
    · obtain ⟨j, rfl⟩ : ∃ j, i = j + 1 := ⟨i - 1, by omega⟩
      rw [ins_hi X h1 (by omega), ins_hi X h1 (by omega)]
      exact h j (by omega)
theorem del_rise {l : List S56} {a : Nat} (h : Rise l l.length) (ha : a < l.length) : Rise (del l a) (del l a).length := by
  rw [del_len ha]
  intro i hi
  rcases Nat.lt_trichotomy (i + 1) a with c | c | c
  · rw [del_lo ha (by omega), del_lo ha c]
    exact h i (by omega)
  · rw [del_lo ha (by omega), del_hi ha (by omega)]
    exact h.lt' (by omega) (by omega)
  · rw [del_hi ha (by omega), del_hi ha (by omega)]
    exact h (i + 1) (by omega)
theorem set_rise {l : List S56} {a : Nat} (X : S56) (h : Rise l l.length) (ha : a < l.length) (hX : X.f0 = (rd_T56 l (a : Nat)).f0) : Rise (l.set a X) (l.set a X).length := by
  have key : ∀ p, p < l.length → (rd_T56 (l.set a X) (p : Nat)).f0 = (rd_T56 l (p : Nat)).f0 := fun p hp => by
    by_cases c : p = a
    · subst c
      rw [set_at X ha, hX]
    · rw [set_ne X c]
  rw [List.length_set]
  intro i hi
  rw [key i (by omega), key (i + 1) hi]
  exact h i hi
/-- Where a key is in the row behind a step. -/
theorem ins_find {l : List S56} {key : ByteArray} (X : S56) (hX : X.f0 = key) (h : Rise l l.length) (hf : state_Find.is_ l key = false) : state_Find.at_ (ins l (state_Find.at_ l key) X) key = state_Find.at_ l key ∧ state_Find.is_ (ins l (state_Find.at_ l key) X) key = true := by
  have hR := ins_rise X hX h hf
  obtain ⟨h1, h2, h3⟩ := find_spec key h
  have hn := place_new h hf
  have hl := ins_len X h1
  have e : state_Find.at_ (ins l (state_Find.at_ l key) X) key = state_Find.at_ l key := by
    generalize state_Find.at_ l key = a at *
    refine at_eq hR (by omega) (fun p hp => by rw [ins_lo X h1 hp]; exact h2 p hp) (fun p hp hpl => ?_)
    rcases Nat.eq_or_lt_of_le hp with e | e
    · rw [← e, ins_at X h1, hX, bl_irrefl]
    · obtain ⟨j, rfl⟩ : ∃ j, p = j + 1 := ⟨p - 1, by omega⟩
      rw [ins_hi X h1 (by omega)]
      exact h3 j (by omega) (by omega)
  refine ⟨e, ?_⟩
  unfold state_Find.is_
  rw [e, ins_at X h1, hX, decide_eq_true (by omega)]
  simp
theorem is_here {l : List S56} {key : ByteArray} (h : state_Find.is_ l key = true) : state_Find.at_ l key < l.length ∧ (rd_T56 l ((state_Find.at_ l key : Nat) : Int)).f0.toList = key.toList := by
  unfold state_Find.is_ at h
  simp only [Bool.and_eq_true, decide_eq_true_eq, beq_iff_eq] at h
  exact h
theorem del_find {l : List S56} {key : ByteArray} (h : Rise l l.length) (hf : state_Find.is_ l key = true) : state_Find.at_ (del l (state_Find.at_ l key)) key = state_Find.at_ l key ∧ state_Find.is_ (del l (state_Find.at_ l key)) key = false := by
  obtain ⟨h1, h2, h3⟩ := find_spec key h
  obtain ⟨ha, hk⟩ := is_here hf
  have hR := del_rise h ha
  have hl := del_len ha
  have e : state_Find.at_ (del l (state_Find.at_ l key)) key = state_Find.at_ l key := by
    generalize state_Find.at_ l key = a at *
    refine at_eq hR (by omega) (fun p hp => by rw [del_lo ha hp]; exact h2 p hp) (fun p hp hpl => ?_)
    rw [del_hi ha hp]
    exact h3 (p + 1) (by omega) (by omega)
  refine ⟨e, ?_⟩
  unfold state_Find.is_
  rw [e]
  cases c : decide (state_Find.at_ l key < (del l (state_Find.at_ l key)).length)
  · rfl
  · have c' := of_decide_eq_true c
    rw [del_hi ha (Nat.le_refl _)]
    have q := h.lt' (Nat.lt_succ_self (state_Find.at_ l key)) (show state_Find.at_ l key + 1 < l.length by omega)
    rw [hk] at q
    have : ¬ (rd_T56 l ((state_Find.at_ l key + 1 : Nat) : Int)).f0.toList = key.toList := fun e2 => by
      rw [e2, bl_irrefl] at q
      cases q
    rw [Bool.true_and]
    exact beq_eq_false_iff_ne.mpr this
theorem set_find {l : List S56} {key : ByteArray} (X : S56) (h : Rise l l.length) (hf : state_Find.is_ l key = true) (hX : X.f0 = (rd_T56 l ((state_Find.at_ l key : Nat) : Int)).f0) : state_Find.at_ (l.set (state_Find.at_ l key) X) key = state_Find.at_ l key ∧ state_Find.is_ (l.set (state_Find.at_ l key) X) key = true := by
  obtain ⟨h1, h2, h3⟩ := find_spec key h
  obtain ⟨ha, hk⟩ := is_here hf
  have hR := set_rise X h ha hX
  have e : state_Find.at_ (l.set (state_Find.at_ l key) X) key = state_Find.at_ l key := by
    generalize state_Find.at_ l key = a at *
    refine at_eq hR (by rw [List.length_set]; omega) (fun p hp => by rw [set_ne X (by omega)]; exact h2 p hp) (fun p hp hpl => ?_)
    rw [List.length_set] at hpl
    by_cases c : p = a
    · subst c
      rw [set_at X ha, hX]
      exact h3 p (Nat.le_refl _) ha
    · rw [set_ne X c]
      exact h3 p hp hpl
  refine ⟨e, ?_⟩
  unfold state_Find.is_
  rw [e, set_at X ha, hX, hk, List.length_set, decide_eq_true ha]
  simp
end Go.Proofs.YtnhngjhodcikiaaDoor.M
