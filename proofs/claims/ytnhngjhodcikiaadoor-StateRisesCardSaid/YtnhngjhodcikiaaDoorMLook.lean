/- What Valid, Find and Equal of a state answer, the program's and the document's: plainly, and alike. -/
import Derived.Test.YtnhngjhodcikiaaDoorMStr
import Derived.Test.YtnhngjhodcikiaaDoorFx15
import Derived.Test.YtnhngjhodcikiaaDoorFx16
import Derived.Test.YtnhngjhodcikiaaDoorFx19
import Derived.Test.YtnhngjhodcikiaaDoorFx31
import Derived.Test.YtnhngjhodcikiaaDoorFx33
import Derived.Test.YtnhngjhodcikiaaDoorFx34
import Derived.Test.YtnhngjhodcikiaaDoorFx35
namespace Go.Proofs.YtnhngjhodcikiaaDoor.M
set_option linter.unusedVariables false
set_option linter.unusedSimpArgs false
open Go.RowKit Go.Proofs.YtnhngjhodcikiaaDoor.F Go.Proofs.YtnhngjhodcikiaaDoorW.PrintWords Go.Proofs.YtnhngjhodcikiaaDoorW.PrintLast Go.Proofs.YtnhngjhodcikiaaDoorW.PrintMore
theorem fits_eq (a0 a1 a2 a3 a4 b0 b1 b2 : Int) : policy_Fits.f a0 a1 a2 a3 a4 b0 b1 b2 = turnstileref06_Fits.f a0 a1 a2 a3 a4 b0 b1 b2 := by
  have e1 : (a1 ≥ 1) = (a1 > 0) := propext (by omega)
  have e4 : (a4 ≥ 1) = (a4 > 0) := propext (by omega)
  simp only [policy_Fits.f, turnstileref06_Fits.f, policy_of.ok, policy_rules_1.f, policy_rules_7.f, policy_rules_2.f, policy_rules_8.f, turnstileref06_Valid.f, turnstileref06_Form.f, e1, e4]
  by_cases c0 : a0 = 1
  · simp only [if_pos c0]
    by_cases c1 : a1 > 0
    · simp only [if_pos c1]
      by_cases c3 : a3 = 0
      · simp only [if_pos c3, Option.bind_some]
        by_cases c4 : (a4 == 0) = true
        · simp only [c4, if_true, Option.bind_some]
        · simp only [Bool.eq_false_iff.mpr c4, Bool.false_eq_true, if_false]
      · simp only [if_neg c3, Option.bind_some, Bool.false_eq_true, if_false]
    · simp only [if_neg c1, Option.bind_some, Bool.false_eq_true, if_false]
  · simp only [if_neg c0]
    by_cases c2 : a0 = 2
    · simp only [if_pos c2]
      by_cases c1 : a4 > 0
      · simp only [if_pos c1]
        by_cases c3 : a1 = 0
        · simp only [if_pos c3, Option.bind_some]
          by_cases c4 : (a2 == 0) = true
          · simp only [c4, if_true, Option.bind_some]
          · simp only [Bool.eq_false_iff.mpr c4, Bool.false_eq_true, if_false]
        · simp only [if_neg c3, Option.bind_some, Bool.false_eq_true, if_false]
      · simp only [if_neg c1, Option.bind_some, Bool.false_eq_true, if_false]
    · simp only [if_neg c2, Option.bind_some, Bool.false_eq_true, if_false]
def okB (a0 a1 a2 a3 a4 : Int) : Bool := if a0 = 1 then (decide (a1 ≥ 1) && (a3 == 0 && a4 == 0)) else if a0 = 2 then (decide (a4 ≥ 1) && (a1 == 0 && a2 == 0)) else false
theorem ok_B (a0 a1 a2 a3 a4 : Int) : policy_of.ok a0 a1 a2 a3 a4 = some (okB a0 a1 a2 a3 a4) := by
  simp only [policy_of.ok, policy_rules_1.f, policy_rules_7.f, okB]
  by_cases c0 : a0 = 1
  · simp only [if_pos c0]
    by_cases c1 : a1 ≥ 1
    · by_cases c3 : a3 = 0 <;> simp [c1, c3]
    · simp [c1]
  · simp only [if_neg c0]
    by_cases c2 : a0 = 2
    · simp only [if_pos c2]
      by_cases c1 : a4 ≥ 1
      · by_cases c3 : a1 = 0 <;> simp [c1, c3]
      · simp [c1]
    · simp [c2]
def fitB (a0 a1 a2 a3 a4 b0 b1 b2 : Int) : Bool := okB a0 a1 a2 a3 a4 && (if a0 = 1 then (b1 == 0 && b2 == 0) else b0 == 0)
theorem fits_B (a0 a1 a2 a3 a4 b0 b1 b2 : Int) : policy_Fits.f a0 a1 a2 a3 a4 b0 b1 b2 = some (fitB a0 a1 a2 a3 a4 b0 b1 b2) := by
  simp only [policy_Fits.f, ok_B, Option.bind_some, policy_rules_2.f, policy_rules_8.f, fitB]
  cases okB a0 a1 a2 a3 a4
  · simp
  · by_cases c : a0 = 1
    · simp [c, Bool.beq_eq_decide_eq, eq_comm]
    · simp only [c, if_false, if_true, Bool.true_and, beq_self_eq_true, Bool.and_true]
      rw [BEq.comm (a := (0 : Int))]
theorem tl (s : ByteArray) : s.toList = s.data.toList := ByteArray.toList_eq s
theorem bt_get (s : ByteArray) (i : Nat) (h : i < s.size) : bt s (i : Int) = ((s.data.toList[i]'(by simpa using h)).toNat : Int) := by
  rw [← bt_at s (i : Int) (by simpa using h)]
  rfl
theorem drop_get (s : ByteArray) (i : Nat) (h : i < s.size) : s.data.toList.drop i = (s.data.toList[i]'(by simpa using h)) :: s.data.toList.drop (i + 1) := List.drop_eq_getElem_cons (by simpa using h)
theorem drop_end (s : ByteArray) (i : Nat) (h : s.size ≤ i) : s.data.toList.drop i = [] := List.drop_eq_nil_of_le (by simpa using h)
/-- The document's order of texts is the language's. -/
theorem before_go (a b : ByteArray) (ha : a.size ≤ 9223372036854775806) : ∀ (d i k : Nat), a.size - i = d → i ≤ a.size → i ≤ b.size → 2 * d + 2 ≤ k → turnstileref07_Before.l0 k a b (i : Int) = some (Op.bytesLess (a.data.toList.drop i) (b.data.toList.drop i)) := by
  intro d
  induction d with
  | zero =>
    intro i k hd h1 h2 hk
    obtain ⟨k, rfl⟩ : ∃ m, k = m + 2 := ⟨k - 2, by omega⟩
    have e : i = a.size := by omega
    simp only [turnstileref07_Before.l0]
    rw [if_neg (by omega)]
    simp only [turnstileref07_Before.j1, Bool.false_eq_true, if_false, drop_end a i (by omega)]
    rcases Nat.lt_or_ge i b.size with h3 | h3
    · rw [drop_get b i h3, Op.bytesLess, decide_eq_true (by omega)]
    · rw [drop_end b i h3, decide_eq_false (by omega)]
      rfl
  | succ d ih =>
    intro i k hd h1 h2 hk
    obtain ⟨k, rfl⟩ : ∃ m, k = m + 2 := ⟨k - 2, by omega⟩
    have hi : i < a.size := by omega
    simp only [turnstileref07_Before.l0]
    rw [if_pos (by omega)]
    simp only [turnstileref07_Before.j1]
    rcases Nat.lt_or_ge i b.size with h3 | h3
    · rw [if_pos (decide_eq_true (by omega)), if_pos (by omega), if_pos (by omega), if_pos (by omega), drop_get a i hi, drop_get b i h3, Op.bytesLess, bt_get a i hi, bt_get b i h3]
      generalize hx : a.data.toList[i]'(by simpa using hi) = x
      generalize hy : b.data.toList[i]'(by simpa using h3) = y
      by_cases c : (x.toNat : Int) = (y.toNat : Int)
      · rw [if_pos c, show wrap64 ((i : Int) + 1) = ((i + 1 : Nat) : Int) by unfold wrap64; omega, ih (i + 1) k (by omega) (by omega) (by omega) (by omega)]
        have e : x = y := UInt8.toNat_inj.1 (by omega)
        subst e
        simp
      · rw [if_neg c]
        have e : x ≠ y := fun e => c (by rw [e])
        congr 1
        rw [Bool.eq_iff_iff]
        simp [e, UInt8.lt_iff_toNat_lt]
    · rw [if_neg (by simp; omega), drop_get a i hi, drop_end b i h3, decide_eq_false (by omega)]
      rfl
theorem before_eq (a b : ByteArray) (k : Nat) (ha : a.size ≤ 9223372036854775806) (hk : 2 * a.size + 2 ≤ k) : turnstileref07_Before.f k a b = some (Op.bytesLess a.toList b.toList) := by
  have h := before_go a b ha a.size 0 k (by omega) (Nat.zero_le _) (Nat.zero_le _) hk
  rw [tl, tl]
  simpa [turnstileref07_Before.f] using h
/-- An entry, by itself and behind the one ahead of it. -/
def entB (l : List S56) (i : Nat) : Bool :=
  (decide (1 ≤ (rd_T56 l (i : Nat)).f0.size) && decide ((rd_T56 l (i : Nat)).f0.size ≤ 64)) && ((decide (i = 0) || Op.bytesLess (rd_T56 l ((i - 1 : Nat) : Int)).f0.toList (rd_T56 l (i : Nat)).f0.toList) &&
    fitB (rd_T56 l (i : Nat)).f1.f0 (rd_T56 l (i : Nat)).f1.f1 (rd_T56 l (i : Nat)).f1.f2 (rd_T56 l (i : Nat)).f1.f3 (rd_T56 l (i : Nat)).f1.f4 (rd_T56 l (i : Nat)).f2.f0 (rd_T56 l (i : Nat)).f2.f1 (rd_T56 l (i : Nat)).f2.f2)
def allB (l : List S56) : Nat → Nat → Bool
  | 0, _ => true
  | m + 1, i => entB l i && allB l m (i + 1)
def valB (a0 : Int) (l : List S56) : Bool := decide (a0 ≤ 4611686018427387904) && (decide (l.length ≤ 4096) && allB l l.length 0)
theorem rd_D (l : List S56) (i : Nat) : l.getD i z56 = rd_T56 l (i : Nat) := rfl
theorem ok_ent (l : List S56) (i : Nat) : state_Valid.ok l i = some (entB l i) := by
  unfold state_Valid.ok entB
  rw [rd_D, rd_D]
  generalize rd_T56 l (i : Nat) = E
  generalize rd_T56 l ((i - 1 : Nat) : Int) = P
  by_cases c1 : E.f0.size < 1
  · rw [if_pos c1, decide_eq_false (by omega : ¬ 1 ≤ E.f0.size)]
    rfl
  · rw [if_neg c1, decide_eq_true (by omega : 1 ≤ E.f0.size)]
    by_cases c2 : 64 < E.f0.size
    · rw [if_pos c2, decide_eq_false (by omega : ¬ E.f0.size ≤ 64)]
      rfl
    · rw [if_neg c2, decide_eq_true (by omega : E.f0.size ≤ 64)]
      simp only [policy_Valid.f, fits_B, ok_B, Option.bind_some]
      have hf : ∀ b : Bool, b = okB E.f1.f0 E.f1.f1 E.f1.f2 E.f1.f3 E.f1.f4 → (if b = true then some (fitB E.f1.f0 E.f1.f1 E.f1.f2 E.f1.f3 E.f1.f4 E.f2.f0 E.f2.f1 E.f2.f2) else some false) = some (fitB E.f1.f0 E.f1.f1 E.f1.f2 E.f1.f3 E.f1.f4 E.f2.f0 E.f2.f1 E.f2.f2) := fun b hb => by
        cases b
        · unfold fitB
          rw [← hb]
          rfl
        · rfl
      rw [hf _ rfl]
      by_cases c3 : i = 0
      · subst c3
        simp
      · cases e : Op.bytesLess P.f0.toList E.f0.toList
        · rw [if_pos (by simp; omega)]
          simp [c3]
        · rw [if_neg (by simp)]
          simp
theorem go_all (l : List S56) : ∀ m i, state_Valid.go l m i = some (allB l m i)
  | 0, _ => rfl
  | m + 1, i => by
    rw [state_Valid.go, ok_ent, Option.bind_some, go_all l m (i + 1), allB]
    cases entB l i <;> simp
theorem valid_B (a0 a1 : Int) (l : List S56) : state_Valid.f a0 a1 l = some (valB a0 l) := by
  unfold state_Valid.f valB
  by_cases c1 : 4611686018427387904 < a0
  · rw [if_pos c1, decide_eq_false (by omega : ¬ a0 ≤ 4611686018427387904)]
    rfl
  · rw [if_neg c1, decide_eq_true (by omega : a0 ≤ 4611686018427387904)]
    by_cases c2 : 4096 < l.length
    · rw [if_pos c2, decide_eq_false (by omega : ¬ l.length ≤ 4096)]
      rfl
    · rw [if_neg c2, decide_eq_true (by omega : l.length ≤ 4096), go_all]
      rfl
theorem allB_iff (l : List S56) : ∀ m i, allB l m i = true ↔ ∀ j, i ≤ j → j < i + m → entB l j = true
  | 0, i => by simp [allB]; omega
  | m + 1, i => by
    rw [allB, Bool.and_eq_true, allB_iff l m (i + 1)]
    constructor
    · rintro ⟨h1, h2⟩ j h3 h4
      rcases Nat.eq_or_lt_of_le h3 with e | e
      · rw [← e]; exact h1
      · exact h2 j (by omega) (by omega)
    · intro h
      exact ⟨h i (Nat.le_refl _) (by omega), fun j h1 h2 => h j (by omega) (by omega)⟩
theorem val_rise {a0 : Int} {l : List S56} (h : valB a0 l = true) : Rise l l.length := by
  unfold valB at h
  simp only [Bool.and_eq_true, decide_eq_true_eq] at h
  have h3 := (allB_iff l l.length 0).1 h.2.2
  intro i hi
  have e := h3 (i + 1) (Nat.zero_le _) (by omega)
  unfold entB at e
  simp only [Bool.and_eq_true, Bool.or_eq_true, decide_eq_true_eq] at e
  have := e.2.1.resolve_left (by omega)
  rwa [show i + 1 - 1 = i by omega] at this
/-- The document's. -/
theorem rvalid_go (l : List S56) (a0 a1 : Int) (hl : l.length ≤ 4096) : ∀ (d i k : Nat), l.length - i = d → i ≤ l.length → 2 * d + 140 ≤ k → (0 < i → (rd_T56 l ((i - 1 : Nat) : Int)).f0.size ≤ 64) → turnstileref13_Valid.l0 k (i : Int) a0 a1 l = some (allB l d i) := by
  intro d
  induction d with
  | zero =>
    intro i k hd hi hk _
    obtain ⟨k, rfl⟩ : ∃ m, k = m + 1 := ⟨k - 1, by omega⟩
    simp only [turnstileref13_Valid.l0]
    rw [if_neg (by omega)]
    rfl
  | succ d ih =>
    intro i k hd hi hk hp
    obtain ⟨k, rfl⟩ : ∃ m, k = m + 2 := ⟨k - 2, by omega⟩
    have hlt : i < l.length := by omega
    have nxt := fun h => ih (i + 1) k (by omega) (by omega) (by omega) h
    rw [show i + 1 - 1 = i by omega] at nxt
    simp only [turnstileref13_Valid.l0]
    rw [if_pos (by omega), if_pos (by omega), allB]
    unfold entB
    generalize rd_T56 l (i : Nat) = E at *
    by_cases c1 : E.f0.size < 1
    · rw [if_pos (by omega), decide_eq_false (by omega : ¬ 1 ≤ E.f0.size)]
      simp [turnstileref13_Valid.j2]
    · rw [if_neg (by omega), decide_eq_true (by omega : 1 ≤ E.f0.size)]
      by_cases c2 : 64 < E.f0.size
      · rw [if_pos (by omega), decide_eq_false (by omega : ¬ E.f0.size ≤ 64)]
        simp [turnstileref13_Valid.j2]
      · rw [if_neg (by omega), decide_eq_true (by omega : E.f0.size ≤ 64), ← fits_eq, fits_B, Option.bind_some]
        cases hf : fitB E.f1.f0 E.f1.f1 E.f1.f2 E.f1.f3 E.f1.f4 E.f2.f0 E.f2.f1 E.f2.f2
        · simp [turnstileref13_Valid.j2]
        · simp only [turnstileref13_Valid.j2, Bool.not_true, Bool.false_eq_true, if_false]
          have hn := nxt (fun _ => by omega)
          by_cases c3 : i = 0
          · rw [if_neg (by omega), show wrap64 ((i : Int) + 1) = ((i + 1 : Nat) : Int) by unfold wrap64; omega, hn]
            simp [c3]
          · have hp' := hp (by omega)
            rw [if_pos (by omega), show wrap64 ((i : Int) - 1) = ((i - 1 : Nat) : Int) by unfold wrap64; omega, if_pos (by omega), if_pos (by omega), before_eq _ _ k (by omega) (by omega), Option.bind_some, show wrap64 ((i : Int) + 1) = ((i + 1 : Nat) : Int) by unfold wrap64; omega]
            cases Op.bytesLess (rd_T56 l ((i - 1 : Nat) : Int)).f0.toList E.f0.toList
            · simp [c3]
            · rw [if_pos rfl, hn]
              simp
theorem rvalid_B (a0 a1 : Int) (l : List S56) (k : Nat) (hk : 9000 ≤ k) : turnstileref13_Valid.f k a0 a1 l = some (valB a0 l) := by
  obtain ⟨k, rfl⟩ : ∃ m, k = m + 1 := ⟨k - 1, by omega⟩
  unfold turnstileref13_Valid.f valB
  by_cases c1 : a0 > 4611686018427387904
  · rw [if_pos c1, decide_eq_false (by omega : ¬ a0 ≤ 4611686018427387904)]
    simp [turnstileref13_Valid.j0]
  · rw [if_neg c1, decide_eq_true (by omega : a0 ≤ 4611686018427387904)]
    by_cases c2 : 4096 < l.length
    · rw [decide_eq_true (by omega : (l.length : Int) > 4096), decide_eq_false (by omega : ¬ l.length ≤ 4096)]
      simp [turnstileref13_Valid.j0]
    · rw [decide_eq_false (by omega : ¬ (l.length : Int) > 4096), decide_eq_true (by omega : l.length ≤ 4096)]
      simp only [turnstileref13_Valid.j0, Bool.false_eq_true, if_false]
      rw [show (0 : Int) = ((0 : Nat) : Int) from rfl, rvalid_go l a0 a1 (by omega) l.length 0 k (by omega) (Nat.zero_le _) (by omega) (by omega)]
      rfl
theorem at_eq {l : List S56} {key : ByteArray} {n : Nat} (h : Rise l l.length) (hn : n ≤ l.length) (ha : ∀ p, p < n → Op.bytesLess (rd_T56 l (p : Nat)).f0.toList key.toList = true) (hb : ∀ p, n ≤ p → p < l.length → Op.bytesLess (rd_T56 l (p : Nat)).f0.toList key.toList = false) : state_Find.at_ l key = n := by
  obtain ⟨h1, h2, h3⟩ := find_spec key h
  rcases Nat.lt_trichotomy (state_Find.at_ l key) n with hlt | he | hgt
  · have a := h3 _ (Nat.le_refl _) (by omega)
    rw [ha _ hlt] at a
    cases a
  · exact he
  · have a := hb _ (Nat.le_refl _) (by omega)
    rw [h2 _ hgt] at a
    cases a
theorem rd_size {l : List S56} {S : Nat} (h : ∀ e ∈ l, e.f0.size ≤ S) {i : Nat} (hi : i < l.length) : (rd_T56 l (i : Nat)).f0.size ≤ S := by
  have e : rd_T56 l (i : Nat) = l[i] := by
    show l.getD ((i : Int)).toNat z56 = l[i]
    rw [Int.toNat_natCast, List.getD_eq_getElem?_getD, List.getElem?_eq_getElem hi, Option.getD_some]
  rw [e]
  exact h _ (List.getElem_mem hi)
/-- The document's search, from the front. -/
theorem rfind_go (l : List S56) (key : ByteArray) (a0 a1 : Int) (S : Nat) (hS : S ≤ 9223372036854775806) (hl : l.length ≤ 9223372036854775806) (h : ∀ e ∈ l, e.f0.size ≤ S) : ∀ (d i k : Nat), l.length - i = d → i ≤ l.length → d + 2 * S + 3 ≤ k → (∀ p, p < i → Op.bytesLess (rd_T56 l (p : Nat)).f0.toList key.toList = true) →
    ∃ (n : Nat) (b : Bool), turnstileref13_Find.l0 k key (i : Int) a0 a1 l = some ((n : Int), b) ∧ n ≤ l.length ∧ (∀ p, p < n → Op.bytesLess (rd_T56 l (p : Nat)).f0.toList key.toList = true) ∧ (n < l.length → Op.bytesLess (rd_T56 l (n : Nat)).f0.toList key.toList = false) ∧ b = (decide (n < l.length) && ((rd_T56 l (n : Nat)).f0.toList == key.toList)) := by
  intro d
  induction d with
  | zero =>
    intro i k hd hi hk ha
    obtain ⟨k, rfl⟩ : ∃ m, k = m + 1 := ⟨k - 1, by omega⟩
    refine ⟨l.length, false, ?_, Nat.le_refl _, fun p hp => ha p (by omega), fun hh => by omega, by simp⟩
    simp only [turnstileref13_Find.l0]
    rw [if_neg (by omega)]
  | succ d ih =>
    intro i k hd hi hk ha
    obtain ⟨k, rfl⟩ : ∃ m, k = m + 1 := ⟨k - 1, by omega⟩
    have hlt : i < l.length := by omega
    have hs := rd_size h hlt
    simp only [turnstileref13_Find.l0]
    rw [if_pos (by omega), if_pos (by omega), before_eq _ _ k (by omega) (by omega), Option.bind_some]
    cases e : Op.bytesLess (rd_T56 l (i : Nat)).f0.toList key.toList
    · refine ⟨i, _, by rw [if_neg (by simp)], hi, ha, fun _ => e, by simp [hlt]⟩
    · rw [if_pos rfl, show wrap64 ((i : Int) + 1) = ((i + 1 : Nat) : Int) by unfold wrap64; omega]
      exact ih (i + 1) k (by omega) (by omega) (by omega) (fun p hp => by
        rcases Nat.lt_or_ge p i with h3 | h3
        · exact ha p h3
        · rw [show p = i by omega]; exact e)
theorem rfind_B (l : List S56) (key : ByteArray) (a0 a1 : Int) (S : Nat) (hS : S ≤ 9223372036854775806) (hl : l.length ≤ 9223372036854775806) (h : ∀ e ∈ l, e.f0.size ≤ S) (k : Nat) (hk : l.length + 2 * S + 3 ≤ k) :
    ∃ (n : Int) (b : Bool), turnstileref13_Find.f k a0 a1 l key = some (n, b) ∧ (Rise l l.length → n = ((state_Find.at_ l key : Nat) : Int) ∧ b = state_Find.is_ l key) := by
  obtain ⟨n, b, e, h1, h2, h3, h4⟩ := rfind_go l key a0 a1 S hS hl h l.length 0 k (by omega) (Nat.zero_le _) hk (fun p hp => by omega)
  refine ⟨n, b, e, fun hR => ?_⟩
  have ea : state_Find.at_ l key = n := at_eq hR h1 h2 (fun p hp hpl => by
    rcases Nat.eq_or_lt_of_le hp with e | e
    · rw [← e]; exact h3 (by omega)
    · cases e2 : Op.bytesLess (rd_T56 l (p : Nat)).f0.toList key.toList
      · rfl
      · have := h3 (by omega)
        rw [bl_trans (hR.lt' e hpl) e2] at this
        cases this)
  refine ⟨by rw [ea], ?_⟩
  unfold state_Find.is_
  rw [ea]
  exact h4
/-- Unlike entries. -/
def neE (E F : S56) : Bool := !(E.f0.toList == F.f0.toList) || ((!(E.f1.f0 == F.f1.f0) || (!(E.f1.f1 == F.f1.f1) || (!(E.f1.f2 == F.f1.f2) || (!(E.f1.f3 == F.f1.f3) || !(E.f1.f4 == F.f1.f4))))) || (!(E.f2.f0 == F.f2.f0) || (!(E.f2.f1 == F.f2.f1) || !(E.f2.f2 == F.f2.f2))))
theorem neE_self (E : S56) : neE E E = false := by simp [neE]
def eqL (l m : List S56) : Nat → Nat → Bool
  | 0, _ => true
  | d + 1, i => if neE (rd_T56 l (i : Nat)) (rd_T56 m (i : Nat)) = true then false else eqL l m d (i + 1)
theorem eqL_self (l : List S56) : ∀ d i, eqL l l d i = true
  | 0, _ => rfl
  | d + 1, i => by rw [eqL, neE_self, if_neg (by simp), eqL_self l d (i + 1)]
def eqS (a0 a1 : Int) (l : List S56) (b0 b1 : Int) (m : List S56) : Bool := if a0 = b0 then (if a1 = b1 then (if l.length = m.length then eqL l m l.length 0 else false) else false) else false
theorem eqS_self (a0 a1 : Int) (l : List S56) : eqS a0 a1 l a0 a1 l = true := by simp [eqS, eqL_self]
theorem equal_go (l m : List S56) (hl : l.length ≤ 9223372036854775806) (hm : l.length = m.length) : ∀ (d i k : Nat), l.length - i = d → i ≤ l.length → d + 1 ≤ k → api_Entry_32.l0 k l m (l.length : Int) (i : Int) = some (eqL l m d i) := by
  intro d
  induction d with
  | zero =>
    intro i k hd hi hk
    obtain ⟨k, rfl⟩ : ∃ m, k = m + 1 := ⟨k - 1, by omega⟩
    simp only [api_Entry_32.l0]
    rw [if_neg (by omega)]
    rfl
  | succ d ih =>
    intro i k hd hi hk
    obtain ⟨k, rfl⟩ : ∃ m, k = m + 1 := ⟨k - 1, by omega⟩
    simp only [api_Entry_32.l0]
    rw [if_pos (by omega), if_pos (by omega), if_pos (by omega), if_pos (by omega), eqL]
    rw [show wrap64 ((i : Int) + 1) = ((i + 1 : Nat) : Int) by unfold wrap64; omega, ih (i + 1) k (by omega) (by omega) (by omega)]
    unfold neE
    split <;> rfl
theorem equal_B (a0 a1 : Int) (l : List S56) (b0 b1 : Int) (m : List S56) (hl : l.length ≤ 9223372036854775806) (k : Nat) (hk : l.length + 1 ≤ k) : state_Equal.f k a0 a1 l b0 b1 m = some (eqS a0 a1 l b0 b1 m) := by
  unfold state_Equal.f eqS
  by_cases c1 : a0 = b0
  · rw [if_pos c1, if_pos c1]
    by_cases c2 : a1 = b1
    · rw [if_pos c2, if_pos c2]
      unfold api_Entry_32.f
      by_cases c3 : l.length = m.length
      · rw [if_pos (by omega), if_pos c3, show (0 : Int) = ((0 : Nat) : Int) from rfl, equal_go l m hl c3 l.length 0 k (by omega) (Nat.zero_le _) hk]
        rfl
      · rw [if_neg (by omega), if_neg c3]
        rfl
    · rw [if_neg c2, if_neg c2]
  · rw [if_neg c1, if_neg c1]
theorem requal_go (l m : List S56) (a0 a1 b0 b1 : Int) (hl : l.length ≤ 9223372036854775806) (hm : l.length = m.length) : ∀ (d i k : Nat), l.length - i = d → i ≤ l.length → d + 1 ≤ k → turnstileref13_Equal.l0 k (i : Int) a0 a1 l b0 b1 m = some (eqL l m d i) := by
  intro d
  induction d with
  | zero =>
    intro i k hd hi hk
    obtain ⟨k, rfl⟩ : ∃ m, k = m + 1 := ⟨k - 1, by omega⟩
    simp only [turnstileref13_Equal.l0]
    rw [if_neg (by omega)]
    rfl
  | succ d ih =>
    intro i k hd hi hk
    obtain ⟨k, rfl⟩ : ∃ m, k = m + 1 := ⟨k - 1, by omega⟩
    simp only [turnstileref13_Equal.l0]
    rw [if_pos (by omega), if_pos (by omega), if_pos (by omega), eqL]
    rw [show wrap64 ((i : Int) + 1) = ((i + 1 : Nat) : Int) by unfold wrap64; omega, ih (i + 1) k (by omega) (by omega) (by omega)]
    unfold neE
    split <;> rfl
theorem requal_B (a0 a1 : Int) (l : List S56) (b0 b1 : Int) (m : List S56) (hl : l.length ≤ 9223372036854775806) (k : Nat) (hk : l.length + 2 ≤ k) : turnstileref13_Equal.f k a0 a1 l b0 b1 m = some (eqS a0 a1 l b0 b1 m) := by
  obtain ⟨k, rfl⟩ : ∃ m, k = m + 1 := ⟨k - 1, by omega⟩
  unfold turnstileref13_Equal.f eqS
  have no : ∀ x y z u v w, turnstileref13_Equal.j0 (k + 1) true x y z u v w = some false := fun _ _ _ _ _ _ => by simp [turnstileref13_Equal.j0]
  by_cases c1 : a0 = b0
  · rw [if_pos c1, if_pos c1]
    by_cases c2 : a1 = b1
    · rw [if_pos c2, if_pos c2]
      by_cases c3 : l.length = m.length
      · rw [show ((l.length : Int) != (m.length : Int)) = false by simp; omega, if_pos c3]
        simp only [turnstileref13_Equal.j0, Bool.false_eq_true, if_false]
        rw [show (0 : Int) = ((0 : Nat) : Int) from rfl, requal_go l m a0 a1 b0 b1 hl c3 l.length 0 k (by omega) (Nat.zero_le _) (by omega)]
      · rw [show ((l.length : Int) != (m.length : Int)) = true by simp; omega, if_neg c3, no]
    · rw [if_neg c2, if_neg c2, no]
  · rw [if_neg c1, if_neg c1, no]
end Go.Proofs.YtnhngjhodcikiaaDoor.M
