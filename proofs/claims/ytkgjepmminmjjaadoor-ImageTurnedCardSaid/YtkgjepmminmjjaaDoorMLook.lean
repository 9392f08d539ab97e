/- What Valid, Find and Equal of a state answer, the program's and the document's: plainly, and alike. -/
import Derived.Test.YtkgjepmminmjjaaDoorMStr
import Derived.Test.YtkgjepmminmjjaaDoorEx14
import Derived.Test.YtkgjepmminmjjaaDoorEx15
namespace Go.Proofs.YtkgjepmminmjjaaDoor.M
set_option linter.unusedVariables false
set_option linter.unusedSimpArgs false
open Go.RowKit Go.Proofs.YtkgjepmminmjjaaDoor.E Go.Proofs.YtkgjepmminmjjaaDoorW.PrintWords Go.Proofs.YtkgjepmminmjjaaDoorW.PrintLast Go.Proofs.YtkgjepmminmjjaaDoorW.PrintMore
def okB (a0 a1 a2 a3 a4 : Int) : Bool := if a0 = 1 then (decide (a1 ≥ 1) && (a3 == 0 && a4 == 0)) else if a0 = 2 then (decide (a4 ≥ 1) && (a1 == 0 && a2 == 0)) else false
theorem ok_B (a0 a1 a2 a3 a4 : Int) : policy_of.ok a0 a1 a2 a3 a4 = some (okB a0 a1 a2 a3 a4) := by
  simp only [policy_of.ok, policy_rules_1.f, policy_rules_7.f, okB]
  by_cases c0 : a0 = 1
  · simp only [if_pos c0]
    by_cases c1 : a1 ≥ 1
    · by_cases c3 : a3 = 0 <;> simp [c1, c3]
    · simp [c1]
  · simp only [if_neg c0]
    by_cases c2 : a0 = 2
    · simp only [if_pos c2]
      by_cases c1 : a4 ≥ 1
      · by_cases c3 : a1 = 0 <;> simp [c1, c3]
      · simp [c1]
    · simp [c2]
def fitB (a0 a1 a2 a3 a4 b0 b1 b2 : Int) : Bool := okB a0 a1 a2 a3 a4 && (if a0 = 1 then (b1 == 0 && b2 == 0) else b0 == 0)
theorem fits_B (a0 a1 a2 a3 a4 b0 b1 b2 : Int) : policy_Fits.f a0 a1 a2 a3 a4 b0 b1 b2 = some (fitB a0 a1 a2 a3 a4 b0 b1 b2) := by
  simp only [policy_Fits.f, ok_B, Option.bind_some, policy_rules_2.f, policy_rules_8.f, fitB]
  cases okB a0 a1 a2 a3 a4
  · simp
  · by_cases c : a0 = 1
    · simp [c, Bool.beq_eq_decide_eq, eq_comm]
    · simp only [c, if_false, if_true, Bool.true_and, beq_self_eq_true, Bool.and_true]
      rw [BEq.comm (a := (0 : Int))]
theorem tl (s : ByteArray) : s.toList = s.data.toList := ByteArray.toList_eq s
theorem drop_get (s : ByteArray) (i : Nat) (h : i < s.size) : s.data.toList.drop i = (s.data.toList[i]'(by simpa using h)) :: s.data.toList.drop (i + 1) := List.drop_eq_getElem_cons (by simpa using h)
theorem drop_end (s : ByteArray) (i : Nat) (h : s.size ≤ i) : s.data.toList.drop i = [] := List.drop_eq_nil_of_le (by simpa using h)
/-- An entry, by itself and behind the one ahead of it. -/
def entB (l : List S79) (i : Nat) : Bool :=
  (decide (1 ≤ (rd_T79 l (i : Nat)).f0.size) && decide ((rd_T79 l (i : Nat)).f0.size ≤ 64)) && ((decide (i = 0) || Op.bytesLess (rd_T79 l ((i - 1 : Nat) : Int)).f0.toList (rd_T79 l (i : Nat)).f0.toList) &&
    fitB (rd_T79 l (i : Nat)).f1.f0 (rd_T79 l (i : Nat)).f1.f1 (rd_T79 l (i : Nat)).f1.f2 (rd_T79 l (i : Nat)).f1.f3 (rd_T79 l (i : Nat)).f1.f4 (rd_T79 l (i : Nat)).f2.f0 (rd_T79 l (i : Nat)).f2.f1 (rd_T79 l (i : Nat)).f2.f2)
def allB (l : List S79) : Nat → Nat → Bool
  | 0, _ => true
  | m + 1, i => entB l i && allB l m (i + 1)
def valB (a0 : Int) (l : List S79) : Bool := decide (a0 ≤ 4611686018427387904) && (decide (l.length ≤ 4096) && allB l l.length 0)
theorem rd_D (l : List S79) (i : Nat) : l.getD i z79 = rd_T79 l (i : Nat) := rfl
theorem ok_ent (l : List S79) (i : Nat) : state_Valid.ok l i = some (entB l i) := by
  unfold state_Valid.ok entB
  rw [rd_D, rd_D]
  generalize rd_T79 l (i : Nat) = E
  generalize rd_T79 l ((i - 1 : Nat) : Int) = P
  by_cases c1 : E.f0.size < 1
  · rw [if_pos c1, decide_eq_false (by omega : ¬ 1 ≤ E.f0.size)]
    rfl
  · rw [if_neg c1, decide_eq_true (by omega : 1 ≤ E.f0.size)]
    by_cases c2 : 64 < E.f0.size
    · rw [if_pos c2, decide_eq_false (by omega : ¬ E.f0.size ≤ 64)]
      rfl
    · rw [if_neg c2, decide_eq_true (by omega : E.f0.size ≤ 64)]
      simp only [policy_Valid.f, fits_B, ok_B, Option.bind_some]
      have hf : ∀ b : Bool, b = okB E.f1.f0 E.f1.f1 E.f1.f2 E.f1.f3 E.f1.f4 → (if b = true then some (fitB E.f1.f0 E.f1.f1 E.f1.f2 E.f1.f3 E.f1.f4 E.f2.f0 E.f2.f1 E.f2.f2) else some false) = some (fitB E.f1.f0 E.f1.f1 E.f1.f2 E.f1.f3 E.f1.f4 E.f2.f0 E.f2.f1 E.f2.f2) := fun b hb => by
        cases b
        · unfold fitB
          rw [← hb]
          rfl
        · rfl
      rw [hf _ rfl]
      by_cases c3 : i = 0
      · subst c3
        simp
      · cases e : Op.bytesLess P.f0.toList E.f0.toList
        · rw [if_pos (by simp; omega)]
          simp [c3]
        · rw [if_neg (by simp)]
          simp
theorem go_all (l : List S79) : ∀ m i, state_Valid.go l m i = some (allB l m i)
  | 0, _ => rfl
  | m + 1, i => by
    rw [state_Valid.go, ok_ent, Option.bind_some, go_all l m (i + 1), allB]
    cases entB l i <;> simp
theorem valid_B (a0 a1 : Int) (l : List S79) : state_Valid.f a0 a1 l = some (valB a0 l) := by
  unfold state_Valid.f valB
  by_cases c1 : 4611686018427387904 < a0
  · rw [if_pos c1, decide_eq_false (by omega : ¬ a0 ≤ 4611686018427387904)]
    rfl
  · rw [if_neg c1, decide_eq_true (by omega : a0 ≤ 4611686018427387904)]
    by_cases c2 : 4096 < l.length
    · rw [if_pos c2, decide_eq_false (by omega : ¬ l.length ≤ 4096)]
      rfl
    · rw [if_neg c2, decide_eq_true (by omega : l.length ≤ 4096), go_all]
      rfl
theorem allB_iff (l : List S79) : ∀ m i, allB l m i = true ↔ ∀ j, i ≤ j → j < i + m → entB l j = true
  | 0, i => by simp [allB]; omega
  | m + 1, i => by
    rw [allB, Bool.and_eq_true, allB_iff l m (i + 1)]
    constructor
    · rintro ⟨h1, h2⟩ j h3 h4
      rcases Nat.eq_or_lt_of_le h3 with e | e
      · rw [← e]; exact h1
      · exact h2 j (by omega) (by omega)
    · intro h
      exact ⟨h i (Nat.le_refl _) (by omega), fun j h1 h2 => h j (by omega) (by omega)⟩
theorem val_rise {a0 : Int} {l : List S79} (h : valB a0 l = true) : Rise l l.length := by
  unfold valB at h
  simp only [Bool.and_eq_true, decide_eq_true_eq] at h
  have h3 := (allB_iff l l.length 0).1 h.2.2
  intro i hi
  have e := h3 (i + 1) (Nat.zero_le _) (by omega)
  unfold entB at e
  simp only [Bool.and_eq_true, Bool.or_eq_true, decide_eq_true_eq] at e
  have := e.2.1.resolve_left (by omega)
  rwa [show i + 1 - 1 = i by omega] at this
/-- Unlike entries. -/
def neE (E F : S79) : Bool := !(E.f0.toList == F.f0.toList) || ((!(E.f1.f0 == F.f1.f0) || (!(E.f1.f1 == F.f1.f1) || (!(E.f1.f2 == F.f1.f2) || (!(E.f1.f3 == F.f1.f3) || !(E.f1.f4 == F.f1.f4))))) || (!(E.f2.f0 == F.f2.f0) || (!(E.f2.f1 == F.f2.f1) || !(E.f2.f2 == F.f2.f2))))
theorem neE_self (E : S79) : neE E E = false := by simp [neE]
def eqL (l m : List S79) : Nat → Nat → Bool
  | 0, _ => true
  | d + 1, i => if neE (rd_T79 l (i : Nat)) (rd_T79 m (i : Nat)) = true then false else eqL l m d (i + 1)
theorem eqL_self (l : List S79) : ∀ d i, eqL l l d i = true
  | 0, _ => rfl
  | d + 1, i => by rw [eqL, neE_self, if_neg (by simp), eqL_self l d (i + 1)]
def eqS (a0 a1 : Int) (l : List S79) (b0 b1 : Int) (m : List S79) : Bool := if a0 = b0 then (if a1 = b1 then (if l.length = m.length then eqL l m l.length 0 else false) else false) else false
theorem eqS_self (a0 a1 : Int) (l : List S79) : eqS a0 a1 l a0 a1 l = true := by simp [eqS, eqL_self]
end Go.Proofs.YtkgjepmminmjjaaDoor.M
