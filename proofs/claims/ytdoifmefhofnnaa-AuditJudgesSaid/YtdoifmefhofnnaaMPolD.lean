/- What a policy is: the top of MPolD, for a seat that needs no more of package policy. -/
import Derived.Test.YtdoifmefhofnnaaMUtil
import Derived.Test.YtdoifmefhofnnaaDx15
namespace Go.Proofs.Ytdoifmefhofnnaa.M
set_option linter.unusedVariables false
open Go.RowKit Go.Proofs.Ytdoifmefhofnnaa.D Go.Proofs.YtdoifmefhofnnaaW.PrintWords Go.Proofs.YtdoifmefhofnnaaW.PrintMore
/-- A policy. -/
structure Pol where
  kind : Int
  gap : Int
  slack : Int
  lim : Int
  span : Int
/-- A level. -/
structure Lev where
  tat : Int
  ix : Int
  cnt : Int
def Pol.U (p : Pol) : Prop := M.U p.gap ∧ M.U p.slack ∧ M.U p.lim ∧ M.U p.span
def Lev.U (v : Lev) : Prop := M.U v.tat ∧ M.U v.ix ∧ M.U v.cnt
def pv (p : Pol) : Bool := decide ((p.kind = 1 ∧ 1 ≤ p.gap ∧ p.lim = 0 ∧ p.span = 0) ∨ (p.kind = 2 ∧ 1 ≤ p.span ∧ p.gap = 0 ∧ p.slack = 0))
theorem pv_iff {p : Pol} : pv p = true ↔ ((p.kind = 1 ∧ 1 ≤ p.gap ∧ p.lim = 0 ∧ p.span = 0) ∨ (p.kind = 2 ∧ 1 ≤ p.span ∧ p.gap = 0 ∧ p.slack = 0)) := by unfold pv; simp
theorem bool_iff {a b : Bool} (h : a = true ↔ b = true) : a = b := by cases a <;> cases b <;> simp_all
theorem some_iff {a b : Bool} (h : a = true ↔ b = true) : some a = some b := by rw [bool_iff h]
theorem ok_eq (p : Pol) : policy_of.ok p.kind p.gap p.slack p.lim p.span = some (pv p) := by
  unfold policy_of.ok policy_rules_1.f policy_rules_7.f
  by_cases h1 : p.kind = 1
  · rw [if_pos h1]
    by_cases h2 : p.gap ≥ 1
    · rw [if_pos h2]
      by_cases h3 : p.lim = 0
      · rw [if_pos h3]; exact some_iff (by rw [pv_iff, beq_iff_eq]; omega)
      · rw [if_neg h3]; exact some_iff (by rw [pv_iff]; simp; omega)
    · rw [if_neg h2]; exact some_iff (by rw [pv_iff]; simp; omega)
  · rw [if_neg h1]
    by_cases h4 : p.kind = 2
    · rw [if_pos h4]
      by_cases h2 : p.span ≥ 1
      · rw [if_pos h2]
        by_cases h3 : p.gap = 0
        · rw [if_pos h3]; exact some_iff (by rw [pv_iff, beq_iff_eq]; omega)
        · rw [if_neg h3]; exact some_iff (by rw [pv_iff]; simp; omega)
      · rw [if_neg h2]; exact some_iff (by rw [pv_iff]; simp; omega)
    · rw [if_neg h4]; exact some_iff (by rw [pv_iff]; simp; omega)
theorem PValid (p : Pol) : policy_Valid.f p.kind p.gap p.slack p.lim p.span = some (pv p) := ok_eq p
end Go.Proofs.Ytdoifmefhofnnaa.M
