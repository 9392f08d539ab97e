/- What the functions of package policy, and of its reference, compute. -/
import Derived.Test.YtdoifmefhofnnaaMGcraD
import Derived.Test.YtdoifmefhofnnaaMWin
import Derived.Test.YtdoifmefhofnnaaDx15
import Derived.Test.YtdoifmefhofnnaaDx42
namespace Go.Proofs.Ytdoifmefhofnnaa.M
set_option linter.unusedVariables false
open Go.RowKit Go.Proofs.Ytdoifmefhofnnaa.D Go.Proofs.YtdoifmefhofnnaaW.PrintWords Go.Proofs.YtdoifmefhofnnaaW.PrintMore
/-- A policy. -/
structure Pol where
  kind : Int
  gap : Int
  slack : Int
  lim : Int
  span : Int
/-- A level. -/
structure Lev where
  tat : Int
  ix : Int
  cnt : Int
def Pol.U (p : Pol) : Prop := M.U p.gap ∧ M.U p.slack ∧ M.U p.lim ∧ M.U p.span
def Lev.U (v : Lev) : Prop := M.U v.tat ∧ M.U v.ix ∧ M.U v.cnt
def pv (p : Pol) : Bool := decide ((p.kind = 1 ∧ 1 ≤ p.gap ∧ p.lim = 0 ∧ p.span = 0) ∨ (p.kind = 2 ∧ 1 ≤ p.span ∧ p.gap = 0 ∧ p.slack = 0))
theorem pv_iff {p : Pol} : pv p = true ↔ ((p.kind = 1 ∧ 1 ≤ p.gap ∧ p.lim = 0 ∧ p.span = 0) ∨ (p.kind = 2 ∧ 1 ≤ p.span ∧ p.gap = 0 ∧ p.slack = 0)) := by unfold pv; simp
theorem bool_iff {a b : Bool} (h : a = true ↔ b = true) : a = b := by cases a <;> cases b <;> simp_all
theorem some_iff {a b : Bool} (h : a = true ↔ b = true) : some a = some b := by rw [bool_iff h]
theorem ok_eq (p : Pol) : policy_of.ok p.kind p.gap p.slack p.lim p.span = some (pv p) := by
  unfold policy_of.ok policy_rules_1.f policy_rules_7.f
  by_cases h1 : p.kind = 1
  · rw [if_pos h1]
    by_cases h2 : p.gap ≥ 1
    · rw [if_pos h2]
      by_cases h3 : p.lim = 0
      · rw [if_pos h3]; exact some_iff (by rw [pv_iff, beq_iff_eq]; omega)
      · rw [if_neg h3]; exact some_iff (by rw [pv_iff]; simp; omega)
    · rw [if_neg h2]; exact some_iff (by rw [pv_iff]; simp; omega)
  · rw [if_neg h1]
    by_cases h4 : p.kind = 2
    · rw [if_pos h4]
      by_cases h2 : p.span ≥ 1
      · rw [if_pos h2]
        by_cases h3 : p.gap = 0
        · rw [if_pos h3]; exact some_iff (by rw [pv_iff, beq_iff_eq]; omega)
        · rw [if_neg h3]; exact some_iff (by rw [pv_iff]; simp; omega)
      · rw [if_neg h2]; exact some_iff (by rw [pv_iff]; simp; omega)
    · rw [if_neg h4]; exact some_iff (by rw [pv_iff]; simp; omega)
theorem PValid (p : Pol) : policy_Valid.f p.kind p.gap p.slack p.lim p.span = some (pv p) := ok_eq p
/-- A level in the form of a kind. -/
def pF (p : Pol) (v : Lev) : Lev := if p.kind = 1 then ⟨v.tat, 0, 0⟩ else ⟨0, v.ix, v.cnt⟩
def pOk (p : Pol) (v : Lev) (now n : Int) : Bool := if p.kind = 1 then gOk p.gap p.slack v.tat now n else wOk p.lim p.span v.ix v.cnt now n
def pNext (p : Pol) (v : Lev) (now n : Int) : Lev := if p.kind = 1 then ⟨mx v.tat now + n * p.gap, 0, 0⟩ else ⟨0, (wNext p.span v.ix v.cnt now n).1, (wNext p.span v.ix v.cnt now n).2⟩
def pRetry (p : Pol) (v : Lev) (now n : Int) : Int := if p.kind = 1 then gRetry p.gap p.slack v.tat now n else wRetry p.lim p.span v.ix v.cnt now n
def pCov (p : Pol) (c v : Lev) : Bool := decide (if p.kind = 1 then v.tat ≤ c.tat else v.ix < c.ix ∨ v.ix = c.ix ∧ v.cnt ≤ c.cnt)
theorem pCov_iff {p : Pol} {c v : Lev} : pCov p c v = true ↔ (if p.kind = 1 then v.tat ≤ c.tat else v.ix < c.ix ∨ v.ix = c.ix ∧ v.cnt ≤ c.cnt) := by unfold pCov; simp
/-- What an admission answers. -/
def pAdmit (p : Pol) (v : Lev) (now n : Int) : Lev × Bool × Int :=
  if pv p = true then (if pOk p v now n = true then (pNext p v now n, true, 0) else (pF p v, false, pRetry p v now n)) else (⟨0, 0, 0⟩, false, 18446744073709551615)
def flatA (a : Lev × Bool × Int) : Int × Int × Int × Bool × Int := (a.1.tat, a.1.ix, a.1.cnt, a.2.1, a.2.2)
def flatL (v : Lev) : Int × Int × Int := (v.tat, v.ix, v.cnt)
def pMax (p : Pol) (a b : Lev) : Lev := if pv p = true then (if pCov p a b = true then pF p a else pF p b) else ⟨0, 0, 0⟩
/-- Two levels are the same. -/
def eqL (a b : Lev) : Bool := a.tat == b.tat && (a.ix == b.ix && (a.cnt == b.cnt))
theorem eqL_iff {a b : Lev} : eqL a b = true ↔ a = b := by
  cases a; cases b; unfold eqL; simp
theorem kind_of {p : Pol} (h : pv p = true) : p.kind = 1 ∨ p.kind = 2 := by rw [pv_iff] at h; omega
theorem PAdmit {p : Pol} {v : Lev} {now n : Int} (hp : p.U) (hv : v.U) (hw : U now) (hn : U n) (k : Nat) :
    policy_Admit.f (k + 1) p.kind p.gap p.slack p.lim p.span v.tat v.ix v.cnt now n = some (flatA (pAdmit p v now n)) := by
  unfold policy_Admit.f pAdmit
  rw [ok_eq, Option.bind_some]
  by_cases h : pv p = true
  · rw [if_pos h, if_pos h]
    by_cases h1 : p.kind = 1
    · rw [if_pos h1]
      unfold policy_rules_2.f policy_rules_3.f policy_rules_4.f pOk pNext pRetry pF
      simp only [Option.bind_some, if_pos h1]
      rw [Admit hp.1 hp.2.1 hv.1 hw hn]
      simp only [Option.bind_some]
      by_cases h2 : gOk p.gap p.slack v.tat now n = true
      · rw [if_pos h2, if_pos h2]; rfl
      · rw [if_neg h2, if_neg h2]
        rw [if_neg (by simp), Retry hp.1 hp.2.1 hv.1 hw hn]; rfl
    · rw [if_neg h1]
      unfold policy_rules_8.f policy_rules_9.f policy_rules_10.f pOk pNext pRetry pF
      simp only [Option.bind_some, if_neg h1]
      rw [WAdmit hp.2.2.1 hp.2.2.2 hv.2.1 hv.2.2 hw hn]
      simp only [Option.bind_some]
      by_cases h2 : wOk p.lim p.span v.ix v.cnt now n = true
      · rw [if_pos h2, if_pos h2]; rfl
      · rw [if_neg h2, if_neg h2]
        rw [if_neg (by simp), WRetry hp.2.2.1 hp.2.2.2 hv.2.1 hv.2.2 hw hn]; rfl
  · rw [if_neg h, if_neg h]; rfl
theorem pNext_U {p : Pol} {v : Lev} {now n : Int} (hp : p.U) (hv : v.U) (hw : U now) (hn : U n) (h : pOk p v now n = true) : (pNext p v now n).U := by
  have u0 : U 0 := ⟨by decide, by decide⟩
  unfold pOk at h
  unfold pNext
  by_cases h1 : p.kind = 1
  · rw [if_pos h1] at h ⊢; exact ⟨admit_U hv.1 hw h, u0, u0⟩
  · rw [if_neg h1] at h ⊢; exact ⟨u0, WNext_U hp.2.2.1 hp.2.2.2 hv.2.1 hv.2.2 hw hn h⟩
end Go.Proofs.Ytdoifmefhofnnaa.M
