/- What the functions of package reserve, and of its reference, compute. -/
import Derived.Test.YtokfhdpokemekaaMPol2
import Derived.Test.YtokfhdpokemekaaQx37
import Derived.Test.YtokfhdpokemekaaQx38
import Derived.Test.YtokfhdpokemekaaQx39
import Derived.Test.YtokfhdpokemekaaQx40
namespace Go.Proofs.Ytokfhdpokemekaa.M
set_option linter.unusedVariables false
open Go.RowKit Go.Proofs.Ytokfhdpokemekaa.Q Go.Proofs.YtokfhdpokemekaaW.PrintWords Go.Proofs.YtokfhdpokemekaaW.PrintMore
/-- A configuration. -/
structure Cfg where
  block : Int
  credit : Int
  keys : Int
  blocks : Int
  every : Int
def Cfg.U (c : Cfg) : Prop := M.U c.block ∧ M.U c.credit
def sAdd (a b : Int) : Int := if a + b < 18446744073709551616 then a + b else 18446744073709551615
theorem sAdd_U {a b : Int} (ha : U a) (hb : U b) : U (sAdd a b) ∧ a ≤ sAdd a b := by unfold sAdd U at *; split <;> omega
theorem SAdd {a b : Int} (ha : U a) (hb : U b) : sat_Add.f a b = some (sAdd a b) := Add ha hb
/-- The ceiling of a level. -/
def rCeil (c : Cfg) (p : Pol) (v : Lev) : Lev :=
  if pv p = true then (if p.kind = 1 then ⟨sAdd v.tat c.block, 0, 0⟩ else ⟨0, v.ix, mn (sAdd v.cnt c.credit) (mx p.lim v.cnt)⟩) else ⟨0, 0, 0⟩
theorem RCeil {c : Cfg} {p : Pol} {v : Lev} (hc : c.U) (hv : v.U) : reserve_Ceiling.f c.block c.credit c.keys c.blocks c.every p.kind p.gap p.slack p.lim p.span v.tat v.ix v.cnt = some (flatL (rCeil c p v)) := by
  unfold reserve_Ceiling.f rCeil
  rw [PValid, Option.bind_some]
  by_cases h : pv p = true
  · rw [if_pos h, if_pos h]
    by_cases h1 : p.kind = 1
    · rw [if_pos h1, if_pos h1, SAdd hv.1 hc.1]; rfl
    · rw [if_neg h1, if_neg h1, SAdd hv.2.2 hc.2]; rfl
  · rw [if_neg h, if_neg h]; rfl
theorem rCeil_U {c : Cfg} {p : Pol} {v : Lev} (hc : c.U) (hp : p.U) (hv : v.U) : (rCeil c p v).U := by
  have u0 : U 0 := ⟨by decide, by decide⟩
  unfold rCeil
  by_cases h : pv p = true
  · rw [if_pos h]
    by_cases h1 : p.kind = 1
    · rw [if_pos h1]; exact ⟨(sAdd_U hv.1 hc.1).1, u0, u0⟩
    · rw [if_neg h1]
      refine ⟨u0, hv.2.1, ?_⟩
      have h2 := (sAdd_U hv.2.2 hc.2).1
      have h3 := hp.2.2.1
      have h4 := hv.2.2
      unfold mn mx U at *
      simp only
      (repeat' split) <;> omega
  · rw [if_neg h]; exact ⟨u0, u0, u0⟩
def rWithin (c : Cfg) (p : Pol) (v t : Lev) : Bool := pv p && (pCov p t v && pCov p (rCeil c p v) t)
theorem RWithin {c : Cfg} {p : Pol} {v t : Lev} (hc : c.U) (hv : v.U) : reserve_Within.f c.block c.credit c.keys c.blocks c.every p.kind p.gap p.slack p.lim p.span v.tat v.ix v.cnt t.tat t.ix t.cnt = some (rWithin c p v t) := by
  unfold reserve_Within.f rWithin
  rw [PCovers, Option.bind_some, RCeil hc hv]
  simp only [Option.bind_some, flatL, PCovers]
  cases pv p <;> cases pCov p t v <;> simp
/-- What an admission wants. -/
structure Cho where
  level : Lev
  ok : Bool
  retry : Int
  write : Bool
  ceil : Lev
def flatC (x : Cho) : Int × Int × Int × Bool × Int × Bool × Int × Int × Int := (x.level.tat, x.level.ix, x.level.cnt, x.ok, x.retry, x.write, x.ceil.tat, x.ceil.ix, x.ceil.cnt)
def rChoose (c : Cfg) (p : Pol) (v t : Lev) (now n : Int) : Cho :=
  if (pAdmit p v now n).2.1 = true ∧ (pv p && pCov p t (pAdmit p v now n).1) = false then ⟨(pAdmit p v now n).1, (pAdmit p v now n).2.1, (pAdmit p v now n).2.2, true, rCeil c p (pAdmit p v now n).1⟩
  else ⟨(pAdmit p v now n).1, (pAdmit p v now n).2.1, (pAdmit p v now n).2.2, false, pMax p t t⟩
theorem pAdmit_U {p : Pol} {v : Lev} {now n : Int} (hp : p.U) (hv : v.U) (hw : U now) (hn : U n) : (pAdmit p v now n).1.U := by
  have u0 : U 0 := ⟨by decide, by decide⟩
  unfold pAdmit
  by_cases h : pv p = true
  · rw [if_pos h]
    by_cases h1 : pOk p v now n = true
    · rw [if_pos h1]; exact pNext_U hp hv hw hn h1
    · rw [if_neg h1]; exact pF_U hv
  · rw [if_neg h]; exact ⟨u0, u0, u0⟩
theorem RChoose {c : Cfg} {p : Pol} {v t : Lev} {now n : Int} (hc : c.U) (hp : p.U) (hv : v.U) (hw : U now) (hn : U n) (k : Nat) :
    reserve_Choose.f (k + 1) c.block c.credit c.keys c.blocks c.every p.kind p.gap p.slack p.lim p.span v.tat v.ix v.cnt t.tat t.ix t.cnt now n = some (flatC (rChoose c p v t now n)) := by
  unfold reserve_Choose.f rChoose
  rw [PAdmit hp hv hw hn]
  have hu := pAdmit_U hp hv hw hn
  generalize pAdmit p v now n = A at *
  obtain ⟨l, ok, re⟩ := A
  simp only [Option.bind_some, flatA, PMax, flatL, PCovers]
  cases ok with
  | true =>
    rw [if_pos rfl]
    by_cases h : (pv p && pCov p t l) = true
    · rw [if_pos h, if_neg (by rw [h]; simp)]; rfl
    · rw [if_neg h, RCeil hc hu, if_pos ⟨rfl, Bool.eq_false_iff.2 h⟩]; rfl
  | false => rw [if_neg (by decide), if_neg (by simp)]; rfl
theorem RValid (a b c d e : Int) : reserve_Valid.f a b c d e = some (decide (0 ≤ c ∧ c ≤ 4096 ∧ 1 ≤ d ∧ d ≤ 1024 ∧ 0 ≤ e)) := by
  unfold reserve_Valid.f
  (repeat' split) <;> exact some_iff (by simp; omega)
theorem ceil_cov {c : Cfg} {p : Pol} {v : Lev} (h : pv p = true) (hc : c.U) (hp : p.U) (hv : v.U) : pCov p (rCeil c p v) v = true := by
  rw [pCov_iff]
  unfold rCeil
  rw [if_pos h]
  by_cases h1 : p.kind = 1
  · simp only [if_pos h1]; exact (sAdd_U hv.1 hc.1).2
  · simp only [if_neg h1]
    have h2 := (sAdd_U hv.2.2 hc.2).2
    right
    refine ⟨trivial, ?_⟩
    unfold mn mx
    (repeat' split) <;> omega
theorem ceil_form (c : Cfg) (p : Pol) (v : Lev) (h : pv p = true) : pF p (rCeil c p v) = rCeil c p v := by
  unfold pF rCeil
  rw [if_pos h]
  by_cases h1 : p.kind = 1
  · simp only [if_pos h1]
  · simp only [if_neg h1]
theorem within_self {c : Cfg} {p : Pol} {v : Lev} (h : pv p = true) (hc : c.U) (hp : p.U) (hv : v.U) : rWithin c p v v = true ∧ rWithin c p v (rCeil c p v) = true := by
  unfold rWithin
  rw [h, cov_refl, cov_refl, ceil_cov h hc hp hv]; exact ⟨rfl, rfl⟩
end Go.Proofs.Ytokfhdpokemekaa.M
