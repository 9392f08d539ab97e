/- PolicyRises: Left, Retry and the levels agree. -/
import Derived.Test.YtokfhdpokemekaaMAsk6
import Derived.Test.YtokfhdpokemekaaMPol2
import Derived.Test.YtokfhdpokemekaaQSPolicyRises
namespace Go.Proofs.Ytokfhdpokemekaa.Pure
set_option linter.unusedVariables false
open Go.RowKit Go.Proofs.Ytokfhdpokemekaa.Q Go.Proofs.Ytokfhdpokemekaa.M Go.Proofs.YtokfhdpokemekaaW.PrintWords Go.Proofs.YtokfhdpokemekaaW.PrintMore
theorem pAdmit_ok {p : Pol} {v : Lev} {now n : Int} (h : pv p = true) : (pAdmit p v now n).2.1 = pOk p v now n := by
  unfold pAdmit; rw [if_pos h]
  by_cases h1 : pOk p v now n = true
  · rw [if_pos h1, h1]
  · rw [if_neg h1, Bool.eq_false_iff.2 h1]
theorem rises_j1 {p : Pol} {v : Lev} {now n later : Int} (h : pv p = true) (hp : p.U) (hv : v.U) (hw : U now) (hn : U n) (hl : U later) (c0 c1 c2 c3 c4 c8 c9 c10 : Int) (k : Nat) :
    turnstilelaw06_PolicyRises.j1 (k + 2) later (pRetry p v now n) false c0 c1 c2 c3 c4 v.tat v.ix v.cnt c8 c9 c10 now n p.kind p.gap p.slack p.lim p.span = some true := by
  have hr := pRetry_U hp hv hw hn
  obtain ⟨h1, h2, h3⟩ := pleast hp hv hw hn
  rw [turnstilelaw06_PolicyRises.j1, if_neg (by decide), PAdmit hp hv hr hn, PAdmit hp hv hl hn]
  simp only [Option.bind_some, flatA, pAdmit_ok h]
  have tail : (if pOk p v later n = true then (if later < now then some true else some (decide (later ≥ pRetry p v now n))) else some true) = some true := by
    by_cases h4 : pOk p v later n = true
    · rw [if_pos h4]
      by_cases h5 : later < now
      · rw [if_pos h5]
      · rw [if_neg h5, decide_eq_true (h3 later hl (by omega) h4)]
    · rw [if_neg h4]
  rw [tail]
  by_cases h4 : pOk p v (pRetry p v now n) n = true
  · rw [if_pos h4]
  · rw [if_neg h4, if_pos (h2.resolve_right h4)]
theorem rises_j0 {p : Pol} {v : Lev} {now n later : Int} (h : pv p = true) (hp : p.U) (hv : v.U) (hw : U now) (hn : U n) (hl : U later) (c8 c9 c10 : Int) (k : Nat) :
    turnstilelaw06_PolicyRises.j0 (k + 3) later (pAdmit p v now n).2.1 (pAdmit p v now n).2.2 false p.kind p.gap p.slack p.lim p.span v.tat v.ix v.cnt c8 c9 c10 now n p.kind p.gap p.slack p.lim p.span (pAdmit p v now n).1.tat (pAdmit p v now n).1.ix (pAdmit p v now n).1.cnt = some true := by
  rw [turnstilelaw06_PolicyRises.j0, if_neg (by decide), PCovers, PCovers, h]
  simp only [Option.bind_some, Bool.true_and]
  have e : pAdmit p v now n = if pOk p v now n = true then (pNext p v now n, true, 0) else (pF p v, false, pRetry p v now n) := by unfold pAdmit; rw [if_pos h]
  by_cases h1 : pOk p v now n = true
  · rw [if_pos h1] at e
    obtain ⟨h2, h3⟩ := next_cov hp h1
    rw [e]
    dsimp only
    rw [if_pos rfl, if_pos h2, if_neg (by rw [h3]; decide)]
    rfl
  · rw [if_neg h1] at e
    obtain ⟨h2, _, _⟩ := pleast (v := v) hp hv hw hn
    rw [e]
    dsimp only
    rw [if_neg (by decide), if_neg (by omega), (pCov_pF p v v).1, (pCov_pF p v v).2, cov_refl, if_pos rfl, Bool.not_true]
    exact rises_j1 h hp hv hw hn hl _ _ _ _ _ _ _ _ _
theorem PolicyRises : PolicyRises.Pure := by
  intro x later hx hl
  obtain ⟨hp, hv, hx', hw, hn⟩ := ask_U hx
  replace hl := U_wf hl
  refine ⟨103, ?_⟩
  unfold turnstilelaw06_PolicyRises.f
  rw [show (103 : Nat) = 100 + 3 from rfl, awake6 100 (by decide), Option.bind_some, if_pos rfl]
  generalize x.f3 = now at *
  generalize x.f4 = n at *
  have ex : ∃ p v y : _, p = aP x ∧ v = aV x ∧ y = aW x := ⟨_, _, _, rfl, rfl, rfl⟩
  obtain ⟨p, v, y, h1, h2, h3⟩ := ex
  rw [← h1] at hp
  rw [← h2] at hv
  have p0 : x.f0.f0 = p.kind := by rw [h1]; rfl
  have p1 : x.f0.f1 = p.gap := by rw [h1]; rfl
  have p2 : x.f0.f2 = p.slack := by rw [h1]; rfl
  have p3 : x.f0.f3 = p.lim := by rw [h1]; rfl
  have p4 : x.f0.f4 = p.span := by rw [h1]; rfl
  have v0 : x.f1.f0 = v.tat := by rw [h2]; rfl
  have v1 : x.f1.f1 = v.ix := by rw [h2]; rfl
  have v2 : x.f1.f2 = v.cnt := by rw [h2]; rfl
  rw [p0, p1, p2, p3, p4, v0, v1, v2]
  clear p0 p1 p2 p3 p4 v0 v1 v2 h1 h2
  rw [PValid, Option.bind_some, show (100 : Nat) + 3 = 102 + 1 from rfl, PAdmit hp hv hw hn]
  by_cases h : pv p = true
  · rw [if_pos h, PLeft hp hv hw _ (by decide), if_pos h]
    simp only [Option.bind_some, flatA]
    have hj := rises_j0 h hp hv hw hn hl x.f2.f0 x.f2.f1 x.f2.f2 100
    have hok := pOk_iff hp hv hw hn
    have ha := pAdmit_ok (v := v) (now := now) (n := n) h
    by_cases h1 : n ≥ 1
    · rw [if_pos h1]
      have : ((pAdmit p v now n).2.1 != decide (n ≤ pLeft p v now)) = false := by
        rw [ha, bne_eq_false_iff_eq]
        exact bool_iff (by rw [hok]; simp; omega)
      rw [this]; exact hj
    · rw [if_neg h1]
      have : ((pAdmit p v now n).2.1 != false) = false := by
        rw [ha, bne_eq_false_iff_eq]
        exact bool_iff (by rw [hok]; simp; omega)
      rw [this]; exact hj
  · rw [if_neg h]
    simp only [Option.bind_some, flatA]
    unfold pAdmit
    rw [if_neg h]
    rfl
end Go.Proofs.Ytokfhdpokemekaa.Pure
