/- PolicyFace: the face answers what the rule of its kind answers, and nothing of the other. -/
import Derived.Test.YtokfhdpokemekaaMAsk6
import Derived.Test.YtokfhdpokemekaaMPol2
import Derived.Test.YtokfhdpokemekaaQSPolicyFace
namespace Go.Proofs.Ytokfhdpokemekaa.Pure
set_option linter.unusedVariables false
open Go.RowKit Go.Proofs.Ytokfhdpokemekaa.Q Go.Proofs.Ytokfhdpokemekaa.M Go.Proofs.YtokfhdpokemekaaW.PrintWords Go.Proofs.YtokfhdpokemekaaW.PrintMore
theorem PolicyFace : PolicyFace.Pure := by
  intro x hx
  obtain ⟨hp, hv, hx', hw, hn⟩ := ask_U hx
  obtain ⟨k, hk⟩ : ∃ k : Nat, 100 ≤ k := ⟨100, Nat.le_refl _⟩
  refine ⟨k + 4 + 3, ?_⟩
  unfold turnstilelaw06_PolicyFace.f
  rw [awake6 (k + 4) (by omega), Option.bind_some, Bool.not_true]
  generalize x.f3 = now at *
  generalize x.f4 = n at *
  obtain ⟨p, h1⟩ : ∃ p, p = aP x := ⟨_, rfl⟩
  obtain ⟨v, h2⟩ : ∃ v, v = aV x := ⟨_, rfl⟩
  rw [← h1] at hp
  rw [← h2] at hv
  have p0 : x.f0.f0 = p.kind := by rw [h1]; rfl
  have p1 : x.f0.f1 = p.gap := by rw [h1]; rfl
  have p2 : x.f0.f2 = p.slack := by rw [h1]; rfl
  have p3 : x.f0.f3 = p.lim := by rw [h1]; rfl
  have p4 : x.f0.f4 = p.span := by rw [h1]; rfl
  have v0 : x.f1.f0 = v.tat := by rw [h2]; rfl
  have v1 : x.f1.f1 = v.ix := by rw [h2]; rfl
  have v2 : x.f1.f2 = v.cnt := by rw [h2]; rfl
  rw [p0, p1, p2, p3, p4, v0, v1, v2]
  clear p0 p1 p2 p3 p4 v0 v1 v2 h1 h2
  rw [turnstilelaw06_PolicyFace.j0, if_neg (by decide), PAdmit hp hv hw hn, PLeft hp hv hw _ (by omega)]
  simp only [Option.bind_some, flatA]
  rw [turnstilelaw06_PolicyFace.j1, PValid, Option.bind_some, turnstilelaw06_PolicyFace.j2]
  by_cases h : pv p = true
  · have hA : pAdmit p v now n = if pOk p v now n = true then (pNext p v now n, true, 0) else (pF p v, false, pRetry p v now n) := by unfold pAdmit; rw [if_pos h]
    rw [h, Bool.not_true, if_neg (by decide), if_pos rfl, turnstilelaw06_PolicyFace.j3, hA]
    unfold pOk pNext pF pRetry pLeft
    by_cases h1 : p.kind = 1
    · simp only [if_pos h1]
      rw [if_pos (by simpa using h1), Admit hp.1 hp.2.1 hv.1 hw hn, Option.bind_some]
      by_cases h2 : gOk p.gap p.slack v.tat now n = true
      · simp only [if_pos h2]
        rw [turnstilelaw06_PolicyFace.j4, if_pos (by simp), if_pos (by simp), if_pos (by simp), if_pos (by simp), Burst hp.1 hp.2.1 hv.1 hw _ (by omega)]
        simp
      · simp only [if_neg h2]
        rw [turnstilelaw06_PolicyFace.j4, if_neg (by decide), Retry hp.1 hp.2.1 hv.1 hw hn, Option.bind_some, if_pos (by simp), if_pos (by simp), if_pos (by simp), Burst hp.1 hp.2.1 hv.1 hw _ (by omega)]
        simp
    · simp only [if_neg h1]
      rw [if_neg (by simpa using h1), WAdmit hp.2.2.1 hp.2.2.2 hv.2.1 hv.2.2 hw hn, Option.bind_some]
      by_cases h2 : wOk p.lim p.span v.ix v.cnt now n = true
      · simp only [if_pos h2]
        rw [turnstilelaw06_PolicyFace.j5, if_pos (by simp), if_pos (by simp), if_pos (by simp), if_pos (by simp), WLeft hp.2.2.1 hp.2.2.2 hv.2.1 hv.2.2 hw]
        simp
      · simp only [if_neg h2]
        rw [turnstilelaw06_PolicyFace.j5, if_neg (by decide), WRetry hp.2.2.1 hp.2.2.2 hv.2.1 hv.2.2 hw hn, Option.bind_some, if_pos (by simp), if_pos (by simp), if_pos (by simp), WLeft hp.2.2.1 hp.2.2.2 hv.2.1 hv.2.2 hw]
        simp
  · have hA : pAdmit p v now n = (⟨0, 0, 0⟩, false, 18446744073709551615) := by unfold pAdmit; rw [if_neg h]
    rw [Bool.eq_false_iff.2 h, Bool.not_false, if_pos rfl, hA, if_pos (by decide)]
    rfl
end Go.Proofs.Ytokfhdpokemekaa.Pure
