/- PolicyForm: what the rule doesn't use plays no part; every level that is answered is in form. -/
import Derived.Test.YtokfhdpokemekaaMAsk6
import Derived.Test.YtokfhdpokemekaaMPol2
import Derived.Test.YtokfhdpokemekaaQSPolicyForm
namespace Go.Proofs.Ytokfhdpokemekaa.Pure
set_option linter.unusedVariables false
open Go.RowKit Go.Proofs.Ytokfhdpokemekaa.Q Go.Proofs.Ytokfhdpokemekaa.M Go.Proofs.YtokfhdpokemekaaW.PrintWords Go.Proofs.YtokfhdpokemekaaW.PrintMore
theorem same {p : Pol} {v u : Lev} (h : pF p u = pF p v) : (∀ now n, pAdmit p u now n = pAdmit p v now n) ∧ (∀ now, pLeft p u now = pLeft p v now) ∧ (∀ c, pCov p u c = pCov p v c) ∧ (∀ c, pCov p c u = pCov p c v) := by
  unfold pF at h
  unfold pAdmit pLeft pCov pOk pNext pF pRetry
  by_cases h1 : p.kind = 1
  · simp only [if_pos h1, Lev.mk.injEq] at h
    simp only [if_pos h1, h.1]
    exact ⟨fun _ _ => trivial, fun _ => trivial, fun _ => trivial, fun _ => trivial⟩
  · simp only [if_neg h1, Lev.mk.injEq] at h
    simp only [if_neg h1, h.2.1, h.2.2]
    exact ⟨fun _ _ => trivial, fun _ => trivial, fun _ => trivial, fun _ => trivial⟩
theorem max_sym {p : Pol} {a b : Lev} (h : pv p = true) : pMax p b a = pMax p a b := by
  unfold pMax
  rw [if_pos h, if_pos h]
  by_cases h1 : pCov p a b = true
  · rw [if_pos h1]
    by_cases h2 : pCov p b a = true
    · rw [if_pos h2]; exact (cov_anti.1 ⟨h1, h2⟩).symm
    · rw [if_neg h2]
  · rw [if_neg h1, if_pos (cov_total h1)]
theorem form_j4 {p : Pol} {v u y : Lev} {now n : Int} (h : pF p u = pF p v) (hp : p.U) (hv : v.U) (hu : u.U) (hw : U now) (k : Nat) (hk : 80 ≤ k) :
    turnstilelaw06_PolicyForm.j4 (k + 2) false p.kind p.gap p.slack p.lim p.span v.tat v.ix v.cnt y.tat y.ix y.cnt now n u.tat u.ix u.cnt = some true := by
  obtain ⟨_, s2, s3, s4⟩ := same h
  rw [turnstilelaw06_PolicyForm.j4, if_neg (by decide), PLeft hp hu hw _ (by omega), PLeft hp hv hw _ (by omega), s2]
  simp only [Option.bind_some]
  rw [if_pos (by simp), PCovers, PCovers, PCovers, PCovers, s3, s4]
  simp
theorem form_j3 {p : Pol} {v u y : Lev} {now n : Int} (h : pF p u = pF p v) (hp : p.U) (hv : v.U) (hu : u.U) (hw : U now) (hn : U n) (k : Nat) (hk : 80 ≤ k) (A : Lev × Bool × Int) (hA : A = pAdmit p v now n) :
    turnstilelaw06_PolicyForm.j3 (k + 3) A.2.1 A.2.2 A.2.1 A.2.2 (!pv p) p.kind p.gap p.slack p.lim p.span v.tat v.ix v.cnt y.tat y.ix y.cnt now n u.tat u.ix u.cnt A.1.tat A.1.ix A.1.cnt A.1.tat A.1.ix A.1.cnt = some true := by
  obtain ⟨_, s2, s3, s4⟩ := same h
  have j4 := form_j4 (y := y) (n := n) h hp hv hu hw k hk
  rw [turnstilelaw06_PolicyForm.j3]
  by_cases hpv : pv p = true
  · have hm1 : pMax p u y = pMax p v y := by
      unfold pMax; rw [s3, h]
    have hm2 : pMax p y u = pMax p v y := by rw [← hm1]; exact max_sym hpv
    have f1 : pFits p A.1 = true := by
      unfold pFits; rw [hpv, Bool.true_and, eqL_iff, hA]
      unfold pAdmit
      rw [if_pos hpv]
      split
      · exact pF_next p v now n
      · exact pF_pF p v
    have f2 : pFits p (pMax p v y) = true := by
      unfold pFits; rw [hpv, Bool.true_and, eqL_iff]
      unfold pMax
      rw [if_pos hpv]
      split
      · exact pF_pF p v
      · exact pF_pF p y
    rw [hpv, Bool.not_true, if_neg (by decide), PMax, Option.bind_some, if_neg (by simp), if_neg (by simp), if_pos rfl, PFits, f1, Option.bind_some, if_pos rfl]
    simp only [flatL]
    rw [PFits, f2, Option.bind_some, if_pos rfl, PMax, hm1, Option.bind_some]
    simp only [flatL]
    simp only [beq_self_eq_true, Bool.not_true, Bool.or_self, Bool.false_eq_true, if_false]
    rw [PMax, hm2, Option.bind_some]
    simp only [flatL]
    simpa using j4
  · have e : pAdmit p v now n = (⟨0, 0, 0⟩, false, 18446744073709551615) := by unfold pAdmit; rw [if_neg hpv]
    have f1 : pFits p ⟨0, 0, 0⟩ = false := by unfold pFits; rw [Bool.eq_false_iff.2 hpv]; rfl
    have m1 : pMax p v y = ⟨0, 0, 0⟩ := by unfold pMax; rw [if_neg hpv]
    rw [Bool.eq_false_iff.2 hpv, Bool.not_false, if_pos rfl, hA, e]
    simp only
    have f1' := PFits p ⟨0, 0, 0⟩
    rw [f1] at f1'
    simp only at f1'
    rw [if_pos (by decide), if_neg (by decide), if_neg (by decide), if_pos (by simp), f1', Option.bind_some, if_neg (by decide), PMax, m1]
    rfl
theorem PolicyForm : PolicyForm.Pure := by
  intro x a b hx ha hb
  obtain ⟨hp, hv, hx', hw, hn⟩ := ask_U hx
  replace ha := U_wf ha
  replace hb := U_wf hb
  obtain ⟨k, hk⟩ : ∃ k : Nat, 100 ≤ k := ⟨100, Nat.le_refl _⟩
  refine ⟨k + 3 + 3, ?_⟩
  unfold turnstilelaw06_PolicyForm.f
  rw [awake6 (k + 3) (by omega), Option.bind_some, Bool.not_true]
  generalize x.f3 = now at *
  generalize x.f4 = n at *
  obtain ⟨p, h1⟩ : ∃ p, p = aP x := ⟨_, rfl⟩
  obtain ⟨v, h2⟩ : ∃ v, v = aV x := ⟨_, rfl⟩
  obtain ⟨y, h3⟩ : ∃ y, y = aW x := ⟨_, rfl⟩
  rw [← h1] at hp
  rw [← h2] at hv
  have p0 : x.f0.f0 = p.kind := by rw [h1]; rfl
  have p1 : x.f0.f1 = p.gap := by rw [h1]; rfl
  have p2 : x.f0.f2 = p.slack := by rw [h1]; rfl
  have p3 : x.f0.f3 = p.lim := by rw [h1]; rfl
  have p4 : x.f0.f4 = p.span := by rw [h1]; rfl
  have v0 : x.f1.f0 = v.tat := by rw [h2]; rfl
  have v1 : x.f1.f1 = v.ix := by rw [h2]; rfl
  have v2 : x.f1.f2 = v.cnt := by rw [h2]; rfl
  have y0 : x.f2.f0 = y.tat := by rw [h3]; rfl
  have y1 : x.f2.f1 = y.ix := by rw [h3]; rfl
  have y2 : x.f2.f2 = y.cnt := by rw [h3]; rfl
  rw [p0, p1, p2, p3, p4, v0, v1, v2, y0, y1, y2]
  clear p0 p1 p2 p3 p4 v0 v1 v2 y0 y1 y2 h1 h2 h3
  have tail : ∀ u : Lev, u.U → pF p u = pF p v → turnstilelaw06_PolicyForm.j2 (k + 4) p.kind p.gap p.slack p.lim p.span v.tat v.ix v.cnt y.tat y.ix y.cnt now n u.tat u.ix u.cnt = some true := by
    intro u hu he
    rw [turnstilelaw06_PolicyForm.j2, PAdmit hp hv hw hn, PAdmit hp hu hw hn, (same he).1, Option.bind_some, Option.bind_some, PValid, Option.bind_some]
    exact form_j3 he hp hv hu hw hn k (by omega) _ rfl
  rw [turnstilelaw06_PolicyForm.j0, if_neg (by decide), turnstilelaw06_PolicyForm.j1]
  by_cases h1 : p.kind = 1
  · rw [if_pos (by simpa using h1)]
    exact tail ⟨v.tat, a, b⟩ ⟨hv.1, ha, hb⟩ (by unfold pF; rw [if_pos h1, if_pos h1])
  · rw [if_neg (by simpa using h1)]
    exact tail ⟨a, v.ix, v.cnt⟩ ⟨ha, hv.2⟩ (by unfold pF; rw [if_neg h1, if_neg h1])
end Go.Proofs.Ytokfhdpokemekaa.Pure
