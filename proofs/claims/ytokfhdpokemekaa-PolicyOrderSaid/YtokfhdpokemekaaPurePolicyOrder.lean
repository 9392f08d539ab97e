/- PolicyOrder: of a valid policy Covers orders levels, and Max is the higher one. -/
import Derived.Test.YtokfhdpokemekaaMAsk6
import Derived.Test.YtokfhdpokemekaaMPol2
import Derived.Test.YtokfhdpokemekaaQSPolicyOrder
namespace Go.Proofs.Ytokfhdpokemekaa.Pure
set_option linter.unusedVariables false
open Go.RowKit Go.Proofs.Ytokfhdpokemekaa.Q Go.Proofs.Ytokfhdpokemekaa.M Go.Proofs.YtokfhdpokemekaaW.PrintWords Go.Proofs.YtokfhdpokemekaaW.PrintMore
theorem order_j0 {p : Pol} {v x m : Lev} (hv : pv p = true) (hm : m = if pCov p v x = true then pF p v else pF p x) (k : Nat) (c11 c12 : Int) :
    turnstilelaw06_PolicyOrder.j0 (k + 1) (pCov p v x) (pCov p x v) false p.kind p.gap p.slack p.lim p.span v.tat v.ix v.cnt x.tat x.ix x.cnt c11 c12 p.kind p.gap p.slack p.lim p.span m.tat m.ix m.cnt = some true := by
  rw [turnstilelaw06_PolicyOrder.j0, if_neg (by decide), PMax, PMax, max_self hv, max_self hv]
  simp only [Option.bind_some, flatL]
  have key : (if pCov p v x = true then some (pCov p x v == eqL (pF p v) (pF p x)) else some (false == eqL (pF p v) (pF p x))) = some true := by
    have ha := @cov_anti p v x
    by_cases h : pCov p v x = true
    · rw [if_pos h]
      have : pCov p x v = eqL (pF p v) (pF p x) := bool_iff (by rw [eqL_iff, ← ha]; exact ⟨fun h' => ⟨h, h'⟩, fun h' => h'.2⟩)
      rw [this]; simp
    · rw [if_neg h]
      have : eqL (pF p v) (pF p x) = false := by
        cases he : eqL (pF p v) (pF p x) with
        | false => rfl
        | true => exact absurd (ha.2 (eqL_iff.1 he)).1 h
      rw [this]; rfl
  change (if eqL m (pF p v) = true then (if pCov p v x = true then some (pCov p x v == eqL (pF p v) (pF p x)) else some (false == eqL (pF p v) (pF p x))) else (if eqL m (pF p x) = true then (if pCov p v x = true then some (pCov p x v == eqL (pF p v) (pF p x)) else some (false == eqL (pF p v) (pF p x))) else some false)) = some true
  rw [key]
  by_cases h : pCov p v x = true
  · rw [if_pos h] at hm
    rw [if_pos (eqL_iff.2 hm)]
  · rw [if_neg h] at hm
    rw [if_pos (eqL_iff.2 hm)]
    split <;> rfl
theorem PolicyOrder : PolicyOrder.Pure := by
  intro x u hx hu
  obtain ⟨hp, hv, hx', hw, hn⟩ := ask_U hx
  refine ⟨103, ?_⟩
  unfold turnstilelaw06_PolicyOrder.f
  rw [show (103 : Nat) = 100 + 3 from rfl, awake6 100 (by decide), Option.bind_some, if_pos rfl]
  generalize x.f3 = c11 at *
  generalize x.f4 = c12 at *
  have ex : ∃ p v y z : _, p = aP x ∧ v = aV x ∧ y = aW x ∧ z = (⟨u.f0, u.f1, u.f2⟩ : Lev) := ⟨_, _, _, _, rfl, rfl, rfl, rfl⟩
  obtain ⟨p, v, y, z, h1, h2, h3, h4⟩ := ex
  have p0 : x.f0.f0 = p.kind := by rw [h1]; rfl
  have p1 : x.f0.f1 = p.gap := by rw [h1]; rfl
  have p2 : x.f0.f2 = p.slack := by rw [h1]; rfl
  have p3 : x.f0.f3 = p.lim := by rw [h1]; rfl
  have p4 : x.f0.f4 = p.span := by rw [h1]; rfl
  have v0 : x.f1.f0 = v.tat := by rw [h2]; rfl
  have v1 : x.f1.f1 = v.ix := by rw [h2]; rfl
  have v2 : x.f1.f2 = v.cnt := by rw [h2]; rfl
  have y0 : x.f2.f0 = y.tat := by rw [h3]; rfl
  have y1 : x.f2.f1 = y.ix := by rw [h3]; rfl
  have y2 : x.f2.f2 = y.cnt := by rw [h3]; rfl
  have z0 : u.f0 = z.tat := by rw [h4]
  have z1 : u.f1 = z.ix := by rw [h4]
  have z2 : u.f2 = z.cnt := by rw [h4]
  rw [p0, p1, p2, p3, p4, v0, v1, v2, y0, y1, y2, z0, z1, z2]
  clear p0 p1 p2 p3 p4 v0 v1 v2 y0 y1 y2 z0 z1 z2 h1 h2 h3 h4
  rw [PValid, Option.bind_some]
  by_cases h : pv p = true
  · have hm := max_cov h v y
    have hmx : pMax p v y = if pCov p v y = true then pF p v else pF p y := by unfold pMax; rw [if_pos h]
    have hk := cov_refl p v
    have ht := @cov_total p v y
    have htr := @cov_trans p v y z
    have hj := fun m hm => order_j0 (p := p) (v := v) (x := y) (m := m) h hm 102 c11 c12
    rw [if_pos h, PCovers, PCovers, PCovers, PCovers, PCovers, PMax]
    simp only [Option.bind_some, flatL, PCovers, h, Bool.true_and]
    rw [hk, if_pos rfl, hm.1, hm.2]
    simp only [if_true, Bool.not_true]
    have hj' := hj _ hmx
    rw [show (102 : Nat) + 1 = 100 + 3 from rfl] at hj'
    cases hvy : pCov p v y with
    | true =>
      rw [hvy] at hj' htr
      rw [if_pos rfl]
      cases hyz : pCov p y z with
      | true => rw [if_pos rfl, htr rfl hyz, if_pos rfl]; exact hj'
      | false => rw [if_neg (by decide)]; exact hj'
    | false =>
      rw [hvy] at hj' ht
      rw [if_neg (by decide), if_pos (ht (by decide))]
      exact hj'
  · rw [if_neg h, PCovers, PCovers, Bool.eq_false_iff.2 h]
    rfl
end Go.Proofs.Ytokfhdpokemekaa.Pure
