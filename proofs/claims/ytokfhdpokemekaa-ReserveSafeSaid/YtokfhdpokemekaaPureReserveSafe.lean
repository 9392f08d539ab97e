/- ReserveSafe: what is told is covered; nothing is written without need. -/
import Derived.Test.YtokfhdpokemekaaMAsk17
import Derived.Test.YtokfhdpokemekaaQSReserveSafe
namespace Go.Proofs.Ytokfhdpokemekaa.Pure
set_option linter.unusedVariables false
open Go.RowKit Go.Proofs.Ytokfhdpokemekaa.Q Go.Proofs.Ytokfhdpokemekaa.M Go.Proofs.YtokfhdpokemekaaW.PrintWords Go.Proofs.YtokfhdpokemekaaW.PrintMore
theorem safe_j0 {c : Cfg} {p : Pol} {v t : Lev} {now n : Int} (hc : c.U) (hp : p.U) (hv : v.U) (ht : t.U) (hw : U now) (hn : U n) (kind : Int) (k : Nat) (x : Cho) (hx : x = rChoose c p v t now n) :
    turnstilelaw17_ReserveSafe.j0 (k + 1) false kind c.block c.credit c.keys c.blocks c.every p.kind p.gap p.slack p.lim p.span v.tat v.ix v.cnt t.tat t.ix t.cnt now n x.level.tat x.level.ix x.level.cnt x.ok x.retry x.write x.ceil.tat x.ceil.ix x.ceil.cnt = some true := by
  have hu := pAdmit_U hp hv hw hn
  rw [turnstilelaw17_ReserveSafe.j0, if_neg (by decide), PValid, Option.bind_some]
  unfold rChoose at hx
  by_cases h : pv p = true
  · rw [if_pos h]
    rw [h, Bool.true_and] at hx
    have hA : pAdmit p v now n = if pOk p v now n = true then (pNext p v now n, true, 0) else (pF p v, false, pRetry p v now n) := by unfold pAdmit; rw [if_pos h]
    generalize pAdmit p v now n = A at *
    obtain ⟨l, ok, re⟩ := A
    by_cases h1 : ok = true ∧ pCov p t l = false
    · rw [if_pos h1] at hx
      subst hx
      simp only [if_true, PCovers, h, Bool.true_and, Option.bind_some]
      rw [h1.2, if_neg (by decide), RWithin hc hu, Option.bind_some]
      unfold rWithin
      rw [h, ceil_cov h hc hp hu, cov_refl]
      rfl
    · rw [if_neg h1] at hx
      subst hx
      have hm : pMax p t t = pF p t := max_self h t
      simp only [PCovers, h, Bool.true_and, Option.bind_some, hm, (pCov_pF p t _).1, (pCov_pF p _ t).2, cov_refl]
      rw [if_neg (by decide), if_pos (by simp), if_pos (by simp)]
      by_cases h2 : pCov p t v = true
      · rw [if_pos h2]
        by_cases h3 : pOk p v now n = true
        · rw [if_pos h3] at hA
          injection hA with hA1 hA2
          injection hA2 with hA2 hA3
          cases h4 : pCov p t l with
          | true => rfl
          | false => exact absurd ⟨hA2, h4⟩ h1
        · rw [if_neg h3] at hA
          injection hA with hA1 hA2
          rw [hA1, (pCov_pF p t v).2, h2]
      · rw [if_neg h2]
  · rw [if_neg h]
    have hA : pAdmit p v now n = (⟨0, 0, 0⟩, false, 18446744073709551615) := by unfold pAdmit; rw [if_neg h]
    have hm : pMax p t t = ⟨0, 0, 0⟩ := by unfold pMax; rw [if_neg h]
    rw [hA, hm, if_neg (by simp)] at hx
    subst hx
    rfl
theorem ReserveSafe : ReserveSafe.Pure := by
  intro x hx
  obtain ⟨hc, hp, hv, ht, hw, hn⟩ := op_U hx
  refine ⟨2, ?_⟩
  unfold turnstilelaw17_ReserveSafe.f
  have e1 := RChoose (t := oT x) hc hp hv hw hn 1
  have e2 := fun y hy => safe_j0 (t := oT x) hc hp hv ht hw hn x.f0 1 y hy
  have h1 : (rChoose (oC x) (oP x) (oV x) (oT x) x.f5 x.f6).write = true → (rChoose (oC x) (oP x) (oV x) (oT x) x.f5 x.f6).ok = true := by
    unfold rChoose; split
    · rename_i h; exact fun _ => h.1
    · intro h; cases h
  have h2 : (rChoose (oC x) (oP x) (oV x) (oT x) x.f5 x.f6).ok = true → (rChoose (oC x) (oP x) (oV x) (oT x) x.f5 x.f6).retry = 0 := by
    have : (pAdmit (oP x) (oV x) x.f5 x.f6).2.1 = true → (pAdmit (oP x) (oV x) x.f5 x.f6).2.2 = 0 := by
      unfold pAdmit
      (repeat' split) <;> simp
    unfold rChoose; split <;> exact this
  replace e2 := e2 _ rfl
  generalize rChoose (oC x) (oP x) (oV x) (oT x) x.f5 x.f6 = y at *
  simp only [oC, oP, oV, oT] at e1 e2
  rw [awake17 1, Option.bind_some, if_pos rfl, e1, Option.bind_some]
  simp only [flatC]
  obtain ⟨l, ok, re, wr, ce⟩ := y
  simp only at h1 h2 e2 ⊢
  cases ok with
  | true =>
    have h3 := h2 rfl
    subst h3
    simp only [if_true]
    have : ((0 : Int) != 0) = false := by decide
    rw [this]
    split <;> exact e2
  | false =>
    cases wr with
    | true => exact absurd (h1 rfl) (by decide)
    | false => exact e2
end Go.Proofs.Ytokfhdpokemekaa.Pure
