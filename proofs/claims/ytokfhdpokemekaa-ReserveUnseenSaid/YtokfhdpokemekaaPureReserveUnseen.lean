/- ReserveUnseen: Level, Ok and Retry of a choice are the policy's own. -/
import Derived.Test.YtokfhdpokemekaaMAsk17
import Derived.Test.YtokfhdpokemekaaQSReserveUnseen
namespace Go.Proofs.Ytokfhdpokemekaa.Pure
set_option linter.unusedVariables false
open Go.RowKit Go.Proofs.Ytokfhdpokemekaa.Q Go.Proofs.Ytokfhdpokemekaa.M Go.Proofs.YtokfhdpokemekaaW.PrintWords Go.Proofs.YtokfhdpokemekaaW.PrintMore
theorem choose_own (c : Cfg) (p : Pol) (v t : Lev) (now n : Int) : (rChoose c p v t now n).level = (pAdmit p v now n).1 ∧ (rChoose c p v t now n).ok = (pAdmit p v now n).2.1 ∧ (rChoose c p v t now n).retry = (pAdmit p v now n).2.2 := by
  unfold rChoose; split <;> exact ⟨rfl, rfl, rfl⟩
theorem ReserveUnseen : ReserveUnseen.Pure := by
  intro x d u hx hd hu
  obtain ⟨hc, hp, hv, ht, hw, hn⟩ := op_U hx
  obtain ⟨d1, d2, _⟩ := hd
  have hd : Cfg.U ⟨d.f0, d.f1, d.f2, d.f3, d.f4⟩ := ⟨U_wf d1, U_wf d2⟩
  refine ⟨1, ?_⟩
  unfold turnstilelaw17_ReserveUnseen.f
  have e1 := RChoose (t := oT x) hc hp hv hw hn 0
  have e2 := RChoose (t := ⟨u.f0, u.f1, u.f2⟩) hd hp hv hw hn 0
  have e3 := PAdmit hp hv hw hn 0
  obtain ⟨a1, a2, a3⟩ := choose_own (oC x) (oP x) (oV x) (oT x) x.f5 x.f6
  obtain ⟨b1, b2, b3⟩ := choose_own ⟨d.f0, d.f1, d.f2, d.f3, d.f4⟩ (oP x) (oV x) ⟨u.f0, u.f1, u.f2⟩ x.f5 x.f6
  generalize rChoose (oC x) (oP x) (oV x) (oT x) x.f5 x.f6 = y at *
  generalize rChoose ⟨d.f0, d.f1, d.f2, d.f3, d.f4⟩ (oP x) (oV x) ⟨u.f0, u.f1, u.f2⟩ x.f5 x.f6 = z at *
  generalize pAdmit (oP x) (oV x) x.f5 x.f6 = A at *
  simp only [oC, oP, oV, oT] at e1 e2 e3
  rw [awake17 0, Option.bind_some, if_pos rfl]
  simp only [Nat.zero_add] at e1 e2 e3 ⊢
  rw [e1, e2, e3]
  simp only [Option.bind_some, flatC, flatA, a1, a2, a3, b1, b2, b3]
  simp
end Go.Proofs.Ytokfhdpokemekaa.Pure
