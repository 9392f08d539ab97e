/- The asks of the policy laws, and their awake look. -/
import Derived.Test.YtokfhdpokemekaaMPolL
import Derived.Test.YtokfhdpokemekaaQo
import Derived.Test.YtokfhdpokemekaaQx20
import Derived.Test.YtokfhdpokemekaaQx21
namespace Go.Proofs.Ytokfhdpokemekaa.M
set_option linter.unusedVariables false
open Go.RowKit Go.Proofs.Ytokfhdpokemekaa.Q Go.Proofs.YtokfhdpokemekaaW.PrintWords Go.Proofs.YtokfhdpokemekaaW.PrintMore
def P1 : Pol := ⟨1, 10, 20, 0, 0⟩
def P2 : Pol := ⟨2, 0, 0, 3, 100⟩
theorem P1_U : P1.U := by unfold Pol.U P1 U; decide
theorem P2_U : P2.U := by unfold Pol.U P2 U; decide
theorem awake6 (k : Nat) (hk : 80 ≤ k) : turnstilelaw06_awake.f (k + 3) = some true := by
  have l0 : Lev.U ⟨0, 0, 0⟩ := by unfold Lev.U U; decide
  have l1 : Lev.U ⟨0, 2, 2⟩ := by unfold Lev.U U; decide
  have e1 := PAdmit (v := ⟨0, 0, 0⟩) (now := 5) (n := 3) P1_U l0 ⟨by decide, by decide⟩ ⟨by decide, by decide⟩ (k + 2)
  have e2 := PAdmit (v := ⟨0, 2, 2⟩) (now := 250) (n := 2) P2_U l1 ⟨by decide, by decide⟩ ⟨by decide, by decide⟩ (k + 1)
  have e3 := PLeft (v := ⟨0, 0, 0⟩) (now := 5) P1_U l0 ⟨by decide, by decide⟩ k (by omega)
  have e4 := PValid P1
  have e5 := PFits P2 ⟨0, 2, 2⟩
  have e6 := PCovers P2 ⟨0, 2, 2⟩ ⟨0, 1, 9⟩
  have e7 := PMax P1 ⟨3, 0, 0⟩ ⟨5, 0, 0⟩
  have a1 : flatA (pAdmit P1 ⟨0, 0, 0⟩ 5 3) = (35, 0, 0, true, 0) := by decide +kernel
  have a2 : flatA (pAdmit P2 ⟨0, 2, 2⟩ 250 2) = (0, 2, 2, false, 300) := by decide +kernel
  have a3 : (if pv P1 = true then pLeft P1 ⟨0, 0, 0⟩ 5 else 0) = 3 := by decide +kernel
  have a4 : pv P1 = true := by decide +kernel
  have a5 : pFits P2 ⟨0, 2, 2⟩ = true := by decide +kernel
  have a6 : (pv P2 && pCov P2 ⟨0, 2, 2⟩ ⟨0, 1, 9⟩) = true := by decide +kernel
  have a7 : flatL (pMax P1 ⟨3, 0, 0⟩ ⟨5, 0, 0⟩) = (5, 0, 0) := by decide +kernel
  rw [a1] at e1
  rw [a2] at e2
  rw [a3] at e3
  rw [a4] at e4
  rw [a5] at e5
  rw [a6] at e6
  rw [a7] at e7
  simp only [P1, P2] at e1 e2 e3 e4 e5 e6 e7
  unfold turnstilelaw06_awake.f
  unfold turnstilelaw06_flow.f
  simp only [Option.bind_some]
  rw [show k + 3 = (k + 2) + 1 from rfl, e1]
  simp only [Option.bind_some]
  rw [if_pos (by decide), if_neg (by decide), turnstilelaw06_awake.j0, if_neg (by decide)]
  unfold turnstilelaw06_grid.f
  simp only [Option.bind_some]
  rw [e2]
  simp only [Option.bind_some]
  rw [if_neg (by decide), if_neg (by decide), turnstilelaw06_awake.j1, if_neg (by decide)]
  unfold turnstilelaw06_flow.f turnstilelaw06_grid.f
  simp only [Option.bind_some]
  rw [e4]
  simp only [Option.bind_some]
  rw [if_pos (by decide), e5]
  simp only [Option.bind_some]
  rw [if_pos (by decide), e3]
  simp only [Option.bind_some]
  rw [if_pos (by decide), e6]
  simp only [Option.bind_some]
  rw [if_pos (by decide), e7]
  rfl
/-- An ask's policy, its levels. -/
def aP (x : S31) : Pol := ⟨x.f0.f0, x.f0.f1, x.f0.f2, x.f0.f3, x.f0.f4⟩
def aV (x : S31) : Lev := ⟨x.f1.f0, x.f1.f1, x.f1.f2⟩
def aW (x : S31) : Lev := ⟨x.f2.f0, x.f2.f1, x.f2.f2⟩
theorem ask_U {x : S31} (h : q31 x) : (aP x).U ∧ (aV x).U ∧ (aW x).U ∧ U x.f3 ∧ U x.f4 := by
  obtain ⟨⟨_, h1, h2, h3, h4⟩, ⟨h5, h6, h7⟩, ⟨h8, h9, h10⟩, h11, h12⟩ := h
  exact ⟨⟨U_wf h1, U_wf h2, U_wf h3, U_wf h4⟩, ⟨U_wf h5, U_wf h6, U_wf h7⟩, ⟨U_wf h8, U_wf h9, U_wf h10⟩, U_wf h11, U_wf h12⟩
end Go.Proofs.Ytokfhdpokemekaa.M
