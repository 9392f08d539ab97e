/- The calls of the reserve laws, and their awake look. -/
import Derived.Test.YtokfhdpokemekaaMAwk17
namespace Go.Proofs.Ytokfhdpokemekaa.M
set_option linter.unusedVariables false
open Go.RowKit Go.Proofs.Ytokfhdpokemekaa.Q Go.Proofs.YtokfhdpokemekaaW.PrintWords Go.Proofs.YtokfhdpokemekaaW.PrintMore
/-- A call's parts. -/
def oC (x : S55) : Cfg := ⟨x.f1.f0, x.f1.f1, x.f1.f2, x.f1.f3, x.f1.f4⟩
def oP (x : S55) : Pol := ⟨x.f2.f0, x.f2.f1, x.f2.f2, x.f2.f3, x.f2.f4⟩
def oV (x : S55) : Lev := ⟨x.f3.f0, x.f3.f1, x.f3.f2⟩
def oT (x : S55) : Lev := ⟨x.f4.f0, x.f4.f1, x.f4.f2⟩
theorem op_U {x : S55} (h : q55 x) : (oC x).U ∧ (oP x).U ∧ (oV x).U ∧ (oT x).U ∧ U x.f5 ∧ U x.f6 := by
  obtain ⟨_, ⟨a1, a2, _, _, _⟩, ⟨_, h1, h2, h3, h4⟩, ⟨h5, h6, h7⟩, ⟨h8, h9, h10⟩, h11, h12⟩ := h
  exact ⟨⟨U_wf a1, U_wf a2⟩, ⟨U_wf h1, U_wf h2, U_wf h3, U_wf h4⟩, ⟨U_wf h5, U_wf h6, U_wf h7⟩, ⟨U_wf h8, U_wf h9, U_wf h10⟩, U_wf h11, U_wf h12⟩
end Go.Proofs.Ytokfhdpokemekaa.M
