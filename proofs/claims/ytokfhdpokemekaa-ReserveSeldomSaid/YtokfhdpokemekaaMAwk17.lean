/- The awake look of the reserve laws. -/
import Derived.Test.YtokfhdpokemekaaMRes
import Derived.Test.YtokfhdpokemekaaQo
import Derived.Test.YtokfhdpokemekaaQx40
namespace Go.Proofs.Ytokfhdpokemekaa.M
set_option linter.unusedVariables false
open Go.RowKit Go.Proofs.Ytokfhdpokemekaa.Q Go.Proofs.YtokfhdpokemekaaW.PrintWords Go.Proofs.YtokfhdpokemekaaW.PrintMore
def C17 : Cfg := ⟨100, 5, 1, 1, 0⟩
def P17 : Pol := ⟨1, 10, 30, 0, 0⟩
theorem awake17 (k : Nat) : turnstilelaw17_awake.f (k + 1) = some true := by
  have hc : C17.U := by unfold Cfg.U C17 U; decide
  have hp : P17.U := by unfold Pol.U P17 U; decide
  have l0 : Lev.U ⟨0, 0, 0⟩ := by unfold Lev.U U; decide
  have l1 : Lev.U ⟨40, 0, 0⟩ := by unfold Lev.U U; decide
  have e1 := RChoose (t := ⟨0, 0, 0⟩) (now := 1000) (n := 1) hc hp l0 ⟨by decide, by decide⟩ ⟨by decide, by decide⟩ k
  have e2 := RCeil (p := P17) hc l1
  have e3 := RValid 100 5 1 1 0
  have e4 := RWithin (p := P17) (t := ⟨140, 0, 0⟩) hc l1
  have a1 : flatC (rChoose C17 P17 ⟨0, 0, 0⟩ ⟨0, 0, 0⟩ 1000 1) = (1010, 0, 0, true, 0, true, 1110, 0, 0) := by kernel_rfl
  have a2 : flatL (rCeil C17 P17 ⟨40, 0, 0⟩) = (140, 0, 0) := by decide +kernel
  have a4 : rWithin C17 P17 ⟨40, 0, 0⟩ ⟨140, 0, 0⟩ = true := by decide +kernel
  rw [a1] at e1
  rw [a2] at e2
  rw [a4] at e4
  simp only [C17, P17] at e1 e2 e4
  unfold turnstilelaw17_awake.f
  rw [e1]
  simp only [Option.bind_some]
  rw [e2]
  simp only [Option.bind_some]
  rw [e3]
  simp only [Option.bind_some]
  rw [if_pos (by decide), if_pos (by decide), if_pos (by decide), e4]
  rfl
end Go.Proofs.Ytokfhdpokemekaa.M
