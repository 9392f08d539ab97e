/- Left of a policy. -/
import Derived.Test.YtokfhdpokemekaaMPol
import Derived.Test.YtokfhdpokemekaaMGcraB
import Derived.Test.YtokfhdpokemekaaQx17
namespace Go.Proofs.Ytokfhdpokemekaa.M
set_option linter.unusedVariables false
open Go.RowKit Go.Proofs.Ytokfhdpokemekaa.Q Go.Proofs.YtokfhdpokemekaaW.PrintWords Go.Proofs.YtokfhdpokemekaaW.PrintMore
def pLeft (p : Pol) (v : Lev) (now : Int) : Int := if p.kind = 1 then gBurst p.gap p.slack v.tat now else wLeft p.lim p.span v.ix v.cnt now
theorem PLeft {p : Pol} {v : Lev} {now : Int} (hp : p.U) (hv : v.U) (hw : U now) (k : Nat) (hk : 70 ≤ k) :
    policy_Left.f (k + 1) p.kind p.gap p.slack p.lim p.span v.tat v.ix v.cnt now = some (if pv p = true then pLeft p v now else 0) := by
  unfold policy_Left.f
  rw [ok_eq, Option.bind_some]
  by_cases h : pv p = true
  · rw [if_pos h, if_pos h]; unfold pLeft
    by_cases h1 : p.kind = 1
    · rw [if_pos h1, if_pos h1]; unfold policy_rules_5.f; rw [Burst hp.1 hp.2.1 hv.1 hw _ (by omega)]; rfl
    · rw [if_neg h1, if_neg h1]; unfold policy_rules_11.f; rw [WLeft hp.2.2.1 hp.2.2.2 hv.2.1 hv.2.2 hw]; rfl
  · rw [if_neg h, if_neg h]
theorem pOk_iff {p : Pol} {v : Lev} {now n : Int} (hp : p.U) (hv : v.U) (hw : U now) (hn : U n) : pOk p v now n = true ↔ (1 ≤ n ∧ n ≤ pLeft p v now) := by
  unfold pOk pLeft
  by_cases h1 : p.kind = 1
  · rw [if_pos h1, if_pos h1]
    by_cases hn1 : 1 ≤ n
    · rw [burst_iff hp.1 hp.2.1 hv.1 hw n hn1]; exact ⟨fun h => ⟨hn1, h⟩, fun h => h.2⟩
    · constructor
      · intro h; have := (gOk_iff.1 h).1; omega
      · intro h; omega
  · rw [if_neg h1, if_neg h1, wOk_iff]
end Go.Proofs.Ytokfhdpokemekaa.M
