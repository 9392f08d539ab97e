/- The awake looks of the gcra laws; the units that are admitted. -/
import Derived.Test.YthnpgilknoiaaaaMGcra
import Derived.Test.YthnpgilknoiaaaaQx20
import Derived.Test.YthnpgilknoiaaaaQx25
namespace Go.Proofs.Ythnpgilknoiaaaa.M
set_option linter.unusedVariables false
open Go.RowKit Go.Proofs.Ythnpgilknoiaaaa.Q Go.Proofs.YthnpgilknoiaaaaW.PrintWords Go.Proofs.YthnpgilknoiaaaaW.PrintMore
theorem lives (k : Nat) (hk : 20 ≤ k) : turnstilelaw04_lives.f (k + 1) = some true := by
  have u : ∀ n : Int, 0 ≤ n → n ≤ 1000 → U n := fun n h0 h1 => U_le h0 (by omega)
  unfold turnstilelaw04_lives.f
  rw [Admit (u 10 (by omega) (by omega)) (u 0 (by omega) (by omega)) (u 0 (by omega) (by omega)) (u 100 (by omega) (by omega)) (u 1 (by omega) (by omega)),
    Admit (u 10 (by omega) (by omega)) (u 0 (by omega) (by omega)) (u 110 (by omega) (by omega)) (u 105 (by omega) (by omega)) (u 1 (by omega) (by omega)),
    Retry (u 10 (by omega) (by omega)) (u 0 (by omega) (by omega)) (u 110 (by omega) (by omega)) (u 105 (by omega) (by omega)) (u 1 (by omega) (by omega)),
    Delay (u 10 (by omega) (by omega)) (u 0 (by omega) (by omega)) (u 110 (by omega) (by omega)) (u 105 (by omega) (by omega)),
    Burst (u 10 (by omega) (by omega)) (u 20 (by omega) (by omega)) (u 0 (by omega) (by omega)) (u 100 (by omega) (by omega)) k hk]
  decide +kernel
theorem yes {g s t a n now m : Int} (hg : U g) (hs : U s) (ht : U t) (hw : U now) (hn : U m) (k : Nat) : turnstilelaw04_yes.f (k + 1) g s t a n now m = some (gOk g s t now m) := by
  unfold turnstilelaw04_yes.f
  rw [Admit hg hs ht hw hn]
  simp only [Option.bind_some]
  cases h : gOk g s t now m with
  | false => rfl
  | true =>
    have h1 := gOk_iff.1 h
    have h2 := @mx_le t now
    have h3 := (mul_facts hg hn).2 h1.1 h1.2.1
    simp only [if_true]
    rw [if_pos (by omega)]
    congr 1
    simp; omega
end Go.Proofs.Ythnpgilknoiaaaa.M
