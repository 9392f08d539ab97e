/- What the reference of layer 6 computes: the same. -/
import Derived.Test.YtokfhdpokemekaaMPol
import Derived.Test.YtokfhdpokemekaaMRef4A
import Derived.Test.YtokfhdpokemekaaMWinR
import Derived.Test.YtokfhdpokemekaaQx22
import Derived.Test.YtokfhdpokemekaaQx28
import Derived.Test.YtokfhdpokemekaaQx30
namespace Go.Proofs.Ytokfhdpokemekaa.M
set_option linter.unusedVariables false
open Go.RowKit Go.Proofs.Ytokfhdpokemekaa.Q Go.Proofs.YtokfhdpokemekaaW.PrintWords Go.Proofs.YtokfhdpokemekaaW.PrintMore
theorem R6Valid (p : Pol) : turnstileref06_Valid.f p.kind p.gap p.slack p.lim p.span = some (pv p) := by
  unfold turnstileref06_Valid.f
  by_cases h1 : p.kind = 1
  · rw [if_pos h1]
    by_cases h2 : p.gap > 0
    · rw [if_pos h2]
      by_cases h3 : p.lim = 0
      · rw [if_pos h3]; exact some_iff (by rw [pv_iff, beq_iff_eq]; omega)
      · rw [if_neg h3]; exact some_iff (by rw [pv_iff]; simp; omega)
    · rw [if_neg h2]; exact some_iff (by rw [pv_iff]; simp; omega)
  · rw [if_neg h1]
    by_cases h4 : p.kind = 2
    · rw [if_pos h4]
      by_cases h2 : p.span > 0
      · rw [if_pos h2]
        by_cases h3 : p.gap = 0
        · rw [if_pos h3]; exact some_iff (by rw [pv_iff, beq_iff_eq]; omega)
        · rw [if_neg h3]; exact some_iff (by rw [pv_iff]; simp; omega)
      · rw [if_neg h2]; exact some_iff (by rw [pv_iff]; simp; omega)
    · rw [if_neg h4]; exact some_iff (by rw [pv_iff]; simp; omega)
theorem R6Form (p : Pol) (v : Lev) : turnstileref06_Form.f p.kind p.gap p.slack p.lim p.span v.tat v.ix v.cnt = some (if pv p = true then flatL (pF p v) else (0, 0, 0)) := by
  unfold turnstileref06_Form.f
  rw [R6Valid, Option.bind_some]
  by_cases h : pv p = true
  · rw [if_pos h, if_pos h]; unfold pF
    by_cases h1 : p.kind = 1
    · rw [if_pos h1, if_pos h1]; rfl
    · rw [if_neg h1, if_neg h1]; rfl
  · rw [if_neg h, if_neg h]
theorem R6Admit {p : Pol} {v : Lev} {now n : Int} (hp : p.U) (hv : v.U) (hw : U now) (hn : U n) (k : Nat) (hk : 70 ≤ k) :
    turnstileref06_Admit.f (k + 3) p.kind p.gap p.slack p.lim p.span v.tat v.ix v.cnt now n = some (flatA (pAdmit p v now n)) := by
  unfold turnstileref06_Admit.f pAdmit
  rw [R6Valid, Option.bind_some]
  by_cases h : pv p = true
  · rw [if_pos h, if_pos h]
    by_cases h1 : p.kind = 1
    · rw [if_pos h1, show k + 3 = (k + 2) + 1 from rfl, r4Admit hp.1 hp.2.1 hv.1 hw hn, Option.bind_some]
      unfold pOk pNext pRetry
      simp only [if_pos h1]
      by_cases h2 : gOk p.gap p.slack v.tat now n = true
      · rw [if_pos h2, if_pos h2]; rfl
      · rw [if_neg h2, if_neg h2, if_neg (by simp), R6Form, if_pos h, Option.bind_some, r4Retry hp.1 hp.2.1 hv.1 hw hn _ (by omega)]; rfl
    · rw [if_neg h1, show k + 3 = (k + 2) + 1 from rfl, R5Admit hp.2.2.1 hp.2.2.2 hv.2.1 hv.2.2 hw hn, Option.bind_some]
      unfold pOk pNext pRetry
      simp only [if_neg h1]
      by_cases h2 : wOk p.lim p.span v.ix v.cnt now n = true
      · rw [if_pos h2, if_pos h2]; rfl
      · rw [if_neg h2, if_neg h2, if_neg (by simp), R6Form, if_pos h, Option.bind_some, show k + 2 + 1 = k + 3 from rfl, R5Retry hp.2.2.1 hp.2.2.2 hv.2.1 hv.2.2 hw hn]; rfl
  · rw [if_neg h, if_neg h]; rfl
theorem R6Covers (p : Pol) (c v : Lev) : turnstileref06_Covers.f p.kind p.gap p.slack p.lim p.span c.tat c.ix c.cnt v.tat v.ix v.cnt = some (pv p && pCov p c v) := by
  unfold turnstileref06_Covers.f
  rw [R6Valid, Option.bind_some]
  by_cases h : pv p = true
  · rw [if_pos h, h, Bool.true_and]
    by_cases h1 : p.kind = 1
    · rw [if_pos h1]; exact some_iff (by rw [pCov_iff, if_pos h1]; simp)
    · rw [if_neg h1]
      by_cases h3 : v.ix = c.ix
      · rw [if_pos h3]; exact some_iff (by rw [pCov_iff, if_neg h1]; simp; omega)
      · rw [if_neg h3]; exact some_iff (by rw [pCov_iff, if_neg h1]; simp; omega)
  · rw [if_neg h, Bool.eq_false_iff.2 h]; rfl
theorem R6Max (p : Pol) (a b : Lev) : turnstileref06_Max.f p.kind p.gap p.slack p.lim p.span a.tat a.ix a.cnt b.tat b.ix b.cnt = some (flatL (pMax p a b)) := by
  unfold turnstileref06_Max.f pMax
  rw [R6Covers, Option.bind_some, R6Form, R6Form]
  by_cases h : pv p = true
  · rw [h, Bool.true_and, if_pos rfl, if_pos rfl, if_pos rfl]
    split <;> rfl
  · rw [Bool.eq_false_iff.2 h]
    rfl
theorem R6Fits (p : Pol) (v : Lev) : turnstileref06_Fits.f p.kind p.gap p.slack p.lim p.span v.tat v.ix v.cnt = some (pFits p v) := by
  unfold turnstileref06_Fits.f pFits
  rw [R6Valid, Option.bind_some, R6Form]
  by_cases h : pv p = true
  · rw [if_pos h, h, Bool.true_and, if_pos rfl]; rfl
  · rw [if_neg h, Bool.eq_false_iff.2 h]; rfl
end Go.Proofs.Ytokfhdpokemekaa.M
