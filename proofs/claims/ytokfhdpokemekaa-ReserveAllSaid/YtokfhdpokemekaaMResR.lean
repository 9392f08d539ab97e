/- What the reference of layer 17 computes: the same. -/
import Derived.Test.YtokfhdpokemekaaMRes
import Derived.Test.YtokfhdpokemekaaMPolR
import Derived.Test.YtokfhdpokemekaaQx40
import Derived.Test.YtokfhdpokemekaaQx41
import Derived.Test.YtokfhdpokemekaaQx42
import Derived.Test.YtokfhdpokemekaaQx43
namespace Go.Proofs.Ytokfhdpokemekaa.M
set_option linter.unusedVariables false
open Go.RowKit Go.Proofs.Ytokfhdpokemekaa.Q Go.Proofs.YtokfhdpokemekaaW.PrintWords Go.Proofs.YtokfhdpokemekaaW.PrintMore
theorem r17plus {a b t : Int} (ha : U a) (hb : U b) (ht : U t) (h : a ≤ t) : turnstileref17_plus.f a b t = some (if b > t - a then t else a + b) := by
  unfold turnstileref17_plus.f
  have e : IntKind.u64.wrap (t - a) = t - a := wr_id (by unfold U at *; omega)
  rw [e]
  by_cases h1 : b > t - a
  · rw [if_pos h1, if_pos h1]
  · rw [if_neg h1, if_neg h1, wr_id (by unfold U at *; omega)]
theorem R17Ceil {c : Cfg} {p : Pol} {v : Lev} (hc : c.U) (hp : p.U) (hv : v.U) : turnstileref17_Ceiling.f c.block c.credit c.keys c.blocks c.every p.kind p.gap p.slack p.lim p.span v.tat v.ix v.cnt = some (flatL (rCeil c p v)) := by
  unfold turnstileref17_Ceiling.f rCeil
  rw [R6Valid, Option.bind_some]
  by_cases h : pv p = true
  · rw [if_pos h, if_pos h]
    by_cases h1 : p.kind = 1
    · have e : (if c.block > 18446744073709551615 - v.tat then 18446744073709551615 else v.tat + c.block) = sAdd v.tat c.block := by
        unfold sAdd; by_cases h2 : v.tat + c.block < 18446744073709551616
        · rw [if_pos h2, if_neg (by omega)]
        · rw [if_neg h2, if_pos (by omega)]
      rw [if_pos h1, if_pos h1, r17plus hv.1 hc.1 ⟨by decide, by decide⟩ (by have := hv.1.2; omega), e]; rfl
    · rw [if_neg h1, if_neg h1]
      have hl : U p.lim := hp.2.2.1
      have hn : U v.cnt := hv.2.2
      have hk : U c.credit := hc.2
      by_cases h2 : v.cnt > p.lim
      · rw [if_pos h2, r17plus hn hk hn (Int.le_refl _), Option.bind_some]
        unfold flatL
        dsimp only
        congr 3
        unfold mn mx sAdd U at *
        (repeat' split) <;> first | omega | (dsimp only; omega) | (dsimp only at *; omega)
      · rw [if_neg h2, r17plus hn hk hl (by omega), Option.bind_some]
        unfold flatL
        dsimp only
        congr 3
        unfold mn mx sAdd U at *
        (repeat' split) <;> first | omega | (dsimp only; omega) | (dsimp only at *; omega)
  · rw [if_neg h, if_neg h]; rfl
theorem R17Within {c : Cfg} {p : Pol} {v t : Lev} (hc : c.U) (hp : p.U) (hv : v.U) : turnstileref17_Within.f c.block c.credit c.keys c.blocks c.every p.kind p.gap p.slack p.lim p.span v.tat v.ix v.cnt t.tat t.ix t.cnt = some (rWithin c p v t) := by
  unfold turnstileref17_Within.f rWithin
  rw [R6Covers, Option.bind_some, R17Ceil hc hp hv]
  simp only [Option.bind_some, flatL, R6Covers]
  cases pv p <;> cases pCov p t v <;> simp
theorem R17Form {p : Pol} {v : Lev} : turnstileref17_InForm.f p.kind p.gap p.slack p.lim p.span v.tat v.ix v.cnt = some (flatL (pF p v)) := by
  unfold turnstileref17_InForm.f pF
  by_cases h1 : p.kind = 1
  · rw [if_pos h1, if_pos h1]; rfl
  · rw [if_neg h1, if_neg h1]; rfl
theorem R17Choose {c : Cfg} {p : Pol} {v t : Lev} {now n : Int} (hc : c.U) (hp : p.U) (hv : v.U) (hw : U now) (hn : U n) (k : Nat) (hk : 70 ≤ k) :
    turnstileref17_Choose.f (k + 3) c.block c.credit c.keys c.blocks c.every p.kind p.gap p.slack p.lim p.span v.tat v.ix v.cnt t.tat t.ix t.cnt now n = some (flatC (rChoose c p v t now n)) := by
  unfold turnstileref17_Choose.f rChoose
  rw [R6Valid, Option.bind_some, R6Admit hp hv hw hn k hk]
  have hu := pAdmit_U hp hv hw hn
  by_cases h : pv p = true
  · rw [if_pos h]
    have hm : pMax p t t = pF p t := max_self h t
    have hA : pAdmit p v now n = if pOk p v now n = true then (pNext p v now n, true, 0) else (pF p v, false, pRetry p v now n) := by unfold pAdmit; rw [if_pos h]
    rw [hm]
    by_cases h1 : pOk p v now n = true
    · rw [if_pos h1] at hA
      rw [hA] at hu ⊢
      simp only [Option.bind_some, flatA, if_true, R6Covers]
      by_cases h2 : (pv p && pCov p t (pNext p v now n)) = true
      · rw [if_pos h2, R17Form, if_neg (by rw [h2]; simp)]; rfl
      · rw [if_neg h2, R17Ceil hc hp hu, if_pos ⟨trivial, Bool.eq_false_iff.2 h2⟩]; rfl
    · rw [if_neg h1] at hA
      rw [hA]
      simp only [Option.bind_some, flatA]
      rw [if_neg (by decide), R17Form, Option.bind_some, R17Form, if_neg (by simp)]; rfl
  · rw [if_neg h]
    have hA : pAdmit p v now n = (⟨0, 0, 0⟩, false, 18446744073709551615) := by unfold pAdmit; rw [if_neg h]
    have hm : pMax p t t = ⟨0, 0, 0⟩ := by unfold pMax; rw [if_neg h]
    rw [hA, hm, if_neg (by simp)]; rfl
theorem R17Valid (a b c d e : Int) : turnstileref17_Valid.f a b c d e = reserve_Valid.f a b c d e := rfl
end Go.Proofs.Ytokfhdpokemekaa.M
