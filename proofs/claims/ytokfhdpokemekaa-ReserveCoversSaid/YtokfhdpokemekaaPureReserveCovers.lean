/- ReserveCovers: a ceiling covers its level and lies just so far above it. -/
import Derived.Test.YtokfhdpokemekaaMAsk17
import Derived.Test.YtokfhdpokemekaaQSReserveCovers
namespace Go.Proofs.Ytokfhdpokemekaa.Pure
set_option linter.unusedVariables false
open Go.RowKit Go.Proofs.Ytokfhdpokemekaa.Q Go.Proofs.Ytokfhdpokemekaa.M Go.Proofs.YtokfhdpokemekaaW.PrintWords Go.Proofs.YtokfhdpokemekaaW.PrintMore
theorem above_not {c : Cfg} {p : Pol} {v a : Lev} (h : pCov p (rCeil c p v) a = false) : rWithin c p v a = false := by
  unfold rWithin; rw [h]; simp
theorem covers {c : Cfg} {p : Pol} {v : Lev} (hc : c.U) (hp : p.U) (hv : v.U) (k : Nat) :
    turnstilelaw17_ReserveCovers.f (k + 8) c.block c.credit c.keys c.blocks c.every p.kind p.gap p.slack p.lim p.span v.tat v.ix v.cnt = some true := by
  unfold turnstilelaw17_ReserveCovers.f
  have hu := rCeil_U hc hp hv
  rw [awake17 (k + 7), Option.bind_some, turnstilelaw17_ReserveCovers.j0, Bool.not_true, turnstilelaw17_ReserveCovers.j1, if_neg (by decide), RCeil hc hv, Option.bind_some, PValid, Option.bind_some, turnstilelaw17_ReserveCovers.j2, turnstilelaw17_ReserveCovers.j3]
  simp only [flatL]
  by_cases h : pv p = true
  · obtain ⟨w1, w2⟩ := within_self h hc hp hv
    have hf : pFits p (rCeil c p v) = true := by
      unfold pFits; rw [h, ceil_form c p v h, Bool.true_and, eqL_iff]
    rw [h, Bool.not_true, if_neg (by decide), PFits, hf, Option.bind_some, if_pos rfl, PCovers, h, ceil_cov h hc hp hv, Option.bind_some, if_pos (by decide), RWithin hc hv, w2, Option.bind_some, if_pos rfl, RWithin hc hv, w1, Option.bind_some, Bool.not_true, turnstilelaw17_ReserveCovers.j4, if_neg (by decide), turnstilelaw17_ReserveCovers.j5]
    have hcv := ceil_cov h hc hp hv
    by_cases h1 : p.kind = 1
    · have e : rCeil c p v = ⟨sAdd v.tat c.block, 0, 0⟩ := by unfold rCeil; rw [if_pos h, if_pos h1]
      rw [if_pos (by simpa using h1), SAdd hv.1 hc.1, Option.bind_some, e, if_pos rfl, turnstilelaw17_ReserveCovers.j6]
      by_cases h2 : IntKind.u64.wrap (sAdd v.tat c.block + 1) = 0
      · rw [if_pos h2]
      · have hs := (sAdd_U hv.1 hc.1).1
        have e2 : IntKind.u64.wrap (sAdd v.tat c.block + 1) = sAdd v.tat c.block + 1 := by
          rw [wr] at h2 ⊢; unfold U at hs; omega
        have := @RWithin c p v ⟨sAdd v.tat c.block + 1, 0, 0⟩ hc hv
        rw [if_neg h2, e2, this, above_not (by
          rw [Bool.eq_false_iff, Ne, pCov_iff, e, if_pos h1]
          simp only; omega)]
        rfl
    · have e : rCeil c p v = ⟨0, v.ix, mn (sAdd v.cnt c.credit) (mx p.lim v.cnt)⟩ := by unfold rCeil; rw [if_pos h, if_neg h1]
      have hn := hu.2.2
      have hs := sAdd_U hv.2.2 hc.2
      have hs2 : sAdd v.cnt c.credit ≤ v.cnt + c.credit := by unfold sAdd; split <;> omega
      have hv3 := hv.2.2
      have hc2 := hc.2
      have hlow : v.cnt ≤ mn (sAdd v.cnt c.credit) (mx p.lim v.cnt) ∧ mn (sAdd v.cnt c.credit) (mx p.lim v.cnt) ≤ v.cnt + c.credit ∧ (v.cnt < mn (sAdd v.cnt c.credit) (mx p.lim v.cnt) → mn (sAdd v.cnt c.credit) (mx p.lim v.cnt) ≤ p.lim) := by
        unfold mn mx
        (repeat' split) <;> omega
      rw [e] at hn
      rw [if_neg (by simpa using h1), e]
      simp only at hn ⊢
      generalize mn (sAdd v.cnt c.credit) (mx p.lim v.cnt) = m at *
      have e2 : IntKind.u64.wrap (m - v.cnt) = m - v.cnt := wr_id (by unfold U at *; omega)
      have tail : (if IntKind.u64.wrap (m + 1) = 0 then some true else (reserve_Within.f c.block c.credit c.keys c.blocks c.every p.kind p.gap p.slack p.lim p.span v.tat v.ix v.cnt 0 v.ix (IntKind.u64.wrap (m + 1))).bind fun t => some (!t)) = some true := by
        by_cases h2 : IntKind.u64.wrap (m + 1) = 0
        · rw [if_pos h2]
        · have e3 : IntKind.u64.wrap (m + 1) = m + 1 := by
            rw [wr] at h2 ⊢; unfold U at hn; omega
          have := @RWithin c p v ⟨0, v.ix, m + 1⟩ hc hv
          rw [if_neg h2, e3, this, above_not (by
            rw [Bool.eq_false_iff, Ne, pCov_iff, e, if_neg h1]
            simp only; omega)]
          rfl
      rw [if_pos (by simp), e2, if_neg (by omega), tail]
      by_cases h3 : m > v.cnt
      · rw [if_pos h3, if_neg (by omega)]
      · rw [if_neg h3]
  · have e : rCeil c p v = ⟨0, 0, 0⟩ := by unfold rCeil; rw [if_neg h]
    rw [Bool.eq_false_iff.2 h, Bool.not_false, if_pos rfl, e]
    simp only [beq_self_eq_true, Bool.and_self, if_true]
    rw [RWithin hc hv]
    unfold rWithin
    rw [Bool.eq_false_iff.2 h]
    rfl
theorem ReserveCovers : ReserveCovers.Pure := by
  intro c p v hc hp hv
  obtain ⟨c1, c2, _⟩ := hc
  obtain ⟨_, p1, p2, p3, p4⟩ := hp
  obtain ⟨v1, v2, v3⟩ := hv
  exact ⟨8, @covers ⟨c.f0, c.f1, c.f2, c.f3, c.f4⟩ ⟨p.f0, p.f1, p.f2, p.f3, p.f4⟩ ⟨v.f0, v.f1, v.f2⟩ ⟨U_wf c1, U_wf c2⟩ ⟨U_wf p1, U_wf p2, U_wf p3, U_wf p4⟩ ⟨U_wf v1, U_wf v2, U_wf v3⟩ 0⟩
end Go.Proofs.Ytokfhdpokemekaa.Pure
