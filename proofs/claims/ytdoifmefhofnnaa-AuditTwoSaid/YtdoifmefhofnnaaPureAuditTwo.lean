/- AuditTwo, the plain law: where a Flow's events keep to the policy, no unit comes before its time. -/
import Derived.Test.YtdoifmefhofnnaaMAud
import Derived.Test.YtdoifmefhofnnaaDx15
import Derived.Test.YtdoifmefhofnnaaDx24
import Derived.Test.YtdoifmefhofnnaaDx39
import Derived.Test.YtdoifmefhofnnaaDx6
import Derived.Test.YtdoifmefhofnnaaDSAuditTwo
namespace Go.Proofs.Ytdoifmefhofnnaa.M
set_option linter.unusedVariables false
open Go.RowKit Go.Proofs.Ytdoifmefhofnnaa.D Go.Proofs.YtdoifmefhofnnaaW.PrintWords Go.Proofs.YtdoifmefhofnnaaW.PrintMore
theorem awake24 : turnstilelaw24_awake.f 8 = some true := by decide +kernel
theorem get31 (l : List S31) (i : Nat) (h : i < l.length) : l.drop i = rd_T31 l (i : Int) :: l.drop (i + 1) := by
  have e := audit_flow.drop_at l (i : Int) (by omega) (by omega)
  rw [Int.toNat_natCast, show ((i : Int) + 1).toNat = i + 1 by omega] at e
  exact e
theorem base_ge (t a : Int) : t ≤ base t a := by unfold base; split <;> omega
theorem two_loop {gap slack p0 p3 p4 : Int} (hg : U gap) (hs : U slack) (l : List S31) (hq : ∀ y ∈ l, q31 y) (hl : (l.length : Int) ≤ 1048576) : ∀ (d i k : Nat) (t left : Int), l.length - i = d → d < k → i ≤ l.length → Lo t →
    (run gap slack (l.drop i) t).2 = true → 0 ≤ left → (i < l.length → left ≤ base t (rd_T31 l (i : Int)).f0) → (i = l.length → Lo left) →
    turnstilelaw24_AuditTwo.l0 k l (i : Int) p0 gap slack p3 p4 (W left).1 (W left).2 = some true
  | d, i, k, t, left, hd, hk, hi, ht, hr, h0, h1, h2 => by
    obtain ⟨k, rfl⟩ : ∃ m, k = m + 1 := ⟨k - 1, by omega⟩
    simp only [turnstilelaw24_AuditTwo.l0]
    by_cases c : i < l.length
    rotate_left
    · rw [if_neg (by omega)]
    · rw [if_pos (by omega), if_pos (by omega)]
      rw [get31 l i c] at hr
      have hmem : rd_T31 l (i : Int) ∈ l := by
        have : rd_T31 l (i : Int) ∈ l.drop i := by rw [get31 l i c]; exact List.mem_cons_self ..
        exact List.mem_of_mem_drop this
      have hE := hq _ hmem
      have h1 := h1 c
      generalize rd_T31 l (i : Int) = E at *
      have ha : U E.f0 := U_wf hE.1
      have hu : U E.f1 := U_wf hE.2
      unfold run at hr
      by_cases z : E.f1 = 0
      · rw [if_pos z] at hr
        cases hr
      rw [if_neg z] at hr
      rw [if_neg z]
      by_cases sok : (step gap slack t E.f0 E.f1).2 = true
      rotate_left
      · rw [if_neg sok] at hr
        cases hr
      rw [if_pos sok] at hr
      have q1 : U (E.f1 - 1) := by unfold U at *; omega
      have hm := V_mul q1 hg
      have hL := step_Lo hg hs ha sok hu z ht
      have hbz : base t E.f0 < 73786976294838206464 ∧ E.f0 ≤ base t E.f0 ∧ t ≤ base t E.f0 := by unfold base Lo U at *; split <;> omega
      have hst : step gap slack t E.f0 E.f1 = (base t E.f0 + (E.f1 - 1) * gap + gap, true) ∧ ¬ E.f0 + slack < base t E.f0 + (E.f1 - 1) * gap := by
        unfold step at sok ⊢
        by_cases c : E.f0 + slack < base t E.f0 + (E.f1 - 1) * gap
        · rw [if_pos c] at sok
          cases sok
        · rw [if_neg c]
          exact ⟨rfl, c⟩
      rw [hst.1] at hr hL
      obtain ⟨_, hc⟩ := hst
      rw [wr_id q1, Product q1 hg]
      simp only at hr hL
      have nx := two_loop (p0 := p0) (p3 := p3) (p4 := p4) hg hs l hq hl (d - 1) (i + 1) k (base t E.f0 + (E.f1 - 1) * gap + gap) (left + (E.f1 - 1) * gap + gap) (by omega) (by omega) (by omega) hL hr
      generalize (E.f1 - 1) * gap = m at *
      simp only [Option.bind_some]
      rw [Plus (by unfold V; omega) (by unfold V; omega), if_pos (by unfold U at *; omega)]
      simp only [Option.bind_some]
      rw [OfW ha]
      simp only [Option.bind_some]
      rw [OfW hs]
      simp only [Option.bind_some]
      rw [Plus (V_U ha) (V_U hs), if_pos (by unfold U at *; omega)]
      simp only [Option.bind_some]
      rw [Cmp (by unfold V U at *; omega) (by unfold V U at *; omega)]
      simp only [Option.bind_some]
      rw [if_neg (by split <;> (try split) <;> omega)]
      rw [OfW hg]
      simp only [Option.bind_some]
      rw [Plus (by unfold V U at *; omega) (V_U hg), if_pos (by unfold U at *; omega)]
      simp only [Option.bind_some]
      rw [show wrap64 ((i : Int) + 1) = ((i + 1 : Nat) : Int) by unfold wrap64; omega]
      refine nx (by unfold U at *; omega) (fun h => ?_) (fun _ => by unfold Lo U at *; omega)
      have hb := base_ge (base t E.f0 + m + gap) (rd_T31 l ((i + 1 : Nat) : Int)).f0
      omega
theorem mono_k {α : Type} {f : Nat → Option α} (hm : ∀ k, LeO (f k) (f (k + 1))) {k : Nat} {r : α} (h : f k = some r) : ∀ j, f (k + j) = some r
  | 0 => h
  | j + 1 => hm _ r (mono_k hm h j)
theorem AuditTwoP : AuditTwo.Pure := by
  intro x0 l a2 hx hl ha2
  obtain ⟨hl1, hl2, hq⟩ := hl
  obtain ⟨h0, h1, h2, h3, h4⟩ := hx
  have hg : U x0.f1 := U_wf h1
  have hs : U x0.f2 := U_wf h2
  have aw : ∀ j, turnstilelaw24_awake.f (8 + j) = some true := mono_k (f := turnstilelaw24_awake.f) (turnstilelaw24_awake.mono) awake24
  refine ⟨8 + (l.length + 3), ?_⟩
  unfold turnstilelaw24_AuditTwo.f
  rw [aw]
  simp only [Option.bind_some]
  rw [if_pos trivial]
  have done_ : turnstilelaw24_AuditTwo.j0 (8 + (l.length + 3)) l a2 true x0.f0 x0.f1 x0.f2 x0.f3 x0.f4 = some true := by
    rw [show 8 + (l.length + 3) = (l.length + 10) + 1 by omega]
    simp only [turnstilelaw24_AuditTwo.j0]
    rw [if_pos trivial]
  by_cases c1 : x0.f0 = 1
  rotate_left
  · rw [if_neg c1]
    exact done_
  rw [if_pos c1]
  by_cases c2 : (l.length : Int) = 0
  · rw [if_pos c2]
    exact done_
  rw [if_neg c2]
  by_cases c3 : (l.length : Int) > 1048576
  · rw [if_pos c3]
    exact done_
  rw [if_neg c3]
  unfold audit_Conforms.f audit_whole.f
  rw [c1]
  have hv : ∃ v, policy_Valid.f 1 x0.f1 x0.f2 x0.f3 x0.f4 = some v := by
    unfold policy_Valid.f policy_of.ok
    rw [if_pos rfl]
    unfold policy_rules_1.f
    repeat' split
    all_goals exact ⟨_, rfl⟩
  obtain ⟨v, hv⟩ := hv
  rw [hv]
  simp only [Option.bind_some]
  cases v with
  | false =>
    rw [if_neg (by decide)]
    simp only [Option.bind_some]
    rw [c1] at done_
    exact done_
  | true =>
    rw [if_pos rfl, if_pos trivial]
    rw [show 8 + (l.length + 3) = (l.length + 10) + 1 by omega, flowF hg hs _ l hq (by omega)]
    simp only [Option.bind_some]
    cases hr : (run x0.f1 x0.f2 l 0).2 with
    | false =>
      rw [show 8 + (l.length + 3) = (l.length + 10) + 1 by omega, c1] at done_
      exact done_
    | true =>
      simp only [turnstilelaw24_AuditTwo.j0]
      rw [if_neg (by decide)]
      have hL : U (l.length : Int) := by unfold U; omega
      rw [wr_id hL, if_neg c2]
      have hA := U_wr a2
      rw [tmod_of hA.1]
      generalize IntKind.u64.wrap a2 = A at *
      have hi : 0 ≤ A % (l.length : Int) ∧ A % (l.length : Int) < l.length := ⟨Int.emod_nonneg _ c2, Int.emod_lt_of_pos _ (by omega)⟩
      rw [show wrap64 (A % (l.length : Int)) = A % (l.length : Int) by unfold wrap64; omega]
      rw [if_pos hi.1, if_pos hi.2]
      obtain ⟨i, hi'⟩ : ∃ i : Nat, A % (l.length : Int) = (i : Int) := ⟨(A % (l.length : Int)).toNat, by omega⟩
      rw [hi'] at hi ⊢
      have hmem : rd_T31 l (i : Int) ∈ l := by
        have : rd_T31 l (i : Int) ∈ l.drop i := by rw [get31 l i (by omega)]; exact List.mem_cons_self ..
        exact List.mem_of_mem_drop this
      have ha : U (rd_T31 l (i : Int)).f0 := U_wf (hq _ hmem).1
      rw [OfW ha]
      simp only [Option.bind_some]
      obtain ⟨t', ht', hLo⟩ := run_drop hg hs l hq 0 i (by unfold Lo; omega) hr
      refine two_loop hg hs l hq (by omega) (l.length - i) i _ t' _ rfl (by omega) (by omega) hLo ht' ha.1 (fun _ => ?_) (fun h => by omega)
      unfold base
      split <;> omega
end Go.Proofs.Ytdoifmefhofnnaa.M
namespace Go.Proofs.Ytdoifmefhofnnaa.Pure
theorem AuditTwo : Go.Proofs.Ytdoifmefhofnnaa.D.AuditTwo.Pure := Go.Proofs.Ytdoifmefhofnnaa.M.AuditTwoP
end Go.Proofs.Ytdoifmefhofnnaa.Pure
