/- ReserveSeldom: a run with losses: covered always, never falling, writing seldom. -/
import Derived.Test.YtokfhdpokemekaaMAsk17
import Derived.Test.YtokfhdpokemekaaQSReserveSeldom
namespace Go.Proofs.Ytokfhdpokemekaa.Pure
set_option linter.unusedVariables false
open Go.RowKit Go.Proofs.Ytokfhdpokemekaa.Q Go.Proofs.Ytokfhdpokemekaa.M Go.Proofs.YtokfhdpokemekaaW.PrintWords Go.Proofs.YtokfhdpokemekaaW.PrintMore
/-- One event over a covered level. -/
theorem event {c : Cfg} {p : Pol} {v s : Lev} {now n : Int} (h : pv p = true) (hc : c.U) (hp : p.U) (hv : v.U) (hs : s.U) (hw : U now) (hn : U n) (hcov : pCov p s v = true) (x : Cho) (hx : x = rChoose c p v s now n) :
    x.level.U ∧ x.ceil.U ∧ pCov p x.ceil x.level = true ∧ pCov p x.ceil s = true ∧ pCov p x.level v = true ∧ (x.write = true → p.kind = 1 → x.ceil.tat ≠ 18446744073709551615 → c.block < x.ceil.tat - s.tat) := by
  have hu := pAdmit_U hp hv hw hn
  have hm : pMax p s s = pF p s := max_self h s
  have hA : pAdmit p v now n = if pOk p v now n = true then (pNext p v now n, true, 0) else (pF p v, false, pRetry p v now n) := by unfold pAdmit; rw [if_pos h]
  unfold rChoose at hx
  rw [h, Bool.true_and, hm] at hx
  have hlv : pCov p (pAdmit p v now n).1 v = true := by
    rw [hA]; split
    · rename_i h1; exact (next_cov hp h1).1
    · rw [(pCov_pF p v v).1]; exact cov_refl p v
  have hno : (pAdmit p v now n).2.1 = false → (pAdmit p v now n).1 = pF p v := by
    rw [hA]; split
    · intro h; cases h
    · intro _; rfl
  generalize pAdmit p v now n = A at *
  obtain ⟨l, ok, re⟩ := A
  by_cases h1 : ok = true ∧ pCov p s l = false
  · rw [if_pos h1] at hx
    subst hx
    have hcl := ceil_cov h hc hp hu
    have hls : pCov p l s = true := cov_total (by rw [h1.2]; decide)
    refine ⟨hu, rCeil_U hc hp hu, hcl, cov_trans hcl hls, hlv, fun _ hk hne => ?_⟩
    have e : rCeil c p l = ⟨sAdd l.tat c.block, 0, 0⟩ := by unfold rCeil; rw [if_pos h, if_pos hk]
    have h2 := h1.2
    rw [Bool.eq_false_iff, Ne, pCov_iff, if_pos hk] at h2
    simp only [e] at hne ⊢
    unfold sAdd at hne ⊢
    split at hne
    · rename_i h3; rw [if_pos h3]; omega
    · exact absurd rfl hne
  · rw [if_neg h1] at hx
    subst hx
    refine ⟨hu, pF_U hs, ?_, ?_, hlv, fun hw => by cases hw⟩
    · simp only [(pCov_pF p s _).1]
      cases ok with
      | true =>
        cases h2 : pCov p s l with
        | true => rfl
        | false => exact absurd ⟨rfl, h2⟩ h1
      | false => have e1 : l = pF p v := hno rfl
                 rw [e1, (pCov_pF p s v).2]; exact hcov
    · simp only [(pCov_pF p s s).1]; exact cov_refl p s
theorem rd64_mem {l : List S64} {i : Int} (h0 : 0 ≤ i) (h1 : i < (l.length : Int)) (h : ∀ y ∈ l, q64 y) : q64 (rd_T64 l i) := by
  unfold rd_T64
  have hi : i.toNat < l.length := by omega
  rw [List.getD_eq_getElem?_getD, List.getElem?_eq_getElem hi]
  exact h _ (List.getElem_mem hi)
theorem seldom_loop {c : Cfg} {p : Pol} (hc : c.U) (hp : p.U) (l : List S64) (hl : l.length ≤ maxLen) (h : ∀ y ∈ l, q64 y) : ∀ (d : Nat) (k : Nat) (i : Int) (v s : Lev), 0 ≤ i → (l.length : Int) ≤ i + d → i ≤ l.length → 6 * d + 10 ≤ k → v.U → s.U → (pv p = true → pCov p s v = true) →
    turnstilelaw17_ReserveSeldom.l0 k l (pv p) i c.block c.credit c.keys c.blocks c.every p.kind p.gap p.slack p.lim p.span v.tat v.ix v.cnt s.tat s.ix s.cnt = some true := by
  unfold maxLen at hl
  intro d
  induction d with
  | zero =>
    intro k i v s h0 h1 h2 hk hv hs hcov
    obtain ⟨k, rfl⟩ : ∃ j, k = j + 2 := ⟨k - 2, by omega⟩
    rw [turnstilelaw17_ReserveSeldom.l0, turnstilelaw17_ReserveSeldom.j5, if_neg (by simp; omega)]
  | succ d ih =>
    intro k i v s h0 h1 h2 hk hv hs hcov
    obtain ⟨k, rfl⟩ : ∃ j, k = j + 6 := ⟨k - 6, by omega⟩
    rw [turnstilelaw17_ReserveSeldom.l0, turnstilelaw17_ReserveSeldom.j5]
    by_cases hlt : i < (l.length : Int)
    · obtain ⟨hw, hn, _⟩ := rd64_mem h0 hlt h
      replace hw := U_wf hw
      replace hn := U_wf hn
      have hwr : wrap64 (i + 1) = i + 1 := by unfold wrap64; omega
      have key : ∀ v : Lev, v.U → (pv p = true → pCov p s v = true) → turnstilelaw17_ReserveSeldom.j7 (k + 3) l (pv p) i c.block c.credit c.keys c.blocks c.every p.kind p.gap p.slack p.lim p.span v.tat v.ix v.cnt s.tat s.ix s.cnt = some true := by
        intro v hv hcov
        rw [turnstilelaw17_ReserveSeldom.j7, if_pos h0, if_pos hlt, RChoose hc hp hv hw hn, Option.bind_some, turnstilelaw17_ReserveSeldom.j8, hwr]
        simp only [flatC]
        by_cases hpv : pv p = true
        · obtain ⟨x1, x2, x3, x4, x5, x6⟩ := event hpv hc hp hv hs hw hn (hcov hpv) _ rfl
          have ih' := fun s' hs' hc' => ih k (i + 1) (rChoose c p v s (rd_T64 l i).f0 (rd_T64 l i).f1).level s' (by omega) (by omega) (by omega) (by omega) x1 hs' (fun _ => hc')
          generalize rChoose c p v s (rd_T64 l i).f0 (rd_T64 l i).f1 = x at *
          rw [hpv] at ih' ⊢
          rw [Bool.not_true, if_neg (by decide), PCovers, hpv, x3, Option.bind_some, if_pos (by simp), PCovers, hpv, x4, Option.bind_some, if_pos (by simp), PCovers, hpv, x5, Option.bind_some]
          have ih2 := ih' x.ceil x2 x3
          simp only [Bool.true_and, Bool.not_true]
          rw [turnstilelaw17_ReserveSeldom.j9, if_neg (by decide), hwr, ih2]
          by_cases h3 : x.write = true
          · rw [if_pos h3]
            by_cases h4 : p.kind = 1
            · rw [if_pos h4]
              by_cases h5 : x.ceil.tat = 18446744073709551615
              · rw [if_pos h5]
              · have h6 := x6 h3 h4 h5
                have e : IntKind.u64.wrap (x.ceil.tat - s.tat) = x.ceil.tat - s.tat := wr_id (by
                  have := x2.1; have := hs.1; have := hc.1; unfold U at *; omega)
                rw [if_neg h5, e, if_neg (by omega)]
            · rw [if_neg h4]
          · rw [if_neg h3]
        · have hA : pAdmit p v (rd_T64 l i).f0 (rd_T64 l i).f1 = (⟨0, 0, 0⟩, false, 18446744073709551615) := by unfold pAdmit; rw [if_neg hpv]
          have hx : rChoose c p v s (rd_T64 l i).f0 (rd_T64 l i).f1 = ⟨⟨0, 0, 0⟩, false, 18446744073709551615, false, pMax p s s⟩ := by
            unfold rChoose; rw [hA, if_neg (by simp)]
          rw [hx]
          simp only
          rw [Bool.eq_false_iff.2 hpv, Bool.not_false, if_pos rfl]
          simp only [Bool.false_eq_true, if_false]
          have := ih (k + 1) (i + 1) v s (by omega) (by omega) (by omega) (by omega) hv hs hcov
          rw [Bool.eq_false_iff.2 hpv] at this
          exact this
      rw [if_pos (by simpa using hlt), if_pos h0, if_pos hlt, turnstilelaw17_ReserveSeldom.j6]
      by_cases hcr : (rd_T64 l i).f2 = true
      · rw [if_pos hcr]; exact key s hs (fun _ => cov_refl p s)
      · rw [if_neg hcr]; exact key v hv hcov
    · rw [if_neg (by simpa using hlt)]
theorem ReserveSeldom : ReserveSeldom.Pure := by
  intro c p l hc hp hl
  obtain ⟨c1, c2, _⟩ := hc
  obtain ⟨_, p1, p2, p3, p4⟩ := hp
  obtain ⟨hl, _, h⟩ := hl
  have l0 : Lev.U ⟨0, 0, 0⟩ := by unfold Lev.U U; decide
  have hP : Pol.U ⟨p.f0, p.f1, p.f2, p.f3, p.f4⟩ := ⟨U_wf p1, U_wf p2, U_wf p3, U_wf p4⟩
  have e := @seldom_loop ⟨c.f0, c.f1, c.f2, c.f3, c.f4⟩ ⟨p.f0, p.f1, p.f2, p.f3, p.f4⟩ ⟨U_wf c1, U_wf c2⟩ hP l hl h l.length (6 * l.length + 10) 0 ⟨0, 0, 0⟩ ⟨0, 0, 0⟩ (by omega) (by omega) (by omega) (by omega) l0 l0 (fun _ => cov_refl _ _)
  have ev := PValid ⟨p.f0, p.f1, p.f2, p.f3, p.f4⟩
  refine ⟨6 * l.length + 10 + 4, ?_⟩
  unfold turnstilelaw17_ReserveSeldom.f
  rw [awake17, Option.bind_some, turnstilelaw17_ReserveSeldom.j0, Bool.not_true, turnstilelaw17_ReserveSeldom.j1, if_neg (by decide), ev, Option.bind_some, turnstilelaw17_ReserveSeldom.j2, turnstilelaw17_ReserveSeldom.j3]
  exact e
end Go.Proofs.Ytokfhdpokemekaa.Pure
