/- ReserveLoss: behind the loss of what wasn't written an admission comes in due time. -/
import Derived.Test.YtokfhdpokemekaaMAwk17
import Derived.Test.YtokfhdpokemekaaQSReserveLoss
namespace Go.Proofs.Ytokfhdpokemekaa.Pure
set_option linter.unusedVariables false
open Go.RowKit Go.Proofs.Ytokfhdpokemekaa.Q Go.Proofs.Ytokfhdpokemekaa.M Go.Proofs.YtokfhdpokemekaaW.PrintWords Go.Proofs.YtokfhdpokemekaaW.PrintMore
theorem VU {a : Int} (h : U a) : V a := by unfold U V at *; omega
theorem loss_win {c : Cfg} {p : Pol} {v : Lev} {now : Int} (hc : c.U) (hp : p.U) (hv : v.U) (hw : U now) (h : pv p = true) (h2 : p.kind = 2) (hl : p.lim ≠ 0) (hi : v.ix < now / p.span) : pOk p (rCeil c p v) now 1 = true := by
  have hk := pv_iff.1 h
  have h1 : ¬ p.kind = 1 := by omega
  have hs : 1 ≤ p.span := by omega
  have e : rCeil c p v = ⟨0, v.ix, mn (sAdd v.cnt c.credit) (mx p.lim v.cnt)⟩ := by unfold rCeil; rw [if_pos h, if_neg h1]
  unfold pOk
  rw [if_neg h1, e, wOk_iff]
  simp only
  unfold wLeft
  rw [if_neg (by omega), if_pos hi]
  have := hp.2.2.1.1
  omega
theorem loss_gcra {c : Cfg} {p : Pol} {v : Lev} {now : Int} (hc : c.U) (hp : p.U) (hv : v.U) (hw : U now) (h : pv p = true) (h1 : p.kind = 1) (ha : v.tat + c.block + p.gap ≤ 18446744073709551615) (hb : now + p.gap ≤ 18446744073709551615) (hd : v.tat + c.block ≤ now + p.slack) : pOk p (rCeil c p v) now 1 = true := by
  have hk := pv_iff.1 h
  have hg : 1 ≤ p.gap := by omega
  have e : rCeil c p v = ⟨sAdd v.tat c.block, 0, 0⟩ := by unfold rCeil; rw [if_pos h, if_pos h1]
  have e2 : sAdd v.tat c.block = v.tat + c.block := by unfold sAdd; rw [if_pos (by omega)]
  unfold pOk
  rw [if_pos h1, e, e2, gOk_iff]
  simp only
  have hs := hp.2.1.1
  unfold mx
  refine ⟨by omega, hg, ?_, ?_⟩
  · split <;> omega
  · split <;> omega
theorem loss {c : Cfg} {p : Pol} {v : Lev} {now : Int} (hc : c.U) (hp : p.U) (hv : v.U) (hw : U now) (k : Nat) :
    turnstilelaw17_ReserveLoss.j0 (k + 8) now true c.block c.credit c.keys c.blocks c.every p.kind p.gap p.slack p.lim p.span v.tat v.ix v.cnt = some true := by
  have hn : U 1 := ⟨by decide, by decide⟩
  have hcu := rCeil_U hc hp hv
  rw [turnstilelaw17_ReserveLoss.j0, Bool.not_true, turnstilelaw17_ReserveLoss.j1, if_neg (by decide), RCeil hc hv]
  simp only [Option.bind_some, flatL]
  rw [PAdmit hp hcu hw hn]
  simp only [Option.bind_some, flatA]
  rw [PValid, Option.bind_some, turnstilelaw17_ReserveLoss.j2, turnstilelaw17_ReserveLoss.j3]
  by_cases h : pv p = true
  · rw [h, Bool.not_true, if_neg (by decide)]
    have hA : (pAdmit p (rCeil c p v) now 1).2.1 = pOk p (rCeil c p v) now 1 := by
      unfold pAdmit
      rw [if_pos h]
      by_cases h1 : pOk p (rCeil c p v) now 1 = true
      · rw [if_pos h1, h1]
      · rw [if_neg h1]; exact (Bool.eq_false_iff.2 h1).symm
    rw [hA, turnstilelaw17_ReserveLoss.j4]
    have hk := pv_iff.1 h
    rcases hk with ⟨h1, hg, hl, hs⟩ | ⟨h2, hs, hg, hsl⟩
    · have hx := loss_gcra hc hp hv hw h h1
      generalize pOk p (rCeil c p v) now 1 = ok at *
      rw [if_neg (by rw [h1]; decide)]
      have vt := VU hv.1
      have vb := VU hc.1
      have vs := VU hp.2.1
      have vg := VU hp.1
      have vn := VU hw
      have ut := hv.1
      have ub := hc.1
      have us := hp.2.1
      have ug := hp.1
      have v1 : V (v.tat + c.block) := by unfold U V at *; omega
      have v2 : V (v.tat + c.block + p.gap) := by unfold U V at *; omega
      have v3 : V (if p.slack ≤ v.tat + c.block then v.tat + c.block - p.slack else 0) := by unfold U V at *; split <;> omega
      have e1 := Plus vt vb
      rw [if_pos (by unfold U at *; omega)] at e1
      have e2 := Minus v1 vs
      have e3 := Plus v1 vg
      rw [if_pos (by unfold U at *; omega)] at e3
      have e4 := Narrow v2
      have e5 := Cmp vn v3
      simp only [OfW hv.1, OfW hc.1, OfW hp.2.1, OfW hp.1, Option.bind_some, e1, e2, e3, e4]
      rw [turnstilelaw17_ReserveLoss.j6, OfW hw, Option.bind_some, e5, Option.bind_some]
      clear e1 e2 e3 e4 e5 v1 v2 v3 vt vb vs vg vn
      have ew : IntKind.u64.wrap (18446744073709551615 - p.gap) = 18446744073709551615 - p.gap := wr_id (by unfold U at *; omega)
      rw [ew]
      by_cases c1 : (if now = (if p.slack ≤ v.tat + c.block then v.tat + c.block - p.slack else 0) then (0 : Int) else if now < (if p.slack ≤ v.tat + c.block then v.tat + c.block - p.slack else 0) then -1 else 1) < 0
      · rw [if_pos c1]; rfl
      · rw [if_neg c1]
        by_cases c2 : v.tat + c.block + p.gap < 18446744073709551616
        · simp only [if_pos c2, if_true]
          by_cases c3 : now > 18446744073709551615 - p.gap
          · rw [if_pos c3]; rfl
          · rw [if_neg c3]
            have : ok = true := hx (by omega) (by omega) (by
              revert c1
              split <;> split <;> (try split) <;> intro c1 <;> omega)
            rw [this]; rfl
        · simp only [if_neg c2]
          rfl
    · have hx := fun hl hi => loss_win hc hp hv hw h h2 hl hi
      generalize pOk p (rCeil c p v) now 1 = ok at *
      rw [if_pos (by rw [h2]; decide)]
      by_cases c1 : p.lim = 0
      · rw [if_pos c1]; rfl
      · rw [if_neg c1, if_neg (by omega), dv hw hp.2.2.2]
        by_cases c2 : now / p.span ≤ v.ix
        · rw [if_pos c2]; rfl
        · rw [if_neg c2, hx c1 (by omega)]; rfl
  · have hA : pAdmit p (rCeil c p v) now 1 = (⟨0, 0, 0⟩, false, 18446744073709551615) := by unfold pAdmit; rw [if_neg h]
    rw [Bool.eq_false_iff.2 h, Bool.not_false, if_pos rfl, hA]
    rfl
theorem ReserveLoss : ReserveLoss.Pure := by
  intro c p v now hc hp hv hw
  obtain ⟨c1, c2, _⟩ := hc
  obtain ⟨_, p1, p2, p3, p4⟩ := hp
  obtain ⟨v1, v2, v3⟩ := hv
  refine ⟨8, ?_⟩
  unfold turnstilelaw17_ReserveLoss.f
  rw [awake17, Option.bind_some]
  exact @loss ⟨c.f0, c.f1, c.f2, c.f3, c.f4⟩ ⟨p.f0, p.f1, p.f2, p.f3, p.f4⟩ ⟨v.f0, v.f1, v.f2⟩ now ⟨U_wf c1, U_wf c2⟩ ⟨U_wf p1, U_wf p2, U_wf p3, U_wf p4⟩ ⟨U_wf v1, U_wf v2, U_wf v3⟩ (U_wf hw) 0
end Go.Proofs.Ytokfhdpokemekaa.Pure
