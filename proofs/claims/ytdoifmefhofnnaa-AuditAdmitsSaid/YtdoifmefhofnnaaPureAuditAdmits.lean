/- AuditAdmits, the plain law: what the rule admits, one behind the other, keeps to the policy, and the level is the rule's. -/
import Derived.Test.YtdoifmefhofnnaaMAud
import Derived.Test.YtdoifmefhofnnaaMPolD
import Derived.Test.YtdoifmefhofnnaaDx15
import Derived.Test.YtdoifmefhofnnaaDx21
import Derived.Test.YtdoifmefhofnnaaDx22
import Derived.Test.YtdoifmefhofnnaaDx24
import Derived.Test.YtdoifmefhofnnaaDx25
import Derived.Test.YtdoifmefhofnnaaDx43
import Derived.Test.YtdoifmefhofnnaaDx44
import Derived.Test.YtdoifmefhofnnaaDSAuditAdmits
namespace Go.Proofs.Ytdoifmefhofnnaa.M
set_option linter.unusedVariables false
open Go.RowKit Go.Proofs.Ytdoifmefhofnnaa.D Go.Proofs.YtdoifmefhofnnaaW.PrintWords Go.Proofs.YtdoifmefhofnnaaW.PrintMore
theorem awakeA : turnstilelaw24_awake.f 8 = some true := by decide +kernel
theorem monoA {α : Type} {f : Nat → Option α} (hm : ∀ k, LeO (f k) (f (k + 1))) {k : Nat} {r : α} (h : f k = some r) : ∀ j, f (k + j) = some r
  | 0 => h
  | j + 1 => hm _ r (monoA hm h j)
theorem run_append {gap slack : Int} (e : S31) : ∀ (l : List S31) (t t' : Int), run gap slack l t = (t', true) → run gap slack (l ++ [e]) t = run gap slack [e] t'
  | [], t, t', h => by
    simp only [run, Prod.mk.injEq] at h
    rw [h.1]
    rfl
  | a :: l, t, t', h => by
    simp only [List.cons_append, run] at h ⊢
    by_cases c : a.f1 = 0
    · rw [if_pos c] at h
      cases h
    · rw [if_neg c] at h ⊢
      by_cases d : (step gap slack t a.f0 a.f1).2 = true
      · rw [if_pos d] at h ⊢
        have r := run_append e l _ t' h
        simp only [run] at r
        exact r
      · rw [if_neg d] at h
        cases h
theorem over_append {p4 l0 l1 l2 : Int} (e : S31) : ∀ (l : List S31) (a a' : Int) (m m' : Int → Int × Int × Int), gr.over p4 l0 l1 l2 l a m = some (a', m', true) → gr.over p4 l0 l1 l2 (l ++ [e]) a m = gr.over p4 l0 l1 l2 [e] a' m'
  | [], a, a', m, m', h => by
    simp only [gr.over, Option.some.injEq, Prod.mk.injEq] at h
    obtain ⟨rfl, rfl, _⟩ := h
    rfl
  | b :: l, a, a', m, m', h => by
    rw [List.cons_append]
    unfold gr.over at h ⊢
    by_cases c : b.f1 = 0
    · rw [if_pos c] at h
      cases h
    · rw [if_neg c] at h ⊢
      obtain ⟨s, h1, h⟩ := Option.bind_eq_some_iff.mp h
      obtain ⟨g, h2, h⟩ := Option.bind_eq_some_iff.mp h
      rw [h1]
      simp only [Option.bind_some]
      rw [h2]
      simp only [Option.bind_some]
      by_cases d : g = true
      · rw [if_pos d] at h
        cases h
      · rw [if_neg d] at h ⊢
        have r := over_append e l _ a' _ m' h
        rw [r]
        rfl
def Inv (p : Pol) (es : List S31) (v : Lev) : Prop :=
  (p.kind = 1 ∧ run p.gap p.slack es 0 = (v.tat, true) ∧ v.ix = 0 ∧ v.cnt = 0) ∨
  (p.kind = 2 ∧ v.tat = 0 ∧ v.cnt ≤ p.lim ∧ ∃ m, gr.over p.span p.lim 0 0 es 0 (fun _ => (0, 0, 0)) = some (v.ix, m, true) ∧ m v.ix = (v.cnt, 0, 0) ∧ ∀ y, v.ix < y → m y = (0, 0, 0))
theorem inv_step {p : Pol} {es : List S31} {v : Lev} {now n : Int} (hv : pv p = true) (hp : p.U) (hV : v.U) (hw : U now) (hn : U n) (h : Inv p es v) (ok : pOk p v now n = true) : Inv p (es ++ [(⟨now, n⟩ : S31)]) (pNext p v now n) := by
  rw [pv_iff] at hv
  rcases h with ⟨h1, hr, h2, h3⟩ | ⟨h1, h2, h3, m, hm, hc, hz⟩
  · left
    unfold pOk at ok
    unfold pNext
    rw [if_pos h1] at ok ⊢
    rw [gOk_iff] at ok
    refine ⟨h1, ?_, rfl, rfl⟩
    rw [run_append _ _ _ _ hr]
    obtain ⟨o1, o2, o3, o4⟩ := ok
    have e : (n - 1) * p.gap = n * p.gap - p.gap := by rw [Int.sub_mul, Int.one_mul]
    have eb : base v.tat now = mx v.tat now := by unfold base mx; rfl
    simp only [run]
    rw [if_neg (by omega)]
    have es_ : step p.gap p.slack v.tat now n = (mx v.tat now + n * p.gap, true) := by
      unfold step
      rw [eb, e, if_neg (by omega)]
      congr 1
      omega
    rw [es_]
    rfl
  · right
    have ns : p.span ≠ 0 := by omega
    unfold pOk at ok
    unfold pNext
    rw [if_neg (by omega)] at ok ⊢
    rw [wOk_iff] at ok
    obtain ⟨o1, o2⟩ := ok
    unfold wLeft at o2
    rw [if_neg ns] at o2
    unfold wNext
    have ha := over_append (⟨now, n⟩ : S31) es 0 v.ix (fun _ => (0, 0, 0)) m hm
    have hx : IntKind.u64.wrap (Int.tdiv now p.span) = now / p.span := dv hw hp.2.2.2
    have hxU : U (now / p.span) := by rw [← hx]; exact U_wr _
    refine ⟨h1, rfl, ?_, ?_⟩
    · by_cases c : v.ix < now / p.span
      · rw [if_pos c] at o2
        simp only [if_pos c]
        exact o2
      · rw [if_neg c] at o2
        simp only [if_neg c]
        split at o2 <;> omega
    · simp only [gr.over] at ha
      rw [if_neg (by omega), hx] at ha
      by_cases c : v.ix < now / p.span
      · rw [if_pos c] at o2
        simp only [if_pos c]
        rw [hz _ c] at ha
        have hp1 : audit_plus.f 0 0 0 n 0 0 = some (T3 n) := by
          have := plus3 (a := 0) (b := n) (by unfold Sm; omega) (by unfold Sm U at *; omega)
          rw [T3_of (show U 0 by unfold U; omega), T3_of hn, Int.zero_add] at this
          rw [T3_of hn] at this ⊢
          exact this
        have ha1 : audit_above.f (T3 n).1 (T3 n).2.1 (T3 n).2.2 p.lim 0 0 = some false := by
          have := above3 (a := n) (b := p.lim) (by unfold Sm U at *; omega) (by have := hp.2.2.1; unfold Sm U at *; omega)
          rw [T3_of hp.2.2.1, decide_eq_false (by omega)] at this
          exact this
        simp only at ha
        rw [hp1] at ha
        simp only [Option.bind_some] at ha
        rw [ha1] at ha
        simp only [Option.bind_some] at ha
        rw [if_neg (by decide), if_pos c] at ha
        refine ⟨_, ha, ?_, ?_⟩
        · unfold gr.upd
          rw [if_pos rfl, T3_of hn]
        · intro y hy
          unfold gr.upd
          rw [if_neg (by omega)]
          exact hz y (by omega)
      · rw [if_neg c] at o2
        simp only [if_neg c]
        by_cases d : now / p.span = v.ix ∧ v.cnt < p.lim
        · rw [if_pos d] at o2
          rw [d.1, hc] at ha
          have hcn : U (v.cnt + n) := by have := hV.2.2; have := hp.2.2.1; unfold U at *; omega
          have hp1 : audit_plus.f v.cnt 0 0 n 0 0 = some (T3 (v.cnt + n)) := by
            have := plus3 (a := v.cnt) (b := n) (by have := hV.2.2; unfold Sm U at *; omega) (by unfold Sm U at *; omega)
            rw [T3_of hV.2.2, T3_of hn] at this
            exact this
          have ha1 : audit_above.f (T3 (v.cnt + n)).1 (T3 (v.cnt + n)).2.1 (T3 (v.cnt + n)).2.2 p.lim 0 0 = some false := by
            have := above3 (a := v.cnt + n) (b := p.lim) (by unfold Sm U at *; omega) (by have := hp.2.2.1; unfold Sm U at *; omega)
            rw [T3_of hp.2.2.1, decide_eq_false (by omega)] at this
            exact this
          simp only at ha
          rw [hp1] at ha
          simp only [Option.bind_some] at ha
          rw [ha1] at ha
          simp only [Option.bind_some] at ha
          rw [if_neg (by decide), if_neg (by omega)] at ha
          refine ⟨_, ha, ?_, ?_⟩
          · unfold gr.upd
            rw [if_pos rfl, T3_of hcn]
          · intro y hy
            unfold gr.upd
            rw [if_neg (by omega)]
            exact hz y (by omega)
        · rw [if_neg d] at o2
          omega
theorem nar (x : Int) : audit_narrow.f x 0 0 = some (x, true) := by
  unfold audit_narrow.f audit_of.f
  simp
theorem inv_whole {p : Pol} {es : List S31} {v : Lev} (hv : pv p = true) (hp : p.U) (hV : v.U) (hq : ∀ y ∈ es, q31 y) (hl : es.length ≤ 1048576) (h : Inv p es v) (k : Nat) :
    audit_whole.f (k + 1) p.kind p.gap p.slack p.lim p.span es = some (v.tat, 0, 0, v.ix, 0, 0, v.cnt, 0, 0, true) := by
  unfold audit_whole.f
  rw [PValid p, hv]
  simp only [Option.bind_some]
  rw [if_pos trivial]
  rw [pv_iff] at hv
  rcases h with ⟨h1, hr, h2, h3⟩ | ⟨h1, h2, h3, m, hm, hc, hz⟩
  · rw [if_pos h1, h1, flowF hp.1 hp.2.1 k es hq (by omega), hr]
    simp only [Option.bind_some]
    rw [T3_of hV.1, h2, h3]
  · rw [if_neg (by omega)]
    unfold audit_grid.f
    rw [if_neg (by omega), if_pos (by omega), hm]
    simp only [Option.bind_some]
    rw [hc, h2]
theorem adm_end {p : Pol} {es : List S31} {v : Lev} (hv : pv p = true) (hp : p.U) (hV : v.U) (hq : ∀ y ∈ es, q31 y) (hl : es.length ≤ 1048576) (h : Inv p es v) (k : Nat) :
    ((audit_Level.f (k + 1) p.kind p.gap p.slack p.lim p.span es).bind fun bt651 => ((audit_Conforms.f (k + 1) p.kind p.gap p.slack p.lim p.span es).bind fun t656 => (if t656 = true then (if bt651.2.2.2 = true then (some (bt651.1 == v.tat && (bt651.2.1 == v.ix && (bt651.2.2.1 == v.cnt)))) else (some false)) else (some false)))) = some true := by
  have e1 : audit_Level.f (k + 1) p.kind p.gap p.slack p.lim p.span es = some (v.tat, v.ix, v.cnt, true) := by
    unfold audit_Level.f
    rw [inv_whole hv hp hV hq hl h k]
    simp only [Option.bind_some]
    rw [if_pos trivial]
    unfold audit_Level.l0
    rw [nar]
    simp only [Option.bind_some]
    rw [if_pos trivial]
    unfold audit_Level.l1
    rw [nar]
    simp only [Option.bind_some]
    rw [if_pos trivial]
    unfold audit_Level.l2
    rw [nar]
    rfl
  have e2 : audit_Conforms.f (k + 1) p.kind p.gap p.slack p.lim p.span es = some true := by
    unfold audit_Conforms.f
    rw [inv_whole hv hp hV hq hl h k]
    rfl
  rw [e1, e2]
  simp only [Option.bind_some]
  rw [if_pos trivial, if_pos trivial, beq_self_eq_true, beq_self_eq_true, beq_self_eq_true]
  rfl
theorem adm_loop {p : Pol} (hv : pv p = true) (hp : p.U) (l : List S71) (hq : ∀ y ∈ l, q71 y) (hl : (l.length : Int) ≤ 1048576) : ∀ (d i k : Nat) (es : List S31) (v : Lev), l.length - i = d → d + 1 < k → i ≤ l.length → es.length ≤ i → (∀ y ∈ es, q31 y) → v.U → Inv p es v →
    turnstilelaw24_AuditAdmits.l0 k l es (i : Int) p.kind p.gap p.slack p.lim p.span v.tat v.ix v.cnt = some true := by
  intro d
  induction d with
  | zero =>
    intro i k es v hd hk hi he hqe hV hI
    obtain ⟨k, rfl⟩ : ∃ m, k = m + 1 + 1 := ⟨k - 2, by omega⟩
    simp only [turnstilelaw24_AuditAdmits.l0]
    rw [if_neg (by omega)]
    exact adm_end hv hp hV hqe (by omega) hI k
  | succ d ih =>
    intro i k es v hd hk hi he hqe hV hI
    obtain ⟨k, rfl⟩ : ∃ m, k = m + 1 + 1 := ⟨k - 2, by omega⟩
    simp only [turnstilelaw24_AuditAdmits.l0]
    have c : i < l.length := by omega
    rw [if_pos (by omega), if_pos (by omega)]
    have hmem : rd_T71 l (i : Int) ∈ l := by
      unfold rd_T71
      rw [Int.toNat_natCast, List.getD_eq_getElem?_getD, List.getElem?_eq_getElem c]
      exact List.getElem_mem c
    have hE := hq _ hmem
    generalize rd_T71 l (i : Int) = E at *
    have ha : U E.f0 := U_wf hE.1
    have hu : U E.f1 := U_wf hE.2
    rw [PAdmit hp hV ha hu k]
    simp only [Option.bind_some]
    have e : wrap64 ((i : Int) + 1) = ((i + 1 : Nat) : Int) := by unfold wrap64; omega
    unfold pAdmit
    rw [if_pos hv]
    by_cases ok : pOk p v E.f0 E.f1 = true
    · rw [if_pos ok]
      simp only [flatA]
      rw [if_pos trivial, if_pos (by omega), e]
      refine ih (i + 1) (k + 1) _ _ (by omega) (by omega) (by omega) (by simp; omega) ?_ (pNext_U hp hV ha hu ok) (inv_step hv hp hV ha hu hI ok)
      intro y hy
      rcases List.mem_append.mp hy with h | h
      · exact hqe y h
      · rw [List.mem_singleton.mp h]
        exact hE
    · rw [if_neg ok]
      simp only [flatA, Bool.false_eq_true, if_false]
      rw [e]
      exact ih (i + 1) (k + 1) es v (by omega) (by omega) (by omega) (by omega) hqe hV hI
theorem AuditAdmitsP : AuditAdmits.Pure := by
  intro x0 l hx hl
  obtain ⟨hl1, hl2, hq⟩ := hl
  obtain ⟨h0, h1, h2, h3, h4⟩ := hx
  let p : Pol := ⟨x0.f0, x0.f1, x0.f2, x0.f3, x0.f4⟩
  have hp : p.U := ⟨U_wf h1, U_wf h2, U_wf h3, U_wf h4⟩
  have aw : ∀ j, turnstilelaw24_awake.f (8 + j) = some true := monoA (f := turnstilelaw24_awake.f) (turnstilelaw24_awake.mono) awakeA
  refine ⟨8 + (l.length + 3), ?_⟩
  unfold turnstilelaw24_AuditAdmits.f
  rw [aw]
  simp only [Option.bind_some]
  rw [if_pos trivial]
  have ek : 8 + (l.length + 3) = (l.length + 10) + 1 := by omega
  have done_ : turnstilelaw24_AuditAdmits.j0 (8 + (l.length + 3)) l true x0.f0 x0.f1 x0.f2 x0.f3 x0.f4 = some true := by
    rw [ek]
    simp only [turnstilelaw24_AuditAdmits.j0]
    rw [if_pos trivial]
  by_cases c : (l.length : Int) > 1048576
  · rw [if_pos c]
    exact done_
  rw [if_neg c]
  have hv := PValid p
  have hv' : policy_Valid.f x0.f0 x0.f1 x0.f2 x0.f3 x0.f4 = some (pv p) := hv
  rw [hv']
  simp only [Option.bind_some]
  cases hpv : pv p with
  | false => exact done_
  | true =>
    rw [ek]
    simp only [turnstilelaw24_AuditAdmits.j0]
    rw [if_neg (by decide)]
    have z : U 0 := by unfold U; omega
    have hI : Inv p [] ⟨0, 0, 0⟩ := by
      have h := pv_iff.mp hpv
      rcases h with h | h
      · left
        exact ⟨h.1, rfl, rfl, rfl⟩
      · right
        exact ⟨h.1, rfl, hp.2.2.1.1, _, rfl, rfl, fun _ _ => rfl⟩
    exact adm_loop hpv hp l hq (by omega) (l.length - 0) 0 (l.length + 10) [] ⟨0, 0, 0⟩ rfl (by omega) (by omega) (by simp) (fun y hy => absurd hy (by simp)) ⟨z, z, z⟩ hI
end Go.Proofs.Ytdoifmefhofnnaa.M
namespace Go.Proofs.Ytdoifmefhofnnaa.Pure
theorem AuditAdmits : Go.Proofs.Ytdoifmefhofnnaa.D.AuditAdmits.Pure := Go.Proofs.Ytdoifmefhofnnaa.M.AuditAdmitsP
end Go.Proofs.Ytdoifmefhofnnaa.Pure
