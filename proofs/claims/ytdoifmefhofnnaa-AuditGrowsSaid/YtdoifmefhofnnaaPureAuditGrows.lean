/- AuditGrows, the plain law: what is less of the same keeps to the policy, too. -/
import Derived.Test.YtdoifmefhofnnaaMAudL
import Derived.Test.YtdoifmefhofnnaaDx22
import Derived.Test.YtdoifmefhofnnaaDx25
import Derived.Test.YtdoifmefhofnnaaDx40
import Derived.Test.YtdoifmefhofnnaaDx41
import Derived.Test.YtdoifmefhofnnaaDx8
import Derived.Test.YtdoifmefhofnnaaDSAuditGrows
namespace Go.Proofs.Ytdoifmefhofnnaa.M
set_option linter.unusedVariables false
open Go.RowKit Go.Proofs.Ytdoifmefhofnnaa.D Go.Proofs.YtdoifmefhofnnaaW.PrintWords Go.Proofs.YtdoifmefhofnnaaW.PrintMore
theorem awakeG : turnstilelaw24_awake.f 8 = some true := by decide +kernel
theorem monoG {α : Type} {f : Nat → Option α} (hm : ∀ k, LeO (f k) (f (k + 1))) {k : Nat} {r : α} (h : f k = some r) : ∀ j, f (k + j) = some r
  | 0 => h
  | j + 1 => hm _ r (monoG hm h j)
theorem step_ok {gap slack t a u : Int} : (step gap slack t a u).2 = true ↔ base t a + (u - 1) * gap ≤ a + slack := by
  unfold step
  split
  · simp
    omega
  · simp
    omega
theorem step_fst {gap slack t a u : Int} (h : (step gap slack t a u).2 = true) : (step gap slack t a u).1 = base t a + (u - 1) * gap + gap := by
  rw [step_ok] at h
  unfold step
  rw [if_neg (by omega)]
theorem run_mono {g g' s s' : Int} (h0 : 0 ≤ g') (hg : g' ≤ g) (hs : s ≤ s') : ∀ (l : List S31), (∀ y ∈ l, q31 y) → ∀ (t t' : Int), t' ≤ t → (run g s l t).2 = true → (run g' s' l t').2 = true
  | [], _, t, t', _, _ => rfl
  | e :: es, hq, t, t', ht, h => by
    have hu : U e.f1 := U_wf (hq e (List.mem_cons_self ..)).2
    have hqs : ∀ y ∈ es, q31 y := fun y hy => hq y (List.mem_cons_of_mem _ hy)
    simp only [run] at h ⊢
    by_cases c : e.f1 = 0
    · rw [if_pos c] at h
      cases h
    rw [if_neg c] at h ⊢
    by_cases d : (step g s t e.f0 e.f1).2 = true
    · rw [if_pos d] at h
      have m := Int.mul_le_mul_of_nonneg_left hg (show 0 ≤ e.f1 - 1 by have := hu.1; omega)
      have b : base t' e.f0 ≤ base t e.f0 := by unfold base; split <;> split <;> omega
      have d' : (step g' s' t' e.f0 e.f1).2 = true := by
        rw [step_ok] at d ⊢
        omega
      rw [if_pos d']
      refine run_mono h0 hg hs es hqs _ _ ?_ h
      rw [step_fst d, step_fst d']
      omega
    · rw [if_neg d] at h
      cases h
theorem run_last {g s : Int} (l : List S31) (e : S31) (t : Int) : (run g s (l ++ [e]) t).2 = true ↔ (run g s l t).2 = true ∧ e.f1 ≠ 0 ∧ base (run g s l t).1 e.f0 + (e.f1 - 1) * g ≤ e.f0 + s := by
  rw [run_append2]
  by_cases c : (run g s l t).2 = true
  · rw [if_pos c]
    simp only [run]
    by_cases d : e.f1 = 0
    · rw [if_pos d]
      simp [d]
    · rw [if_neg d]
      by_cases b : (step g s (run g s l t).1 e.f0 e.f1).2 = true
      · rw [if_pos b]
        rw [step_ok] at b
        exact ⟨fun _ => ⟨c, d, b⟩, fun _ => rfl⟩
      · rw [if_neg b]
        rw [step_ok] at b
        exact ⟨fun h => absurd h (by simp), fun h => absurd h.2.2 b⟩
  · rw [if_neg c]
    exact ⟨fun h => absurd h c, fun h => absurd h.1 c⟩
theorem cOk_take {p : Pol} {l : List S31} (hq : ∀ y ∈ l, q31 y) (h : cOk p l) (n : Nat) : cOk p (l.take n) := by
  obtain ⟨h1, h2, h3⟩ := h
  have e := List.take_append_drop n l
  refine ⟨h1, fun k => ?_, fun k => ?_⟩
  · have h := h2 k
    rw [← e, run_append2] at h
    by_cases c : (run p.gap p.slack (l.take n) 0).2 = true
    · exact c
    · rw [if_neg c] at h
      exact h
  · obtain ⟨g1, g2⟩ := h3 k
    refine ⟨fun y hy => g1 y (List.mem_of_mem_take hy), fun w => ?_⟩
    have := g2 w
    rw [← e, wsum_append] at this
    have := wsum_nonneg (span := p.span) (l.drop n) (fun y hy => hq y (List.mem_of_mem_drop hy)) w
    omega
theorem cOk_flow {p : Pol} {l : List S31} {g s : Int} (hq : ∀ y ∈ l, q31 y) (h : cOk p l) (hk : p.kind = 1) (h0 : 1 ≤ g) (hg : g ≤ p.gap) (hs : p.slack ≤ s) : cOk ⟨p.kind, g, s, p.lim, p.span⟩ l := by
  obtain ⟨h1, h2, h3⟩ := h
  rw [pv_iff] at h1
  refine ⟨pv_iff.mpr ?_, fun _ => run_mono (by omega) hg hs l hq 0 0 (Int.le_refl 0) (h2 hk), fun k => absurd (hk.symm.trans k) (by decide)⟩
  simp only
  omega
theorem cOk_grid {p : Pol} {l : List S31} {m : Int} (h : cOk p l) (hk : p.kind = 2) (hm : p.lim ≤ m) : cOk ⟨p.kind, p.gap, p.slack, m, p.span⟩ l := by
  obtain ⟨h1, h2, h3⟩ := h
  rw [pv_iff] at h1
  refine ⟨pv_iff.mpr ?_, fun k => absurd (hk.symm.trans k) (by decide), fun k => ?_⟩
  · simp only
    omega
  · obtain ⟨g1, g2⟩ := h3 hk
    exact ⟨g1, fun w => Int.le_trans (g2 w) hm⟩
theorem cOk_less {p : Pol} {l : List S31} {e : S31} {u : Int} (hq : ∀ y ∈ l ++ [e], q31 y) (h : cOk p (l ++ [e])) (hg : 0 ≤ p.gap) (h0 : 1 ≤ u) (hu : u ≤ e.f1) : cOk p (l ++ [⟨e.f0, u⟩]) := by
  obtain ⟨h1, h2, h3⟩ := h
  refine ⟨h1, fun k => ?_, fun k => ?_⟩
  · have h := h2 k
    rw [run_last] at h ⊢
    refine ⟨h.1, by simp only; omega, ?_⟩
    have m := Int.mul_le_mul_of_nonneg_right (show u - 1 ≤ e.f1 - 1 by omega) hg
    simp only
    omega
  · obtain ⟨g1, g2⟩ := h3 k
    refine ⟨fun y hy => ?_, fun w => ?_⟩
    · rcases List.mem_append.mp hy with hy | hy
      · exact g1 y (List.mem_append_left _ hy)
      · rw [List.mem_singleton.mp hy]
        simp only
        omega
    · have := g2 w
      rw [wsum_append] at this ⊢
      simp only [wsum] at this ⊢
      split at this <;> simp_all <;> omega
theorem cOk_later {p : Pol} {l : List S31} {e : S31} {a : Int} (h : cOk p (l ++ [e])) (hk : p.kind = 1) (ha : e.f0 ≤ a) : cOk p (l ++ [⟨a, e.f1⟩]) := by
  obtain ⟨h1, h2, h3⟩ := h
  refine ⟨h1, fun k => ?_, fun k => absurd (hk.symm.trans k) (by decide)⟩
  have h := h2 k
  rw [run_last] at h ⊢
  refine ⟨h.1, h.2.1, ?_⟩
  have h := h.2.2
  simp only
  unfold base at *
  split at h <;> split <;> omega
theorem PConfT {p : Pol} (hp : p.U) {l : List S31} (hq : ∀ y ∈ l, q31 y) (hl : l.length ≤ 4194304) (h : cOk p l) (k : Nat) : audit_Conforms.f (k + 1) p.kind p.gap p.slack p.lim p.span l = some true := by
  obtain ⟨b, h1, h2⟩ := PConf hp l hq hl k
  rw [h1, h2.mpr h]
theorem cutK (len : Nat) (x : Int) (h : len ≤ 1048576) : ∃ n : Nat, wrap64 (Int.tmod (IntKind.u64.wrap x) (IntKind.u64.wrap (wrap64 ((len : Int) + 1)))) = (n : Int) ∧ n ≤ len := by
  have e1 : wrap64 ((len : Int) + 1) = (len : Int) + 1 := by unfold wrap64; omega
  have hx := U_wr x
  rw [e1, wr_id (show U ((len : Int) + 1) by unfold U; omega), Int.tmod_eq_emod_of_nonneg hx.1]
  generalize IntKind.u64.wrap x = X at *
  have h1 := Int.emod_nonneg X (show (len : Int) + 1 ≠ 0 by omega)
  have h2 := Int.emod_lt_of_pos X (show 0 < (len : Int) + 1 by omega)
  generalize X % ((len : Int) + 1) = r at *
  refine ⟨r.toNat, ?_, by omega⟩
  unfold wrap64
  omega
theorem rd_last (l : List S31) (e : S31) : rd_T31 (l ++ [e]) (l.length : Int) = e := by
  unfold rd_T31
  rw [Int.toNat_natCast, List.getD_eq_getElem?_getD]
  simp
theorem set_last (l : List S31) (e x : S31) : (l ++ [e]).set l.length x = l ++ [x] := by
  rw [List.set_append_right _ _ (Nat.le_refl _)]
  simp
def sadd (a b : Int) : Int := if a + b < 18446744073709551616 then a + b else 18446744073709551615
theorem sadd_law {a b : Int} (ha : U a) (hb : U b) : U (sadd a b) ∧ a ≤ sadd a b := by
  unfold sadd U at *
  split <;> omega
theorem grow1 {p q : Pol} {l : List S31} {more : Int} (hp : p.U) (hQ : q.U) (hm : U more) (hq : ∀ y ∈ l, q31 y) (hl : l.length ≤ 1048576) (h : cOk p l) (h' : cOk q l) (k : Nat) :
    turnstilelaw24_AuditGrows.j1 (k + 1 + 1) l more p.kind p.gap p.slack p.lim p.span q.kind q.gap q.slack q.lim q.span = some true := by
  simp only [turnstilelaw24_AuditGrows.j1]
  rw [PConfT hQ hq (by omega) h']
  simp only [Option.bind_some]
  rw [if_pos trivial]
  rcases List.eq_nil_or_concat l with rfl | ⟨i, e, rfl⟩
  · rw [if_pos (by simp)]
  rw [List.concat_eq_append] at *
  have hlen : (i ++ [e]).length = i.length + 1 := by simp
  have ew : wrap64 ((((i ++ [e]).length : Nat) : Int) - 1) = (i.length : Int) := by unfold wrap64; omega
  have he := hq e (List.mem_append_right _ (List.mem_singleton.mpr rfl))
  have ha : U e.f0 := U_wf he.1
  have hu : U e.f1 := U_wf he.2
  have hqi : ∀ y ∈ i, q31 y := fun y hy => hq y (List.mem_append_left _ hy)
  have hne : e.f1 ≠ 0 := by
    obtain ⟨h1, h2, h3⟩ := h
    rcases kind_of h1 with c | c
    · have := h2 c
      rw [run_last] at this
      exact this.2.1
    · exact (h3 c).1 e (List.mem_append_right _ (List.mem_singleton.mpr rfl))
  rw [if_neg (by omega), if_pos (by omega), if_pos (by omega), List.replicate_zero, List.nil_append, if_pos (by simp only [List.length_nil]; omega)]
  rw [ew, Int.toNat_natCast]
  rw [if_pos (by omega), if_pos (by omega), rd_last, set_last]
  have eu : IntKind.u64.wrap (1 + IntKind.u64.wrap (Int.tdiv (IntKind.u64.wrap (e.f1 - 1)) 2)) = 1 + (e.f1 - 1) / 2 := by
    have := hu.1
    have := hu.2
    rw [wr_id (show U (e.f1 - 1) by unfold U; omega), Int.tdiv_eq_ediv_of_nonneg (by omega), wr_id (show U ((e.f1 - 1) / 2) by unfold U; omega), wr_id (by unfold U; omega)]
  rw [eu]
  have wfU : ∀ {x : Int}, U x → (Lit.int .u64 x).wf = true := by
    intro x hx
    unfold U at hx; simp [Lit.wf, IntKind.min, IntKind.max, IntKind.signed, IntKind.bits]; omega
  have hq1 : ∀ x : S31, q31 x → ∀ y ∈ i ++ [x], q31 y := by
    intro x hx y hy
    rcases List.mem_append.mp hy with hy | hy
    · exact hqi y hy
    · rw [List.mem_singleton.mp hy]
      exact hx
  have hu1 := hu.1
  have hu2 := hu.2
  rw [PConfT hp (hq1 ⟨e.f0, 1 + (e.f1 - 1) / 2⟩ ⟨he.1, wfU (show U (1 + (e.f1 - 1) / 2) by unfold U; omega)⟩) (by simp; omega) (cOk_less hq h hp.1.1 (by omega) (by omega))]
  simp only [Option.bind_some]
  rw [if_pos trivial, if_pos (by omega), rd_last, set_last, rd_last]
  simp only
  rw [Add ha hm]
  simp only [Option.bind_some]
  rw [set_last]
  by_cases c : p.kind = 1
  · rw [if_pos c]
    have hs := sadd_law ha hm
    unfold sadd at hs
    rw [PConfT hp (hq1 ⟨(if e.f0 + more < 18446744073709551616 then e.f0 + more else 18446744073709551615), e.f1⟩ ⟨wfU hs.1, he.2⟩) (by simp; omega) (cOk_later h c hs.2)]
    rfl
  · rw [if_neg c]
theorem grow0 {p : Pol} {l : List S31} {at_ more : Int} (hp : p.U) (hm : U more) (hq : ∀ y ∈ l, q31 y) (hl : l.length ≤ 1048576) (h : cOk p l) (k : Nat) :
    turnstilelaw24_AuditGrows.j0 (k + 1 + 1 + 1) l at_ more false p.kind p.gap p.slack p.lim p.span = some true := by
  simp only [turnstilelaw24_AuditGrows.j0]
  obtain ⟨n, en, hn⟩ := cutK l.length at_ hl
  have ez : IntKind.u64.wrap (wrap64 ((l.length : Int) + 1)) ≠ 0 := by
    rw [show wrap64 ((l.length : Int) + 1) = (l.length : Int) + 1 by unfold wrap64; omega, wr_id (by unfold U; omega)]
    omega
  rw [if_neg (by decide), if_neg ez, en, if_pos (by omega), if_pos (by omega), Int.toNat_natCast]
  rw [PConfT hp (fun y hy => hq y (List.mem_of_mem_take hy)) (by rw [List.length_take]; omega) (cOk_take hq h n)]
  simp only [Option.bind_some]
  rw [if_pos trivial]
  by_cases c : p.kind = 1
  · rw [if_pos c, Add hp.2.1 hm]
    simp only [Option.bind_some]
    have h1 : 1 ≤ p.gap := by have := pv_iff.mp h.1; omega
    rw [Sub hp.1 (show U 1 by unfold U; omega)]
    simp only [Option.bind_some]
    rw [if_pos h1]
    have hg := hp.1
    have eg : IntKind.u64.wrap (1 + IntKind.u64.wrap (Int.tdiv (p.gap - 1) 2)) = 1 + (p.gap - 1) / 2 := by
      have := hg.2
      rw [Int.tdiv_eq_ediv_of_nonneg (by omega), wr_id (show U ((p.gap - 1) / 2) by unfold U; omega), wr_id (by unfold U; omega)]
    rw [eg]
    have hs := sadd_law hp.2.1 hm
    unfold sadd at hs
    have hg2 := hg.2
    exact grow1 (q := ⟨p.kind, 1 + (p.gap - 1) / 2, _, p.lim, p.span⟩) hp ⟨show U (1 + (p.gap - 1) / 2) by unfold U; omega, hs.1, hp.2.2⟩ hm hq hl h (cOk_flow hq h c (by omega) (by omega) hs.2) k
  · have c2 : p.kind = 2 := by have := kind_of h.1; omega
    rw [if_neg c, if_pos c2, Add hp.2.2.1 hm]
    simp only [Option.bind_some]
    have hs := sadd_law hp.2.2.1 hm
    unfold sadd at hs
    exact grow1 (q := ⟨p.kind, p.gap, p.slack, (if p.lim + more < 18446744073709551616 then p.lim + more else 18446744073709551615), p.span⟩) hp ⟨hp.1, hp.2.1, hs.1, hp.2.2.2⟩ hm hq hl h (cOk_grid h c2 hs.2) k
theorem AuditGrowsP : AuditGrows.Pure := by
  intro x0 hx
  obtain ⟨⟨h0, h1, h2, h3, h4⟩, ⟨hl1, hl2, hq⟩, hat, hmo⟩ := hx
  let p : Pol := ⟨x0.f0.f0, x0.f0.f1, x0.f0.f2, x0.f0.f3, x0.f0.f4⟩
  have hp : p.U := ⟨U_wf h1, U_wf h2, U_wf h3, U_wf h4⟩
  have aw : ∀ j, turnstilelaw24_awake.f (8 + j) = some true := monoG (f := turnstilelaw24_awake.f) (turnstilelaw24_awake.mono) awakeG
  refine ⟨8 + 3, ?_⟩
  unfold turnstilelaw24_AuditGrows.f
  rw [aw]
  simp only [Option.bind_some]
  rw [if_pos trivial]
  have done_ : turnstilelaw24_AuditGrows.j0 (8 + 3) x0.f1 x0.f2 x0.f3 true x0.f0.f0 x0.f0.f1 x0.f0.f2 x0.f0.f3 x0.f0.f4 = some true := by
    simp only [turnstilelaw24_AuditGrows.j0]
    rw [if_pos trivial]
  by_cases c : (x0.f1.length : Int) > 1048576
  · rw [if_pos c]
    exact done_
  rw [if_neg c]
  obtain ⟨b, hb, hi⟩ := PConf hp x0.f1 hq (by omega) 10
  have hb' : audit_Conforms.f (8 + 3) x0.f0.f0 x0.f0.f1 x0.f0.f2 x0.f0.f3 x0.f0.f4 x0.f1 = some b := hb
  rw [hb']
  simp only [Option.bind_some]
  cases b with
  | false => exact done_
  | true => exact grow0 (p := p) hp (U_wf hmo) hq (by omega) (hi.mp rfl) 8
end Go.Proofs.Ytdoifmefhofnnaa.M
namespace Go.Proofs.Ytdoifmefhofnnaa.Pure
theorem AuditGrows : Go.Proofs.Ytdoifmefhofnnaa.D.AuditGrows.Pure := Go.Proofs.Ytdoifmefhofnnaa.M.AuditGrowsP
end Go.Proofs.Ytdoifmefhofnnaa.Pure
