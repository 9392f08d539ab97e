/- AuditJudges, the plain law: Conforms and Level are the document's, of all events, of a beginning, and with their times written over. -/
import Derived.Test.YtdoifmefhofnnaaMJudg
import Derived.Test.YtdoifmefhofnnaaDx22
import Derived.Test.YtdoifmefhofnnaaDx25
import Derived.Test.YtdoifmefhofnnaaDx26
import Derived.Test.YtdoifmefhofnnaaDx37
import Derived.Test.YtdoifmefhofnnaaDx38
import Derived.Test.YtdoifmefhofnnaaDx39
import Derived.Test.YtdoifmefhofnnaaDSAuditJudges
import Derived.OpenShut
namespace Go.Proofs.Ytdoifmefhofnnaa.M
set_option linter.unusedVariables false
set_option linter.unusedSimpArgs false
open Go.RowKit Go.Proofs.Ytdoifmefhofnnaa.D Go.Proofs.YtdoifmefhofnnaaW.PrintWords Go.Proofs.YtdoifmefhofnnaaW.PrintMore
theorem awakeS : turnstilelaw24_awake.f 8 = some true := by decide +kernel
theorem monoS {α : Type} {f : Nat → Option α} (hm : ∀ k, LeO (f k) (f (k + 1))) {k : Nat} {r : α} (h : f k = some r) : ∀ j, f (k + j) = some r
  | 0 => h
  | j + 1 => hm _ r (monoS hm h j)
def mk9 (i : Nat) : List S31 := (List.range i).map fun (j : Nat) => (⟨77, (j : Int)⟩ : S31)
theorem mk9_len (i : Nat) : (mk9 i).length = i := by simp [mk9]
theorem mk9_succ (i : Nat) : mk9 (i + 1) = mk9 i ++ [⟨77, (i : Int)⟩] := by simp [mk9, List.range_succ]
theorem ev_l0 (l : List S31) (hl : l.length ≤ 1048576) (k : Nat) : ∀ (m i : Nat), i + m = 9 → turnstilelaw24_events.l0 (m + 1 + k) l (l ++ mk9 i) (i : Int) = some (l ++ mk9 9)
  | 0, i, hi => by
    obtain rfl : i = 9 := by omega
    rw [show 0 + 1 + k = k + 1 by omega, turnstilelaw24_events.l0, if_neg (by omega), if_pos (by omega), if_pos (by simp only [List.length_append]; omega)]
  | m + 1, i, hi => by
    have wi : wrap64 ((i : Int) + 1) = ((i + 1 : Nat) : Int) := by unfold wrap64; omega
    rw [show m + 1 + 1 + k = (m + 1 + k) + 1 by omega, turnstilelaw24_events.l0, if_pos (by omega), if_pos (by simp only [List.length_append, mk9_len]; omega), wr_id (show U (i : Int) by unfold U; omega), wi, List.append_assoc, ← mk9_succ,
      ev_l0 l hl k m (i + 1) (by omega)]
theorem ev_g (l : List S31) (hl : l.length ≤ 1048576) (k : Nat) (hk : 10 ≤ k) : turnstilelaw24_events.g k l = some (l ++ mk9 9) := by
  obtain ⟨j, rfl⟩ : ∃ j, k = 9 + 1 + j := ⟨k - 10, by omega⟩
  unfold turnstilelaw24_events.g
  have w : wrap64 ((l.length : Int) + 9) = ((l.length + 9 : Nat) : Int) := by unfold wrap64; omega
  rw [w, if_pos (by omega), Int.toNat_natCast, if_pos (by omega), Option.bind_some, List.replicate_zero, List.length_nil, if_pos (by omega), List.nil_append]
  have h := ev_l0 l hl j 9 0 (by omega)
  rw [show mk9 0 = [] from rfl, List.append_nil] at h
  exact h
theorem kept_l1 (l : List S31) (hl : l.length ≤ 1048576) (k : Nat) : ∀ (m i : Nat), i + m = 9 → turnstilelaw24_kept.l1 (m + 1 + k) l (l ++ mk9 9) (i : Int) = some true
  | 0, i, hi => by rw [show 0 + 1 + k = k + 1 by omega, turnstilelaw24_kept.l1, if_neg (by omega)]
  | m + 1, i, hi => by
    have w : wrap64 ((l.length : Int) + (i : Int)) = ((l.length + i : Nat) : Int) := by unfold wrap64; omega
    have wi : wrap64 ((i : Int) + 1) = ((i + 1 : Nat) : Int) := by unfold wrap64; omega
    have hlen : (l ++ mk9 9).length = l.length + 9 := by rw [List.length_append, mk9_len]
    have hr : rd_T31 (l ++ mk9 9) ((l.length + i : Nat) : Int) = ⟨77, (i : Int)⟩ := by
      rw [rd31 _ _ (by omega), List.getElem_append_right (by omega)]
      simp [mk9]
    rw [show m + 1 + 1 + k = (m + 1 + k) + 1 by omega, turnstilelaw24_kept.l1, if_pos (by omega), w, if_pos (by omega), if_pos (by omega), hr, wr_id (show U (i : Int) by unfold U; omega), wi, if_neg (by simp)]
    exact kept_l1 l hl k m (i + 1) (by omega)
theorem kept_l0 (l : List S31) (hl : l.length ≤ 1048576) (k : Nat) : ∀ (m i : Nat), i + m = l.length → turnstilelaw24_kept.l0 (m + 1 + (9 + 1 + k)) l (l ++ mk9 9) (i : Int) = some true
  | 0, i, hi => by
    rw [show 0 + 1 + (9 + 1 + k) = (9 + 1 + k) + 1 by omega, turnstilelaw24_kept.l0, if_neg (by omega)]
    exact kept_l1 l hl k 9 0 (by omega)
  | m + 1, i, hi => by
    have wi : wrap64 ((i : Int) + 1) = ((i + 1 : Nat) : Int) := by unfold wrap64; omega
    have hlen : (l ++ mk9 9).length = l.length + 9 := by rw [List.length_append, mk9_len]
    have hr : rd_T31 (l ++ mk9 9) (i : Int) = rd_T31 l (i : Int) := by
      rw [rd31 _ _ (by omega), rd31 l i (by omega), List.getElem_append_left]
    rw [show m + 1 + 1 + (9 + 1 + k) = (m + 1 + (9 + 1 + k)) + 1 by omega, turnstilelaw24_kept.l0, if_pos (by omega), if_pos (by omega), if_pos (by omega), hr, wi, if_neg (by simp)]
    exact kept_l0 l hl k m (i + 1) (by omega)
theorem conf_same {p : Pol} (hp : p.U) (l : List S31) (hq : ∀ y ∈ l, q31 y) (hl : l.length ≤ 1048576) (k : Nat) (hk : 4 * l.length + 200 ≤ k) :
    ∃ b : Bool, audit_Conforms.f k p.kind p.gap p.slack p.lim p.span l = some b ∧ turnstileref24_Conforms.f k p.kind p.gap p.slack p.lim p.span l = some b := by
  obtain ⟨j, rfl⟩ : ∃ j, k = j + 1 := ⟨k - 1, by omega⟩
  obtain ⟨b, e, hb⟩ := PConf hp l hq (by omega) j
  obtain ⟨c, e', hc⟩ := RefConf hp l hq hl (j + 1) (by omega)
  refine ⟨b, e, ?_⟩
  rw [e', bool_iff (a := c) (b := b) (by rw [hb, hc])]
theorem judged_ok {p : Pol} (hp : p.U) (l : List S31) (hq : ∀ y ∈ l, q31 y) (hl : l.length ≤ 1048576) (k : Nat) (hk : 4 * l.length + 200 ≤ k) :
    turnstilelaw24_judged.f k p.kind p.gap p.slack p.lim p.span l = some true := by
  unfold turnstilelaw24_judged.f turnstilelaw24_judged.h
  have hlen : (l ++ mk9 9).length = l.length + 9 := by rw [List.length_append, mk9_len]
  rw [ev_g l hl k (by omega), Option.bind_some, if_pos ⟨hlen, by omega⟩, List.take_left]
  obtain ⟨b, e, e'⟩ := conf_same hp l hq hl k hk
  obtain ⟨v, f, f'⟩ := SameLevel hp l hq hl k (by omega)
  rw [e, Option.bind_some, e', Option.bind_some, if_neg (by simp), f, Option.bind_some, f', Option.bind_some, if_pos (by simp), if_pos (by simp)]
  obtain ⟨j, rfl⟩ : ∃ j, k = l.length + 1 + (9 + 1 + j) := ⟨k - (l.length + 11), by omega⟩
  have h := kept_l0 l hl j l.length 0 (by omega)
  rw [show (((0 : Nat) : Int)) = 0 from rfl] at h
  rw [h]
  rfl
theorem q31_set {c : List S31} (hq : ∀ y ∈ c, q31 y) (i : Nat) {x : S31} (hx : q31 x) : ∀ y ∈ c.set i x, q31 y := fun y hy => by
  rcases List.mem_or_eq_of_mem_set hy with h | rfl
  · exact hq y h
  · exact hx
/-- The inner loop: every event's time and units written over; what comes of it is of the kind still. -/
theorem inner {x0 x1 x2 x3 x4 : Int} (r9 : Int) (n : Nat) (hn : n ≤ 1048576) (K : Nat) (J : ∀ (c : List S31), (∀ y ∈ c, q31 y) → c.length = n → turnstilelaw24_AuditJudges.l0 K c (wrap64 (r9 + 1)) x0 x1 x2 x3 x4 = some true) : ∀ (m i : Nat) (c : List S31), (∀ y ∈ c, q31 y) → c.length = n → i + m = n →
    turnstilelaw24_AuditJudges.l1 (m + 1 + K) c r9 (i : Int) x0 x1 x2 x3 x4 = some true
  | 0, i, c, hq, hc, hi => by
    obtain ⟨j, hj⟩ : ∃ j, K = j := ⟨K, rfl⟩
    rw [show 0 + 1 + K = K + 1 by omega, turnstilelaw24_AuditJudges.l1, if_neg (by omega)]
    exact J c hq hc
  | m + 1, i, c, hq, hc, hi => by
    have wi : wrap64 ((i : Int) + 1) = ((i + 1 : Nat) : Int) := by unfold wrap64; omega
    have hlt : i < c.length := by omega
    have h1 := hq _ (List.getElem_mem hlt)
    rw [show m + 1 + 1 + K = (m + 1 + K) + 1 by omega, turnstilelaw24_AuditJudges.l1, if_pos (by omega), if_pos (by omega), Option.bind_some, wi, Int.toNat_natCast, rd31 c i hlt, rd31 _ i (by rw [List.length_set]; exact hlt), List.getElem_set_self]
    have q1 : q31 (⟨Go.bits .xor .u64 (c[i]'hlt).f0 3, (c[i]'hlt).f1⟩ : S31) := ⟨show (Lit.int .u64 (Go.bits .xor .u64 (c[i]'hlt).f0 3)).wf = true from wf_bits _ _ _ _, h1.2⟩
    have q2 : q31 (⟨Go.bits .xor .u64 (c[i]'hlt).f0 3, Go.bits .or .u64 (c[i]'hlt).f1 1⟩ : S31) := ⟨show (Lit.int .u64 (Go.bits .xor .u64 (c[i]'hlt).f0 3)).wf = true from wf_bits _ _ _ _, show (Lit.int .u64 (Go.bits .or .u64 (c[i]'hlt).f1 1)).wf = true from wf_bits _ _ _ _⟩
    exact inner r9 n hn K J m (i + 1) _ (q31_set (q31_set hq i q1) i q2) (by rw [List.length_set, List.length_set]; exact hc) (by omega)
theorem outer2 {p : Pol} (hp : p.U) (k : Nat) (hk : 0 < k) (c : List S31) : turnstilelaw24_AuditJudges.l0 k c 2 p.kind p.gap p.slack p.lim p.span = some true := by
  obtain ⟨k, rfl⟩ : ∃ m, k = m + 1 := ⟨k - 1, by omega⟩
  rw [turnstilelaw24_AuditJudges.l0, if_neg (by omega)]
theorem outer {p : Pol} (hp : p.U) (c : List S31) (hq : ∀ y ∈ c, q31 y) (hl : c.length ≤ 1048576) (r : Int) (hr : r = 0 ∨ r = 1) (k K : Nat) (hk : k = 1 + (c.length + 1 + K)) (hK : 4 * c.length + 200 ≤ K)
    (J : ∀ (d : List S31), (∀ y ∈ d, q31 y) → d.length = c.length → turnstilelaw24_AuditJudges.l0 K d (wrap64 (r + 1)) p.kind p.gap p.slack p.lim p.span = some true) :
    turnstilelaw24_AuditJudges.l0 k c r p.kind p.gap p.slack p.lim p.span = some true := by
  obtain ⟨b, e, e'⟩ := conf_same hp c hq hl (c.length + 1 + K) (by omega)
  rw [hk, show 1 + (c.length + 1 + K) = (c.length + 1 + K) + 1 by omega, turnstilelaw24_AuditJudges.l0, if_pos (by omega), e, Option.bind_some, e', Option.bind_some, if_neg (by simp)]
  exact inner r c.length hl K J c.length 0 c hq rfl (by omega)
theorem AuditJudgesP : AuditJudges.Pure := by
  intro x0 l a hx hl ha
  obtain ⟨h0, h1, h2, h3, h4⟩ := hx
  obtain ⟨hl1, hl2, hq⟩ := hl
  let p : Pol := ⟨x0.f0, x0.f1, x0.f2, x0.f3, x0.f4⟩
  have hp : p.U := ⟨U_wf h1, U_wf h2, U_wf h3, U_wf h4⟩
  have aw := monoS (f := turnstilelaw24_awake.f) (turnstilelaw24_awake.mono) awakeS (6 * l.length + 300)
  rw [show 8 + (6 * l.length + 300) = 6 * l.length + 308 by omega] at aw
  refine ⟨6 * l.length + 308, ?_⟩
  unfold turnstilelaw24_AuditJudges.f
  rw [aw, Option.bind_some, if_pos rfl]
  by_cases c : (l.length : Int) > 1048576
  · rw [if_pos c]
  · have hn : l.length ≤ 1048576 := by omega
    have w1 : wrap64 ((l.length : Int) + 1) = (l.length : Int) + 1 := by unfold wrap64; omega
    have w2 : IntKind.u64.wrap ((l.length : Int) + 1) = (l.length : Int) + 1 := wr_id (by unfold U; omega)
    have u := U_wr a
    obtain ⟨t, ht, ht2⟩ : ∃ t : Nat, wrap64 (Int.tmod (IntKind.u64.wrap a) ((l.length : Int) + 1)) = (t : Int) ∧ t ≤ l.length := by
      rw [tmod_of u.1]
      have b1 := Int.emod_nonneg (IntKind.u64.wrap a) (show (l.length : Int) + 1 ≠ 0 by omega)
      have b2 := Int.emod_lt_of_pos (IntKind.u64.wrap a) (show 0 < (l.length : Int) + 1 by omega)
      generalize IntKind.u64.wrap a % ((l.length : Int) + 1) = q at b1 b2
      refine ⟨q.toNat, ?_, by omega⟩
      unfold wrap64
      omega
    rw [if_neg c, w1, w2, if_neg (by omega), judged_ok (p := p) hp l hq hn _ (by omega), Option.bind_some, if_pos rfl, ht, if_pos (by omega), if_pos (by omega), Int.toNat_natCast,
      judged_ok (p := p) hp (l.take t) (fun y hy => hq y (List.mem_of_mem_take hy)) (by rw [List.length_take]; omega) _ (by rw [List.length_take]; omega), Option.bind_some]
    rw [show 6 * l.length + 308 = (6 * l.length + 307) + 1 by omega, turnstilelaw24_AuditJudges.j0, if_neg (by simp)]
    unfold turnstilelaw24_events.f
    rw [ev_g l hn _ (by omega), Option.map_some, Option.bind_some, List.take_left]
    refine outer (p := p) hp l hq hn 0 (Or.inl rfl) _ (5 * l.length + 305) (by omega) (by omega) (fun d hd hdl => ?_)
    rw [show wrap64 (0 + 1) = 1 by unfold wrap64; decide]
    refine outer (p := p) hp d hd (by omega) 1 (Or.inr rfl) _ (4 * l.length + 303) (by omega) (by omega) (fun d' _ _ => ?_)
    rw [show wrap64 (1 + 1) = 2 by unfold wrap64; decide]
    exact outer2 (p := p) hp _ (by omega) _
end Go.Proofs.Ytdoifmefhofnnaa.M
namespace Go.Proofs.Ytdoifmefhofnnaa.Pure
theorem AuditJudges : Go.Proofs.Ytdoifmefhofnnaa.D.AuditJudges.Pure := Go.Proofs.Ytdoifmefhofnnaa.M.AuditJudgesP
end Go.Proofs.Ytdoifmefhofnnaa.Pure
