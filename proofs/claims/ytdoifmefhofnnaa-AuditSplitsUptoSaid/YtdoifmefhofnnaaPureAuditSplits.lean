/- AuditSplits, the plain law: units at once are units one by one; a Grid's events have no order. -/
import Derived.Test.YtdoifmefhofnnaaMAudL
import Derived.Test.YtdoifmefhofnnaaDx22
import Derived.Test.YtdoifmefhofnnaaDx24
import Derived.Test.YtdoifmefhofnnaaDx25
import Derived.Test.YtdoifmefhofnnaaDx39
import Derived.Test.YtdoifmefhofnnaaDSAuditSplits
namespace Go.Proofs.Ytdoifmefhofnnaa.M
set_option linter.unusedVariables false
set_option linter.unusedSimpArgs false
open Go.RowKit Go.Proofs.Ytdoifmefhofnnaa.D Go.Proofs.YtdoifmefhofnnaaW.PrintWords Go.Proofs.YtdoifmefhofnnaaW.PrintMore
theorem awakeS : turnstilelaw24_awake.f 8 = some true := by decide +kernel
theorem monoS {α : Type} {f : Nat → Option α} (hm : ∀ k, LeO (f k) (f (k + 1))) {k : Nat} {r : α} (h : f k = some r) : ∀ j, f (k + j) = some r
  | 0 => h
  | j + 1 => hm _ r (monoS hm h j)
theorem step_okS {gap slack t a u : Int} : (step gap slack t a u).2 = true ↔ base t a + (u - 1) * gap ≤ a + slack := by
  unfold step
  split
  · simp
    omega
  · simp
    omega
theorem step_fstS {gap slack t a u : Int} (h : (step gap slack t a u).2 = true) : (step gap slack t a u).1 = base t a + (u - 1) * gap + gap := by
  rw [step_okS] at h
  unfold step
  rw [if_neg (by omega)]
/-! ### Level -/
def Nar (a b c : Int) : Int × Bool := (a, b == 0 && (c == 0))
theorem nar_eq (a b c : Int) : audit_narrow.f a b c = some (Nar a b c) := by
  unfold audit_narrow.f audit_of.f Nar
  simp
def Lev3 (v1 v2 v3 v4 v5 v6 v7 v8 v9 : Int) : Int × Int × Int × Bool :=
  if (Nar v1 v2 v3).2 = true then (if (Nar v4 v5 v6).2 = true then (if (Nar v7 v8 v9).2 = true then (v1, v4, v7, true) else (0, 0, 0, false)) else (0, 0, 0, false)) else (0, 0, 0, false)
theorem lev3_eq (v1 v2 v3 v4 v5 v6 v7 v8 v9 : Int) : audit_Level.l0 v1 v2 v3 v4 v5 v6 v7 v8 v9 = some (Lev3 v1 v2 v3 v4 v5 v6 v7 v8 v9) := by
  unfold audit_Level.l0 audit_Level.l1 audit_Level.l2 Lev3
  rw [nar_eq, nar_eq, nar_eq]
  simp only [Option.bind_some]
  by_cases a : (Nar v1 v2 v3).2 = true
  · rw [if_pos a, if_pos a]
    by_cases b : (Nar v4 v5 v6).2 = true
    · rw [if_pos b, if_pos b]
      by_cases c : (Nar v7 v8 v9).2 = true
      · rw [if_pos c, if_pos c]; rfl
      · rw [if_neg c, if_neg c]
    · rw [if_neg b, if_neg b]
  · rw [if_neg a, if_neg a]
/-- Where the events keep to the policy. -/
def levOf (p : Pol) (t w s : Int) : Int × Int × Int × Bool :=
  if p.kind = 1 then Lev3 (T3 t).1 (T3 t).2.1 (T3 t).2.2 0 0 0 0 0 0 else Lev3 0 0 0 w 0 0 (T3 s).1 (T3 s).2.1 (T3 s).2.2
theorem PLevel {p : Pol} (hp : p.U) (l : List S31) (hq : ∀ y ∈ l, q31 y) (hl : l.length ≤ 4194304) (k : Nat) :
    (cOk p l ∧ audit_Level.f (k + 1) p.kind p.gap p.slack p.lim p.span l = some (levOf p (run p.gap p.slack l 0).1 (wlast p.span l 0) (wsum p.span l (wlast p.span l 0)))) ∨
    (¬ cOk p l ∧ audit_Level.f (k + 1) p.kind p.gap p.slack p.lim p.span l = some (0, 0, 0, false)) := by
  unfold audit_Level.f audit_whole.f cOk levOf
  rw [PValid p]
  simp only [Option.bind_some]
  cases hv : pv p with
  | false =>
    right
    rw [if_neg (by simp)]
    exact ⟨by simp, rfl⟩
  | true =>
    rw [if_pos rfl]
    rw [pv_iff] at hv
    by_cases c : p.kind = 1
    · rw [if_pos c, c, flowF hp.1 hp.2.1 k l hq (by omega)]
      simp only [Option.bind_some]
      by_cases r : (run p.gap p.slack l 0).2 = true
      · left
        rw [if_pos r, lev3_eq]
        exact ⟨⟨trivial, fun _ => r, fun h => absurd h (by decide)⟩, by rw [if_pos trivial]⟩
      · right
        rw [if_neg r]
        exact ⟨fun h => r (h.2.1 trivial), rfl⟩
    · rw [if_neg c]
      unfold audit_grid.f
      rw [if_neg (by omega), if_pos (by omega)]
      have h2 : p.kind = 2 := by omega
      rcases over_law0 hp l hq with ⟨g, e⟩ | ⟨g, x, y, e⟩
      · left
        rw [e]
        simp only [Option.bind_some, if_true]
        rw [lev3_eq, if_neg c]
        exact ⟨⟨trivial, fun h => absurd h c, fun _ => g⟩, rfl⟩
      · right
        rw [e]
        simp only [Option.bind_some]
        exact ⟨fun h => g (h.2.2 h2), rfl⟩
/-- Two rows of events that a policy can't tell apart. -/
structure Same (p : Pol) (l m : List S31) : Prop where
  ok : cOk p l ↔ cOk p m
  flow : cOk p l → p.kind = 1 → (run p.gap p.slack m 0).1 = (run p.gap p.slack l 0).1
  last : p.kind = 2 → wlast p.span m 0 = wlast p.span l 0
  sum : p.kind = 2 → ∀ w, wsum p.span m w = wsum p.span l w
theorem same_conf {p : Pol} (hp : p.U) {l m : List S31} (h : Same p l m) (hq : ∀ y ∈ l, q31 y) (hq2 : ∀ y ∈ m, q31 y) (hl : l.length ≤ 1048576) (hm : m.length ≤ 1048577) (k : Nat) :
    ∃ b : Bool, audit_Conforms.f (k + 1) p.kind p.gap p.slack p.lim p.span l = some b ∧ audit_Conforms.f (k + 1) p.kind p.gap p.slack p.lim p.span m = some b := by
  obtain ⟨b, e, hb⟩ := PConf hp l hq (by omega) k
  obtain ⟨c, e', hc⟩ := PConf hp m hq2 (by omega) k
  refine ⟨b, e, ?_⟩
  rw [e', bool_iff (a := c) (b := b) (by rw [hb, hc, h.ok])]
theorem same_lev {p : Pol} (hp : p.U) {l m : List S31} (h : Same p l m) (hq : ∀ y ∈ l, q31 y) (hq2 : ∀ y ∈ m, q31 y) (hl : l.length ≤ 1048576) (hm : m.length ≤ 1048577) (k : Nat) :
    ∃ v : Int × Int × Int × Bool, audit_Level.f (k + 1) p.kind p.gap p.slack p.lim p.span l = some v ∧ audit_Level.f (k + 1) p.kind p.gap p.slack p.lim p.span m = some v := by
  rcases PLevel hp l hq (by omega) k with ⟨c, e⟩ | ⟨c, e⟩
  · rcases PLevel hp m hq2 (by omega) k with ⟨c', e'⟩ | ⟨c', _⟩
    · refine ⟨_, e, ?_⟩
      rw [e']
      have kd := kind_of c.1
      unfold levOf
      by_cases k1 : p.kind = 1
      · rw [if_pos k1, if_pos k1, h.flow c k1]
      · have k2 : p.kind = 2 := by omega
        rw [if_neg k1, if_neg k1, h.last k2, h.sum k2]
    · exact absurd (h.ok.1 c) c'
  · rcases PLevel hp m hq2 (by omega) k with ⟨c', _⟩ | ⟨_, e'⟩
    · exact absurd (h.ok.2 c') c
    · exact ⟨_, e, e'⟩
/-! ### An event cut into two -/
theorem wlast_append {span : Int} : ∀ (l m : List S31) (a : Int), wlast span (l ++ m) a = wlast span m (wlast span l a)
  | [], m, a => rfl
  | e :: es, m, a => by
    simp only [List.cons_append, wlast]
    exact wlast_append es m _
theorem base_base {t a x : Int} (h : base t a ≤ x) : base x a = x := by
  unfold base at *
  split at h <;> split <;> omega
theorem run_two {g s : Int} (hg : U g) (e e1 e2 : S31) (h0 : e1.f0 = e.f0) (h1 : e2.f0 = e.f0) (u1 : 1 ≤ e1.f1) (u2 : 1 ≤ e2.f1) (hu : e.f1 = e1.f1 + e2.f1) (m : List S31) (t : Int) :
    ((run g s (e1 :: e2 :: m) t).2 = true ↔ (run g s (e :: m) t).2 = true) ∧ ((run g s (e :: m) t).2 = true → (run g s (e1 :: e2 :: m) t).1 = (run g s (e :: m) t).1) := by
  have p1 : (e1.f1 - 1) * g + g = e1.f1 * g := by rw [Int.sub_mul]; omega
  have p2 : (e2.f1 - 1) * g + g = e2.f1 * g := by rw [Int.sub_mul]; omega
  have p3 : (e.f1 - 1) * g + g = e1.f1 * g + e2.f1 * g := by rw [hu, Int.sub_mul, Int.add_mul]; omega
  have n1 : 0 ≤ (e1.f1 - 1) * g := Int.mul_nonneg (by omega) hg.1
  have n2 : 0 ≤ (e2.f1 - 1) * g := Int.mul_nonneg (by omega) hg.1
  have g0 := hg.1
  by_cases d : (step g s t e.f0 e.f1).2 = true
  · have d' := step_okS.1 d
    have d1 : (step g s t e1.f0 e1.f1).2 = true := by rw [step_okS, h0]; omega
    have f1 := step_fstS d1
    rw [h0] at f1
    have b2 : base (step g s t e1.f0 e1.f1).1 e2.f0 = (step g s t e1.f0 e1.f1).1 := by
      rw [h1]
      refine base_base (t := t) ?_
      rw [h0, f1]
      omega
    have d2 : (step g s (step g s t e1.f0 e1.f1).1 e2.f0 e2.f1).2 = true := by
      rw [step_okS, b2, h1, h0, f1]
      omega
    have f2 := step_fstS d2
    rw [b2, h0, f1] at f2
    have f := step_fstS d
    have ee : (step g s (step g s t e1.f0 e1.f1).1 e2.f0 e2.f1).1 = (step g s t e.f0 e.f1).1 := by
      rw [h1] at f2
      rw [f, h0, h1, f1, f2]
      omega
    rw [run_c1 _ t (by omega) d1, run_c1 _ _ (by omega) d2, run_c1 _ t (by omega) d, ee]
    exact ⟨Iff.rfl, fun _ => rfl⟩
  · have e0 := run_c2 (gap := g) (slack := s) m t (by omega) d
    rw [e0]
    have no : ¬ (run g s (e1 :: e2 :: m) t).2 = true := by
      by_cases d1 : (step g s t e1.f0 e1.f1).2 = true
      · have f1 := step_fstS d1
        rw [run_c1 _ t (by omega) d1]
        have b2 : base (step g s t e1.f0 e1.f1).1 e2.f0 = (step g s t e1.f0 e1.f1).1 := by
          rw [h1]
          refine base_base (t := t) ?_
          rw [h0] at f1 ⊢
          rw [f1]
          omega
        have d2 : ¬ (step g s (step g s t e1.f0 e1.f1).1 e2.f0 e2.f1).2 = true := by
          intro h
          apply d
          rw [step_okS, b2, f1, h0, h1] at h
          rw [step_okS]
          omega
        rw [run_c2 _ _ (by omega) d2]
        simp
      · rw [run_c2 _ t (by omega) d1]
        simp
    exact ⟨⟨fun h => absurd h no, fun h => by simp at h⟩, fun h => by simp at h⟩
theorem same_cut {p : Pol} (hp : p.U) (a m : List S31) (e e1 e2 : S31) (h0 : e1.f0 = e.f0) (h1 : e2.f0 = e.f0) (u1 : 1 ≤ e1.f1) (u2 : 1 ≤ e2.f1) (hu : e.f1 = e1.f1 + e2.f1) : Same p (a ++ e :: m) (a ++ e1 :: e2 :: m) := by
  have R : ∀ t, ((run p.gap p.slack (a ++ e1 :: e2 :: m) t).2 = true ↔ (run p.gap p.slack (a ++ e :: m) t).2 = true) ∧ ((run p.gap p.slack (a ++ e :: m) t).2 = true → (run p.gap p.slack (a ++ e1 :: e2 :: m) t).1 = (run p.gap p.slack (a ++ e :: m) t).1) := by
    intro t
    rw [run_append2, run_append2]
    by_cases c : (run p.gap p.slack a t).2 = true
    · rw [if_pos c, if_pos c]
      exact run_two hp.1 e e1 e2 h0 h1 u1 u2 hu m _
    · rw [if_neg c, if_neg c]
      exact ⟨Iff.rfl, fun _ => rfl⟩
  have Sm : ∀ w, wsum p.span (a ++ e1 :: e2 :: m) w = wsum p.span (a ++ e :: m) w := by
    intro w
    rw [wsum_append, wsum_append]
    simp only [wsum, h0, h1]
    by_cases c : e.f0 / p.span = w
    · simp only [if_pos c]; omega
    · simp only [if_neg c]; omega
  have La : wlast p.span (a ++ e1 :: e2 :: m) 0 = wlast p.span (a ++ e :: m) 0 := by
    rw [wlast_append, wlast_append]
    simp only [wlast, h0, h1]
    congr 1
    by_cases c : wlast p.span a 0 < e.f0 / p.span
    · simp only [if_pos c]
      rw [if_neg (by omega)]
    · simp only [if_neg c]
  have Gk : Gok p.span p.lim (fun _ => 0) (a ++ e :: m) ↔ Gok p.span p.lim (fun _ => 0) (a ++ e1 :: e2 :: m) := by
    unfold Gok
    simp only [Sm]
    refine and_congr ⟨fun h x hx => ?_, fun h x hx => ?_⟩ Iff.rfl
    · rcases List.mem_append.1 hx with hx | hx
      · exact h x (List.mem_append.2 (Or.inl hx))
      · rcases List.mem_cons.1 hx with rfl | hx
        · omega
        · rcases List.mem_cons.1 hx with rfl | hx
          · omega
          · exact h x (List.mem_append.2 (Or.inr (List.mem_cons_of_mem _ hx)))
    · rcases List.mem_append.1 hx with hx | hx
      · exact h x (List.mem_append.2 (Or.inl hx))
      · rcases List.mem_cons.1 hx with rfl | hx
        · omega
        · exact h x (List.mem_append.2 (Or.inr (List.mem_cons_of_mem _ (List.mem_cons_of_mem _ hx))))
  refine ⟨?_, fun c k1 => (R 0).2 (c.2.1 k1), fun _ => La, fun _ => Sm⟩
  unfold cOk
  rw [(R 0).1, Gk]
/-! ### Events turned round -/
def mxw (a w : Int) : Int := if a < w then w else a
theorem wlast_cons {span : Int} (e : S31) (es : List S31) (a : Int) : wlast span (e :: es) a = wlast span es (mxw a (e.f0 / span)) := rfl
theorem mxw_comm (a w x : Int) : mxw (mxw a w) x = mxw (mxw a x) w := by
  unfold mxw
  (repeat' split) <;> omega
theorem wlast_in {span : Int} : ∀ (l : List S31) (a w : Int), wlast span l (mxw a w) = mxw (wlast span l a) w
  | [], a, w => rfl
  | e :: es, a, w => by
    rw [wlast_cons, wlast_cons, mxw_comm, wlast_in es]
theorem wlast_rev {span : Int} : ∀ (l : List S31) (a : Int), wlast span l.reverse a = wlast span l a
  | [], a => rfl
  | e :: es, a => by
    rw [List.reverse_cons, wlast_append, wlast_rev es a, wlast_cons e es, wlast_in es]
    rfl
theorem wsum_rev {span : Int} : ∀ (l : List S31) (w : Int), wsum span l.reverse w = wsum span l w
  | [], w => rfl
  | e :: es, w => by
    rw [List.reverse_cons, wsum_append, wsum_rev es w]
    simp only [wsum]
    omega
theorem same_rev {p : Pol} (k2 : p.kind = 2) (l : List S31) : Same p l l.reverse := by
  refine ⟨?_, fun _ k1 => by omega, fun _ => wlast_rev l 0, fun _ => wsum_rev l⟩
  unfold cOk Gok
  simp only [wsum_rev, List.mem_reverse]
  refine and_congr Iff.rfl (and_congr ⟨fun _ h => by omega, fun _ h => by omega⟩ Iff.rfl)
theorem rd_get (l : List S31) (i : Nat) (h : i < l.length) : rd_T31 l (i : Int) = l[i] := by
  unfold rd_T31
  rw [Int.toNat_natCast, List.getD_eq_getElem?_getD, List.getElem?_eq_getElem h]
  rfl
theorem turned {p : Pol} (hp : p.U) (k2 : p.kind = 2) (l : List S31) (hq : ∀ y ∈ l, q31 y) (hl : l.length ≤ 1048576) (x8 : Bool) (v : Int × Int × Int × Bool)
    (hc : ∀ k, audit_Conforms.f (k + 1) p.kind p.gap p.slack p.lim p.span l = some x8) (hv : ∀ k, audit_Level.f (k + 1) p.kind p.gap p.slack p.lim p.span l = some v) :
    ∀ (m i : Nat), i + m = l.length → ∀ j, turnstilelaw24_AuditSplits.l0 (m + j + 2) l x8 v.2.2.2 (l.reverse.take i) (i : Int) p.kind p.gap p.slack p.lim p.span v.1 v.2.1 v.2.2.1 = some true
  | 0, i, h, j => by
    rw [turnstilelaw24_AuditSplits.l0, if_neg (by omega), List.take_of_length_le (by rw [List.length_reverse]; omega)]
    have hqr : ∀ y ∈ l.reverse, q31 y := fun y hy => hq y (List.mem_reverse.1 hy)
    obtain ⟨b, e, e'⟩ := same_conf hp (same_rev k2 l) hq hqr hl (by rw [List.length_reverse]; omega) (0 + j)
    obtain ⟨u, f, f'⟩ := same_lev hp (same_rev k2 l) hq hqr hl (by rw [List.length_reverse]; omega) (0 + j)
    rw [hc] at e
    rw [hv] at f
    obtain rfl := Option.some.inj e
    obtain rfl := Option.some.inj f
    rw [f', Option.bind_some, e', Option.bind_some]
    simp
  | m + 1, i, h, j => by
    have hn : wrap64 (wrap64 ((l.length : Int) - 1) - (i : Int)) = ((l.length - 1 - i : Nat) : Int) := by
      have e1 : wrap64 ((l.length : Int) - 1) = (l.length : Int) - 1 := by unfold wrap64; omega
      rw [e1]
      unfold wrap64
      omega
    have hi : i < l.reverse.length := by rw [List.length_reverse]; omega
    rw [show m + 1 + j + 2 = (m + j + 2) + 1 by omega, turnstilelaw24_AuditSplits.l0, if_pos (by omega), hn, if_pos (by omega), if_pos (by omega), if_pos (by rw [List.length_take]; omega), rd_get l (l.length - 1 - i) (by omega)]
    have ht : l.reverse.take i ++ [(⟨(l[l.length - 1 - i]'(by omega)).f0, (l[l.length - 1 - i]'(by omega)).f1⟩ : S31)] = l.reverse.take (i + 1) := by
      rw [List.take_succ_eq_append_getElem hi, List.getElem_reverse]
    rw [ht, show wrap64 ((i : Int) + 1) = ((i + 1 : Nat) : Int) by unfold wrap64; omega]
    exact turned hp k2 l hq hl x8 v hc hv m (i + 1) (by omega) j
theorem j1_okS {p : Pol} (hp : p.U) (l : List S31) (hq : ∀ y ∈ l, q31 y) (hl : l.length ≤ 1048576) (x8 : Bool) (v : Int × Int × Int × Bool)
    (hc : ∀ k, audit_Conforms.f (k + 1) p.kind p.gap p.slack p.lim p.span l = some x8) (hv : ∀ k, audit_Level.f (k + 1) p.kind p.gap p.slack p.lim p.span l = some v) (j : Nat) :
    turnstilelaw24_AuditSplits.j1 (l.length + j + 3) l x8 v.2.2.2 p.kind p.gap p.slack p.lim p.span v.1 v.2.1 v.2.2.1 = some true := by
  rw [turnstilelaw24_AuditSplits.j1]
  by_cases k2 : p.kind = 2
  · rw [if_pos k2]
    exact turned hp k2 l hq hl x8 v hc hv l.length 0 (by omega) j
  · rw [if_neg k2]
theorem wfU' {x : Int} (hx : U x) : (Lit.int .u64 x).wf = true := by
  unfold U at hx; simp [Lit.wf, IntKind.min, IntKind.max, IntKind.signed, IntKind.bits]; omega
theorem place {n : Nat} {x : Int} (h0 : n ≠ 0) (h1 : n ≤ 1048576) : ∃ i : Nat, i < n ∧ wrap64 (Int.tmod (IntKind.u64.wrap x) (IntKind.u64.wrap (n : Int))) = (i : Int) := by
  have hn : IntKind.u64.wrap (n : Int) = n := wr_id ⟨by omega, by omega⟩
  have hx := U_wr x
  rw [hn, Int.tmod_eq_emod_of_nonneg hx.1]
  have a0 := Int.emod_nonneg (IntKind.u64.wrap x) (show (n : Int) ≠ 0 by omega)
  have a1 := Int.emod_lt_of_pos (IntKind.u64.wrap x) (show 0 < (n : Int) by omega)
  refine ⟨(IntKind.u64.wrap x % (n : Int)).toNat, by omega, ?_⟩
  unfold wrap64
  omega
theorem j0_okS {p : Pol} (hp : p.U) (l : List S31) (hq : ∀ y ∈ l, q31 y) (hl : l.length ≤ 1048576) (h0 : l.length ≠ 0) (at_ un : Int) (hun : U un) (j : Nat) :
    turnstilelaw24_AuditSplits.j0 (l.length + j + 4) l at_ un false p.kind p.gap p.slack p.lim p.span = some true := by
  have hSelf : Same p l l := ⟨Iff.rfl, fun _ _ => rfl, fun _ => rfl, fun _ _ => rfl⟩
  obtain ⟨x8, hx8, _⟩ := same_conf hp hSelf hq hq hl (by omega) 0
  obtain ⟨v, hv0, _⟩ := same_lev hp hSelf hq hq hl (by omega) 0
  have hc : ∀ k, audit_Conforms.f (k + 1) p.kind p.gap p.slack p.lim p.span l = some x8 := fun k => by
    rw [Nat.add_comm]
    exact monoS (f := fun k => audit_Conforms.f k p.kind p.gap p.slack p.lim p.span l) (fun k => audit_Conforms.mono _ _ _ _ _ _ k) hx8 k
  have hv : ∀ k, audit_Level.f (k + 1) p.kind p.gap p.slack p.lim p.span l = some v := fun k => by
    rw [Nat.add_comm]
    exact monoS (f := fun k => audit_Level.f k p.kind p.gap p.slack p.lim p.span l) (fun k => audit_Level.mono _ _ _ _ _ _ k) hv0 k
  obtain ⟨i, hi, ei⟩ := place (x := at_) h0 hl
  have J := j1_okS hp l hq hl x8 v hc hv j
  rw [turnstilelaw24_AuditSplits.j0, if_neg (by simp), if_neg (by rw [wr_id (show U (l.length : Int) by unfold U; omega)]; omega), hc, Option.bind_some, hv, Option.bind_some]
  simp only [ei]
  rw [if_pos (by omega), if_pos (by omega), rd_get l i hi]
  by_cases c : (l[i]'hi).f1 > 1
  · rw [if_pos c]
    have hqe : q31 (l[i]'hi) := hq _ (List.getElem_mem hi)
    have hu : U (l[i]'hi).f1 := U_wf hqe.2
    have hu1 := hu.1
    have hu2 := hu.2
    have w1 : IntKind.u64.wrap ((l[i]'hi).f1 - 1) = (l[i]'hi).f1 - 1 := wr_id (by unfold U; omega)
    have m0 := Int.emod_nonneg un (show (l[i]'hi).f1 - 1 ≠ 0 by omega)
    have m1 := Int.emod_lt_of_pos un (show 0 < (l[i]'hi).f1 - 1 by omega)
    have tm : Int.tmod un ((l[i]'hi).f1 - 1) = un % ((l[i]'hi).f1 - 1) := Int.tmod_eq_emod_of_nonneg hun.1
    have w2 : IntKind.u64.wrap (1 + un % ((l[i]'hi).f1 - 1)) = 1 + un % ((l[i]'hi).f1 - 1) := wr_id (by unfold U; omega)
    have w3 : IntKind.u64.wrap ((l[i]'hi).f1 - (1 + un % ((l[i]'hi).f1 - 1))) = (l[i]'hi).f1 - (1 + un % ((l[i]'hi).f1 - 1)) := wr_id (by unfold U; omega)
    have w4 : wrap64 ((i : Int) + 1) = ((i + 1 : Nat) : Int) := by unfold wrap64; omega
    simp only [w1, tm, w2, w3, w4, Int.toNat_natCast]
    have ls : ∀ n, (l.take n).length ≤ 1048576 := fun n => by rw [List.length_take]; omega
    have ds : ∀ n, (l.drop n).length ≤ 1048576 := fun n => by rw [List.length_drop]; omega
    have l1 := ls i
    have l2 := ds (i + 1)
    rw [if_neg (by omega), if_pos (by omega)]
    simp only [Option.bind_some, List.nil_append]
    rw [if_pos (by simp only [List.length_nil]; omega), if_pos (by omega), if_pos (by simp only [List.length_append, List.length_cons, List.length_nil]; omega), if_pos (by omega), if_pos (by omega), if_pos (by simp only [List.length_append, List.length_cons, List.length_nil]; omega)]
    have el : l = l.take i ++ (l[i]'hi) :: l.drop (i + 1) := by
      rw [← List.drop_eq_getElem_cons hi, List.take_append_drop]
    generalize hfirst : 1 + un % ((l[i]'hi).f1 - 1) = first at *
    have hS := same_cut hp (l.take i) (l.drop (i + 1)) (l[i]'hi) ⟨(l[i]'hi).f0, first⟩ ⟨(l[i]'hi).f0, (l[i]'hi).f1 - first⟩ rfl rfl (show 1 ≤ first by omega) (show 1 ≤ (l[i]'hi).f1 - first by omega) (show (l[i]'hi).f1 = first + ((l[i]'hi).f1 - first) by omega)
    rw [← el] at hS
    have ec : l.take i ++ [(⟨(l[i]'hi).f0, first⟩ : S31)] ++ [(⟨(l[i]'hi).f0, (l[i]'hi).f1 - first⟩ : S31)] ++ l.drop (i + 1) = l.take i ++ (⟨(l[i]'hi).f0, first⟩ : S31) :: (⟨(l[i]'hi).f0, (l[i]'hi).f1 - first⟩ : S31) :: l.drop (i + 1) := by simp
    rw [ec]
    have hq2 : ∀ y ∈ l.take i ++ (⟨(l[i]'hi).f0, first⟩ : S31) :: (⟨(l[i]'hi).f0, (l[i]'hi).f1 - first⟩ : S31) :: l.drop (i + 1), q31 y := by
      intro y hy
      rcases List.mem_append.1 hy with hy | hy
      · exact hq y (List.mem_of_mem_take hy)
      · rcases List.mem_cons.1 hy with rfl | hy
        · exact ⟨hqe.1, wfU' (show U first by unfold U; omega)⟩
        · rcases List.mem_cons.1 hy with rfl | hy
          · exact ⟨hqe.1, wfU' (show U ((l[i]'hi).f1 - first) by unfold U; omega)⟩
          · exact hq y (List.mem_of_mem_drop hy)
    have hm : (l.take i ++ (⟨(l[i]'hi).f0, first⟩ : S31) :: (⟨(l[i]'hi).f0, (l[i]'hi).f1 - first⟩ : S31) :: l.drop (i + 1)).length ≤ 1048577 := by
      simp only [List.length_append, List.length_cons, List.length_take, List.length_drop]
      omega
    obtain ⟨b, e, e'⟩ := same_conf hp hS hq hq2 hl hm (l.length + j + 2)
    obtain ⟨u, f, f'⟩ := same_lev hp hS hq hq2 hl hm (l.length + j + 2)
    rw [hc] at e
    rw [hv] at f
    obtain rfl := Option.some.inj e
    obtain rfl := Option.some.inj f
    rw [f', Option.bind_some, e', Option.bind_some, if_neg (by simp), if_neg (by simp), if_neg (by simp)]
    exact J
  · rw [if_neg c]
    exact J
theorem AuditSplitsP : AuditSplits.Pure := by
  intro x0 hx
  obtain ⟨⟨h0, h1, h2, h3, h4⟩, ⟨hl1, hl2, hq⟩, hat, hmo⟩ := hx
  let p : Pol := ⟨x0.f0.f0, x0.f0.f1, x0.f0.f2, x0.f0.f3, x0.f0.f4⟩
  have hp : p.U := ⟨U_wf h1, U_wf h2, U_wf h3, U_wf h4⟩
  have aw := monoS (f := turnstilelaw24_awake.f) (turnstilelaw24_awake.mono) awakeS (x0.f1.length + 4)
  rw [show 8 + (x0.f1.length + 4) = x0.f1.length + 8 + 4 by omega] at aw
  refine ⟨x0.f1.length + 8 + 4, ?_⟩
  unfold turnstilelaw24_AuditSplits.f
  rw [aw, Option.bind_some, if_pos rfl]
  have done_ : turnstilelaw24_AuditSplits.j0 (x0.f1.length + 8 + 4) x0.f1 x0.f2 x0.f3 true x0.f0.f0 x0.f0.f1 x0.f0.f2 x0.f0.f3 x0.f0.f4 = some true := by
    rw [turnstilelaw24_AuditSplits.j0, if_pos rfl]
  by_cases z : (x0.f1.length : Int) = 0
  · rw [if_pos z]
    exact done_
  rw [if_neg z]
  by_cases c : (x0.f1.length : Int) > 1048576
  · rw [decide_eq_true c]
    exact done_
  · rw [decide_eq_false c]
    exact j0_okS (p := p) hp x0.f1 hq (by omega) (by omega) x0.f2 x0.f3 (U_wf hmo) 8
end Go.Proofs.Ytdoifmefhofnnaa.M
namespace Go.Proofs.Ytdoifmefhofnnaa.Pure
theorem AuditSplits : Go.Proofs.Ytdoifmefhofnnaa.D.AuditSplits.Pure := Go.Proofs.Ytdoifmefhofnnaa.M.AuditSplitsP
end Go.Proofs.Ytdoifmefhofnnaa.Pure
