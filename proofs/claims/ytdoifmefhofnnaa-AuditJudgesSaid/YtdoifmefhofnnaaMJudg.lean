/- The document's Grid and its judgements (turnstileref24): what sorted, grid, Conforms and Level answer. -/
import Derived.Test.YtdoifmefhofnnaaMBigF
import Derived.Test.YtdoifmefhofnnaaMGridR
import Derived.Test.YtdoifmefhofnnaaDx24
import Derived.Test.YtdoifmefhofnnaaDx26
import Derived.Test.YtdoifmefhofnnaaDx33
import Derived.Test.YtdoifmefhofnnaaDx34
import Derived.Test.YtdoifmefhofnnaaDx35
import Derived.Test.YtdoifmefhofnnaaDx36
namespace Go.Proofs.Ytdoifmefhofnnaa.M
set_option linter.unusedVariables false
set_option linter.unusedSimpArgs false
open Go.RowKit Go.Proofs.Ytdoifmefhofnnaa.D Go.Proofs.YtdoifmefhofnnaaW.PrintWords Go.Proofs.YtdoifmefhofnnaaW.PrintMore
theorem rd31z (x : S31) (xs : List S31) : rd_T31 (x :: xs) 0 = x := rd31 (x :: xs) 0 (by simp)
theorem mrg_nil (b : List S31) : ∀ n, mrg n [] b = b
  | 0 => rfl
  | n + 1 => rfl
theorem mrg_nil' (a : List S31) : ∀ n, mrg n a [] = a
  | 0 => by rw [mrg, List.append_nil]
  | n + 1 => by cases a <;> rfl
theorem sorted_l0 : ∀ (n k : Nat) (a b out : List S31), a.length + b.length = n → 2 * n + 2 ≤ k → out.length + n < 8796093022208 →
    turnstileref24_sorted.l0 k a b out = some (out ++ mrg n a b)
  | n, k, a, b, out, hn, hk, ho => by
    obtain ⟨k, rfl⟩ : ∃ m, k = m + 2 := ⟨k - 2, by omega⟩
    rw [turnstileref24_sorted.l0]
    have ha : (1 : Int).toNat = 1 := rfl
    cases a with
    | nil =>
      rw [if_neg (by simp), mrg_nil]
      cases b with
      | nil => rw [turnstileref24_sorted.j1, if_neg (by simp)]; simp
      | cons y ys =>
        simp only [List.length_nil, List.length_cons, Nat.zero_add] at hn
        rw [turnstileref24_sorted.j1, if_pos (by simp), if_neg (by simp only [List.length_cons]; omega), if_neg (by simp), if_pos (by simp only [List.length_cons]; omega), if_pos (by omega), if_pos (by simp only [List.length_cons]; omega), ha, List.drop_one, List.tail_cons, rd31z]
        rw [sorted_l0 (n - 1) k [] ys _ (by simp only [List.length_nil]; omega) (by omega) (by simp only [List.length_append, List.length_singleton]; omega), mrg_nil, List.append_assoc]
        rfl
    | cons x xs =>
      rw [if_pos (by simp only [List.length_cons]; omega), turnstileref24_sorted.j1, if_pos rfl]
      cases b with
      | nil =>
        simp only [List.length_nil, List.length_cons] at hn
        rw [if_pos (by simp), if_pos (by simp only [List.length_cons]; omega), if_pos (by omega), if_pos (by simp only [List.length_cons]; omega), ha, List.drop_one, List.tail_cons, rd31z, mrg_nil']
        rw [sorted_l0 (n - 1) k xs [] _ (by simp only [List.length_nil]; omega) (by omega) (by simp only [List.length_append, List.length_singleton]; omega), mrg_nil', List.append_assoc]
        rfl
      | cons y ys =>
        simp only [List.length_cons] at hn
        rw [if_neg (by simp only [List.length_cons]; omega), if_pos (by simp only [List.length_cons]; omega), if_pos (by simp only [List.length_cons]; omega), if_pos (by simp only [List.length_cons]; omega), rd31z, rd31z]
        obtain ⟨n, rfl⟩ : ∃ m, n = m + 1 := ⟨n - 1, by omega⟩
        rw [mrg]
        by_cases c : x.f0 ≤ y.f0
        · rw [if_pos c, if_pos c, if_pos (by omega), if_pos (by simp only [List.length_cons]; omega), ha, List.drop_one, List.tail_cons,
            sorted_l0 n k xs (y :: ys) _ (by simp only [List.length_cons]; omega) (by omega) (by simp only [List.length_append, List.length_singleton]; omega), List.append_assoc]
          rfl
        · rw [if_neg c, if_neg c, if_pos (by omega), if_pos (by simp only [List.length_cons]; omega), ha, List.drop_one, List.tail_cons,
            sorted_l0 n k (x :: xs) ys _ (by simp only [List.length_cons]; omega) (by omega) (by simp only [List.length_append, List.length_singleton]; omega), List.append_assoc]
          rfl
theorem sorted_f : ∀ (k : Nat) (l : List S31), 2 * l.length + 3 ≤ k → l.length < 8796093022208 → turnstileref24_sorted.f k l = some (srt k l)
  | 0, l, h, _ => absurd h (by omega)
  | k + 1, l, h, hl => by
    rw [turnstileref24_sorted.f, srt]
    by_cases c : l.length < 2
    · rw [if_pos c, if_pos (by omega)]
    · have e : wrap64 ((l.length : Int) / 2) = ((l.length / 2 : Nat) : Int) := by unfold wrap64; omega
      rw [if_neg c, if_neg (by omega), e, if_pos (by omega), if_pos (by omega), Int.toNat_natCast]
      have h1 : (l.take (l.length / 2)).length = l.length / 2 := by rw [List.length_take]; omega
      have h2 : (l.drop (l.length / 2)).length = l.length - l.length / 2 := List.length_drop
      rw [sorted_f k _ (by omega) (by omega), Option.bind_some, sorted_f k _ (by omega) (by omega), Option.bind_some,
        sorted_l0 l.length k _ _ _ (by rw [srt_len, srt_len]; omega) (by omega) (by simp only [List.length_nil]; omega), List.nil_append]
theorem grid_l1 {x0 x1 x2 lim x4 : Int} (hl : U lim) (t : List S31) (hq : ∀ y ∈ t, q31 y) (ht : t.length ≤ 1048576) (k : Nat) : ∀ (m j : Nat) (ix s : Int), j + m = t.length → 0 ≤ s → s ≤ lim → (j = 0 → s = 0) →
    turnstileref24_grid.l1 (2 * m + 1 + k) t ix s (j : Int) x0 x1 x2 lim x4 = some (scan lim (t.drop j) (decide (j = 0)) ix s)
  | 0, j, ix, s, hj, h0, h1, h2 => by
    rw [show 2 * 0 + 1 + k = k + 1 by omega, turnstileref24_grid.l1, if_neg (by omega), List.drop_of_length_le (by omega), scan]
  | m + 1, j, ix, s, hj, h0, h1, h2 => by
    have hi : j < t.length := by omega
    have hqe := hq _ (List.getElem_mem hi)
    have uu : U (t[j]'hi).f1 := U_wf hqe.2
    have wi : wrap64 ((j : Int) + 1) = ((j + 1 : Nat) : Int) := by unfold wrap64; omega
    have w1 : IntKind.u64.wrap lim = lim := wr_id hl
    have wu : IntKind.u64.wrap (t[j]'hi).f1 = (t[j]'hi).f1 := wr_id uu
    have u0 := uu.1
    have u1 := uu.2
    have l1 := hl.2
    rw [show 2 * (m + 1) + 1 + k = (2 * m + 1 + k) + 1 + 1 by omega, turnstileref24_grid.l1, if_pos (by omega), List.drop_eq_getElem_cons hi, scan]
    have step : ∀ (b : Bool), turnstileref24_grid.j2 (2 * m + 1 + k + 1) t ix s (j : Int) b x0 x1 x2 lim x4 =
        some (if b = true then (if (t[j]'hi).f1 > lim then (0, 0, false) else scan lim (t.drop (j + 1)) false (t[j]'hi).f0 (t[j]'hi).f1) else (if (t[j]'hi).f1 > lim - s then (0, 0, false) else scan lim (t.drop (j + 1)) false ix (s + (t[j]'hi).f1))) := by
      intro b
      have w2 : IntKind.u64.wrap (lim - s) = lim - s := wr_id ⟨by omega, by omega⟩
      rw [turnstileref24_grid.j2, rd31 t j hi, w1, w2, wu, wi]
      have p0 : 0 ≤ (j : Int) := by omega
      have p1 : (j : Int) < (t.length : Int) := by omega
      cases b with
      | true =>
        simp only [if_true, p0, p1]
        by_cases c : (t[j]'hi).f1 > lim
        · rw [if_pos c, if_pos c]
        · rw [if_neg c, if_neg c, grid_l1 hl t hq ht k m (j + 1) _ _ (by omega) u0 (by omega) (fun h => absurd h (by omega)), decide_eq_false (show ¬ j + 1 = 0 by omega)]
      | false =>
        simp only [Bool.false_eq_true, if_false, if_true, p0, p1]
        by_cases c : (t[j]'hi).f1 > lim - s
        · rw [if_pos c, if_pos c]
        · have w3 : IntKind.u64.wrap (s + (t[j]'hi).f1) = s + (t[j]'hi).f1 := wr_id ⟨by omega, by omega⟩
          rw [if_neg c, if_neg c, w3, grid_l1 hl t hq ht k m (j + 1) _ _ (by omega) (by omega) (by omega) (fun h => absurd h (by omega)), decide_eq_false (show ¬ j + 1 = 0 by omega)]
    by_cases z : j = 0
    · rw [if_pos (by omega), step, if_pos rfl, if_pos (Or.inl (by simp [z]))]
    · rw [if_neg (by omega), if_pos (by omega), step, rd31 t j hi]
      by_cases c : (t[j]'hi).f0 = ix
      · have e3 : ¬ (((t[j]'hi).f0 != ix) = true) := by simp [c]
        have e4 : ¬ (decide (j = 0) = true ∨ (t[j]'hi).f0 ≠ ix) := by simp [c, z]
        rw [if_neg e3, if_neg e4]
      · have e3 : ((t[j]'hi).f0 != ix) = true := by simp [c]
        rw [if_pos e3, if_pos (Or.inr c)]
theorem grid_l0 {x0 x1 x2 lim span : Int} (hs : U span) (h1 : 1 ≤ span) (l : List S31) (hq : ∀ y ∈ l, q31 y) (hl : l.length ≤ 1048576) (k : Nat) : ∀ (m i : Nat), i + m = l.length →
    turnstileref24_grid.l0 (m + 1 + k) l ((l.take i).map (win span)) (i : Int) x0 x1 x2 lim span =
      if (∀ e ∈ l.drop i, e.f1 ≠ 0) then ((turnstileref24_sorted.f k (l.map (win span))).bind fun t => turnstileref24_grid.l1 k t 0 0 0 x0 x1 x2 lim span) else some (0, 0, false)
  | 0, i, hi => by
    rw [show 0 + 1 + k = k + 1 by omega, turnstileref24_grid.l0, if_neg (by omega), List.drop_of_length_le (by omega), List.take_of_length_le (by omega), if_pos (fun e he => by cases he)]
  | m + 1, i, hi => by
    have hlt : i < l.length := by omega
    have hqe := hq _ (List.getElem_mem hlt)
    have wi : wrap64 ((i : Int) + 1) = ((i + 1 : Nat) : Int) := by unfold wrap64; omega
    rw [show m + 1 + 1 + k = (m + 1 + k) + 1 by omega, turnstileref24_grid.l0, if_pos (by omega), if_pos (by omega), rd31 l i hlt]
    by_cases z : (l[i]'hlt).f1 = 0
    · rw [if_pos z, if_neg (fun h => h (l[i]'hlt) (by rw [List.drop_eq_getElem_cons hlt]; exact List.mem_cons_self ..) z)]
    · rw [if_neg z, if_neg (by omega), if_pos (by simp only [List.length_map, List.length_take]; omega), dv2 (U_wf hqe.1) hs, wi]
      have e1 : (l.take i).map (win span) ++ [(⟨(l[i]'hlt).f0 / span, (l[i]'hlt).f1⟩ : S31)] = (l.take (i + 1)).map (win span) := by
        rw [List.take_succ_eq_append_getElem hlt, List.map_append]
        rfl
      rw [e1, grid_l0 hs h1 l hq hl k m (i + 1) (by omega)]
      have e2 : (∀ e ∈ l.drop i, e.f1 ≠ 0) ↔ (∀ e ∈ l.drop (i + 1), e.f1 ≠ 0) := by
        rw [List.drop_eq_getElem_cons hlt]
        constructor
        · exact fun h e he => h e (List.mem_cons_of_mem _ he)
        · intro h e he
          rcases List.mem_cons.1 he with rfl | he
          · exact z
          · exact h e he
      by_cases c : ∀ e ∈ l.drop (i + 1), e.f1 ≠ 0
      · rw [if_pos c, if_pos (e2.2 c)]
      · rw [if_neg c, if_neg (fun h => c (e2.1 h))]
theorem win_q {span : Int} (hs : U span) (h1 : 1 ≤ span) {e : S31} (h : q31 e) : q31 (win span e) := by
  refine ⟨?_, h.2⟩
  have u := U_wf h.1
  have b1 : 0 ≤ e.f0 / span := Int.ediv_nonneg u.1 hs.1
  have b2 : e.f0 / span < 18446744073709551616 := Int.lt_of_le_of_lt (Int.ediv_le_self _ u.1) u.2
  show (Lit.int .u64 (e.f0 / span)).wf = true
  simp [Lit.wf, IntKind.min, IntKind.max, IntKind.signed, IntKind.bits]
  omega
/-- The document's Grid. -/
theorem RefGrid {x0 x1 x2 lim span : Int} (hs : U span) (h1 : 1 ≤ span) (hl : U lim) (l : List S31) (hq : ∀ y ∈ l, q31 y) (hn : l.length ≤ 1048576) (k : Nat) (hk : 4 * l.length + 10 ≤ k) :
    (Gok span lim (fun _ => 0) l ∧ turnstileref24_grid.f k x0 x1 x2 lim span l = some (wlast span l 0, wsum span l (wlast span l 0), true)) ∨
    (¬ Gok span lim (fun _ => 0) l ∧ turnstileref24_grid.f k x0 x1 x2 lim span l = some (0, 0, false)) := by
  obtain ⟨j, rfl⟩ : ∃ j, k = l.length + 1 + (2 * l.length + 1 + (l.length + 8 + j)) := ⟨k - (4 * l.length + 10), by omega⟩
  unfold turnstileref24_grid.f
  have e0 : ([] : List S31) = (l.take 0).map (win span) := by simp
  rw [e0]
  have g0 := grid_l0 (x0 := x0) (x1 := x1) (x2 := x2) (lim := lim) hs h1 l hq hn (2 * l.length + 1 + (l.length + 8 + j)) l.length 0 (by omega)
  rw [show (((0 : Nat) : Int)) = 0 from rfl] at g0
  rw [g0, List.drop_zero]
  have G : Gok span lim (fun _ => 0) l ↔ ((∀ e ∈ l, e.f1 ≠ 0) ∧ ∀ w, wsum span l w ≤ lim) := by
    unfold Gok
    simp only [Int.zero_add]
  by_cases c : ∀ e ∈ l, e.f1 ≠ 0
  · rw [if_pos c]
    have lm : (l.map (win span)).length = l.length := List.length_map ..
    rw [sorted_f _ _ (by omega) (by omega), Option.bind_some]
    generalize hK : 2 * l.length + 1 + (l.length + 8 + j) = K
    have hmem : ∀ z, z ∈ srt K (l.map (win span)) ↔ z ∈ l.map (win span) := fun z => srt_mem z K _
    have hmq : ∀ y ∈ srt K (l.map (win span)), q31 y := by
      intro y hy
      obtain ⟨x, hx, rfl⟩ := List.mem_map.1 ((hmem y).1 hy)
      exact win_q hs h1 (hq x hx)
    have hsl : (srt K (l.map (win span))).length = l.length := by rw [srt_len, lm]
    have g1 := grid_l1 (x0 := x0) (x1 := x1) (x2 := x2) (x4 := span) hl (srt K (l.map (win span))) hmq (by omega) (l.length + 8 + j) l.length 0 0 0 (by omega) (Int.le_refl _) hl.1 (fun _ => rfl)
    rw [hK, List.drop_zero, show (((0 : Nat) : Int)) = 0 from rfl, decide_eq_true rfl] at g1
    rw [g1]
    have hp2 : l.length ≤ 2 ^ K := Nat.le_trans (by omega) (Nat.le_of_lt K.lt_two_pow_self)
    rcases grid_law (span := span) (lim := lim) hl.1 l (srt K (l.map (win span))) hq (srt_srt K _ (by rw [lm]; exact hp2)) hmq (fun w => by rw [srt_sum, wsum_win])
      (fun w => ⟨fun ⟨x, hx, e⟩ => by
          obtain ⟨y, hy, rfl⟩ := List.mem_map.1 ((hmem x).1 hx)
          exact ⟨y, hy, e⟩, fun ⟨x, hx, e⟩ => ⟨win span x, (hmem _).2 (List.mem_map.2 ⟨x, hx, rfl⟩), e⟩⟩) (fun x hx => (U_wf (hmq x hx).1).1) with ⟨a, b⟩ | ⟨a, b⟩
    · exact Or.inl ⟨G.2 ⟨c, a⟩, by rw [b]⟩
    · exact Or.inr ⟨fun h => a (G.1 h).2, by rw [b]⟩
  · rw [if_neg c]
    exact Or.inr ⟨fun h => c (G.1 h).1, rfl⟩
theorem RefValid (p : Pol) : turnstileref24_valid.f p.kind p.gap p.slack p.lim p.span = some (pv p) := by
  unfold turnstileref24_valid.f pv
  by_cases a : p.kind = 1
  · have b : ¬ p.kind = 2 := by omega
    simp only [a, b, if_true, if_false, true_and, false_and, or_false, show ¬ ((1 : Int) = 2) by decide, ge_iff_le]
    by_cases g : 1 ≤ p.gap <;> by_cases h : p.lim = 0 <;> by_cases s : p.span = 0 <;> simp [g, h, s]
  · by_cases b : p.kind = 2
    · simp only [a, b, if_true, if_false, true_and, false_and, false_or, show ¬ ((2 : Int) = 1) by decide, ge_iff_le]
      by_cases g : 1 ≤ p.span <;> by_cases h : p.gap = 0 <;> by_cases s : p.slack = 0 <;> simp [g, h, s]
    · simp only [a, b, if_false, false_and, or_false, decide_false]
theorem RefConf {p : Pol} (hp : p.U) (l : List S31) (hq : ∀ y ∈ l, q31 y) (hl : l.length ≤ 1048576) (k : Nat) (hk : 4 * l.length + 110 ≤ k) :
    ∃ b : Bool, turnstileref24_Conforms.f k p.kind p.gap p.slack p.lim p.span l = some b ∧ (b = true ↔ cOk p l) := by
  unfold turnstileref24_Conforms.f cOk
  rw [RefValid, Option.bind_some]
  cases hv : pv p with
  | false =>
    rw [if_neg (by simp)]
    exact ⟨false, rfl, by simp⟩
  | true =>
    rw [if_pos rfl]
    rw [pv_iff] at hv
    by_cases c : p.kind = 1
    · rw [if_pos c]
      obtain ⟨j, rfl⟩ : ∃ j, k = 3 * l.length + (j + 101) := ⟨k - (3 * l.length + 101), by omega⟩
      obtain ⟨R, e, h1, h2⟩ := RefFlow (gp := p.gap) (sl := p.slack) (x0 := p.kind) (x3 := p.lim) (x4 := p.span) hp.1 hp.2.1 l hq (by omega) j
      rw [e, Option.bind_some]
      refine ⟨R.2, rfl, ?_⟩
      rw [h1]
      exact ⟨fun h => ⟨rfl, fun _ => h, fun h => absurd h (by omega)⟩, fun h => h.2.1 c⟩
    · rw [if_neg c]
      have h2 : p.kind = 2 := by omega
      rcases RefGrid (x0 := p.kind) (x1 := p.gap) (x2 := p.slack) hp.2.2.2 (by omega) hp.2.2.1 l hq hl k (by omega) with ⟨g, e⟩ | ⟨g, e⟩
      · rw [e]
        exact ⟨true, rfl, fun _ => ⟨rfl, fun h => absurd h c, fun _ => g⟩, fun _ => rfl⟩
      · rw [e]
        exact ⟨false, rfl, fun h => absurd h (by decide), fun h => absurd (h.2.2 h2) g⟩
/-! ### Level -/
def Nar (a b c : Int) : Int × Bool := (a, b == 0 && (c == 0))
theorem nar_eq (a b c : Int) : audit_narrow.f a b c = some (Nar a b c) := by
  unfold audit_narrow.f audit_of.f Nar
  simp
def Lev3 (v1 v2 v3 v4 v5 v6 v7 v8 v9 : Int) : Int × Int × Int × Bool :=
  if (Nar v1 v2 v3).2 = true then (if (Nar v4 v5 v6).2 = true then (if (Nar v7 v8 v9).2 = true then (v1, v4, v7, true) else (0, 0, 0, false)) else (0, 0, 0, false)) else (0, 0, 0, false)
theorem lev3_eq (v1 v2 v3 v4 v5 v6 v7 v8 v9 : Int) : audit_Level.l0 v1 v2 v3 v4 v5 v6 v7 v8 v9 = some (Lev3 v1 v2 v3 v4 v5 v6 v7 v8 v9) := by
  unfold audit_Level.l0 audit_Level.l1 audit_Level.l2 Lev3
  rw [nar_eq, nar_eq, nar_eq]
  simp only [Option.bind_some]
  by_cases a : (Nar v1 v2 v3).2 = true
  · rw [if_pos a, if_pos a]
    by_cases b : (Nar v4 v5 v6).2 = true
    · rw [if_pos b, if_pos b]
      by_cases c : (Nar v7 v8 v9).2 = true
      · rw [if_pos c, if_pos c]; rfl
      · rw [if_neg c, if_neg c]
    · rw [if_neg b, if_neg b]
  · rw [if_neg a, if_neg a]
theorem cells2 {l : List Int} (h : Nm l) (hl : l.length ≤ 2) (k : Nat) : turnstileref24_Level.j0 (k + 1) l false = some (bv l, 0, 0, true) := by
  rw [turnstileref24_Level.j0, if_neg (by simp)]
  match l, h, hl with
  | [], h, _ => rfl
  | [a], h, _ =>
    rw [if_pos (by simp), if_pos (by simp), if_neg (by simp)]
    simp [bv, rd, rdOf]
  | [a, b], h, _ =>
    have ha := h.dg a (by simp)
    have hb := h.dg b (by simp)
    rw [if_pos (by simp), if_pos (by simp), if_pos (by simp), if_pos (by simp)]
    have r0 : rd [a, b] 0 = a := rfl
    have r1 : rd [a, b] 1 = b := rfl
    rw [r0, r1, wr_id (show U (b * 4294967296) by unfold U; omega), wr_id (show U (a + b * 4294967296) by unfold U; omega)]
    simp only [bv]
    rw [show a + b * 4294967296 = a + 4294967296 * (b + 4294967296 * 0) by omega]
/-- The two Levels are the same. -/
theorem SameLevel {p : Pol} (hp : p.U) (l : List S31) (hq : ∀ y ∈ l, q31 y) (hl : l.length ≤ 1048576) (k : Nat) (hk : 4 * l.length + 110 ≤ k) :
    ∃ v : Int × Int × Int × Bool, audit_Level.f k p.kind p.gap p.slack p.lim p.span l = some v ∧ turnstileref24_Level.f k p.kind p.gap p.slack p.lim p.span l = some v := by
  unfold turnstileref24_Level.f audit_Level.f audit_whole.f
  rw [PValid p, RefValid p]
  simp only [Option.bind_some]
  cases hv : pv p with
  | false =>
    rw [if_neg (by simp), if_neg (by simp)]
    exact ⟨_, rfl, rfl⟩
  | true =>
    rw [if_pos rfl, if_pos rfl]
    rw [pv_iff] at hv
    by_cases c : p.kind = 1
    · rw [if_pos c, if_neg (by omega)]
      obtain ⟨j, rfl⟩ : ∃ j, k = 3 * l.length + (j + 101) := ⟨k - (3 * l.length + 101), by omega⟩
      obtain ⟨R, e, h1, h2⟩ := RefFlow (gp := p.gap) (sl := p.slack) (x0 := p.kind) (x3 := p.lim) (x4 := p.span) hp.1 hp.2.1 l hq (by omega) j
      rw [e, Option.bind_some, show 3 * l.length + (j + 101) = (3 * l.length + (j + 100)) + 1 by omega]
      have F := flowF (p3 := p.lim) (p4 := p.span) hp.1 hp.2.1 (3 * l.length + (j + 100)) l hq (by omega)
      rw [c, F]
      simp only [Option.bind_some]
      by_cases r : (run p.gap p.slack l 0).2 = true
      · obtain ⟨b1, b2, b3⟩ := h2 (by rw [h1]; exact r)
        rw [if_pos r, if_pos (by rw [h1]; exact r), lev3_eq]
        by_cases z : R.1.length ≤ 2
        · rw [decide_eq_false (by omega), cells2 b2 z]
          have v64 : 0 ≤ bv R.1 ∧ bv R.1 < 18446744073709551616 := by
            have h4 := bv_range R.1 b2.dg
            have h3 : (4294967296 : Int) ^ R.1.length ≤ 4294967296 ^ 2 := pow_mono' z
            exact ⟨h4.1, Int.lt_of_lt_of_le h4.2 (by simpa using h3)⟩
          refine ⟨_, ?_, rfl⟩
          rw [← b1, T3_of v64]
          simp [Lev3, Nar]
        · rw [decide_eq_true (by omega), turnstileref24_Level.j0, if_pos rfl]
          refine ⟨_, ?_, rfl⟩
          have big : 18446744073709551616 ≤ (run p.gap p.slack l 0).1 := by
            rw [← b1]
            have h5 := b2.top (fun e => by rw [e] at z; simp at z)
            have h6 : (4294967296 : Int) ^ 2 ≤ 4294967296 ^ (R.1.length - 1) := pow_mono' (by omega)
            exact Int.le_trans (by simpa using h6) h5
          generalize (run p.gap p.slack l 0).1 = t at *
          have ne : ¬ ((Nar (T3 t).1 (T3 t).2.1 (T3 t).2.2).2 = true) := by
            unfold Nar T3
            simp only [Bool.and_eq_true, beq_iff_eq]
            intro hz
            have z1 := hz.1
            have z2 := hz.2
            clear hz e F h1 h2 hq b1 b2 b3 hp
            omega
          unfold Lev3
          rw [if_neg ne]
      · rw [if_neg r, if_neg (by rw [h1]; exact r), turnstileref24_Level.j0, if_pos rfl]
        exact ⟨_, rfl, rfl⟩
    · have h2 : p.kind = 2 := by omega
      rw [if_neg c, if_pos h2]
      unfold audit_grid.f
      rw [if_neg (by omega), if_pos (by omega)]
      rcases over_law0 hp l hq with ⟨g, e⟩ | ⟨g, x, y, e⟩
      · rcases RefGrid (x0 := p.kind) (x1 := p.gap) (x2 := p.slack) hp.2.2.2 (by omega) hp.2.2.1 l hq hl k (by omega) with ⟨_, e'⟩ | ⟨g', _⟩
        · rw [e, e']
          simp only [Option.bind_some, if_true]
          rw [lev3_eq]
          refine ⟨_, ?_, rfl⟩
          have us : U (wsum p.span l (wlast p.span l 0)) := by
            have h9 : 0 + wsum p.span l (wlast p.span l 0) ≤ p.lim := g.2 (wlast p.span l 0)
            have := wsum_nonneg (span := p.span) l hq (wlast p.span l 0)
            have := hp.2.2.1.2
            unfold U
            omega
          rw [T3_of us]
          simp [Lev3, Nar]
        · exact absurd g g'
      · rcases RefGrid (x0 := p.kind) (x1 := p.gap) (x2 := p.slack) hp.2.2.2 (by omega) hp.2.2.1 l hq hl k (by omega) with ⟨g', _⟩ | ⟨_, e'⟩
        · exact absurd g' g
        · rw [e, e']
          exact ⟨_, rfl, rfl⟩
end Go.Proofs.Ytdoifmefhofnnaa.M
