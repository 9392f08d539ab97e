/- The document's Grid, plainly: windows in order, and a look along them (for turnstileref24.sorted and grid, which are not printed yet). -/
import Derived.Test.YtdoifmefhofnnaaMAudL
namespace Go.Proofs.Ytdoifmefhofnnaa.M
set_option linter.unusedVariables false
set_option linter.unusedSimpArgs false
open Go.RowKit Go.Proofs.Ytdoifmefhofnnaa.D Go.Proofs.YtdoifmefhofnnaaW.PrintWords Go.Proofs.YtdoifmefhofnnaaW.PrintMore
/-- Two rows put together, the smaller head first (the first row's where they are the same). -/
def mrg : Nat → List S31 → List S31 → List S31
  | 0, a, b => a ++ b
  | _ + 1, [], b => b
  | _ + 1, a, [] => a
  | k + 1, x :: xs, y :: ys => if x.f0 ≤ y.f0 then x :: mrg k xs (y :: ys) else y :: mrg k (x :: xs) ys
theorem mrg_mem (z : S31) : ∀ (k : Nat) (a b : List S31), z ∈ mrg k a b ↔ z ∈ a ∨ z ∈ b
  | 0, a, b => by simp [mrg]
  | k + 1, [], b => by simp [mrg]
  | k + 1, x :: xs, [] => by simp [mrg]
  | k + 1, x :: xs, y :: ys => by
    unfold mrg
    by_cases c : x.f0 ≤ y.f0
    · rw [if_pos c, List.mem_cons, mrg_mem z k xs (y :: ys)]
      simp only [List.mem_cons, or_assoc]
    · rw [if_neg c, List.mem_cons, mrg_mem z k (x :: xs) ys, List.mem_cons, List.mem_cons]
      constructor
      · rintro (h | (h | h) | h)
        · exact Or.inr (Or.inl h)
        · exact Or.inl (Or.inl h)
        · exact Or.inl (Or.inr h)
        · exact Or.inr (Or.inr h)
      · rintro ((h | h) | h | h)
        · exact Or.inr (Or.inl (Or.inl h))
        · exact Or.inr (Or.inl (Or.inr h))
        · exact Or.inl h
        · exact Or.inr (Or.inr h)
theorem mrg_sum (span w : Int) : ∀ (k : Nat) (a b : List S31), wsum span (mrg k a b) w = wsum span a w + wsum span b w
  | 0, a, b => by rw [mrg, wsum_append]
  | k + 1, [], b => by simp [mrg, wsum]
  | k + 1, x :: xs, [] => by simp [mrg, wsum]
  | k + 1, x :: xs, y :: ys => by
    unfold mrg
    by_cases c : x.f0 ≤ y.f0
    · rw [if_pos c, wsum, mrg_sum span w k xs (y :: ys), wsum, wsum]
      omega
    · rw [if_neg c, wsum, mrg_sum span w k (x :: xs) ys, wsum, wsum]
      omega
def Srt (l : List S31) : Prop := l.Pairwise (fun a b => a.f0 ≤ b.f0)
theorem mrg_srt : ∀ (k : Nat) (a b : List S31), a.length + b.length ≤ k → Srt a → Srt b → Srt (mrg k a b)
  | 0, a, b, h, ha, hb => by
    have e1 : a = [] := List.length_eq_zero_iff.1 (by omega)
    have e2 : b = [] := List.length_eq_zero_iff.1 (by omega)
    rw [e1, e2]
    exact List.Pairwise.nil
  | k + 1, [], b, h, ha, hb => by rw [mrg]; exact hb
  | k + 1, x :: xs, [], h, ha, hb => by rw [mrg]; exact ha; simp
  | k + 1, x :: xs, y :: ys, h, ha, hb => by
    obtain ⟨hx, hxs⟩ := List.pairwise_cons.1 ha
    obtain ⟨hy, hys⟩ := List.pairwise_cons.1 hb
    simp only [List.length_cons] at h
    unfold mrg
    by_cases c : x.f0 ≤ y.f0
    · rw [if_pos c]
      refine List.pairwise_cons.2 ⟨fun z hz => ?_, mrg_srt k xs (y :: ys) (by simp only [List.length_cons]; omega) hxs hb⟩
      rcases (mrg_mem z k xs (y :: ys)).1 hz with hz | hz
      · exact hx z hz
      · rcases List.mem_cons.1 hz with rfl | hz
        · exact c
        · have := hy z hz
          omega
    · rw [if_neg c]
      refine List.pairwise_cons.2 ⟨fun z hz => ?_, mrg_srt k (x :: xs) ys (by simp only [List.length_cons]; omega) ha hys⟩
      rcases (mrg_mem z k (x :: xs) ys).1 hz with hz | hz
      · rcases List.mem_cons.1 hz with rfl | hz
        · omega
        · have := hx z hz
          omega
      · exact hy z hz
/-- The rows' order, as the document makes it: halves, put together. -/
def srt : Nat → List S31 → List S31
  | 0, l => l
  | k + 1, l => if l.length < 2 then l else mrg l.length (srt k (l.take (l.length / 2))) (srt k (l.drop (l.length / 2)))
theorem srt_sum (span w : Int) : ∀ (k : Nat) (l : List S31), wsum span (srt k l) w = wsum span l w
  | 0, l => rfl
  | k + 1, l => by
    unfold srt
    split
    · rfl
    · rw [mrg_sum, srt_sum span w k, srt_sum span w k, ← wsum_append, List.take_append_drop]
theorem srt_mem (z : S31) : ∀ (k : Nat) (l : List S31), z ∈ srt k l ↔ z ∈ l
  | 0, l => Iff.rfl
  | k + 1, l => by
    unfold srt
    split
    · exact Iff.rfl
    · rw [mrg_mem, srt_mem z k, srt_mem z k, ← List.mem_append, List.take_append_drop]
theorem mrg_len : ∀ (k : Nat) (a b : List S31), (mrg k a b).length = a.length + b.length
  | 0, a, b => by simp [mrg]
  | k + 1, [], b => by simp [mrg]
  | k + 1, x :: xs, [] => by simp [mrg]
  | k + 1, x :: xs, y :: ys => by
    unfold mrg
    split
    · rw [List.length_cons, mrg_len k xs (y :: ys)]; simp only [List.length_cons]; omega
    · rw [List.length_cons, mrg_len k (x :: xs) ys]; simp only [List.length_cons]; omega
theorem srt_len : ∀ (k : Nat) (l : List S31), (srt k l).length = l.length
  | 0, l => rfl
  | k + 1, l => by
    unfold srt
    split
    · rfl
    · rw [mrg_len, srt_len k, srt_len k, ← List.length_append, List.take_append_drop]
theorem srt_srt : ∀ (k : Nat) (l : List S31), l.length ≤ 2 ^ k → Srt (srt k l)
  | 0, l, h => by
    unfold srt
    match l, h with
    | [], _ => exact List.Pairwise.nil
    | [x], _ => exact List.pairwise_singleton _ _
    | x :: y :: r, h => simp at h
  | k + 1, l, h => by
    unfold srt
    rw [Nat.pow_succ] at h
    by_cases c : l.length < 2
    · rw [if_pos c]
      match l, c with
      | [], _ => exact List.Pairwise.nil
      | [x], _ => exact List.pairwise_singleton _ _
      | x :: y :: r, c => simp at c; omega
    · rw [if_neg c]
      refine mrg_srt _ _ _ ?_ (srt_srt k _ (by rw [List.length_take]; omega)) (srt_srt k _ (by rw [List.length_drop]; omega))
      rw [srt_len, srt_len, List.length_take, List.length_drop]
      omega
/-- The look along windows in order: the last one and its units, if none passes the limit. -/
def scan (lim : Int) : List S31 → Bool → Int → Int → Int × Int × Bool
  | [], _, ix, s => (ix, s, true)
  | e :: es, f, ix, s => if f = true ∨ e.f0 ≠ ix then (if e.f1 > lim then (0, 0, false) else scan lim es false e.f0 e.f1) else (if e.f1 > lim - s then (0, 0, false) else scan lim es false ix (s + e.f1))
theorem wsum_far : ∀ (l : List S31) (w : Int), (∀ x ∈ l, x.f0 ≠ w) → wsum 1 l w = 0
  | [], w, h => rfl
  | e :: es, w, h => by
    rw [wsum, Int.ediv_one, if_neg (h e (List.mem_cons_self ..)), wsum_far es w (fun x hx => h x (List.mem_cons_of_mem _ hx))]
    rfl
theorem scan_go {lim : Int} : ∀ (rest pre : List S31) (ix s : Int), Srt (pre ++ rest) → (∀ x ∈ pre, x.f0 ≤ ix) → (∀ x ∈ rest, ix ≤ x.f0) → s = wsum 1 pre ix → (∀ w, wsum 1 pre w ≤ lim) → (∀ x ∈ pre ++ rest, q31 x) →
    ((∀ w, wsum 1 (pre ++ rest) w ≤ lim) ∧ ∃ ix', scan lim rest false ix s = (ix', wsum 1 (pre ++ rest) ix', true) ∧ (∀ x ∈ pre ++ rest, x.f0 ≤ ix') ∧ (ix' = ix ∨ ∃ x ∈ rest, x.f0 = ix')) ∨
    (¬ (∀ w, wsum 1 (pre ++ rest) w ≤ lim) ∧ scan lim rest false ix s = (0, 0, false))
  | [], pre, ix, s, hs, hle, hge, hv, hlim, hq => by
    left
    rw [List.append_nil]
    exact ⟨hlim, ix, by rw [scan, hv], hle, Or.inl rfl⟩
  | e :: es, pre, ix, s, hs, hle, hge, hv, hlim, hq => by
    have hee : ix ≤ e.f0 := hge e (List.mem_cons_self ..)
    have happ : pre ++ e :: es = (pre ++ [e]) ++ es := by simp
    have hp : ∀ w, wsum 1 (pre ++ [e]) w = wsum 1 pre w + (if e.f0 = w then e.f1 else 0) := fun w => by
      rw [wsum_append, wsum, wsum, Int.ediv_one]
      omega
    have hes : ∀ x ∈ es, e.f0 ≤ x.f0 := fun x hx => (List.pairwise_cons.1 (List.pairwise_append.1 hs).2.1).1 x hx
    have hnn : ∀ w, 0 ≤ wsum 1 es w := fun w => wsum_nonneg es (fun y hy => hq y (List.mem_append.2 (Or.inr (List.mem_cons_of_mem _ hy)))) w
    have bad : lim < wsum 1 (pre ++ [e]) e.f0 → ¬ (∀ w, wsum 1 (pre ++ e :: es) w ≤ lim) := fun h k => by
      have := k e.f0
      rw [happ, wsum_append] at this
      have := hnn e.f0
      omega
    have next : wsum 1 (pre ++ [e]) e.f0 ≤ lim → ∀ w, wsum 1 (pre ++ [e]) w ≤ lim := fun h w => by
      by_cases c : e.f0 = w
      · rw [← c]; exact h
      · rw [hp, if_neg c]
        have := hlim w
        omega
    have hle' : ∀ x ∈ pre ++ [e], x.f0 ≤ e.f0 := fun x hx => by
      rcases List.mem_append.1 hx with hx | hx
      · have := hle x hx
        omega
      · rw [List.mem_singleton.1 hx]
        exact Int.le_refl _
    have se : wsum 1 (pre ++ [e]) e.f0 = wsum 1 pre e.f0 + e.f1 := by rw [hp, if_pos rfl]
    rw [happ] at hs hq
    have IH := fun h => scan_go (lim := lim) es (pre ++ [e]) e.f0 (wsum 1 (pre ++ [e]) e.f0) hs hle' hes rfl (next h) hq
    by_cases c : e.f0 = ix
    · have sc : ∀ t : Int, scan lim (e :: es) false ix t = if e.f1 > lim - t then (0, 0, false) else scan lim es false ix (t + e.f1) := fun t => by rw [scan, if_neg (by simp [c])]
      rw [sc]
      rw [c] at se IH bad
      rw [← hv] at se
      by_cases d : e.f1 > lim - s
      · rw [if_pos d]
        exact Or.inr ⟨bad (by omega), rfl⟩
      · rw [if_neg d, ← se, happ]
        rcases IH (by omega) with ⟨h1, ix', h2, h3, h4⟩ | ⟨h1, h2⟩
        · refine Or.inl ⟨h1, ix', h2, h3, ?_⟩
          rcases h4 with h4 | ⟨x, hx, h4⟩
          · exact Or.inl h4
          · exact Or.inr ⟨x, List.mem_cons_of_mem _ hx, h4⟩
        · exact Or.inr ⟨h1, h2⟩
    · have z : wsum 1 pre e.f0 = 0 := wsum_far pre _ (fun x hx => by have := hle x hx; omega)
      rw [z, Int.zero_add] at se
      have sc : scan lim (e :: es) false ix s = if e.f1 > lim then (0, 0, false) else scan lim es false e.f0 e.f1 := by rw [scan, if_pos (Or.inr c)]
      rw [sc]
      by_cases d : e.f1 > lim
      · rw [if_pos d]
        exact Or.inr ⟨bad (by omega), rfl⟩
      · rw [se] at IH
        rw [if_neg d, happ]
        rcases IH (by omega) with ⟨h1, ix', h2, h3, h4⟩ | ⟨h1, h2⟩
        · refine Or.inl ⟨h1, ix', h2, h3, ?_⟩
          rcases h4 with h4 | ⟨x, hx, h4⟩
          · exact Or.inr ⟨e, List.mem_cons_self .., h4.symm⟩
          · exact Or.inr ⟨x, List.mem_cons_of_mem _ hx, h4⟩
        · exact Or.inr ⟨h1, h2⟩
def win (span : Int) (e : S31) : S31 := ⟨e.f0 / span, e.f1⟩
theorem wsum_win (span w : Int) : ∀ (l : List S31), wsum 1 (l.map (win span)) w = wsum span l w
  | [] => rfl
  | e :: es => by
    rw [List.map_cons, wsum, wsum, wsum_win span w es, Int.ediv_one]
    rfl
theorem wlast_ge (span : Int) : ∀ (l : List S31) (a : Int), a ≤ wlast span l a ∧ (∀ x ∈ l, x.f0 / span ≤ wlast span l a) ∧ (wlast span l a = a ∨ ∃ x ∈ l, x.f0 / span = wlast span l a)
  | [], a => ⟨Int.le_refl _, (fun x hx => by cases hx), Or.inl rfl⟩
  | e :: es, a => by
    obtain ⟨h1, h2, h3⟩ := wlast_ge span es (if a < e.f0 / span then e.f0 / span else a)
    rw [wlast]
    have h4 : a ≤ (if a < e.f0 / span then e.f0 / span else a) ∧ e.f0 / span ≤ (if a < e.f0 / span then e.f0 / span else a) := by split <;> omega
    refine ⟨by omega, fun x hx => ?_, ?_⟩
    · rcases List.mem_cons.1 hx with rfl | hx
      · omega
      · exact h2 x hx
    · rcases h3 with h3 | ⟨x, hx, h3⟩
      · by_cases c : a < e.f0 / span
        · rw [if_pos c] at h3 ⊢
          exact Or.inr ⟨e, List.mem_cons_self .., h3.symm⟩
        · rw [if_neg c] at h3 ⊢
          exact Or.inl h3
      · exact Or.inr ⟨x, List.mem_cons_of_mem _ hx, h3⟩
/-- The document's Grid, of windows in any order that sorts them: the greatest window and its units, or no. -/
theorem grid_law {span lim : Int} (hl : 0 ≤ lim) (l m : List S31) (hq : ∀ y ∈ l, q31 y) (hm : Srt m) (hqm : ∀ y ∈ m, q31 y) (hsum : ∀ w, wsum 1 m w = wsum span l w) (hmem : ∀ w, (∃ x ∈ m, x.f0 = w) ↔ ∃ x ∈ l, x.f0 / span = w) (hpos : ∀ x ∈ m, 0 ≤ x.f0) :
    ((∀ w, wsum span l w ≤ lim) ∧ scan lim m true 0 0 = (wlast span l 0, wsum span l (wlast span l 0), true)) ∨ (¬ (∀ w, wsum span l w ≤ lim) ∧ scan lim m true 0 0 = (0, 0, false)) := by
  obtain ⟨g1, g2, g3⟩ := wlast_ge span l 0
  cases m with
  | nil =>
    left
    have e0 : wlast span l 0 = 0 := by
      rcases g3 with g3 | ⟨x, hx, g3⟩
      · exact g3
      · obtain ⟨y, hy, _⟩ := (hmem _).2 ⟨x, hx, rfl⟩
        cases hy
    refine ⟨fun w => by rw [← hsum]; exact hl, ?_⟩
    rw [scan, e0, ← hsum]
    rfl
  | cons e es =>
    have se : wsum 1 [e] e.f0 = e.f1 := by rw [wsum, Int.ediv_one, if_pos rfl, wsum, Int.add_zero]
    have hes : ∀ x ∈ es, e.f0 ≤ x.f0 := (List.pairwise_cons.1 hm).1
    have sc : scan lim (e :: es) true 0 0 = if e.f1 > lim then (0, 0, false) else scan lim es false e.f0 e.f1 := by rw [scan, if_pos (Or.inl rfl)]
    rw [sc]
    by_cases d : e.f1 > lim
    · rw [if_pos d]
      refine Or.inr ⟨fun k => ?_, rfl⟩
      have := k e.f0
      rw [← hsum, show e :: es = [e] ++ es from rfl, wsum_append, se] at this
      have := wsum_nonneg (span := 1) es (fun y hy => hqm y (List.mem_cons_of_mem _ hy)) e.f0
      omega
    · rw [if_neg d]
      have one : ∀ w, wsum 1 [e] w ≤ lim := fun w => by
        rw [wsum, Int.ediv_one, wsum]
        split <;> omega
      rcases scan_go (lim := lim) es [e] e.f0 e.f1 hm (fun x hx => by rw [List.mem_singleton.1 hx]; exact Int.le_refl _) hes se.symm one hqm with ⟨h1, ix, h2, h3, h4⟩ | ⟨h1, h2⟩
      · left
        have h1' : ∀ w, wsum 1 (e :: es) w ≤ lim := h1
        have hin : ∃ x ∈ e :: es, x.f0 = ix := by
          rcases h4 with h4 | ⟨x, hx, h4⟩
          · exact ⟨e, List.mem_cons_self .., h4.symm⟩
          · exact ⟨x, List.mem_cons_of_mem _ hx, h4⟩
        have hix : ix = wlast span l 0 := by
          obtain ⟨y, hy, ey⟩ := (hmem ix).1 hin
          have a1 := g2 y hy
          have a2 : wlast span l 0 ≤ ix := by
            rcases g3 with g3 | ⟨x, hx, g3⟩
            · obtain ⟨x, hx, ex⟩ := hin
              have := hpos x hx
              omega
            · obtain ⟨z, hz, ez⟩ := (hmem _).2 ⟨x, hx, g3⟩
              have := h3 z hz
              omega
          omega
        refine ⟨fun w => by rw [← hsum]; exact h1' w, ?_⟩
        rw [h2, hix]
        exact congrArg (fun q => (wlast span l 0, q, true)) (hsum _)
      · right
        refine ⟨fun k => h1 (fun w => ?_), h2⟩
        have := k w
        rw [← hsum] at this
        exact this
end Go.Proofs.Ytdoifmefhofnnaa.M
