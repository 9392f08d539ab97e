/- GcraIntervals: the rule by all stretches of time. -/
import Derived.Test.YthnpgilknoiaaaaMLives
import Derived.Test.YthnpgilknoiaaaaQSGcraIntervals
import Derived.Test.YthnpgilknoiaaaaQx30
namespace Go.Proofs.Ythnpgilknoiaaaa.Pure
set_option linter.unusedVariables false
open Go.RowKit Go.Proofs.Ythnpgilknoiaaaa.Q Go.Proofs.Ythnpgilknoiaaaa.M Go.Proofs.YthnpgilknoiaaaaW.PrintWords Go.Proofs.YthnpgilknoiaaaaW.PrintMore
/-- Of what was admitted, the units times gap. -/
def Sm (g : Int) : List (Int × Int) → Int
  | [] => 0
  | p :: r => Sm g r + p.2 * g
/-- .. and the time at which the next unit would come. -/
def Fm (g : Int) : List (Int × Int) → Int
  | [] => 0
  | p :: r => mx (Fm g r) (p.1 + (Sm g r + p.2 * g))
theorem Sm_snoc (g : Int) (x : Int × Int) : ∀ l, Sm g (l ++ [x]) = Sm g l + x.2 * g
  | [] => by simp [Sm]
  | p :: r => by simp only [List.cons_append, Sm, Sm_snoc g x r]; omega
theorem Fm_snoc (g : Int) (x : Int × Int) (hx : 0 ≤ x.1) (hg : 0 ≤ x.2 * g) : ∀ l, Fm g (l ++ [x]) = mx (Fm g l) x.1 + x.2 * g
  | [] => by
    simp only [List.nil_append, Fm, Sm]
    unfold mx; split <;> split <;> omega
  | p :: r => by
    simp only [List.cons_append, Fm, Fm_snoc g x hx hg r, Sm_snoc g x r]
    unfold mx; split <;> split <;> split <;> (try split) <;> omega
theorem Sm_drop_le (g : Int) (hg : 0 ≤ g) : ∀ (l : List (Int × Int)), (∀ p ∈ l, U p.1 ∧ U p.2) → 0 ≤ Sm g l ∧ Sm g l ≤ Fm g l
  | [], _ => by simp [Sm, Fm]
  | p :: r, h => by
    have ih := Sm_drop_le g hg r (fun q hq => h q (List.mem_cons_of_mem _ hq))
    have h1 := h p List.mem_cons_self
    have : 0 ≤ p.2 * g := Int.mul_nonneg h1.2.1 hg
    have h2 := h1.1.1
    simp only [Sm, Fm]
    unfold mx; split <;> omega
theorem Fm_drop_le (g : Int) : ∀ (l : List (Int × Int)) (j : Nat), Fm g (l.drop j) ≤ Fm g l ∧ 0 ≤ Fm g l
  | [], j => by simp [Fm]
  | p :: r, 0 => by
    have := (Fm_drop_le g r 0).2
    simp only [List.drop_zero, Fm]
    unfold mx; split <;> omega
  | p :: r, j + 1 => by
    have h := Fm_drop_le g r j
    simp only [List.drop_succ_cons, Fm]
    unfold mx; split <;> omega
theorem rd_map1 (l : List (Int × Int)) (j : Nat) (h : j < l.length) : rd (l.map Prod.fst) (j : Int) = (l[j]).1 := by
  unfold rd; simp [h]
theorem rd_map2 (l : List (Int × Int)) (j : Nat) (h : j < l.length) : rd (l.map Prod.snd) (j : Int) = (l[j]).2 := by
  unfold rd; simp [h]
/-- The look over all stretches, from one place on. -/
theorem room_loop {g now s n : Int} (hg : U g) (hw : U now) (hs : U s) (hn : U n) (hn1 : 1 ≤ n) (hg1 : 1 ≤ g) (l : List (Int × Int)) (hl : ∀ p ∈ l, U p.1 ∧ U p.2) (hF : Fm g l ≤ 18446744073709551615) (hlen : l.length ≤ 1000) : ∀ (j k : Nat) (b : Bool) (top S F : Int), j ≤ l.length → 2 * j + 2 ≤ k →
    F = Fm g (l.drop j) → (b = true ↔ mx now F + (n * g - g) ≤ now + s) → top = mx now F + n * g → S = Sm g (l.drop j) →
    turnstilelaw04_room.l0 k g (l.map Prod.fst) (l.map Prod.snd) n b ((j : Int) - 1) (W (now + s)).1 (W (now + s)).2 (W top).1 (W top).2 (W S).1 (W S).2
      = some (decide (mx now (Fm g l) + (n * g - g) ≤ now + s) && decide (mx now (Fm g l) + n * g ≤ 18446744073709551615), if mx now (Fm g l) + n * g ≤ 18446744073709551615 then mx now (Fm g l) + n * g else 0) := by
  have hmf := mul_facts hg hn
  have hv := V_mul hn hg
  obtain ⟨f1, f2⟩ := hmf.2 hn1 hg1
  have hw' := hw; have hs' := hs
  unfold U at hw' hs'
  intro j
  induction j with
  | zero =>
    intro k b top S F hj hk hFe hb htop hS
    obtain ⟨k, rfl⟩ : ∃ m, k = m + 1 := ⟨k - 1, by omega⟩
    rw [List.drop_zero] at hFe hS
    have h0 := (Fm_drop_le g l 0)
    have hm := @mx_le now F
    rw [← hFe] at h0 hF ⊢
    rw [turnstilelaw04_room.l0, if_neg (by omega), Narrow (by unfold V; omega), ← htop]
    simp only [Option.bind_some]
    by_cases h1 : top ≤ 18446744073709551615
    · rw [if_pos (c := top < 18446744073709551616) (by omega), if_pos h1, decide_eq_true h1]
      by_cases h2 : mx now F + (n * g - g) ≤ now + s
      · rw [decide_eq_true h2, hb.2 h2]; rfl
      · rw [decide_eq_false h2]
        cases b with
        | true => exact absurd (hb.1 rfl) h2
        | false => rfl
    · rw [if_neg (c := top < 18446744073709551616) (by omega), if_neg h1, decide_eq_false h1]
      by_cases h2 : mx now F + (n * g - g) ≤ now + s
      · rw [decide_eq_true h2, hb.2 h2]; rfl
      · rw [decide_eq_false h2]
        cases b with
        | true => exact absurd (hb.1 rfl) h2
        | false => rfl
  | succ j ih =>
    intro k b top S F hj hk hFe hb htop hS
    obtain ⟨k, rfl⟩ : ∃ m, k = m + 2 := ⟨k - 2, by omega⟩
    have hjl : j < l.length := by omega
    have hd : l.drop j = l[j] :: l.drop (j + 1) := List.drop_eq_getElem_cons hjl
    have h0 := Fm_drop_le g l j
    have h1 := Fm_drop_le g l (j + 1)
    have hu := hl l[j] (List.getElem_mem hjl)
    have hsd := Sm_drop_le g (by omega) (l.drop (j + 1)) (fun p hp => hl p (List.mem_of_mem_drop hp))
    have hsd' := Sm_drop_le g (by omega) (l.drop j) (fun p hp => hl p (List.mem_of_mem_drop hp))
    have hp := V_mul hu.2 hg
    have ht' := hu.1
    unfold U at ht'
    have hF0 : 0 ≤ Fm g (l.drop (j + 1)) := (Fm_drop_le g (l.drop (j + 1)) 0).2
    have eF : Fm g (l.drop j) = mx F (l[j].1 + (S + l[j].2 * g)) := by rw [hd, Fm, ← hFe, ← hS]
    have eS : Sm g (l.drop j) = S + l[j].2 * g := by rw [hd, Sm, ← hS]
    rw [eF, eS] at hsd'
    rw [eF] at h0
    rw [← hFe] at hF0 hsd h1
    rw [← hS] at hsd
    have ihk := fun b' top' S' F' => ih k b' top' S' F' (by omega) (by omega)
    rw [eF, eS] at ihk
    have hmx := @mx_le F (l[j].1 + (S + l[j].2 * g))
    have hmn := @mx_le now F
    have hmx2 := @mx_le now (mx F (l[j].1 + (S + l[j].2 * g)))
    have hwr : wrap64 ((j : Int) - 1) = (j : Int) - 1 := by unfold wrap64; omega
    rw [turnstilelaw04_room.l0, if_pos (by omega), if_pos (by omega), if_pos (by simp; omega), show ((↑(j + 1) : Int) - 1) = (j : Int) by omega, rd_map1 l j hjl, rd_map2 l j hjl, Product hu.2 hg, OfW hu.1, wr_id (n := n - 1) (by unfold U at *; omega), Product (by unfold U at *; omega) hg, show (n - 1) * g = n * g - g by rw [Int.sub_mul, Int.one_mul]]
    simp only [Option.bind_some]
    have hU1 := V_U hu.1
    clear hFe hS eF eS hd hu hmf hl
    generalize (l[j]).1 = tt at *
    generalize (l[j]).2 * g = P at *
    rw [Plus (by unfold V; omega) (by unfold V; omega), if_pos (by omega)]
    simp only [Option.bind_some]
    rw [if_pos (by simp; omega), Plus hU1 (by unfold V; omega), if_pos (by omega)]
    simp only [Option.bind_some]
    rw [Plus (by unfold V; omega) (by unfold V; omega), if_pos (by omega)]
    simp only [Option.bind_some]
    rw [Cmp (by unfold V; omega) (by unfold V; omega)]
    simp only [Option.bind_some]
    have step : ∀ b' : Bool, (b' = true ↔ mx now (mx F (tt + (S + P))) + (n * g - g) ≤ now + s) → turnstilelaw04_room.j2 (k + 1) g (l.map Prod.fst) (l.map Prod.snd) n b' (j : Int) (W (now + s)).1 (W (now + s)).2 (W top).1 (W top).2 (W (S + P)).1 (W (S + P)).2 (W (tt + (S + P))).1 (W (tt + (S + P))).2 = some (decide (mx now (Fm g l) + (n * g - g) ≤ now + s) && decide (mx now (Fm g l) + n * g ≤ 18446744073709551615), if mx now (Fm g l) + n * g ≤ 18446744073709551615 then mx now (Fm g l) + n * g else 0) := by
      intro b' hb'
      rw [turnstilelaw04_room.j2, Product hn hg]
      simp only [Option.bind_some]
      rw [Plus (by unfold V; omega) (by unfold V; omega), if_pos (by omega)]
      simp only [Option.bind_some]
      rw [Cmp (by unfold V; omega) (by unfold V; omega)]
      simp only [Option.bind_some]
      rw [hwr]
      by_cases h3 : top < tt + (S + P) + n * g
      · rw [if_pos (by rw [if_neg (by omega), if_neg (by omega)]; omega)]
        exact ihk b' _ _ _ rfl hb' (by omega) rfl
      · rw [if_neg (by split <;> (try split) <;> omega)]
        exact ihk b' _ _ _ rfl hb' (by omega) rfl
    by_cases h2 : tt + (S + P) + (n * g - g) ≤ now + s
    · rw [if_neg (by split <;> (try split) <;> omega)]
      exact step _ (by rw [hb]; omega)
    · rw [if_pos (by rw [if_neg (by omega), if_neg (by omega)]; omega)]
      exact step _ (by constructor <;> intro h; cases h; omega)
theorem room_look {g now s n : Int} (hg : U g) (hw : U now) (hs : U s) (hn : U n) (l : List (Int × Int)) (hl : ∀ p ∈ l, U p.1 ∧ U p.2) (hF : Fm g l ≤ 18446744073709551615) (hlen : l.length ≤ 1000) (k : Nat) (hk : 2 * l.length + 3 ≤ k) :
    ∃ x, turnstilelaw04_room.f k g s (l.map Prod.fst) (l.map Prod.snd) now n = some (gOk g s (Fm g l) now n, x) ∧ (gOk g s (Fm g l) now n = true → x = mx (Fm g l) now + n * g) := by
  have hno : ¬ (1 ≤ n ∧ 1 ≤ g) → gOk g s (Fm g l) now n = false := by
    intro h
    cases e : gOk g s (Fm g l) now n with
    | false => rfl
    | true => have := gOk_iff.1 e; omega
  obtain ⟨k, rfl⟩ : ∃ m, k = m + 1 := ⟨k - 1, by omega⟩
  have hg' := hg; have hn' := hn; have hw' := hw; have hs' := hs
  unfold U at hg' hn' hw' hs'
  unfold turnstilelaw04_room.f
  by_cases h0 : n = 0
  · rw [if_pos h0, turnstilelaw04_room.j0, if_pos rfl, hno (by omega)]
    exact ⟨0, rfl, fun h => by cases h⟩
  rw [if_neg h0]
  by_cases h1 : g = 0
  · rw [show (g == 0) = true by simpa using h1, turnstilelaw04_room.j0, if_pos rfl, hno (by omega)]
    exact ⟨0, rfl, fun h => by cases h⟩
  rw [show (g == 0) = false by simpa using h1, turnstilelaw04_room.j0, if_neg (by simp)]
  have hn1 : 1 ≤ n := by omega
  have hg1 : 1 ≤ g := by omega
  obtain ⟨f1, f2⟩ := (mul_facts hg hn).2 hn1 hg1
  have hv := V_mul hn hg
  have u0 : U 0 := by unfold U; omega
  rw [OfW hw, OfW hs, OfW u0, wr_id (n := n - 1) (U_le (by omega) (by omega)), Product (U_le (by omega) (by omega)) hg, Product hn hg, show (n - 1) * g = n * g - g by rw [Int.sub_mul, Int.one_mul]]
  simp only [Option.bind_some]
  rw [Plus (V_U hw) (V_U hs), if_pos (by omega)]
  simp only [Option.bind_some]
  rw [Plus (V_U hw) (by unfold V; omega), if_pos (by omega)]
  simp only [Option.bind_some]
  rw [Cmp (by unfold V; omega) (by unfold V; omega)]
  simp only [Option.bind_some]
  rw [Plus (V_U hw) (by unfold V; omega), if_pos (by omega)]
  simp only [Option.bind_some]
  have hm0 : mx now 0 = now := by unfold mx; split <;> omega
  have hr := room_loop hg hw hs hn hn1 hg1 l hl hF hlen l.length k (decide (now + (n * g - g) ≤ now + s)) (now + n * g) 0 0 (Nat.le_refl _) (by omega) (by rw [List.drop_length]; rfl) (by rw [hm0]; simp) (by rw [hm0]) (by rw [List.drop_length]; rfl)
  have hd : decide ((if now + (n * g - g) = now + s then (0 : Int) else if now + (n * g - g) < now + s then -1 else 1) ≤ 0) = decide (now + (n * g - g) ≤ now + s) := by
    rw [decide_eq_decide]
    split
    · omega
    · split <;> omega
  have hwr : wrap64 (((l.map Prod.fst).length : Int) - 1) = (l.length : Int) - 1 := by rw [List.length_map]; unfold wrap64; omega
  rw [hd, hwr, hr]
  have hF0 : 0 ≤ Fm g l := (Fm_drop_le g l 0).2
  have hcm : mx now (Fm g l) = mx (Fm g l) now := by unfold mx; split <;> split <;> omega
  rw [hcm]
  refine ⟨if mx (Fm g l) now + n * g ≤ 18446744073709551615 then mx (Fm g l) now + n * g else 0, ?_, ?_⟩
  · congr 2
    unfold gOk
    rw [← Bool.decide_and, decide_eq_decide]
    omega
  · intro h
    have := gOk_iff.1 h
    rw [if_pos (by omega)]
theorem rd57_mem {l : List S57} {i : Int} (h0 : 0 ≤ i) (h1 : i < (l.length : Int)) (h : ∀ y ∈ l, q57 y) : q57 (rd_T57 l i) := by
  unfold rd_T57
  have hi : i.toNat < l.length := by omega
  rw [List.getD_eq_getElem?_getD, List.getElem?_eq_getElem hi]
  exact h _ (List.getElem_mem hi)
theorem intervals_loop {g s : Int} (hg : U g) (hs : U s) (l : List S57) (hl : l.length ≤ maxLen) (h : ∀ y ∈ l, q57 y) : ∀ (d : Nat) (k : Nat) (i now : Int) (a : List (Int × Int)), 0 ≤ i → (a.length : Int) ≤ i → i ≤ 200 → 200 ≤ i + d → 4 * d + 500 ≤ k → U now → (∀ p ∈ a, U p.1 ∧ U p.2) → Fm g a ≤ 18446744073709551615 →
    turnstilelaw04_GcraIntervals.l0 k g s l (a.map Prod.fst) (a.map Prod.snd) (Fm g a) now i = some true := by
  unfold maxLen at hl
  have done : ∀ k now i a, turnstilelaw04_GcraIntervals.j1 (k + 1) g s l (a.map Prod.fst) (a.map Prod.snd) (Fm g a) now i false = some true := by
    intro k now i a
    rw [turnstilelaw04_GcraIntervals.j1, if_neg (by simp)]
  intro d
  induction d with
  | zero =>
    intro k i now a h0 ha h2 h3 hk hw hp hF
    obtain ⟨k, rfl⟩ : ∃ j, k = j + 2 := ⟨k - 2, by omega⟩
    rw [turnstilelaw04_GcraIntervals.l0]
    by_cases hlt : i < (l.length : Int)
    · rw [if_pos hlt, decide_eq_false (by omega)]; exact done _ _ _ _
    · rw [if_neg hlt]; exact done _ _ _ _
  | succ d ih =>
    intro k i now a h0 ha h2 h3 hk hw hp hF
    obtain ⟨k, rfl⟩ : ∃ j, k = j + 4 := ⟨k - 4, by omega⟩
    rw [turnstilelaw04_GcraIntervals.l0]
    by_cases hge : (l.length : Int) ≤ i
    · rw [if_neg (by omega)]; exact done _ _ _ _
    have hlt : i < (l.length : Int) := by omega
    rw [if_pos hlt]
    by_cases hge2 : 200 ≤ i
    · rw [decide_eq_false (by omega)]; exact done _ _ _ _
    have h200 : i < 200 := by omega
    rw [decide_eq_true h200, turnstilelaw04_GcraIntervals.j1, if_pos rfl, if_pos h0, if_pos hlt]
    obtain ⟨ht, hn⟩ := rd57_mem h0 hlt h
    replace ht := U_wf ht
    replace hn := U_wf hn
    have hF0 : 0 ≤ Fm g a := (Fm_drop_le g a 0).2
    have uF : U (Fm g a) := U_le hF0 hF
    have hwr : wrap64 (i + 1) = i + 1 := by unfold wrap64; omega
    have main : ∀ now', U now' → turnstilelaw04_GcraIntervals.j2 (k + 2) g s l (a.map Prod.fst) (a.map Prod.snd) (Fm g a) now' i = some true := by
      intro now' hw'
      obtain ⟨x, hx, hxv⟩ := room_look hg hw' hs hn a hp hF (by omega) (k + 1) (by omega)
      rw [turnstilelaw04_GcraIntervals.j2, if_pos h0, if_pos hlt, Admit hg hs uF hw' hn]
      simp only [Option.bind_some]
      rw [hx]
      simp only [Option.bind_some]
      cases hA : gOk g s (Fm g a) now' (rd_T57 l i).f1 with
      | true =>
        have hgi := gOk_iff.1 hA
        have hng : 0 ≤ (rd_T57 l i).f1 * g := Int.mul_nonneg hn.1 hg.1
        have hsn := Fm_snoc g (now', (rd_T57 l i).f1) hw'.1 hng a
        simp only [if_true]
        rw [if_neg (by simp), if_pos (hxv hA).symm, turnstilelaw04_GcraIntervals.j3, if_neg (by simp), if_pos rfl, if_pos (by rw [List.length_map]; omega), if_pos (by rw [List.length_map]; omega), hwr]
        have := ih k (i + 1) now' (a ++ [(now', (rd_T57 l i).f1)]) (by omega) (by simp; omega) (by omega) (by omega) (by omega) hw' (by
          intro p hp'
          rcases List.mem_append.1 hp' with hp' | hp'
          · exact hp p hp'
          · rw [List.mem_singleton.1 hp']; exact ⟨hw', hn⟩) (by rw [hsn]; dsimp only; omega)
        rw [hsn] at this
        simpa using this
      | false =>
        simp only [Bool.false_eq_true, if_false]
        rw [if_neg (by simp), show (Fm g a != Fm g a) = false by simp, turnstilelaw04_GcraIntervals.j3, if_neg (by simp), if_neg (by simp), hwr]
        exact ih k (i + 1) now' a (by omega) (by omega) (by omega) (by omega) (by omega) hw' hp hF
    by_cases hgt : (rd_T57 l i).f0 > now
    · rw [if_pos hgt]; exact main _ ht
    · rw [if_neg hgt]; exact main _ hw
theorem GcraIntervals : GcraIntervals.Pure := by
  intro g s l hg hs hl
  obtain ⟨hl, _, h⟩ := hl
  replace hg := U_wf hg
  replace hs := U_wf hs
  obtain ⟨k, hk⟩ : ∃ k : Nat, 2000 ≤ k := ⟨2000, Nat.le_refl _⟩
  refine ⟨k + 1, ?_⟩
  unfold turnstilelaw04_GcraIntervals.f
  rw [lives k (by omega)]
  simp only [Option.bind_some, if_true]
  exact intervals_loop hg hs l hl h 200 (k + 1) 0 0 [] (by omega) (by simp) (by omega) (by omega) (by omega) (by unfold U; omega) (by simp) (by simp [Fm])
end Go.Proofs.Ythnpgilknoiaaaa.Pure
