/- The document's record: its functions compute what package record's do. -/
import Derived.Test.YtkgjepmminmjjaaDoorMRecD
import Derived.Test.YtkgjepmminmjjaaDoorEx22
import Derived.Test.YtkgjepmminmjjaaDoorEx23
import Derived.Test.YtkgjepmminmjjaaDoorEx24
import Derived.Test.YtkgjepmminmjjaaDoorEx25
import Derived.Test.YtkgjepmminmjjaaDoorEx26
import Derived.Test.YtkgjepmminmjjaaDoorEx27
import Derived.Test.YtkgjepmminmjjaaDoorEx28
namespace Go.Proofs.YtkgjepmminmjjaaDoor.M
set_option linter.unusedVariables false
set_option linter.unusedSimpArgs false
open Go.RowKit Go.Proofs.YtkgjepmminmjjaaDoor.E Go.Proofs.YtkgjepmminmjjaaDoorW.PrintWords Go.Proofs.YtkgjepmminmjjaaDoorW.PrintLast Go.Proofs.YtkgjepmminmjjaaDoorW.PrintMore Go.Proofs.YtkgjepmminmjjaaDoorW.PrintShort
theorem PVr (kind gap slack lim span : Int) (hg : 0 ≤ gap) (hs : 0 ≤ span) : turnstileref06_Valid.f kind gap slack lim span = some (pvv kind gap slack lim span) := by
  unfold turnstileref06_Valid.f
  by_cases h1 : kind = 1
  · rw [if_pos h1]
    by_cases h2 : gap > 0
    · rw [if_pos h2]
      by_cases h3 : lim = 0
      · rw [if_pos h3]; exact some_iff (by rw [pvv_iff, beq_iff_eq]; omega)
      · rw [if_neg h3]; exact some_iff (by rw [pvv_iff]; simp; omega)
    · rw [if_neg h2]; exact some_iff (by rw [pvv_iff]; simp; omega)
  · rw [if_neg h1]
    by_cases h4 : kind = 2
    · rw [if_pos h4]
      by_cases h2 : span > 0
      · rw [if_pos h2]
        by_cases h3 : gap = 0
        · rw [if_pos h3]; exact some_iff (by rw [pvv_iff, beq_iff_eq]; omega)
        · rw [if_neg h3]; exact some_iff (by rw [pvv_iff]; simp; omega)
      · rw [if_neg h2]; exact some_iff (by rw [pvv_iff]; simp; omega)
    · rw [if_neg h4]; exact some_iff (by rw [pvv_iff]; simp; omega)
/-- The document's judgement is package record's. -/
theorem RefValid (r : Rec) (hg : 0 ≤ r.gap) (hs : 0 ≤ r.span) (k : Nat) : turnstileref11_Valid.f (k + 1) r.kind r.floor r.key r.pk r.gap r.slack r.lim r.span r.tat r.ix r.cnt = some (decide (RV r)) := by
  have h := RValid r k
  unfold vrec record_Valid.f at h
  simp only [record_Valid.j0, PVv] at h
  unfold turnstileref11_Valid.f
  simp only [turnstileref11_Valid.j0, PVr _ _ _ _ _ hg hs]
  exact h
/-! ### Encode -/
theorem put_go : ∀ (m k i n : Nat) (l : List Int) (x : Int), i + m = n → n ≤ 8 → U x → l.length + m ≤ 5000 → turnstileref11_Put.l0 (m + k + 1) l x (n : Int) (i : Int) = some (l ++ putN m x)
  | 0, k, i, n, l, x, h, _, _, _ => by
    rw [turnstileref11_Put.l0, if_neg (by omega)]
    simp [putN]
  | m + 1, k, i, n, l, x, h, hn, hx, hl => by
    have h0 := hx.1
    have h1 := hx.2
    have e1 : (Int.tmod x 256) % 256 = x % 256 := by rw [Int.tmod_eq_emod_of_nonneg h0]; omega
    have hd : U (x / 256) := by unfold U; omega
    have e2 : IntKind.u64.wrap (Int.tdiv x 256) = x / 256 := by rw [Int.tdiv_eq_ediv_of_nonneg h0]; exact wr_id hd
    have e3 : wrap64 ((i : Int) + 1) = ((i + 1 : Nat) : Int) := by unfold wrap64; omega
    rw [show m + 1 + k + 1 = (m + k + 1) + 1 by omega, turnstileref11_Put.l0, if_pos (by omega), if_pos (by omega), e1, e2, e3,
      put_go m k (i + 1) n _ _ (by omega) hn hd (by rw [List.length_append]; simp only [List.length_cons, List.length_nil]; omega)]
    simp [putN]
theorem RPut8 {l : List Int} {x : Int} (hx : U x) (hl : l.length ≤ 4000) (k : Nat) : turnstileref11_Put.f (k + 9) l x 8 = some (l ++ putN 8 x) := by
  unfold turnstileref11_Put.f
  have := put_go 8 k 0 8 l x rfl (by omega) hx (by omega)
  rw [show k + 9 = 8 + k + 1 by omega]
  exact this
theorem RPut2 {l : List Int} {x : Int} (hx : U x) (hl : l.length ≤ 4000) (k : Nat) : turnstileref11_Put.f (k + 3) l x 2 = some (l ++ putN 2 x) := by
  unfold turnstileref11_Put.f
  have := put_go 2 k 0 2 l x rfl (by omega) hx (by omega)
  rw [show k + 3 = 2 + k + 1 by omega]
  exact this
theorem bt_get (s : ByteArray) (i : Nat) (h : i < (bytesOf s).length) : bt s (i : Int) = (bytesOf s)[i] := by
  rw [← rd_bytesOf]
  unfold rd
  rw [Int.toNat_natCast, List.getD_eq_getElem?_getD, List.getElem?_eq_getElem h]
  rfl
theorem text_go (s : ByteArray) (hs : s.size ≤ 64) : ∀ (m k i : Nat) (l : List Int), i + m = s.size → l.length + m ≤ 5000 → turnstileref11_PutText.l0 (m + k + 1) l s (i : Int) = some (l ++ (bytesOf s).drop i)
  | 0, k, i, l, h, _ => by
    rw [turnstileref11_PutText.l0, if_neg (by omega), List.drop_of_length_le (by rw [bytesOf_length]; omega), List.append_nil]
  | m + 1, k, i, l, h, hl => by
    have hi : i < (bytesOf s).length := by rw [bytesOf_length]; omega
    have e3 : wrap64 ((i : Int) + 1) = ((i + 1 : Nat) : Int) := by unfold wrap64; omega
    rw [show m + 1 + k + 1 = (m + k + 1) + 1 by omega, turnstileref11_PutText.l0, if_pos (by omega), if_pos (by omega), if_pos (by omega), e3, bt_get s i hi,
      text_go s hs m k (i + 1) _ (by omega) (by rw [List.length_append]; simp only [List.length_cons, List.length_nil]; omega), List.drop_eq_getElem_cons hi]
    simp
theorem RPutText {l : List Int} {s : ByteArray} (hs : s.size ≤ 64) (hl : l.length ≤ 3000) (k : Nat) : turnstileref11_PutText.f (k + 70) l s = some (l ++ (putN 2 s.size ++ bytesOf s)) := by
  unfold turnstileref11_PutText.f
  have e : IntKind.u64.wrap (s.size : Int) = s.size := wr_id ⟨by omega, by omega⟩
  rw [e, show k + 70 = (k + 67) + 3 by omega, RPut2 ⟨by omega, by omega⟩ (by omega), Option.bind_some]
  have := text_go s hs s.size (k + 69 - s.size) 0 (l ++ putN 2 s.size) (by omega) (by rw [List.length_append, putN_length]; omega)
  rw [show s.size + (k + 69 - s.size) + 1 = k + 67 + 3 by omega] at this
  rw [List.drop_zero, List.append_assoc] at this
  exact this
theorem RefEncode (r : Rec) (hu : r.Un) (k : Nat) : turnstileref11_Encode.f (k + 70) r.kind r.floor r.key r.pk r.gap r.slack r.lim r.span r.tat r.ix r.cnt = some (if RV r then (enc r, 0) else ([], 1)) := by
  have hv := RefValid r hu.gap.1 hu.span.1 (k + 69)
  unfold turnstileref11_Encode.f
  rw [hv, Option.bind_some]
  by_cases h : RV r
  · rw [if_pos (decide_eq_true h), if_pos h]
    obtain ⟨h1, h2, h3⟩ := h
    rw [show k + 70 = (k + 61) + 9 by omega, RPut8 hu.floor (by simp), Option.bind_some, show k + 61 + 9 = k + 70 by omega, RPutText h2 (by simp [putN_length]), Option.bind_some]
    have n1 : ([r.kind % 256] ++ putN 8 r.floor ++ (putN 2 r.key.size ++ bytesOf r.key)).length ≤ 80 := by simp [bytesOf_length, putN_length]; omega
    have n2 : ∀ c : Int, ([r.kind % 256] ++ putN 8 r.floor ++ (putN 2 r.key.size ++ bytesOf r.key) ++ [c]).length ≤ 81 := fun c => by rw [List.length_append]; simp only [List.length_cons, List.length_nil]; omega
    have n3 : ∀ (c x : Int), ([r.kind % 256] ++ putN 8 r.floor ++ (putN 2 r.key.size ++ bytesOf r.key) ++ [c] ++ putN 8 x).length ≤ 100 := fun c x => by rw [List.length_append, putN_length]; have := n2 c; omega
    have n4 : ∀ (x : Int), ([r.kind % 256] ++ putN 8 r.floor ++ (putN 2 r.key.size ++ bytesOf r.key) ++ putN 8 x).length ≤ 100 := fun x => by rw [List.length_append, putN_length]; omega
    have n5 : ∀ (x y : Int), ([r.kind % 256] ++ putN 8 r.floor ++ (putN 2 r.key.size ++ bytesOf r.key) ++ putN 8 x ++ putN 8 y).length ≤ 110 := fun x y => by rw [List.length_append, putN_length]; have := n4 x; omega
    by_cases k1 : r.kind = 1
    · rw [if_pos k1]
      unfold turnstileref11_PutPolicy.f
      rw [if_pos (by omega), Option.bind_some, show k + 70 = (k + 61) + 9 by omega]
      by_cases p1 : r.pk = 1
      · rw [if_pos p1, RPut8 hu.gap (by have := n2 (r.pk % 256); omega), Option.bind_some, RPut8 hu.slack (by have := n3 (r.pk % 256) r.gap; omega), Option.bind_some, Option.bind_some]
        unfold enc tail
        rw [if_pos k1, if_neg (by omega)]
        simp
      · have p2 : r.pk = 2 := by omega
        rw [if_neg p1, RPut8 hu.lim (by have := n2 (r.pk % 256); omega), Option.bind_some, RPut8 hu.span (by have := n3 (r.pk % 256) r.lim; omega), Option.bind_some, Option.bind_some]
        unfold enc tail
        rw [if_pos k1, if_pos p2]
        simp
    · rw [if_neg k1]
      by_cases k3 : r.kind = 3
      · rw [if_pos k3, show k + 70 = (k + 61) + 9 by omega, RPut8 hu.tat (by omega), Option.bind_some, RPut8 hu.ix (by have := n4 r.tat; omega), Option.bind_some, RPut8 hu.cnt (by have := n5 r.tat r.ix; omega), Option.bind_some]
        unfold enc tail
        rw [if_neg k1, if_pos k3]
        simp
      · rw [if_neg k3]
        unfold enc tail
        rw [if_neg k1, if_neg k3]
        simp
  · rw [if_neg (by simpa using h), if_neg h]
theorem Of_at {e : Int} (h : e = 0 ∨ e = 1 ∨ e = 2 ∨ e = 3) : turnstilesame_Is.f e e = some true := by
  rcases h with rfl | rfl | rfl | rfl <;> rfl
/-! ### Decode -/
theorem le_U8 {t : List Int} (h : By t) (n : t.length ≤ 8) : U (le t) := by
  have hr := le_range t h
  have h9 : t.length = 0 ∨ t.length = 1 ∨ t.length = 2 ∨ t.length = 3 ∨ t.length = 4 ∨ t.length = 5 ∨ t.length = 6 ∨ t.length = 7 ∨ t.length = 8 := by omega
  unfold U
  rcases h9 with e | e | e | e | e | e | e | e | e <;> rw [e] at hr <;> exact ⟨hr.1, by have := hr.2; omega⟩
theorem num_loop {xs pre t ys : List Int} {n : Nat} (hx : xs = pre ++ (t ++ ys)) (hl : xs.length ≤ 140737488355328) (hn : t.length = n) (h8 : n ≤ 8) (ht : By t) (k : Nat) :
    ∀ (j : Nat), j ≤ n → turnstileref11_Cut_Number.l0 (j + k + 1) (n : Int) (le (t.drop j)) ((j : Int) - 1) xs (pre.length : Int) false = some (le t, (pre.length : Int) + n, false)
  | 0, _ => by
    have hp : pre.length + n ≤ xs.length := by rw [hx]; simp; omega
    rw [turnstileref11_Cut_Number.l0, if_neg (by omega), List.drop_zero, show wrap64 ((pre.length : Int) + (n : Int)) = (pre.length : Int) + n by unfold wrap64; omega]
  | j + 1, h => by
    have hp : pre.length + n + ys.length = xs.length := by rw [hx]; simp; omega
    have hj : j < t.length := by omega
    have ex : wrap64 ((pre.length : Int) + ((((j + 1 : Nat) : Int)) - 1)) = ((pre.length + j : Nat) : Int) := by unfold wrap64; omega
    have ed : le (t.drop j) = t[j] + 256 * le (t.drop (j + 1)) := by rw [List.drop_eq_getElem_cons hj]; rfl
    have hB : ∀ i, By (t.drop i) := fun i x hx => ht x (List.mem_of_mem_drop hx)
    have u0 := le_U8 (hB j) (by rw [List.length_drop]; omega)
    have u1 := le_U8 (hB (j + 1)) (by rw [List.length_drop]; omega)
    have hb := ht _ (List.getElem_mem hj)
    have er : rd xs ((pre.length + j : Nat) : Int) = t[j] := by
      unfold rd
      rw [Int.toNat_natCast, hx, List.getD_eq_getElem?_getD, List.getElem?_append_right (by omega), show pre.length + j - pre.length = j by omega, List.getElem?_append_left hj, List.getElem?_eq_getElem hj]
      rfl
    have e1 : IntKind.u64.wrap (le (t.drop (j + 1)) * 256) = le (t.drop (j + 1)) * 256 := wr_id (by unfold U at *; omega)
    have e2 : IntKind.u64.wrap t[j] = t[j] := wr_id (by unfold U; omega)
    have e3 : IntKind.u64.wrap (le (t.drop (j + 1)) * 256 + t[j]) = le (t.drop j) := by rw [wr_id (by unfold U at *; omega), ed]; omega
    have e4 : wrap64 ((((j + 1 : Nat) : Int)) - 1 - 1) = (j : Int) - 1 := by unfold wrap64; omega
    rw [show j + 1 + k + 1 = (j + k + 1) + 1 by omega, turnstileref11_Cut_Number.l0, if_pos (by omega), ex, if_pos (by omega), if_pos (by omega), er, e1, e2, e3, e4]
    exact num_loop hx hl hn h8 ht k j (by omega)
theorem N_ok {xs pre t ys : List Int} {n : Nat} {a : Int} (hx : xs = pre ++ (t ++ ys)) (ha : a = pre.length) (hl : xs.length ≤ 140737488355328) (hn : t.length = n) (h8 : n ≤ 8) (ht : By t) (k : Nat) :
    turnstileref11_Cut_Number.f (k + 12) xs a false (n : Int) = some (le t, a + n, false) := by
  subst ha
  have hp : pre.length + n + ys.length = xs.length := by rw [hx]; simp; omega
  unfold turnstileref11_Cut_Number.f
  rw [if_neg (by simp), show wrap64 ((xs.length : Int) - (pre.length : Int)) = ((n + ys.length : Nat) : Int) by unfold wrap64; omega, turnstileref11_Cut_Number.j0, if_neg (by simp; omega)]
  have := num_loop hx hl hn h8 ht (k + 10 - n) n (Nat.le_refl _)
  rw [List.drop_of_length_le (by omega), show n + (k + 10 - n) + 1 = k + 11 by omega] at this
  rw [show wrap64 ((n : Int) - 1) = (n : Int) - 1 by unfold wrap64; omega]
  exact this
theorem N_short {xs pre ys : List Int} {n : Nat} {a : Int} (hx : xs = pre ++ ys) (ha : a = pre.length) (hl : xs.length ≤ 140737488355328) (hn : ys.length < n) (k : Nat) :
    turnstileref11_Cut_Number.f (k + 1) xs a false (n : Int) = some (0, a, true) := by
  subst ha
  have hp : pre.length + ys.length = xs.length := by rw [hx]; simp
  unfold turnstileref11_Cut_Number.f
  rw [if_neg (by simp), show wrap64 ((xs.length : Int) - (pre.length : Int)) = ((ys.length : Nat) : Int) by unfold wrap64; omega, turnstileref11_Cut_Number.j0, if_pos (by simp; omega)]
theorem N_stick (xs : List Int) (a n : Int) (k : Nat) : turnstileref11_Cut_Number.f (k + 1) xs a true n = some (0, a, true) := by
  unfold turnstileref11_Cut_Number.f
  rw [if_pos rfl, turnstileref11_Cut_Number.j0, if_pos rfl]
theorem T_stick (xs : List Int) (a : Int) (k : Nat) : turnstileref11_Cut_Text.f (k + 1) xs a true = some ((⟨#[]⟩ : ByteArray), a, true) := by
  unfold turnstileref11_Cut_Text.f
  rw [N_stick, Option.bind_some]
  simp [turnstileref11_Cut_Text.g]
theorem T_short {xs pre ys : List Int} {a : Int} (hx : xs = pre ++ ys) (ha : a = pre.length) (hl : xs.length ≤ 140737488355328) (hn : ys.length < 2) (k : Nat) :
    turnstileref11_Cut_Text.f (k + 1) xs a false = some ((⟨#[]⟩ : ByteArray), a, true) := by
  unfold turnstileref11_Cut_Text.f
  rw [show (2 : Int) = ((2 : Nat) : Int) from rfl, N_short hx ha hl hn, Option.bind_some]
  simp [turnstileref11_Cut_Text.g]
theorem T_short2 {xs pre t u : List Int} {a : Int} (hx : xs = pre ++ (t ++ u)) (ha : a = pre.length) (hl : xs.length ≤ 140737488355328) (hn : t.length = 2) (ht : By t) (hm : (u.length : Int) < le t) (k : Nat) :
    turnstileref11_Cut_Text.f (k + 12) xs a false = some ((⟨#[]⟩ : ByteArray), a + 2, true) := by
  have hr := le_range t ht
  rw [hn] at hr
  have hp : pre.length + 2 + u.length = xs.length := by rw [hx]; simp; omega
  unfold turnstileref11_Cut_Text.f
  rw [show (2 : Int) = ((2 : Nat) : Int) from rfl, N_ok hx ha hl hn (by omega) ht, Option.bind_some]
  subst ha
  unfold turnstileref11_Cut_Text.g
  simp only
  rw [if_neg (by simp), if_pos (by unfold wrap64; omega)]
theorem T_ok {xs pre t u ys : List Int} {a : Int} (hx : xs = pre ++ (t ++ (u ++ ys))) (ha : a = pre.length) (hl : xs.length ≤ 140737488355328) (hn : t.length = 2) (ht : By t) (hm : (u.length : Int) = le t) (k : Nat) :
    turnstileref11_Cut_Text.f (k + 12) xs a false = some (strOfNums u, a + 2 + u.length, false) := by
  have hr := le_range t ht
  rw [hn] at hr
  have hp : pre.length + 2 + (u.length + ys.length) = xs.length := by rw [hx]; simp; omega
  unfold turnstileref11_Cut_Text.f
  rw [show (2 : Int) = ((2 : Nat) : Int) from rfl, N_ok hx ha hl hn (by omega) ht, Option.bind_some]
  subst ha
  unfold turnstileref11_Cut_Text.g
  simp only
  have w1 : wrap64 (le t) = le t := by unfold wrap64; omega
  have w2 : wrap64 ((pre.length : Int) + ((2 : Nat) : Int) + le t) = ((pre.length + 2 + u.length : Nat) : Int) := by unfold wrap64; omega
  rw [if_neg (by simp), w1, w2, if_neg (by unfold wrap64; omega), if_pos ⟨by omega, by omega, by omega⟩]
  have hc : (xs.take ((pre.length + 2 + u.length : Nat) : Int).toNat).drop ((pre.length : Int) + ((2 : Nat) : Int)).toNat = u := by
    rw [Int.toNat_natCast, show ((pre.length : Int) + ((2 : Nat) : Int)).toNat = (pre ++ t).length by rw [List.length_append]; omega,
      show pre.length + 2 + u.length = (pre ++ t ++ u).length by simp only [List.length_append]; omega, hx, show pre ++ (t ++ (u ++ ys)) = (pre ++ t ++ u) ++ ys by simp, List.take_left, List.drop_left]
  rw [hc]
  simp
theorem rj1_bad (xs : List Int) (a : Int) (k : Nat) (a0 a1 : Int) (a2 : ByteArray) (a3 a4 a5 a6 a7 a8 a9 a10 : Int) : turnstileref11_Decode.j1 (k + 1) xs xs a true a0 a1 a2 a3 a4 a5 a6 a7 a8 a9 a10 = some (Rec.zero.out 2) := by
  rw [turnstileref11_Decode.j1, if_pos rfl]
  rfl
theorem rj1_ok (r : Rec) (hg : 0 ≤ r.gap) (hs : 0 ≤ r.span) {xs rest : List Int} {a : Int} (ha : a + rest.length = xs.length) (k : Nat) : turnstileref11_Decode.j1 (k + 2) xs xs a false r.kind r.floor r.key r.pk r.gap r.slack r.lim r.span r.tat r.ix r.cnt = some (decOut r rest) := by
  rw [turnstileref11_Decode.j1, if_neg (by simp), RefValid r hg hs, Option.bind_some]
  unfold decOut
  by_cases c : a = (xs.length : Int)
  · rw [if_pos c]
    by_cases v : RV r
    · rw [if_pos (decide_eq_true v), if_neg (fun q => q.elim (by omega) (fun n => n v))]
      rfl
    · rw [if_neg (by simpa using v), if_pos (Or.inr v)]
      rfl
  · rw [if_neg c, if_pos (Or.inl (by omega))]
    rfl
theorem decOut_bad {r : Rec} (h : ¬ RV r) (rest : List Int) : decOut r rest = Rec.zero.out 3 := by
  unfold decOut
  rw [if_pos (Or.inr h)]
end Go.Proofs.YtkgjepmminmjjaaDoor.M
