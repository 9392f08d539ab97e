import Derived.Test.YtkgjepmminmjjaaDoorMImgD
import Derived.Test.YtkgjepmminmjjaaDoorEx37
import Derived.Test.YtkgjepmminmjjaaDoorMImgS
import Derived.Laws.BitsAllLaws
import Derived.Test.YtkgjepmminmjjaaDoorEx30
import Derived.Test.YtkgjepmminmjjaaDoorEx31
import Derived.Test.YtkgjepmminmjjaaDoorEx35
import Derived.Test.YtkgjepmminmjjaaDoorEx36
import Derived.Test.YtkgjepmminmjjaaDoorEx38
import Derived.Test.YtkgjepmminmjjaaDoorEx39
import Derived.Test.YtkgjepmminmjjaaDoorEx40
/- The document's reader of bytes, plainly, beside package pack's. -/
namespace Go.Proofs.YtkgjepmminmjjaaDoor.M
set_option linter.unusedVariables false
set_option linter.unusedSimpArgs false
open Go.RowKit Go.Proofs.YtkgjepmminmjjaaDoor.E Go.Proofs.YtkgjepmminmjjaaDoorW.PrintWords Go.Proofs.YtkgjepmminmjjaaDoorW.PrintLast Go.Proofs.YtkgjepmminmjjaaDoorW.PrintMore Go.Proofs.YtkgjepmminmjjaaDoorW.PrintShort
theorem le_U8 {t : List Int} (h : By t) (n : t.length ≤ 8) : U (le t) := by
  have hr := le_range t h
  have h9 : t.length = 0 ∨ t.length = 1 ∨ t.length = 2 ∨ t.length = 3 ∨ t.length = 4 ∨ t.length = 5 ∨ t.length = 6 ∨ t.length = 7 ∨ t.length = 8 := by omega
  unfold U
  rcases h9 with e | e | e | e | e | e | e | e | e <;> rw [e] at hr <;> exact ⟨hr.1, by have := hr.2; omega⟩
theorem num_loop {xs pre t ys : List Int} {n : Nat} (hx : xs = pre ++ (t ++ ys)) (hl : xs.length ≤ 140737488355328) (hn : t.length = n) (h8 : n ≤ 8) (ht : By t) (k : Nat) :
    ∀ (j : Nat), j ≤ n → turnstileref11_Cut_Number.l0 (j + k + 1) (n : Int) (le (t.drop j)) ((j : Int) - 1) xs (pre.length : Int) false = some (le t, (pre.length : Int) + n, false)
  | 0, _ => by
    have hp : pre.length + n ≤ xs.length := by rw [hx]; simp; omega
    rw [turnstileref11_Cut_Number.l0, if_neg (by omega), List.drop_zero, show wrap64 ((pre.length : Int) + (n : Int)) = (pre.length : Int) + n by unfold wrap64; omega]
  | j + 1, h => by
    have hp : pre.length + n + ys.length = xs.length := by rw [hx]; simp; omega
    have hj : j < t.length := by omega
    have ex : wrap64 ((pre.length : Int) + ((((j + 1 : Nat) : Int)) - 1)) = ((pre.length + j : Nat) : Int) := by unfold wrap64; omega
    have ed : le (t.drop j) = t[j] + 256 * le (t.drop (j + 1)) := by rw [List.drop_eq_getElem_cons hj]; rfl
    have hB : ∀ i, By (t.drop i) := fun i x hx => ht x (List.mem_of_mem_drop hx)
    have u0 := le_U8 (hB j) (by rw [List.length_drop]; omega)
    have u1 := le_U8 (hB (j + 1)) (by rw [List.length_drop]; omega)
    have hb := ht _ (List.getElem_mem hj)
    have er : rd xs ((pre.length + j : Nat) : Int) = t[j] := by
      unfold rd
      rw [Int.toNat_natCast, hx, List.getD_eq_getElem?_getD, List.getElem?_append_right (by omega), show pre.length + j - pre.length = j by omega, List.getElem?_append_left hj, List.getElem?_eq_getElem hj]
      rfl
    have e1 : IntKind.u64.wrap (le (t.drop (j + 1)) * 256) = le (t.drop (j + 1)) * 256 := wr_id (by unfold U at *; omega)
    have e2 : IntKind.u64.wrap t[j] = t[j] := wr_id (by unfold U; omega)
    have e3 : IntKind.u64.wrap (le (t.drop (j + 1)) * 256 + t[j]) = le (t.drop j) := by rw [wr_id (by unfold U at *; omega), ed]; omega
    have e4 : wrap64 ((((j + 1 : Nat) : Int)) - 1 - 1) = (j : Int) - 1 := by unfold wrap64; omega
    rw [show j + 1 + k + 1 = (j + k + 1) + 1 by omega, turnstileref11_Cut_Number.l0, if_pos (by omega), ex, if_pos (by omega), if_pos (by omega), er, e1, e2, e3, e4]
    exact num_loop hx hl hn h8 ht k j (by omega)
theorem N_ok {xs pre t ys : List Int} {n : Nat} {a : Int} (hx : xs = pre ++ (t ++ ys)) (ha : a = pre.length) (hl : xs.length ≤ 140737488355328) (hn : t.length = n) (h8 : n ≤ 8) (ht : By t) (k : Nat) :
    turnstileref11_Cut_Number.f (k + 12) xs a false (n : Int) = some (le t, a + n, false) := by
  subst ha
  have hp : pre.length + n + ys.length = xs.length := by rw [hx]; simp; omega
  unfold turnstileref11_Cut_Number.f
  rw [if_neg (by simp), show wrap64 ((xs.length : Int) - (pre.length : Int)) = ((n + ys.length : Nat) : Int) by unfold wrap64; omega, turnstileref11_Cut_Number.j0, if_neg (by simp; omega)]
  have := num_loop hx hl hn h8 ht (k + 10 - n) n (Nat.le_refl _)
  rw [List.drop_of_length_le (by omega), show n + (k + 10 - n) + 1 = k + 11 by omega] at this
  rw [show wrap64 ((n : Int) - 1) = (n : Int) - 1 by unfold wrap64; omega]
  exact this
theorem N_short {xs pre ys : List Int} {n : Nat} {a : Int} (hx : xs = pre ++ ys) (ha : a = pre.length) (hl : xs.length ≤ 140737488355328) (hn : ys.length < n) (k : Nat) :
    turnstileref11_Cut_Number.f (k + 1) xs a false (n : Int) = some (0, a, true) := by
  subst ha
  have hp : pre.length + ys.length = xs.length := by rw [hx]; simp
  unfold turnstileref11_Cut_Number.f
  rw [if_neg (by simp), show wrap64 ((xs.length : Int) - (pre.length : Int)) = ((ys.length : Nat) : Int) by unfold wrap64; omega, turnstileref11_Cut_Number.j0, if_pos (by simp; omega)]
theorem N_stick (xs : List Int) (a n : Int) (k : Nat) : turnstileref11_Cut_Number.f (k + 1) xs a true n = some (0, a, true) := by
  unfold turnstileref11_Cut_Number.f
  rw [if_pos rfl, turnstileref11_Cut_Number.j0, if_pos rfl]
theorem T_short {xs pre ys : List Int} {a : Int} (hx : xs = pre ++ ys) (ha : a = pre.length) (hl : xs.length ≤ 140737488355328) (hn : ys.length < 2) (k : Nat) :
    turnstileref11_Cut_Text.f (k + 1) xs a false = some ((⟨#[]⟩ : ByteArray), a, true) := by
  unfold turnstileref11_Cut_Text.f
  rw [show (2 : Int) = ((2 : Nat) : Int) from rfl, N_short hx ha hl hn, Option.bind_some]
  simp [turnstileref11_Cut_Text.g]
theorem T_short2 {xs pre t u : List Int} {a : Int} (hx : xs = pre ++ (t ++ u)) (ha : a = pre.length) (hl : xs.length ≤ 140737488355328) (hn : t.length = 2) (ht : By t) (hm : (u.length : Int) < le t) (k : Nat) :
    turnstileref11_Cut_Text.f (k + 12) xs a false = some ((⟨#[]⟩ : ByteArray), a + 2, true) := by
  have hr := le_range t ht
  rw [hn] at hr
  have hp : pre.length + 2 + u.length = xs.length := by rw [hx]; simp; omega
  unfold turnstileref11_Cut_Text.f
  rw [show (2 : Int) = ((2 : Nat) : Int) from rfl, N_ok hx ha hl hn (by omega) ht, Option.bind_some]
  subst ha
  unfold turnstileref11_Cut_Text.g
  simp only
  rw [if_neg (by simp), if_pos (by unfold wrap64; omega)]
theorem T_ok {xs pre t u ys : List Int} {a : Int} (hx : xs = pre ++ (t ++ (u ++ ys))) (ha : a = pre.length) (hl : xs.length ≤ 140737488355328) (hn : t.length = 2) (ht : By t) (hm : (u.length : Int) = le t) (k : Nat) :
    turnstileref11_Cut_Text.f (k + 12) xs a false = some (strOfNums u, a + 2 + u.length, false) := by
  have hr := le_range t ht
  rw [hn] at hr
  have hp : pre.length + 2 + (u.length + ys.length) = xs.length := by rw [hx]; simp; omega
  unfold turnstileref11_Cut_Text.f
  rw [show (2 : Int) = ((2 : Nat) : Int) from rfl, N_ok hx ha hl hn (by omega) ht, Option.bind_some]
  subst ha
  unfold turnstileref11_Cut_Text.g
  simp only
  have w1 : wrap64 (le t) = le t := by unfold wrap64; omega
  have w2 : wrap64 ((pre.length : Int) + ((2 : Nat) : Int) + le t) = ((pre.length + 2 + u.length : Nat) : Int) := by unfold wrap64; omega
  rw [if_neg (by simp), w1, w2, if_neg (by unfold wrap64; omega), if_pos ⟨by omega, by omega, by omega⟩]
  have hc : (xs.take ((pre.length + 2 + u.length : Nat) : Int).toNat).drop ((pre.length : Int) + ((2 : Nat) : Int)).toNat = u := by
    rw [Int.toNat_natCast, show ((pre.length : Int) + ((2 : Nat) : Int)).toNat = (pre ++ t).length by rw [List.length_append]; omega,
      show pre.length + 2 + u.length = (pre ++ t ++ u).length by simp only [List.length_append]; omega, hx, show pre ++ (t ++ (u ++ ys)) = (pre ++ t ++ u) ++ ys by simp, List.take_left, List.drop_left]
  rw [hc]
  simp
/-- A number ahead: read, or too few bytes. -/
theorem num_cases (xs pre ys : List Int) {a : Int} (hx : xs = pre ++ ys) (ha : a = pre.length) (hl : xs.length ≤ 140737488355328) (h : By ys) (k : Nat) :
    (pack_Reader_U64.f ys 0 = some (0, ys, 2) ∧ turnstileref11_Cut_Number.f (k + 12) xs a false 8 = some (0, a, true)) ∨
    ∃ x zs, U x ∧ By zs ∧ ys = putN 8 x ++ zs ∧ pack_Reader_U64.f ys 0 = some (x, zs, 0) ∧ turnstileref11_Cut_Number.f (k + 12) xs a false 8 = some (x, a + 8, false) := by
  rcases split_at ys 8 with hs | ⟨t, zs, rfl, n⟩
  · exact Or.inl ⟨U64_short ys hs, N_short (n := 8) hx ha hl hs (k + 11)⟩
  · have hp := putN_le t h.left
    rw [n] at hp
    exact Or.inr ⟨le t, zs, le_U h.left n, h.right, by rw [hp], U64_ok t zs n, N_ok (n := 8) hx ha hl n (by omega) h.left k⟩
theorem text_cases (xs pre ys : List Int) {a : Int} (hx : xs = pre ++ ys) (ha : a = pre.length) (hl : xs.length ≤ 140737488355328) (h : By ys) (k : Nat) :
    (∃ s zs s' a', pack_Reader_Text.f ys 0 = some (s, zs, 2) ∧ turnstileref11_Cut_Text.f (k + 12) xs a false = some (s', a', true)) ∨
    ∃ s zs, s.size < 65536 ∧ By zs ∧ ys = putN 2 s.size ++ (bytesOf s ++ zs) ∧ pack_Reader_Text.f ys 0 = some (s, zs, 0) ∧ turnstileref11_Cut_Text.f (k + 12) xs a false = some (s, a + 2 + s.size, false) := by
  rcases split_at ys 2 with hs | ⟨t, zs, rfl, n⟩
  · obtain ⟨zs, e⟩ := Text_short ys hs
    exact Or.inl ⟨_, zs, _, _, e, T_short hx ha hl hs (k + 11)⟩
  · have hr := le_range t h.left
    rw [n] at hr
    rcases split_at zs (le t).toNat with hs | ⟨u, ws, rfl, m⟩
    · obtain ⟨vs, e⟩ := Text_short2 t zs n (by omega)
      exact Or.inl ⟨_, vs, _, _, e, T_short2 hx ha hl n h.left (by omega) k⟩
    · have hm : (u.length : Int) = le t := by omega
      have hT := T_ok hx ha hl n h.left hm k
      refine Or.inr ⟨strOfNums u, ws, by rw [str_size]; omega, h.right.right, ?_, Text_ok t u ws n hm, by rw [str_size]; exact hT⟩
      have e := putN_le t h.left
      rw [n] at e
      rw [str_size, hm, e, bytes_str u h.right.left]
theorem num_c (xs pre ys : List Int) {a : Int} (hx : xs = pre ++ ys) (ha : a = pre.length) (hl : xs.length ≤ 140737488355328) (h : By ys) (k : Nat) :
    (image_entry.n ys 0 = (0, ys, 2) ∧ turnstileref11_Cut_Number.f (k + 12) xs a false 8 = some (0, a, true)) ∨
    ∃ x zs, U x ∧ By zs ∧ ys = putN 8 x ++ zs ∧ image_entry.n ys 0 = (x, zs, 0) ∧ turnstileref11_Cut_Number.f (k + 12) xs a false 8 = some (x, a + 8, false) := by
  rcases num_cases xs pre ys hx ha hl h k with ⟨h1, h2⟩ | ⟨x, zs, h1, h2, h3, h4, h5⟩
  · rw [n_f _ (by decide)] at h1
    exact .inl ⟨Option.some.inj h1, h2⟩
  · rw [n_f _ (by decide)] at h4
    exact .inr ⟨x, zs, h1, h2, h3, Option.some.inj h4, h5⟩
theorem text_c (xs pre ys : List Int) {a : Int} (hx : xs = pre ++ ys) (ha : a = pre.length) (hl : xs.length ≤ 140737488355328) (h : By ys) (k : Nat) :
    (∃ s zs s' a', pk_text ys 0 = (s, zs, 2) ∧ turnstileref11_Cut_Text.f (k + 12) xs a false = some (s', a', true)) ∨
    ∃ s zs, s.size < 65536 ∧ By zs ∧ ys = putN 2 s.size ++ (bytesOf s ++ zs) ∧ pk_text ys 0 = (s, zs, 0) ∧ turnstileref11_Cut_Text.f (k + 12) xs a false = some (s, a + 2 + s.size, false) := by
  rcases text_cases xs pre ys hx ha hl h k with ⟨s, zs, s', a', h1, h2⟩ | ⟨s, zs, h1, h2, h3, h4, h5⟩
  · rw [text_f] at h1
    exact .inl ⟨s, zs, s', a', Option.some.inj h1, h2⟩
  · rw [text_f] at h4
    exact .inr ⟨s, zs, h1, h2, h3, Option.some.inj h4, h5⟩
end Go.Proofs.YtkgjepmminmjjaaDoor.M
/- The document's image: its functions compute what package image's do. -/
namespace Go.Proofs.YtkgjepmminmjjaaDoor.M
set_option linter.unusedVariables false
set_option linter.unusedSimpArgs false
open Go.RowKit Go.Proofs.YtkgjepmminmjjaaDoor.E Go.Proofs.YtkgjepmminmjjaaDoorW.PrintWords Go.Proofs.YtkgjepmminmjjaaDoorW.PrintLast Go.Proofs.YtkgjepmminmjjaaDoorW.PrintMore Go.Proofs.YtkgjepmminmjjaaDoorW.PrintShort
/-! ### The sum, bit by bit -/
theorem rstep {x : Nat} (h : x < 4294967296) : turnstileref02_step.f (x : Int) = some ((stepN x : Nat) : Int) := by
  unfold turnstileref02_step.f stepN
  have e1 : Int.tmod (x : Int) 2 = ((x % 2 : Nat) : Int) := by rw [Int.tmod_eq_emod_of_nonneg (by omega)]; omega
  have e2 : (Int.tdiv (x : Int) 2) % 4294967296 = ((x / 2 : Nat) : Int) := by rw [Int.tdiv_eq_ediv_of_nonneg (by omega)]; omega
  rw [e1, e2]
  by_cases c : x % 2 = 1
  · rw [if_pos (by omega), if_pos c]
    have := Go.u32_xor_nat (x / 2) 2197175160 (by omega) (by decide)
    rw [show ((2197175160 : Nat) : Int) = 2197175160 from rfl] at this
    rw [this]
  · rw [if_neg (by omega), if_neg c]
theorem radd_l1 (l : List Int) (i : Int) : ∀ (m j k x : Nat), j + m = 8 → x < 4294967296 → turnstileref02_Add.l1 (m + 1 + k) l (x : Int) i (j : Int) = turnstileref02_Add.l0 k l ((stepsN m x : Nat) : Int) (wrap64 (i + 1))
  | 0, j, k, x, h, hx => by
    rw [show 0 + 1 + k = k + 1 by omega, turnstileref02_Add.l1, if_neg (by omega)]
    rfl
  | m + 1, j, k, x, h, hx => by
    rw [show m + 1 + 1 + k = (m + 1 + k) + 1 by omega, turnstileref02_Add.l1, if_pos (by omega), rstep hx, Option.bind_some, show wrap64 ((j : Int) + 1) = ((j + 1 : Nat) : Int) by unfold wrap64; omega, radd_l1 l i m (j + 1) k _ (by omega) (stepN_lt hx)]
    rfl
theorem xor_lit {x : Nat} (h : x < 4294967296) : Go.bits .xor .u32 4294967295 (x : Int) = ((4294967295 ^^^ x : Nat) : Int) := Go.u32_xor_nat 4294967295 x (by decide) h
theorem crc_step {x c : Nat} {r : List Int} : crcN (stepsN 8 (x ^^^ c)) (r.map Int.toNat) = crcN x (((c : Int) :: r).map Int.toNat) := by
  simp only [List.map_cons, crcN, List.foldl_cons, byteN, Int.toNat_natCast]
theorem radd_l0 (l : List Int) (hb : By l) (hl : l.length ≤ 4611686018427387904) : ∀ (d i k x : Nat), l.length - i = d → i ≤ l.length → x < 4294967296 → 10 * d + 1 ≤ k → turnstileref02_Add.l0 k l (x : Int) (i : Int) = some ((4294967295 ^^^ crcN x ((l.drop i).map Int.toNat) : Nat) : Int)
  | 0, i, k, x, hd, hi, hx, hk => by
    obtain ⟨k, rfl⟩ : ∃ q, k = q + 1 := ⟨k - 1, by omega⟩
    have p1 : ¬ (i : Int) < (l.length : Int) := by omega
    have p2 : l.length ≤ i := by omega
    rw [turnstileref02_Add.l0, if_neg p1, List.drop_eq_nil_of_le p2, xor_lit hx]
    rfl
  | d + 1, i, k, x, hd, hi, hx, hk => by
    obtain ⟨k, rfl⟩ : ∃ q, k = 8 + 1 + q + 1 := ⟨k - 10, by omega⟩
    have hlt : i < l.length := by omega
    have p1 : (i : Int) < (l.length : Int) := by omega
    have p0 : (0 : Int) ≤ (i : Int) := by omega
    have q1 : l.length - (i + 1) = d := by omega
    have q2 : i + 1 ≤ l.length := by omega
    have q3 : 10 * d + 1 ≤ k := by omega
    have hw : wrap64 ((i : Int) + 1) = ((i + 1 : Nat) : Int) := by unfold wrap64; omega
    have hb1 := hb _ (List.getElem_mem hlt)
    obtain ⟨c, hc⟩ := Int.eq_ofNat_of_zero_le hb1.1
    have hc2 : c < 256 := by rw [hc] at hb1; omega
    have hc3 : c < 4294967296 := by omega
    have hm : ((c : Int) % 4294967296) = (c : Int) := by omega
    clear hb1 hc2
    have hx2 : x ^^^ c < 4294967296 := Nat.xor_lt_two_pow (n := 32) hx hc3
    have ih := radd_l0 l hb hl d (i + 1) k (stepsN 8 (x ^^^ c)) q1 q2 (stepsN_lt 8 hx2) q3
    have hdr := List.drop_eq_getElem_cons hlt
    rw [hc] at hdr
    rw [crc_step, ← hdr] at ih
    have h1 := radd_l1 l (i : Int) 8 0 k (x ^^^ c) rfl hx2
    rw [show ((0 : Nat) : Int) = 0 from rfl, hw, ih] at h1
    have e : rd l (i : Int) = (c : Int) := by rw [← hc]; unfold rd; simp [List.getD_eq_getElem?_getD, List.getElem?_eq_getElem hlt]
    rw [turnstileref02_Add.l0, if_pos p1, if_pos p0, e, hm, Go.u32_xor_nat _ _ hx hc3]
    exact h1
theorem rsum {l : List Int} (hb : By l) (hl : l.length ≤ 4611686018427387904) (k : Nat) (hk : 10 * l.length + 1 ≤ k) : turnstileref02_Sum.f k l = some (crcI l) := by
  unfold turnstileref02_Sum.f turnstileref02_Add.f
  have h1 : Go.bits .xor .u32 4294967295 0 = ((4294967295 : Nat) : Int) := by decide +kernel
  have h2 := radd_l0 l hb hl l.length 0 k 4294967295 rfl (by omega) (by decide) hk
  rw [show ((0 : Nat) : Int) = 0 from rfl, List.drop_zero] at h2
  rw [h1, h2, Option.bind_some]
  rfl
/-! ### Encode -/
theorem aput_go : ∀ (m k i n : Nat) (l : List Int) (x : Int), i + m = n → n ≤ 8 → U x → l.length + m ≤ 140737488355328 → turnstileref11_Put.l0 (m + k + 1) l x (n : Int) (i : Int) = some (l ++ putN m x)
  | 0, k, i, n, l, x, h, _, _, _ => by
    rw [turnstileref11_Put.l0, if_neg (by omega)]
    simp [putN]
  | m + 1, k, i, n, l, x, h, hn, hx, hl => by
    have h0 := hx.1
    have h1 := hx.2
    have e1 : (Int.tmod x 256) % 256 = x % 256 := by rw [Int.tmod_eq_emod_of_nonneg h0]; omega
    have hd : U (x / 256) := by unfold U; omega
    have e2 : IntKind.u64.wrap (Int.tdiv x 256) = x / 256 := by rw [Int.tdiv_eq_ediv_of_nonneg h0]; exact wr_id hd
    have e3 : wrap64 ((i : Int) + 1) = ((i + 1 : Nat) : Int) := by unfold wrap64; omega
    rw [show m + 1 + k + 1 = (m + k + 1) + 1 by omega, turnstileref11_Put.l0, if_pos (by omega), if_pos (by omega), e1, e2, e3,
      aput_go m k (i + 1) n _ _ (by omega) hn hd (by rw [List.length_append]; simp only [List.length_cons, List.length_nil]; omega)]
    simp [putN]
theorem APut (n : Nat) (hn : n ≤ 8) {l : List Int} {x : Int} (hx : U x) (hl : l.length ≤ 140737488355320) (k : Nat) (hk : n + 1 ≤ k) : turnstileref11_Put.f k l x (n : Int) = some (l ++ putN n x) := by
  unfold turnstileref11_Put.f
  obtain ⟨q, rfl⟩ : ∃ q, k = n + q + 1 := ⟨k - n - 1, by omega⟩
  exact aput_go n q 0 n l x (by omega) hn hx (by omega)
theorem APut8 {l : List Int} {x : Int} (hx : U x) (hl : l.length ≤ 140737488355320) (k : Nat) (hk : 9 ≤ k) : turnstileref11_Put.f k l x 8 = some (l ++ putN 8 x) := APut 8 (by decide) hx hl k hk
theorem APut4 {l : List Int} {x : Int} (hx : U x) (hl : l.length ≤ 140737488355320) (k : Nat) (hk : 5 ≤ k) : turnstileref11_Put.f k l x 4 = some (l ++ putN 4 x) := APut 4 (by decide) hx hl k hk
theorem APut2 {l : List Int} {x : Int} (hx : U x) (hl : l.length ≤ 140737488355320) (k : Nat) (hk : 3 ≤ k) : turnstileref11_Put.f k l x 2 = some (l ++ putN 2 x) := APut 2 (by decide) hx hl k hk
theorem abt_get (s : ByteArray) (i : Nat) (h : i < (bytesOf s).length) : bt s (i : Int) = (bytesOf s)[i] := by
  have h2 : i < s.size := by rwa [bytesOf_length] at h
  have e : (bytesOf s)[i]? = some (bt s (i : Int)) := by
    rw [bt_get s i h2]
    unfold bytesOf
    rw [List.getElem?_map, List.getElem?_eq_getElem (by simpa using h2)]
    rfl
  exact (Option.some.inj ((List.getElem?_eq_getElem h).symm.trans e)).symm
theorem atext_go (s : ByteArray) (hs : s.size ≤ 64) : ∀ (m k i : Nat) (l : List Int), i + m = s.size → l.length + m ≤ 140737488355328 → turnstileref11_PutText.l0 (m + k + 1) l s (i : Int) = some (l ++ (bytesOf s).drop i)
  | 0, k, i, l, h, _ => by
    rw [turnstileref11_PutText.l0, if_neg (by omega), List.drop_of_length_le (by rw [bytesOf_length]; omega), List.append_nil]
  | m + 1, k, i, l, h, hl => by
    have hi : i < (bytesOf s).length := by rw [bytesOf_length]; omega
    have e3 : wrap64 ((i : Int) + 1) = ((i + 1 : Nat) : Int) := by unfold wrap64; omega
    rw [show m + 1 + k + 1 = (m + k + 1) + 1 by omega, turnstileref11_PutText.l0, if_pos (by omega), if_pos (by omega), if_pos (by omega), e3, abt_get s i hi,
      atext_go s hs m k (i + 1) _ (by omega) (by rw [List.length_append]; simp only [List.length_cons, List.length_nil]; omega), List.drop_eq_getElem_cons hi]
    simp
theorem APutText {l : List Int} {s : ByteArray} (hs : s.size ≤ 64) (hl : l.length ≤ 140737488355000) (k : Nat) (hk : 70 ≤ k) : turnstileref11_PutText.f k l s = some (l ++ (putN 2 s.size ++ bytesOf s)) := by
  unfold turnstileref11_PutText.f
  have e : IntKind.u64.wrap (s.size : Int) = s.size := wr_id ⟨by omega, by omega⟩
  rw [e, APut2 ⟨by omega, by omega⟩ (by omega) k (by omega), Option.bind_some]
  obtain ⟨q, rfl⟩ : ∃ q, k = s.size + q + 1 := ⟨k - s.size - 1, by omega⟩
  have := atext_go s hs s.size q 0 (l ++ putN 2 s.size) (by omega) (by rw [List.length_append, putN_length]; omega)
  rw [List.drop_zero, List.append_assoc] at this
  exact this
theorem renc_go (a b : Int) (l : List S79) (hll : l.length ≤ 4096) (hv : ∀ E ∈ l, VE E) (hu : ∀ E ∈ l, EU E) : ∀ (d i k : Nat) (acc : List Int), l.length - i = d → i ≤ l.length → By acc → acc.length + 99 * d ≤ 4000000 → d + 10 * (acc.length + 99 * d) + 100 ≤ k →
    turnstileref14_Encode.l0 k acc (i : Int) a b l = some (fin (acc ++ encs (l.drop i)), 0)
  | 0, i, k, acc, hd, hi, hb, hal, hk => by
    obtain ⟨k, rfl⟩ : ∃ q, k = q + 1 := ⟨k - 1, by omega⟩
    have hc := crcI_range hb
    have e : IntKind.u64.wrap (crcI acc) = crcI acc := wr_id ⟨hc.1, by omega⟩
    rw [turnstileref14_Encode.l0, if_neg (by omega), rsum hb (by omega) k (by omega), Option.bind_some, e, APut4 ⟨hc.1, by omega⟩ (by omega) k (by omega), Option.bind_some, List.drop_eq_nil_of_le (by omega), encs, List.append_nil]
    rfl
  | d + 1, i, k, acc, hd, hi, hb, hal, hk => by
    obtain ⟨k, rfl⟩ : ∃ q, k = q + 1 := ⟨k - 1, by omega⟩
    have hlt : i < l.length := by omega
    have e : rd_T79 l (i : Int) = l[i] := by unfold rd_T79; simp [List.getD_eq_getElem?_getD, List.getElem?_eq_getElem hlt]
    have hm := List.getElem_mem hlt
    have hdr := List.drop_eq_getElem_cons hlt
    generalize l[i] = E at *
    have hV := hv E hm
    have hU := hu E hm
    have hsz := hV.2.1
    have hEl := encE_len E hsz
    have hEb := By_encE E
    have hw : wrap64 ((i : Int) + 1) = ((i + 1 : Nat) : Int) := by unfold wrap64; omega
    have nxt := renc_go a b l hll hv hu d (i + 1) k (acc ++ encE E) (by omega) (by omega) (hb.append hEb) (by rw [List.length_append]; omega) (by rw [List.length_append]; omega)
    have hfin : acc ++ encE E ++ encs (l.drop (i + 1)) = acc ++ encs (l.drop i) := by rw [hdr, encs, List.append_assoc]
    rw [hfin] at nxt
    have n1 : (acc ++ (putN 2 E.f0.size ++ bytesOf E.f0)).length ≤ acc.length + 66 := by simp only [List.length_append, putN_length, bytesOf_length]; omega
    rw [turnstileref14_Encode.l0, if_pos (by omega), if_pos (by omega), e, hw, APutText hsz (by omega) k (by omega), Option.bind_some]
    generalize hA1 : acc ++ (putN 2 E.f0.size ++ bytesOf E.f0) = A1 at *
    unfold turnstileref11_PutPolicy.f
    have n2 : (A1 ++ [E.f1.f0 % 256]).length ≤ acc.length + 67 := by rw [List.length_append]; simp only [List.length_cons, List.length_nil]; omega
    rw [if_pos (by omega), Option.bind_some]
    generalize hA2 : A1 ++ [E.f1.f0 % 256] = A2 at *
    have n3 : ∀ x : Int, (A2 ++ putN 8 x).length ≤ acc.length + 75 := fun x => by rw [List.length_append, putN_length]; omega
    have n4 : ∀ x y : Int, (A2 ++ putN 8 x ++ putN 8 y).length ≤ acc.length + 83 := fun x y => by rw [List.length_append, putN_length]; have := n3 x; omega
    have n5 : ∀ x y z : Int, (A2 ++ putN 8 x ++ putN 8 y ++ putN 8 z).length ≤ acc.length + 91 := fun x y z => by rw [List.length_append, putN_length]; have := n4 x y; omega
    rcases hV.2.2 with ⟨k1, _⟩ | ⟨k2, _⟩
    · rw [if_pos k1, APut8 hU.gap (by omega) k (by omega), Option.bind_some, APut8 hU.slack (by have := n3 E.f1.f1; omega) k (by omega), Option.bind_some, Option.bind_some, if_pos k1, APut8 hU.tat (by have := n4 E.f1.f1 E.f1.f2; omega) k (by omega), Option.bind_some]
      have he : A2 ++ putN 8 E.f1.f1 ++ putN 8 E.f1.f2 ++ putN 8 E.f2.f0 = acc ++ encE E := by
        rw [← hA2, ← hA1]
        unfold encE nums
        rw [if_neg (by omega)]
        simp [puts]
      rw [he]
      exact nxt
    · rw [if_neg (by omega), APut8 hU.lim (by omega) k (by omega), Option.bind_some, APut8 hU.span (by have := n3 E.f1.f3; omega) k (by omega), Option.bind_some, Option.bind_some, if_neg (by omega), APut8 hU.ix (by have := n4 E.f1.f3 E.f1.f4; omega) k (by omega), Option.bind_some, APut8 hU.cnt (by have := n5 E.f1.f3 E.f1.f4 E.f2.f1; omega) k (by omega), Option.bind_some]
      have he : A2 ++ putN 8 E.f1.f3 ++ putN 8 E.f1.f4 ++ putN 8 E.f2.f1 ++ putN 8 E.f2.f2 = acc ++ encE E := by
        rw [← hA2, ← hA1]
        unfold encE nums
        rw [if_pos k2]
        simp [puts]
      rw [he]
      exact nxt
theorem renc_ok {a b : Int} {l : List S79} (ha : U a) (hb : U b) (hl : l.length ≤ 4096) (hv : ∀ E ∈ l, VE E) (hu : ∀ E ∈ l, EU E) (hV : valB a l = true) (k : Nat) (hk : 5000000 ≤ k) : turnstileref14_Encode.f k a b l = some (imgS a b l, 0) := by
  unfold turnstileref14_Encode.f
  have hm : IntKind.u64.wrap (l.length : Int) = l.length := wr_id ⟨by omega, by omega⟩
  rw [rvalid_B a b l k (by omega), hV, Option.bind_some, if_pos rfl, APut8 ha (by simp) k (by omega), Option.bind_some, APut8 hb (by simp [putN_length]) k (by omega), Option.bind_some, hm, APut4 ⟨by omega, by omega⟩ (by simp [putN_length]) k (by omega), Option.bind_some]
  have h := renc_go a b l hl hv hu l.length 0 k ([84, 73, 48, 49] ++ putN 8 a ++ putN 8 b ++ putN 4 (l.length : Int)) (by omega) (by omega)
    (((By.append (by intro x hx; simp at hx; omega) (By_putN 8 a)).append (By_putN 8 b)).append (By_putN 4 _)) (by simp [putN_length]; omega) (by simp [putN_length]; omega)
  rw [show ((0 : Nat) : Int) = 0 from rfl, List.drop_zero] at h
  rw [h]
  unfold imgS bodyS
  simp [List.append_assoc]
theorem renc_no {a b : Int} {l : List S79} (hV : valB a l = false) (k : Nat) (hk : 9000 ≤ k) : turnstileref14_Encode.f k a b l = some ([], 1) := by
  unfold turnstileref14_Encode.f
  rw [rvalid_B a b l k hk, hV, Option.bind_some, if_neg (by decide)]
/-! ### Decode -/
theorem wb1 {b : Int} (h : 0 ≤ b ∧ b < 256) : wrap64 b = b := by unfold wrap64; omega
theorem one_ok {xs pre ys : List Int} {b a : Int} (hx : xs = pre ++ b :: ys) (ha : a = pre.length) (hl : xs.length ≤ 140737488355328) (hb : 0 ≤ b ∧ b < 256) (k : Nat) : turnstileref11_Cut_Number.f (k + 12) xs a false 1 = some (b, a + 1, false) := by
  have h := N_ok (n := 1) (t := [b]) (ys := ys) (pre := pre) (a := a) (xs := xs) (by simpa using hx) ha hl rfl (by omega) (fun x hx => by rw [List.mem_singleton.1 hx]; exact hb) k
  rw [show le [b] = b by simp [le]] at h
  exact h
theorem one_nil {xs pre : List Int} {a : Int} (hx : xs = pre) (ha : a = pre.length) (hl : xs.length ≤ 140737488355328) (k : Nat) : turnstileref11_Cut_Number.f (k + 1) xs a false 1 = some (0, a, true) :=
  N_short (n := 1) (ys := []) (pre := pre) (by simpa using hx) ha hl (by simp) k
theorem u8_ok_ (t r : List Int) (ht : t.length = 8) (hb : By t) : image_entry.n (t ++ r) 0 = (le t, r, 0) := by
  have h := U64_ok t r ht
  rw [n_f _ (by decide)] at h
  exact Option.some.inj h
/-- An entry, as the document reads it. -/
theorem rentry (xs pre ys : List Int) {a : Int} (hx : xs = pre ++ ys) (ha : a = pre.length) (hl : xs.length ≤ 140737488355328) (h : By ys) (k : Nat) :
    ((image_entry.r ys).1 = 0 ∧ ∃ pre' a', xs = pre' ++ (image_entry.r ys).2.2 ∧ a' = (pre'.length : Int) ∧
      turnstileref14_entry.f (k + 20) xs a false = some ((image_entry.r ys).2.1.f0, (image_entry.r ys).2.1.f1.f0, (image_entry.r ys).2.1.f1.f1, (image_entry.r ys).2.1.f1.f2, (image_entry.r ys).2.1.f1.f3, (image_entry.r ys).2.1.f1.f4, (image_entry.r ys).2.1.f2.f0, (image_entry.r ys).2.1.f2.f1, (image_entry.r ys).2.1.f2.f2, 0, a', false)) ∨
    ((image_entry.r ys).1 ≠ 0 ∧ ∃ k0 c0 c1 c2 c3 c4 d0 d1 d2 a' s', turnstileref14_entry.f (k + 20) xs a false = some (k0, c0, c1, c2, c3, c4, d0, d1, d2, (image_entry.r ys).1, a', s')) := by
  have stick : ∀ (m : Nat) (x : Int), turnstileref11_Cut_Number.f (m + 12) xs x true 8 = some (0, x, true) := fun m x => N_stick xs x 8 (m + 11)
  unfold turnstileref14_entry.f image_entry.r
  dsimp only
  rw [show k + 20 = (k + 8) + 12 by omega]
  rcases text_c xs pre ys hx ha hl h (k + 8) with ⟨s, zs, s', a', e1, e2⟩ | ⟨s, zs, hs, hz, rfl, e1, e2⟩
  · rw [e1, e2, Option.bind_some]
    dsimp only
    rw [k_bad, show (1 : Int) = ((1 : Nat) : Int) from rfl, N_stick xs a' _ (k + 8 + 11), Option.bind_some]
    dsimp only
    rw [if_pos rfl, if_pos (by decide)]
    exact .inr ⟨(by show (2 : Int) ≠ 0; decide), _, _, _, _, _, _, _, _, _, _, _, rfl⟩
  rw [e1, e2, Option.bind_some]
  dsimp only
  have h2 : xs = (pre ++ (putN 2 s.size ++ bytesOf s)) ++ zs := by rw [hx]; simp
  have a2 : a + 2 + (s.size : Int) = ((pre ++ (putN 2 s.size ++ bytesOf s)).length : Int) := by simp only [List.length_append, putN_length, bytesOf_length]; omega
  generalize pre ++ (putN 2 s.size ++ bytesOf s) = P at h2 a2
  generalize a + 2 + (s.size : Int) = A at a2 ⊢
  cases zs with
  | nil =>
    rw [k_nil, one_nil (by simpa using h2) a2 hl (k + 8 + 11), Option.bind_some]
    dsimp only
    rw [if_pos rfl, if_pos (by decide)]
    exact .inr ⟨(by show (2 : Int) ≠ 0; decide), _, _, _, _, _, _, _, _, _, _, _, rfl⟩
  | cons b zs =>
    have hb := hz b (by simp)
    have hz2 : By zs := fun x hx => hz x (by simp [hx])
    rw [k_one, one_ok h2 a2 hl hb (k + 8), Option.bind_some]
    dsimp only
    rw [le_one, wb1 hb, if_neg (show ¬ (false = true) by decide), if_neg (show ¬ ¬ (0 : Int) = 0 by decide)]
    have h3 : xs = (P ++ [b]) ++ zs := by rw [h2]; simp
    have a3 : A + 1 = ((P ++ [b]).length : Int) := by rw [List.length_append]; simp only [List.length_cons, List.length_nil]; omega
    generalize P ++ [b] = Q at h3 a3
    generalize A + 1 = B at a3 ⊢
    have step : ∀ (W : List Int) (w : List Int) (C : Int), xs = W ++ w → C = (W.length : Int) → By w → _ := fun W w C hw hc hb => num_c xs W w hw hc hl hb (k + 7)
    have app : ∀ (W w : List Int) (x C : Int), xs = W ++ (putN 8 x ++ w) → C = (W.length : Int) → xs = (W ++ putN 8 x) ++ w ∧ C + 8 = ((W ++ putN 8 x).length : Int) := fun W w x C hw hc => ⟨by rw [hw]; simp, by rw [List.length_append, putN_length]; omega⟩
    by_cases k1 : b = 1
    · subst k1
      rw [if_pos rfl, if_pos rfl, show k + 8 + 12 = (k + 7 + 12) + 1 by omega, turnstileref14_entry.j0, if_neg (by decide)]
      rcases step Q zs B h3 a3 hz2 with ⟨n1, m1⟩ | ⟨x1, y1, u1, b1, rfl, n1, m1⟩
      · rw [n1, m1, Option.bind_some]; dsimp only; rw [n_stick, stick, Option.bind_some]; dsimp only; rw [n_stick]; unfold turnstileref11_Policy.f; rw [if_pos rfl, Option.bind_some, if_pos rfl, stick, Option.bind_some]
        exact .inr ⟨(by show (2 : Int) ≠ 0; decide), _, _, _, _, _, _, _, _, _, _, _, rfl⟩
      obtain ⟨h4, a4⟩ := app _ _ _ _ h3 a3
      generalize Q ++ putN 8 x1 = Q1 at h4 a4
      generalize B + 8 = B1 at a4 m1
      rw [n1, m1, Option.bind_some]; dsimp only
      rcases step Q1 y1 B1 h4 a4 b1 with ⟨n2, m2⟩ | ⟨x2, y2, u2, b2, rfl, n2, m2⟩
      · rw [n2, m2, Option.bind_some]; dsimp only; rw [n_stick]; unfold turnstileref11_Policy.f; rw [if_pos rfl, Option.bind_some, if_pos rfl, stick, Option.bind_some]
        exact .inr ⟨(by show (2 : Int) ≠ 0; decide), _, _, _, _, _, _, _, _, _, _, _, rfl⟩
      obtain ⟨h5, a5⟩ := app _ _ _ _ h4 a4
      generalize Q1 ++ putN 8 x2 = Q2 at h5 a5
      generalize B1 + 8 = B2 at a5 m2
      rw [n2, m2, Option.bind_some]; dsimp only
      unfold turnstileref11_Policy.f
      rw [if_pos rfl, Option.bind_some, if_pos rfl]
      rcases step Q2 y2 B2 h5 a5 b2 with ⟨n3, m3⟩ | ⟨x3, y3, u3, b3, rfl, n3, m3⟩
      · rw [n3, m3, Option.bind_some]
        exact .inr ⟨(by show (2 : Int) ≠ 0; decide), _, _, _, _, _, _, _, _, _, _, _, rfl⟩
      obtain ⟨h6, a6⟩ := app _ _ _ _ h5 a5
      rw [n3, m3, Option.bind_some]
      exact .inl ⟨rfl, _, _, h6, a6, rfl⟩
    · rw [if_neg k1, if_neg k1]
      by_cases k2 : b = 2
      · subst k2
        rw [if_pos rfl, show k + 8 + 12 = (k + 7 + 12) + 1 by omega, turnstileref14_entry.j0, if_neg (by decide)]
        rcases step Q zs B h3 a3 hz2 with ⟨n1, m1⟩ | ⟨x1, y1, u1, b1, rfl, n1, m1⟩
        · rw [n1, m1, Option.bind_some]; dsimp only; rw [n_stick, stick, Option.bind_some]; dsimp only; rw [n_stick]; unfold turnstileref11_Policy.f; rw [if_neg k1, Option.bind_some, if_neg k1, stick, Option.bind_some]; dsimp only; rw [n_stick, stick, Option.bind_some]
          exact .inr ⟨(by show (2 : Int) ≠ 0; decide), _, _, _, _, _, _, _, _, _, _, _, rfl⟩
        obtain ⟨h4, a4⟩ := app _ _ _ _ h3 a3
        generalize Q ++ putN 8 x1 = Q1 at h4 a4
        generalize B + 8 = B1 at a4 m1
        rw [n1, m1, Option.bind_some]; dsimp only
        rcases step Q1 y1 B1 h4 a4 b1 with ⟨n2, m2⟩ | ⟨x2, y2, u2, b2, rfl, n2, m2⟩
        · rw [n2, m2, Option.bind_some]; dsimp only; rw [n_stick]; unfold turnstileref11_Policy.f; rw [if_neg k1, Option.bind_some, if_neg k1, stick, Option.bind_some]; dsimp only; rw [n_stick, stick, Option.bind_some]
          exact .inr ⟨(by show (2 : Int) ≠ 0; decide), _, _, _, _, _, _, _, _, _, _, _, rfl⟩
        obtain ⟨h5, a5⟩ := app _ _ _ _ h4 a4
        generalize Q1 ++ putN 8 x2 = Q2 at h5 a5
        generalize B1 + 8 = B2 at a5 m2
        rw [n2, m2, Option.bind_some]; dsimp only
        unfold turnstileref11_Policy.f
        rw [if_neg k1, Option.bind_some, if_neg k1]
        rcases step Q2 y2 B2 h5 a5 b2 with ⟨n3, m3⟩ | ⟨x3, y3, u3, b3, rfl, n3, m3⟩
        · rw [n3, m3, Option.bind_some]; dsimp only; rw [n_stick, stick, Option.bind_some]
          exact .inr ⟨(by show (2 : Int) ≠ 0; decide), _, _, _, _, _, _, _, _, _, _, _, rfl⟩
        obtain ⟨h6, a6⟩ := app _ _ _ _ h5 a5
        generalize Q2 ++ putN 8 x3 = Q3 at h6 a6
        generalize B2 + 8 = B3 at a6 m3
        rw [n3, m3, Option.bind_some]; dsimp only
        rcases step Q3 y3 B3 h6 a6 b3 with ⟨n4, m4⟩ | ⟨x4, y4, u4, b4, rfl, n4, m4⟩
        · rw [n4, m4, Option.bind_some]
          exact .inr ⟨(by show (2 : Int) ≠ 0; decide), _, _, _, _, _, _, _, _, _, _, _, rfl⟩
        obtain ⟨h7, a7⟩ := app _ _ _ _ h6 a6
        rw [n4, m4, Option.bind_some]
        exact .inl ⟨rfl, _, _, h7, a7, rfl⟩
      · rw [if_neg k2, show k + 8 + 12 = (k + 7 + 12) + 1 by omega, turnstileref14_entry.j0, if_pos (by simpa using k2)]
        exact .inr ⟨(by show (3 : Int) ≠ 0; decide), _, _, _, _, _, _, _, _, _, _, _, rfl⟩
/-- What the loop over the entries comes to. -/
def tellD (a b : Int) (t : Int × List S79 × List Int) : Int × Int × List S79 × Int := if t.1 = 0 then (if 0 < t.2.2.length then (0, 0, [], 3) else if valB a t.2.1 = true then (a, b, t.2.1, 0) else (0, 0, [], 3)) else (0, 0, [], t.1)
theorem S79_eta (E : S79) : (⟨E.f0, (⟨E.f1.f0, E.f1.f1, E.f1.f2, E.f1.f3, E.f1.f4⟩ : S28), (⟨E.f2.f0, E.f2.f1, E.f2.f2⟩ : S30)⟩ : S79) = E := rfl
theorem rloop (x0 xs : List Int) (hx0 : wrap64 ((x0.length : Int) - 4) = (xs.length : Int)) (hl : xs.length ≤ 140737488355328) (n : Nat) (hn : n ≤ 4096) (A B : Int) : ∀ (d i k : Nat) (ys pre : List Int) (a : Int) (acc : List S79), n - i = d → i ≤ n → xs = pre ++ ys → a = pre.length → By ys → acc.length = i → d + 9100 ≤ k →
    turnstileref14_Decode.l0 k x0 (n : Int) (i : Int) xs a false A B acc = some (tellD A B (image_whole.go d ys acc))
  | 0, i, k, ys, pre, a, acc, hd, hi, hx, ha, hb, hacc, hk => by
    obtain ⟨k, rfl⟩ : ∃ q, k = q + 1 := ⟨k - 1, by omega⟩
    have hlen : xs.length = pre.length + ys.length := by rw [hx, List.length_append]
    rw [turnstileref14_Decode.l0, if_neg (by omega), rvalid_B A B acc k (by omega), Option.bind_some, hx0]
    unfold tellD image_whole.go
    dsimp only
    rw [if_pos rfl]
    by_cases c : 0 < ys.length
    · rw [if_neg (by omega), if_pos c]
    · rw [if_pos (by omega), if_neg c]
      split <;> rfl
  | d + 1, i, k, ys, pre, a, acc, hd, hi, hx, ha, hb, hacc, hk => by
    obtain ⟨k, rfl⟩ : ∃ q, k = (q + 20) + 1 := ⟨k - 21, by omega⟩
    have hw : IntKind.u64.wrap ((i : Int) + 1) = ((i + 1 : Nat) : Int) := by rw [wr_id ⟨by omega, by omega⟩]; omega
    rw [turnstileref14_Decode.l0, if_pos (by omega)]
    unfold image_whole.go
    rcases rentry xs pre ys hx ha hl hb k with ⟨h0, pre', a', hx', ha', he⟩ | ⟨h0, k0, c0, c1, c2, c3, c4, d0, d1, d2, a', s', he⟩
    · have hb' : By (image_entry.r ys).2.2 := by
        rcases entry_form ys hb with ⟨_, _, h, _⟩ | h | h
        · exact h
        · omega
        · omega
      rw [he, Option.bind_some, if_pos h0]
      dsimp only
      rw [if_pos rfl, if_pos (by omega), hw, S79_eta]
      exact rloop x0 xs hx0 hl n hn A B d (i + 1) (k + 20) _ pre' a' _ (by omega) (by omega) hx' ha' hb' (by rw [List.length_append]; simp only [List.length_cons, List.length_nil]; omega) (by omega)
    · rw [he, Option.bind_some, if_neg h0]
      dsimp only
      rw [if_neg h0]
      unfold tellD
      dsimp only
      rw [if_neg h0]
theorem getD_take4 {l : List Int} (h : 4 ≤ l.length) : l.take 4 = [rd l 0, rd l 1, rd l 2, rd l 3] := by
  match l, h with
  | a :: b :: c :: d :: r, _ => rfl
/-- The document's 'Decode' answers as package image's, the faults as the document numbers them. -/
theorem rdec (xs : List Int) (h : By xs) (hl : xs.length ≤ 140737488355328) (k : Nat) (hk : 20000 + 10 * xs.length ≤ k) :
    ∃ a b l e, image_Decode.f xs = some (a, b, l, e) ∧ turnstileref14_Decode.f k xs = some (a, b, l, if e = 6 then 5 else e) ∧ (e = 0 ∨ e = 2 ∨ e = 3 ∨ e = 6) ∧ l.length ≤ 4096 := by
  obtain ⟨k, rfl⟩ : ∃ q, k = q + 12 + 1 := ⟨k - 13, by omega⟩
  unfold turnstileref14_Decode.f image_Decode.f
  rw [if_pos ⟨hl, all_By h⟩]
  by_cases h28 : xs.length < 28
  · rw [if_pos h28, if_pos (show (xs.length : Int) < 28 by omega)]
    exact ⟨_, _, _, _, rfl, rfl, by decide, by simp⟩
  rw [if_neg h28, if_neg (show ¬ (xs.length : Int) < 28 by omega), if_pos (show (0 : Int) < (xs.length : Int) by omega)]
  have h4 : By (xs.take 4) := fun x hx => h x (List.mem_of_mem_take hx)
  have bad : xs.take 4 ≠ [84, 73, 48, 49] → ((strOfNums (xs.take 4)).toList == [84, 73, 48, 49]) = false := fun hne => by
    cases hm : ((strOfNums (xs.take 4)).toList == [84, 73, 48, 49]) with
    | false => rfl
    | true => exact absurd (magic_of h4 hm) hne
  have hg4 := getD_take4 (l := xs) (by omega)
  have odd : xs.take 4 ≠ [84, 73, 48, 49] → ∃ a b l e, (if ((strOfNums (xs.take 4)).toList == [84, 73, 48, 49]) = false then some ((0 : Int), (0 : Int), ([] : List S79), (3 : Int)) else (crc_Sum.f (xs.take (xs.length - 4))).bind fun cv => if (le (pk_take (xs.drop (xs.length - 4)) 0 4).1 != cv) = true then some (0, 0, [], 6) else (image_whole.r ((xs.take (xs.length - 4)).drop 4)).bind fun t => if t.1 = 0 then some (t.2.1, t.2.2.1, t.2.2.2, 0) else some (0, 0, [], t.1)) = some (a, b, l, e) ∧ turnstileref14_Decode.j0 (k + 12 + 1) xs true = some (a, b, l, if e = 6 then 5 else e) ∧ (e = 0 ∨ e = 2 ∨ e = 3 ∨ e = 6) ∧ l.length ≤ 4096 := fun hne => by
    refine ⟨0, 0, [], 3, if_pos (bad hne), ?_, by decide, by simp⟩
    rw [turnstileref14_Decode.j0, if_pos rfl]
    rfl
  by_cases m0 : rd xs 0 = 84
  rotate_left
  · rw [if_neg m0]
    exact odd (fun e => m0 (by rw [hg4] at e; exact (List.cons.inj e).1))
  rw [if_pos m0, if_pos (show (1 : Int) < (xs.length : Int) by omega)]
  by_cases m1 : rd xs 1 = 73
  rotate_left
  · rw [if_neg m1]
    exact odd (fun e => m1 (by rw [hg4] at e; exact (List.cons.inj (List.cons.inj e).2).1))
  rw [if_pos m1, if_pos (show (2 : Int) < (xs.length : Int) by omega)]
  by_cases m2 : rd xs 2 = 48
  rotate_left
  · rw [if_neg m2]
    exact odd (fun e => m2 (by rw [hg4] at e; exact (List.cons.inj (List.cons.inj (List.cons.inj e).2).2).1))
  rw [if_pos m2, if_pos (show (3 : Int) < (xs.length : Int) by omega)]
  by_cases m3 : rd xs 3 = 49
  rotate_left
  · rw [show (rd xs 3 != 49) = true from by simpa using m3]
    exact odd (fun e => m3 (by rw [hg4] at e; exact (List.cons.inj (List.cons.inj (List.cons.inj (List.cons.inj e).2).2).2).1))
  clear odd bad
  rw [show (rd xs 3 != 49) = false from by simp [m3], turnstileref14_Decode.j0, if_neg (show ¬ (false = true) by decide)]
  have e4 : xs.take 4 = [84, 73, 48, 49] := by rw [hg4, m0, m1, m2, m3]
  rw [if_neg (by rw [e4, magic_eq]; decide)]
  obtain ⟨n, hn⟩ : ∃ n, xs.length - 4 = n := ⟨_, rfl⟩
  have hw : wrap64 ((xs.length : Int) - 4) = (n : Int) := by unfold wrap64; omega
  have hbt : By (xs.take n) := fun x hx => h x (List.mem_of_mem_take hx)
  have hbd : By (xs.drop n) := fun x hx => h x (List.mem_of_mem_drop hx)
  have htl : (xs.take n).length = n := by rw [List.length_take]; omega
  have hdl : (xs.drop n).length = 4 := by rw [List.length_drop]; omega
  have hU := u32_ok (xs.drop n) [] hdl
  rw [List.append_nil] at hU
  have hc := crcI_range hbt
  have hcw : IntKind.u64.wrap (crcI (xs.take n)) = crcI (xs.take n) := wr_id ⟨hc.1, by omega⟩
  have hN4 := N_ok (n := 4) (xs := xs) (pre := xs.take n) (t := xs.drop n) (ys := []) (a := (n : Int)) (by rw [List.append_nil, List.take_append_drop]) (by rw [htl]) hl hdl (by omega) hbd k
  rw [hw, if_pos (show (0 : Int) ≤ (n : Int) by omega), if_pos (show (n : Int) ≤ (xs.length : Int) by omega), hn, Int.toNat_natCast, sum_I hbt (by rw [htl]; omega), Option.bind_some, hU]
  unfold turnstileref14_Decode.sm
  rw [show (4 : Int) = ((4 : Nat) : Int) from rfl, hN4, Option.bind_some, Option.bind_some, rsum hbt (by rw [htl]; omega) _ (by rw [htl]; omega), Option.bind_some, hcw]
  dsimp only
  by_cases hs : le (xs.drop n) = crcI (xs.take n)
  rotate_left
  · rw [if_neg hs, if_pos (by simpa using hs)]
    exact ⟨_, _, _, _, rfl, rfl, by decide, by simp⟩
  rw [if_pos hs, if_neg (by simpa using hs)]
  have hmid : xs.take n = [84, 73, 48, 49] ++ (xs.take n).drop 4 := by
    have h1 := (List.take_append_drop 4 (xs.take n)).symm
    rw [List.take_take, Nat.min_eq_left (by omega), e4] at h1
    exact h1
  have hbm : By ((xs.take n).drop 4) := fun x hx => hbt x (List.mem_of_mem_drop hx)
  have hml : ((xs.take n).drop 4).length = n - 4 := by rw [List.length_drop, htl]
  generalize hM : (xs.take n).drop 4 = M at *
  generalize hT : xs.take n = T at *
  have hTl : T.length ≤ 140737488355328 := by omega
  have a0 : ((4 : Nat) : Int) = (([84, 73, 48, 49] : List Int).length : Int) := rfl
  unfold image_whole.r
  dsimp only
  have app : ∀ (W w : List Int) (x C : Int), T = W ++ (putN 8 x ++ w) → C = (W.length : Int) → T = (W ++ putN 8 x) ++ w ∧ C + 8 = ((W ++ putN 8 x).length : Int) := fun W w x C hw hc => ⟨by rw [hw]; simp, by rw [List.length_append, putN_length]; omega⟩
  rcases num_c T _ M hmid a0 hTl hbm k with ⟨n1, _⟩ | ⟨x1, y1, u1, b1, rfl, n1, q1⟩
  · exfalso
    rcases n_cases M hbm with e | ⟨x, ys, _, _, he, e⟩
    · rcases split_at M 8 with hs8 | ⟨t, r, rfl, ht⟩
      · omega
      · have h8 := u8_ok_ t r ht hbm.left
        rw [h8] at e
        have := congrArg (fun z => z.2.2) e
        cases this
    · rw [e] at n1
      have := congrArg (fun z => z.2.2) n1
      cases this
  obtain ⟨t1, a1⟩ := app _ _ _ _ hmid a0
  rw [n1, q1, Option.bind_some]
  dsimp only
  have hl1 : y1.length = n - 12 := by rw [List.length_append, putN_length] at hml; omega
  generalize [84, 73, 48, 49] ++ putN 8 x1 = P1 at t1 a1
  generalize ((4 : Nat) : Int) + 8 = A1 at a1 ⊢
  rcases num_c T P1 y1 t1 a1 hTl b1 k with ⟨n2, _⟩ | ⟨x2, y2, u2, b2, rfl, n2, q2⟩
  · exfalso
    rcases split_at y1 8 with hs8 | ⟨t, r, rfl, ht⟩
    · omega
    · have h8 := u8_ok_ t r ht b1.left
      rw [h8] at n2
      have := congrArg (fun z => z.2.2) n2
      cases this
  obtain ⟨t2, a2⟩ := app _ _ _ _ t1 a1
  rw [n2, q2, Option.bind_some]
  dsimp only
  have hl2 : y2.length = n - 20 := by rw [List.length_append, putN_length] at hl1; omega
  generalize P1 ++ putN 8 x2 = P2 at t2 a2
  generalize A1 + 8 = A2 at a2 ⊢
  rcases split_at y2 4 with hs4 | ⟨t, ys, rfl, ht⟩
  · omega
  have q3 := N_ok (n := 4) t2 a2 hTl ht (by omega) b2.left k
  rw [u32_ok _ _ ht, q3, Option.bind_some]
  dsimp only
  rw [if_neg (by decide)]
  have hr := le_range t b2.left
  obtain ⟨m, hm⟩ := Int.eq_ofNat_of_zero_le hr.1
  rw [hm, Int.toNat_natCast]
  by_cases hbig : 4096 < m
  · rw [if_pos hbig, if_pos (show (m : Int) > 4096 by omega), Option.bind_some]
    dsimp only
    exact ⟨_, _, _, _, if_neg (by decide), rfl, by decide, by simp⟩
  rw [if_neg hbig, if_neg (show ¬ (m : Int) > 4096 by omega)]
  have t3 : T = (P2 ++ t) ++ ys := by rw [t2]; simp
  have a3 : A2 + ((4 : Nat) : Int) = ((P2 ++ t).length : Int) := by rw [List.length_append, ht]; omega
  have hloop := rloop xs T (by rw [hw, htl]) hTl m (by omega) x1 x2 m 0 (k + 12) ys (P2 ++ t) _ [] (by omega) (by omega) t3 a3 b2.right rfl (by omega)
  rw [show ((0 : Nat) : Int) = 0 from rfl] at hloop
  rw [hloop]
  unfold tellD
  rcases go_form m ys [] b2.right with ⟨g0, l, g1, g2, g3, g4, g5⟩ | g0
  · rw [if_neg (show ¬ ¬ (image_whole.go m ys []).1 = 0 by omega), if_pos g0, valid_B, Option.bind_some]
    rw [List.nil_append] at g1
    by_cases hlen : 0 < (image_whole.go m ys []).2.2.length
    · rw [if_pos hlen, if_pos hlen, Option.bind_some]
      dsimp only
      exact ⟨_, _, _, _, if_neg (by decide), rfl, by decide, by simp⟩
    · rw [if_neg hlen, if_neg hlen, g1]
      cases hv : valB x1 l with
      | true =>
        rw [if_pos rfl, if_pos rfl, Option.bind_some]
        dsimp only
        exact ⟨_, _, _, _, if_pos rfl, rfl, by decide, by omega⟩
      | false =>
        rw [if_neg (by decide), if_neg (by decide), Option.bind_some]
        dsimp only
        exact ⟨_, _, _, _, if_neg (by decide), rfl, by decide, by simp⟩
  · rw [if_pos (show ¬ (image_whole.go m ys []).1 = 0 by omega), if_neg (show ¬ (image_whole.go m ys []).1 = 0 by omega), Option.bind_some]
    dsimp only
    refine ⟨0, 0, [], (image_whole.go m ys []).1, if_neg (by omega), ?_, by omega, by simp⟩
    rw [if_neg (by omega)]
end Go.Proofs.YtkgjepmminmjjaaDoor.M
