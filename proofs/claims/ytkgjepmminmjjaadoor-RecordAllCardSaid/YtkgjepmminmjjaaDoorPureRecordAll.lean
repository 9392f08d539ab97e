import Derived.Test.YtkgjepmminmjjaaDoorEx30
import Derived.Test.YtkgjepmminmjjaaDoorEo
import Derived.Test.YtkgjepmminmjjaaDoorMRecR
/- Written by the session's own program hyb.py: what functions of the program compute; Lean checks it. -/
namespace Go.Proofs.YtkgjepmminmjjaaDoor.E
open Go.RowKit Go.ChangeShapes Go.WideShapes
def RecordAll.Pure : Prop := ∀ (l0 : List (S35)), (l0.length ≤ maxLen ∧ l0.length * 128 ≤ 140737488351232 ∧ ∀ y ∈ l0, q35 y) → ∃ k, turnstilelaw11_RecordAll.f k l0 = some true
end Go.Proofs.YtkgjepmminmjjaaDoor.E
namespace Go.Proofs.YtkgjepmminmjjaaDoor.Pure
set_option linter.unusedVariables false
set_option linter.unusedSimpArgs false
open Go.RowKit Go.Proofs.YtkgjepmminmjjaaDoor.E Go.Proofs.YtkgjepmminmjjaaDoor.M Go.Proofs.YtkgjepmminmjjaaDoorW.PrintWords Go.Proofs.YtkgjepmminmjjaaDoorW.PrintLast

theorem By_wf8 {l : List Int} (h : ∀ y ∈ l, (Lit.int .u8 y).wf = true) : By l := fun x hx => by
  have := h x hx
  simp [Lit.wf, IntKind.min, IntKind.max, IntKind.signed, IntKind.bits] at this
  omega
/-- A number ahead: read, or too few bytes. -/
theorem num_cases (xs pre ys : List Int) {a : Int} (hx : xs = pre ++ ys) (ha : a = pre.length) (hl : xs.length ≤ 140737488355328) (h : By ys) (k : Nat) :
    (pack_Reader_U64.f ys 0 = some (0, ys, 2) ∧ turnstileref11_Cut_Number.f (k + 12) xs a false 8 = some (0, a, true)) ∨
    ∃ x zs, U x ∧ By zs ∧ ys = putN 8 x ++ zs ∧ pack_Reader_U64.f ys 0 = some (x, zs, 0) ∧ turnstileref11_Cut_Number.f (k + 12) xs a false 8 = some (x, a + 8, false) := by
  rcases split_at ys 8 with hs | ⟨t, zs, rfl, n⟩
  · exact Or.inl ⟨U64_short ys hs, N_short (n := 8) hx ha hl hs (k + 11)⟩
  · have hp := putN_le t h.left
    rw [n] at hp
    exact Or.inr ⟨le t, zs, le_U h.left n, h.right, by rw [hp], U64_ok t zs n, N_ok (n := 8) hx ha hl n (by omega) h.left k⟩
theorem text_cases (xs pre ys : List Int) {a : Int} (hx : xs = pre ++ ys) (ha : a = pre.length) (hl : xs.length ≤ 140737488355328) (h : By ys) (k : Nat) :
    (∃ s zs s' a', pack_Reader_Text.f ys 0 = some (s, zs, 2) ∧ turnstileref11_Cut_Text.f (k + 12) xs a false = some (s', a', true)) ∨
    ∃ s zs, s.size < 65536 ∧ By zs ∧ ys = putN 2 s.size ++ (bytesOf s ++ zs) ∧ pack_Reader_Text.f ys 0 = some (s, zs, 0) ∧ turnstileref11_Cut_Text.f (k + 12) xs a false = some (s, a + 2 + s.size, false) := by
  rcases split_at ys 2 with hs | ⟨t, zs, rfl, n⟩
  · obtain ⟨zs, e⟩ := Text_short ys hs
    exact Or.inl ⟨_, zs, _, _, e, T_short hx ha hl hs (k + 11)⟩
  · have hr := le_range t h.left
    rw [n] at hr
    rcases split_at zs (le t).toNat with hs | ⟨u, ws, rfl, m⟩
    · obtain ⟨vs, e⟩ := Text_short2 t zs n (by omega)
      exact Or.inl ⟨_, vs, _, _, e, T_short2 hx ha hl n h.left (by omega) k⟩
    · have hm : (u.length : Int) = le t := by omega
      have hT := T_ok hx ha hl n h.left hm k
      refine Or.inr ⟨strOfNums u, ws, by rw [str_size]; omega, h.right.right, ?_, Text_ok t u ws n hm, by rw [str_size]; exact hT⟩
      have e := putN_le t h.left
      rw [n] at e
      rw [str_size, hm, e, bytes_str u h.right.left]
/-- The document's 'Decode' answers as package record's. -/
theorem RefDec (xs : List Int) (h : By xs) (hl : xs.length ≤ 140737488355328) (k : Nat) : turnstileref11_Decode.f (k + 20) xs = dec (k + 20) xs := by
  cases xs with
  | nil =>
    rw [dec_nil]
    unfold turnstileref11_Decode.f
    have h0 := N_short (xs := []) (pre := []) (ys := []) (n := 1) (a := 0) rfl rfl hl (by simp) (k + 19)
    rw [show (1 : Int) = ((1 : Nat) : Int) from rfl, show k + 20 = k + 19 + 1 by omega, h0, Option.bind_some]
    rfl
  | cons b ys =>
  have hbb := h b (List.mem_cons_self ..)
  have hy : By ys := fun x hx => h x (List.mem_cons_of_mem _ hx)
  have h1 := N_ok (xs := b :: ys) (pre := []) (t := [b]) (ys := ys) (n := 1) (a := 0) rfl rfl hl rfl (by omega) (fun x hx => by rw [List.mem_singleton.1 hx]; exact hbb) (k + 8)
  have lb : le [b] = b := by simp [le]
  rw [lb] at h1
  unfold turnstileref11_Decode.f
  rw [show (1 : Int) = ((1 : Nat) : Int) from rfl, show k + 20 = k + 8 + 12 by omega, h1, Option.bind_some]
  simp only
  rw [if_neg (by simp), wb hbb.1 hbb.2]
  by_cases hb : ¬ (b = 1 ∨ b = 2 ∨ b = 3)
  · rw [dec_odd h hl hb]
    by_cases c : b < 1
    · rw [if_pos (by omega), turnstileref11_Decode.j0, if_pos rfl]
      rfl
    · rw [if_neg (by omega), turnstileref11_Decode.j0, if_pos (by simp; omega)]
      rfl
  have hb : b = 1 ∨ b = 2 ∨ b = 3 := Classical.not_not.1 hb
  have bm : b % 256 = b := by omega
  have D := dec_kind h hl hb (k + 8 + 12)
  rw [record_Decode.j0, if_neg (by simp)] at D
  rw [D, if_neg (by omega), turnstileref11_Decode.j0, if_neg (by simp; omega)]
  clear D
  rcases num_cases (b :: ys) [b] ys (a := 0 + ((1 : Nat) : Int)) rfl (by simp) hl hy (k + 7) with ⟨e, e'⟩ | ⟨fl, y1, ufl, by1, rfl, e, e'⟩
  · rw [e, e', Option.bind_some, Option.bind_some]
    simp only
    rw [stickyT, Option.bind_some, show k + 8 + 11 = (k + 18) + 1 by omega, T_stick, Option.bind_some]
    simp only [sticky8, sticky64, Option.bind_some, N_stick, rj1_bad, j1_bad, turnstileref11_Policy.f, ite_self]
  rw [e, e', Option.bind_some, Option.bind_some]
  simp only
  have L2 : ((b :: putN 8 fl).length : Int) = 9 := by simp [putN_length]
  rcases text_cases (b :: (putN 8 fl ++ y1)) (b :: putN 8 fl) y1 (a := 0 + ((1 : Nat) : Int) + 8) rfl (by rw [L2]; rfl) hl by1 (k + 7) with ⟨s, zs, s', a', e, e'⟩ | ⟨s, y2, hs, by2, rfl, e, e'⟩
  · rw [e, e', Option.bind_some, Option.bind_some]
    simp only [sticky8, sticky64, Option.bind_some, show k + 8 + 11 = (k + 18) + 1 by omega, N_stick, rj1_bad, j1_bad, turnstileref11_Policy.f, ite_self]
    try ((repeat' split) <;> simp [rj1_bad, j1_bad])
  rw [e, e', Option.bind_some, Option.bind_some]
  simp only
  have u0 : U 0 := ⟨by decide, by decide⟩
  by_cases k1 : b = 1
  · rw [if_pos k1, if_pos k1]
    cases y2 with
    | nil =>
      have hx : b :: (putN 8 fl ++ (putN 2 s.size ++ (bytesOf s ++ []))) = (b :: (putN 8 fl ++ (putN 2 s.size ++ bytesOf s))) ++ [] := by simp
      have h2 := N_short (n := 1) (a := 0 + ((1 : Nat) : Int) + 8 + 2 + s.size) hx (by simp [putN_length, bytesOf_length]; omega) hl (by simp) (k + 18)
      rw [U8_nil, Option.bind_some, show k + 8 + 11 = k + 18 + 1 by omega, show (1 : Int) = ((1 : Nat) : Int) from rfl, h2, Option.bind_some]
      simp only [sticky64, Option.bind_some, N_stick, rj1_bad, j1_bad, turnstileref11_Policy.f, ite_self]
      try ((repeat' split) <;> simp [rj1_bad, j1_bad])
    | cons p y3 =>
      have hp := by2 p (List.mem_cons_self ..)
      have by3 : By y3 := fun x hx => by2 x (List.mem_cons_of_mem _ hx)
      have hx : b :: (putN 8 fl ++ (putN 2 s.size ++ (bytesOf s ++ p :: y3))) = (b :: (putN 8 fl ++ (putN 2 s.size ++ bytesOf s))) ++ ([p] ++ y3) := by simp
      have h2 := N_ok (n := 1) (a := 0 + ((1 : Nat) : Int) + 8 + 2 + s.size) hx (by simp [putN_length, bytesOf_length]; omega) hl rfl (by omega) (fun x hx => by rw [List.mem_singleton.1 hx]; exact hp) (k + 7)
      rw [show le [p] = p by simp [le]] at h2
      rw [U8_ok, Option.bind_some, show k + 8 + 11 = k + 7 + 12 by omega, show (1 : Int) = ((1 : Nat) : Int) from rfl, h2, Option.bind_some]
      simp only [wb hp.1 hp.2]
      rcases num_cases (b :: (putN 8 fl ++ (putN 2 s.size ++ (bytesOf s ++ p :: y3)))) (b :: (putN 8 fl ++ (putN 2 s.size ++ (bytesOf s ++ [p])))) y3 (a := 0 + ((1 : Nat) : Int) + 8 + 2 + s.size + ((1 : Nat) : Int)) (by simp) (by simp [putN_length, bytesOf_length]; omega) hl by3 (k + 7) with ⟨e, e'⟩ | ⟨a, y4, ua, by4, rfl, e, e'⟩
      · rw [e, e', Option.bind_some, Option.bind_some]
        simp only [sticky64, Option.bind_some, show k + 7 + 12 = (k + 18) + 1 by omega, N_stick, rj1_bad, j1_bad, turnstileref11_Policy.f, ite_self]
        try ((repeat' split) <;> simp [rj1_bad, j1_bad])
      rw [e, e', Option.bind_some, Option.bind_some]
      simp only
      rcases num_cases (b :: (putN 8 fl ++ (putN 2 s.size ++ (bytesOf s ++ p :: (putN 8 a ++ y4))))) (b :: (putN 8 fl ++ (putN 2 s.size ++ (bytesOf s ++ p :: putN 8 a)))) y4 (a := 0 + ((1 : Nat) : Int) + 8 + 2 + s.size + ((1 : Nat) : Int) + 8) (by simp) (by simp [putN_length, bytesOf_length]; omega) hl by4 (k + 7) with ⟨e, e'⟩ | ⟨c, y5, uc, by5, rfl, e, e'⟩
      · rw [e, e', Option.bind_some, Option.bind_some]
        simp only [sticky64, Option.bind_some, show k + 7 + 12 = (k + 18) + 1 by omega, N_stick, rj1_bad, j1_bad, turnstileref11_Policy.f, ite_self]
        try ((repeat' split) <;> simp [rj1_bad, j1_bad])
      rw [e, e', Option.bind_some, Option.bind_some]
      simp only
      have hA : (0 + ((1 : Nat) : Int) + 8 + 2 + s.size + ((1 : Nat) : Int) + 8 + 8) + (y5.length : Int) = ((b :: (putN 8 fl ++ (putN 2 s.size ++ (bytesOf s ++ p :: (putN 8 a ++ (putN 8 c ++ y5)))))).length : Int) := by simp [putN_length, bytesOf_length]; omega
      unfold turnstileref11_Policy.f
      by_cases p1 : p = 1
      · rw [if_pos p1, Option.bind_some, if_neg (by omega)]
        have hr := rj1_ok ⟨b, fl, s, p, a, c, 0, 0, 0, 0, 0⟩ ua.1 (Int.le_refl 0) (rest := y5) hA (k + 17)
        have hd := j1_ok ⟨b, fl, s, p, a, c, 0, 0, 0, 0, 0⟩ y5 (k + 17)
        exact hr.trans hd.symm
      · rw [if_neg p1, Option.bind_some]
        have hr := rj1_ok ⟨b, fl, s, p, 0, 0, a, c, 0, 0, 0⟩ (Int.le_refl 0) uc.1 (rest := y5) hA (k + 17)
        by_cases p2 : p = 2
        · rw [if_pos p2]
          have hd := j1_ok ⟨b, fl, s, p, 0, 0, a, c, 0, 0, 0⟩ y5 (k + 17)
          exact hr.trans hd.symm
        · rw [if_neg p2]
          have hd := j1_ok ⟨b, fl, s, p, a, c, 0, 0, 0, 0, 0⟩ y5 (k + 17)
          have n1 : ¬ RV ⟨b, fl, s, p, 0, 0, a, c, 0, 0, 0⟩ := by unfold RV; simp only; omega
          have n2 : ¬ RV ⟨b, fl, s, p, a, c, 0, 0, 0, 0, 0⟩ := by unfold RV; simp only; omega
          rw [decOut_bad n1] at hr
          rw [decOut_bad n2] at hd
          exact hr.trans hd.symm
  · rw [if_neg k1, if_neg k1]
    by_cases k3 : b = 3
    · rw [if_pos k3, if_pos k3]
      rcases num_cases (b :: (putN 8 fl ++ (putN 2 s.size ++ (bytesOf s ++ y2)))) (b :: (putN 8 fl ++ (putN 2 s.size ++ bytesOf s))) y2 (a := 0 + ((1 : Nat) : Int) + 8 + 2 + s.size) (by simp) (by simp [putN_length, bytesOf_length]; omega) hl by2 (k + 7) with ⟨e, e'⟩ | ⟨t, y3, ut, by3, rfl, e, e'⟩
      · rw [show k + 8 + 11 = k + 7 + 12 by omega, e, e', Option.bind_some, Option.bind_some]
        simp only [sticky64, Option.bind_some, show k + 7 + 12 = (k + 18) + 1 by omega, N_stick, rj1_bad, j1_bad]
      rw [show k + 8 + 11 = k + 7 + 12 by omega, e, e', Option.bind_some, Option.bind_some]
      simp only
      rcases num_cases (b :: (putN 8 fl ++ (putN 2 s.size ++ (bytesOf s ++ (putN 8 t ++ y3))))) (b :: (putN 8 fl ++ (putN 2 s.size ++ (bytesOf s ++ putN 8 t)))) y3 (a := 0 + ((1 : Nat) : Int) + 8 + 2 + s.size + 8) (by simp) (by simp [putN_length, bytesOf_length]; omega) hl by3 (k + 7) with ⟨e, e'⟩ | ⟨i, y4, ui, by4, rfl, e, e'⟩
      · rw [e, e', Option.bind_some, Option.bind_some]
        simp only [sticky64, Option.bind_some, show k + 7 + 12 = (k + 18) + 1 by omega, N_stick, rj1_bad, j1_bad]
      rw [e, e', Option.bind_some, Option.bind_some]
      simp only
      rcases num_cases (b :: (putN 8 fl ++ (putN 2 s.size ++ (bytesOf s ++ (putN 8 t ++ (putN 8 i ++ y4)))))) (b :: (putN 8 fl ++ (putN 2 s.size ++ (bytesOf s ++ (putN 8 t ++ putN 8 i))))) y4 (a := 0 + ((1 : Nat) : Int) + 8 + 2 + s.size + 8 + 8) (by simp) (by simp [putN_length, bytesOf_length]; omega) hl by4 (k + 7) with ⟨e, e'⟩ | ⟨n, y5, un, by5, rfl, e, e'⟩
      · rw [e, e', Option.bind_some, Option.bind_some]
        simp only [show k + 7 + 12 = (k + 18) + 1 by omega, rj1_bad, j1_bad]
      rw [e, e', Option.bind_some, Option.bind_some]
      simp only
      have hA : (0 + ((1 : Nat) : Int) + 8 + 2 + s.size + 8 + 8 + 8) + (y5.length : Int) = ((b :: (putN 8 fl ++ (putN 2 s.size ++ (bytesOf s ++ (putN 8 t ++ (putN 8 i ++ (putN 8 n ++ y5))))))).length : Int) := by simp [putN_length, bytesOf_length]; omega
      have hr := rj1_ok ⟨b, fl, s, 0, 0, 0, 0, 0, t, i, n⟩ (Int.le_refl 0) (Int.le_refl 0) (rest := y5) hA (k + 17)
      have hd := j1_ok ⟨b, fl, s, 0, 0, 0, 0, 0, t, i, n⟩ y5 (k + 17)
      exact hr.trans hd.symm
    · rw [if_neg k3, if_neg k3]
      have hA : (0 + ((1 : Nat) : Int) + 8 + 2 + s.size) + (y2.length : Int) = ((b :: (putN 8 fl ++ (putN 2 s.size ++ (bytesOf s ++ y2)))).length : Int) := by simp [putN_length, bytesOf_length]; omega
      have hr := rj1_ok ⟨b, fl, s, 0, 0, 0, 0, 0, 0, 0, 0⟩ (Int.le_refl 0) (Int.le_refl 0) (rest := y2) hA (k + 17)
      have hd := j1_ok ⟨b, fl, s, 0, 0, 0, 0, 0, 0, 0, 0⟩ y2 (k + 17)
      exact hr.trans hd.symm
theorem dec_val (xs : List Int) (h : By xs) (hl : xs.length ≤ 140737488355328) (k : Nat) : ∃ r e, (e = 0 ∨ e = 1 ∨ e = 2 ∨ e = 3) ∧ dec (k + 3) xs = some (Rec.out r e) := by
  rcases Dec_form xs h hl k with e | ⟨_, _, _, _, e⟩ | ⟨r, rest, hr, hrest, rfl⟩
  · exact ⟨_, 2, by omega, e⟩
  · exact ⟨_, 3, by omega, e⟩
  · have e := Dec_enc hr rest hrest hl k
    unfold decOut at e
    split at e
    · exact ⟨_, 3, by omega, e⟩
    · exact ⟨_, 0, by omega, e⟩
theorem plays_ok (a0 : Int) (r : Rec) (hu : r.Un) (B : List Int) (hB : By B) (hl : B.length ≤ 140737488351232) (k : Nat) : turnstilelaw11_plays.f (k + 150) a0 r.kind r.floor r.key r.pk r.gap r.slack r.lim r.span r.tat r.ix r.cnt B = some true := by
  unfold turnstilelaw11_plays.f
  by_cases c1 : a0 = 1
  · have hv := RValid r (k + 149)
    unfold vrec at hv
    rw [if_pos c1, hv, Option.bind_some, show k + 150 = k + 149 + 1 by omega, RefValid r hu.gap.1 hu.span.1, Option.bind_some]
    simp
  rw [if_neg c1]
  by_cases c2 : a0 = 2
  · have he := REncode r hu (k + 144)
    unfold encf at he
    have hf := RefEncode r hu (k + 80)
    rw [if_pos c2, show k + 150 = k + 144 + 6 by omega, he, Option.bind_some, show k + 144 + 6 = k + 80 + 70 by omega, hf, Option.bind_some]
    by_cases v : RV r
    · have hn := enc_len v
      rw [if_pos v]
      simp only
      rw [Of_at (by omega), Option.bind_some, if_pos rfl, same_self (enc r) (by omega) _ (by omega)]
      rfl
    · rw [if_neg v]
      simp only
      rw [Of_at (by omega), Option.bind_some, if_pos rfl, same_self [] (by simp) _ (by simp)]
      rfl
  rw [if_neg c2]
  by_cases c3 : a0 = 3
  · have hd := RefDec B hB (by omega) (k + 130)
    obtain ⟨q, e, he, hq⟩ := dec_val B hB (by omega) (k + 147)
    rw [show k + 130 + 20 = k + 147 + 3 by omega, hq] at hd
    unfold dec at hq
    rw [if_pos c3, Option.bind_some, if_pos (by simp; omega), List.nil_append, show k + 150 = k + 147 + 3 by omega, hq, Option.bind_some, hd, Option.bind_some]
    simp only [Rec.out]
    rw [Of_at he, Option.bind_some, if_pos rfl]
    simp
  · rw [if_neg c3]
theorem much_go (l : List S35) (hl : l.length ≤ 9223372036854775806) (j : Nat) : ∀ (m i : Nat) (x : Int), i + m = l.length → ∃ b, turnstilelaw11_much.l0 (m + j + 1) l x (i : Int) = some b
  | 0, i, x, h => by
    rw [turnstilelaw11_much.l0, if_neg (by omega)]
    exact ⟨_, rfl⟩
  | m + 1, i, x, h => by
    rw [show m + 1 + j + 1 = (m + j + 1) + 1 by omega, turnstilelaw11_much.l0, if_pos (by omega)]
    by_cases c : x ≤ 16777216
    · rw [if_pos c, if_pos (by omega), show wrap64 ((i : Int) + 1) = ((i + 1 : Nat) : Int) by unfold wrap64; omega]
      exact much_go l hl j m (i + 1) _ (by omega)
    · rw [if_neg c]
      exact ⟨_, rfl⟩
theorem rd35 (l : List S35) (i : Nat) (h : i < l.length) : rd_T35 l (i : Int) = l[i] := by
  unfold rd_T35
  rw [Int.toNat_natCast, List.getD_eq_getElem?_getD, List.getElem?_eq_getElem h]
  rfl
theorem all_go (l : List S35) (hl : l.length ≤ 9223372036854775806) (hq : ∀ y ∈ l, q35 y) (j : Nat) : ∀ (m i : Nat), i + m = l.length → turnstilelaw11_RecordAll.l0 (m + j + 151) l true (i : Int) = some true
  | 0, i, h => by
    rw [show 0 + j + 151 = (0 + j + 150) + 1 by omega, turnstilelaw11_RecordAll.l0, if_neg (by omega)]
  | m + 1, i, h => by
    have hi : i < l.length := by omega
    rw [show m + 1 + j + 151 = (m + j + 1 + 150) + 1 by omega, turnstilelaw11_RecordAll.l0, if_pos (by omega), if_pos rfl, if_pos (by omega), rd35 l i hi]
    obtain ⟨q0, ⟨_, q1, _, ⟨_, q4, q5, q6, q7⟩, q8, q9, q10⟩, q11, q12, q13⟩ := hq _ (List.getElem_mem hi)
    rw [plays_ok (l[i]'hi).f0 ⟨(l[i]'hi).f1.f0, (l[i]'hi).f1.f1, (l[i]'hi).f1.f2, (l[i]'hi).f1.f3.f0, (l[i]'hi).f1.f3.f1, (l[i]'hi).f1.f3.f2, (l[i]'hi).f1.f3.f3, (l[i]'hi).f1.f3.f4, (l[i]'hi).f1.f4.f0, (l[i]'hi).f1.f4.f1, (l[i]'hi).f1.f4.f2⟩ ⟨U_wf q1, U_wf q4, U_wf q5, U_wf q6, U_wf q7, U_wf q8, U_wf q9, U_wf q10⟩ (l[i]'hi).f2 (By_wf8 q13) (by omega) (m + j + 1), Option.bind_some,
      show wrap64 ((i : Int) + 1) = ((i + 1 : Nat) : Int) by unfold wrap64; omega, show m + j + 1 + 150 = m + j + 151 by omega]
    exact all_go l hl hq j m (i + 1) (by omega)
theorem RecordAll : RecordAll.Pure := by
  intro l ⟨h0, h1, hq⟩
  have hl : l.length ≤ 9223372036854775806 := by omega
  refine ⟨l.length + 170, ?_⟩
  have hA : turnstilelaw11_awake.f (l.length + 170) = some true := awake_at (l.length + 156)
  obtain ⟨b, hb⟩ := much_go l hl 169 l.length 0 0 (by omega)
  unfold turnstilelaw11_RecordAll.f
  rw [hA, Option.bind_some, if_pos rfl]
  unfold turnstilelaw11_much.f
  rw [show l.length + 170 = l.length + 169 + 1 by omega]
  rw [show turnstilelaw11_much.l0 (l.length + 169 + 1) l 0 0 = some b from hb, Option.bind_some, turnstilelaw11_RecordAll.j0]
  cases b with
  | true => rfl
  | false =>
    rw [if_neg (by simp)]
    exact all_go l hl hq 18 l.length 0 (by omega)

end Go.Proofs.YtkgjepmminmjjaaDoor.Pure
