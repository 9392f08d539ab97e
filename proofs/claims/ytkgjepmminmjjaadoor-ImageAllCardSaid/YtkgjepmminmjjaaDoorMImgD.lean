/- 'Decode' of a state's bytes, and of what is none. -/
import Derived.Test.YtkgjepmminmjjaaDoorMImg
namespace Go.Proofs.YtkgjepmminmjjaaDoor.M
set_option linter.unusedVariables false
set_option linter.unusedSimpArgs false
open Go.RowKit Go.Proofs.YtkgjepmminmjjaaDoor.E Go.Proofs.YtkgjepmminmjjaaDoorW.PrintWords Go.Proofs.YtkgjepmminmjjaaDoorW.PrintLast Go.Proofs.YtkgjepmminmjjaaDoorW.PrintMore Go.Proofs.YtkgjepmminmjjaaDoorW.PrintShort
theorem text_f (xs : List Int) : pack_Reader_Text.f xs 0 = some (pk_text xs 0) := by unfold pack_Reader_Text.f; rw [if_pos (by decide)]
theorem n_f (xs : List Int) {e : Int} (h : 0 ≤ e) : pack_Reader_U64.f xs e = some (image_entry.n xs e) := by unfold pack_Reader_U64.f; rw [if_pos h]; rfl
theorem text_enc {s : ByteArray} (hs : s.size < 65536) (ys : List Int) : pk_text (putN 2 s.size ++ (bytesOf s ++ ys)) 0 = (s, ys, 0) := by
  have h := Text_ok (putN 2 s.size) (bytesOf s) ys (putN_length 2 _) (by rw [le_putN 2 _ (by omega) (by omega), bytesOf_length])
  rw [text_f, str_bytes] at h
  exact Option.some.inj h
theorem n_put {x : Int} (h : U x) (ys : List Int) : image_entry.n (putN 8 x ++ ys) 0 = (x, ys, 0) := by
  have h := U64_put h ys
  rw [n_f _ (by decide)] at h
  exact Option.some.inj h
theorem n_stick (xs : List Int) : image_entry.n xs 2 = (0, xs, 2) := by
  have h := U64_bad xs (e := 2) (by decide) (by decide)
  rw [n_f _ (by decide)] at h
  exact Option.some.inj h
theorem n_cases (xs : List Int) (h : By xs) : image_entry.n xs 0 = (0, xs, 2) ∨ ∃ x ys, U x ∧ By ys ∧ xs = putN 8 x ++ ys ∧ image_entry.n xs 0 = (x, ys, 0) := by
  rcases U64_cases xs h with h1 | ⟨x, ys, h1, h2, h3, h4⟩
  · rw [n_f _ (by decide)] at h1
    exact .inl (Option.some.inj h1)
  · rw [n_f _ (by decide)] at h4
    exact .inr ⟨x, ys, h1, h2, h3, Option.some.inj h4⟩
theorem t_cases (xs : List Int) (h : By xs) : (∃ s ys, pk_text xs 0 = (s, ys, 2)) ∨ ∃ s ys, s.size < 65536 ∧ By ys ∧ xs = putN 2 s.size ++ (bytesOf s ++ ys) ∧ pk_text xs 0 = (s, ys, 0) := by
  rcases Text_cases xs h with ⟨s, ys, h1⟩ | ⟨s, ys, h1, h2, h3, h4⟩
  · rw [text_f] at h1
    exact .inl ⟨s, ys, Option.some.inj h1⟩
  · rw [text_f] at h4
    exact .inr ⟨s, ys, h1, h2, h3, Option.some.inj h4⟩
theorem k_one (b : Int) (ys : List Int) : pk_take (b :: ys) 0 1 = ([b], true, ys, 0) := by
  unfold pk_take
  rw [if_pos rfl, if_neg (by simp)]
  simp
theorem k_nil : pk_take [] 0 1 = ([], false, [], 2) := rfl
theorem k_bad (ys : List Int) : pk_take ys 2 1 = ([], false, ys, 2) := rfl
theorem le_one (b : Int) : le [b] = b := by simp [le]
/-- What an entry's bytes tell, whether valid or not. -/
structure FE (E : S79) : Prop where
  key : E.f0.size < 65536
  nums : EU E
  kind : (E.f1.f0 = 1 ∧ E.f1.f3 = 0 ∧ E.f1.f4 = 0 ∧ E.f2.f1 = 0 ∧ E.f2.f2 = 0) ∨ (E.f1.f0 = 2 ∧ E.f1.f1 = 0 ∧ E.f1.f2 = 0 ∧ E.f2.f0 = 0)
theorem S79_eq {E : S79} {k : ByteArray} {a b c d e f g h : Int} (h0 : E.f0 = k) (h1 : E.f1.f0 = a) (h2 : E.f1.f1 = b) (h3 : E.f1.f2 = c) (h4 : E.f1.f3 = d) (h5 : E.f1.f4 = e) (h6 : E.f2.f0 = f) (h7 : E.f2.f1 = g) (h8 : E.f2.f2 = h) :
    (⟨k, ⟨a, b, c, d, e⟩, ⟨f, g, h⟩⟩ : S79) = E := by
  obtain ⟨k', ⟨a', b', c', d', e'⟩, ⟨f', g', h'⟩⟩ := E
  simp only at *
  subst h0 h1 h2 h3 h4 h5 h6 h7 h8
  rfl
theorem entry_enc {E : S79} (h : FE E) (ys : List Int) : image_entry.r (encE E ++ ys) = (0, E, ys) := by
  unfold image_entry.r
  dsimp only
  have e0 : encE E ++ ys = putN 2 E.f0.size ++ (bytesOf E.f0 ++ (E.f1.f0 % 256 :: (puts (nums E) ++ ys))) := by unfold encE; simp
  rw [e0, text_enc h.key]
  dsimp only
  rw [k_one]
  dsimp only
  rw [if_neg (by decide), le_one]
  have u := h.nums
  rcases h.kind with ⟨k, z1, z2, z3, z4⟩ | ⟨k, z1, z2, z3⟩
  · have hn : puts (nums E) ++ ys = putN 8 E.f1.f1 ++ (putN 8 E.f1.f2 ++ (putN 8 E.f2.f0 ++ ys)) := by unfold nums; rw [if_neg (by omega)]; simp [puts]
    rw [if_pos (by omega), hn, n_put u.gap]
    dsimp only
    rw [n_put u.slack]
    dsimp only
    rw [n_put u.tat]
    dsimp only
    rw [S79_eq (E := E) rfl k rfl rfl z1 z2 rfl z3 z4]
  · have hn : puts (nums E) ++ ys = putN 8 E.f1.f3 ++ (putN 8 E.f1.f4 ++ (putN 8 E.f2.f1 ++ (putN 8 E.f2.f2 ++ ys))) := by unfold nums; rw [if_pos k]; simp [puts]
    rw [if_neg (by omega), if_pos (by omega), hn, n_put u.lim]
    dsimp only
    rw [n_put u.span]
    dsimp only
    rw [n_put u.ix]
    dsimp only
    rw [n_put u.cnt]
    dsimp only
    rw [S79_eq (E := E) rfl k z1 z2 rfl rfl z3 rfl rfl]
theorem U0 : U 0 := ⟨by decide, by decide⟩
theorem entry_form (xs : List Int) (h : By xs) : ((image_entry.r xs).1 = 0 ∧ FE (image_entry.r xs).2.1 ∧ By (image_entry.r xs).2.2 ∧ xs = encE (image_entry.r xs).2.1 ++ (image_entry.r xs).2.2) ∨ (image_entry.r xs).1 = 2 ∨ (image_entry.r xs).1 = 3 := by
  unfold image_entry.r
  dsimp only
  rcases t_cases xs h with ⟨s, ys, e⟩ | ⟨s, ys, hs, hy, hx, e⟩
  · rw [e]
    dsimp only
    rw [k_bad]
    dsimp only
    rw [if_pos (by decide)]
    exact .inr (.inl rfl)
  · rw [e]
    dsimp only
    cases ys with
    | nil =>
      rw [k_nil]
      dsimp only
      rw [if_pos (by decide)]
      exact .inr (.inl rfl)
    | cons b ys =>
      rw [k_one]
      dsimp only
      rw [if_neg (by decide), le_one]
      have hb := hy b (by simp)
      have hy2 : By ys := fun x hx => hy x (by simp [hx])
      by_cases k1 : b = 1
      · rw [if_pos k1]
        rcases n_cases ys hy2 with e1 | ⟨x1, y1, u1, b1, r1, e1⟩
        · rw [e1]; dsimp only; rw [n_stick]; dsimp only; rw [n_stick]; exact .inr (.inl rfl)
        rw [e1]; dsimp only
        rcases n_cases y1 b1 with e2 | ⟨x2, y2, u2, b2, r2, e2⟩
        · rw [e2]; dsimp only; rw [n_stick]; exact .inr (.inl rfl)
        rw [e2]; dsimp only
        rcases n_cases y2 b2 with e3 | ⟨x3, y3, u3, b3, r3, e3⟩
        · rw [e3]; exact .inr (.inl rfl)
        rw [e3]; dsimp only
        refine .inl ⟨rfl, ⟨hs, ⟨u1, u2, U0, U0, u3, U0, U0⟩, .inl ⟨rfl, rfl, rfl, rfl, rfl⟩⟩, b3, ?_⟩
        rw [hx, r1, r2, r3, k1]
        unfold encE nums
        simp [puts]
      · rw [if_neg k1]
        by_cases k2 : b = 2
        · rw [if_pos k2]
          rcases n_cases ys hy2 with e1 | ⟨x1, y1, u1, b1, r1, e1⟩
          · rw [e1]; dsimp only; rw [n_stick]; dsimp only; rw [n_stick]; dsimp only; rw [n_stick]; exact .inr (.inl rfl)
          rw [e1]; dsimp only
          rcases n_cases y1 b1 with e2 | ⟨x2, y2, u2, b2, r2, e2⟩
          · rw [e2]; dsimp only; rw [n_stick]; dsimp only; rw [n_stick]; exact .inr (.inl rfl)
          rw [e2]; dsimp only
          rcases n_cases y2 b2 with e3 | ⟨x3, y3, u3, b3, r3, e3⟩
          · rw [e3]; dsimp only; rw [n_stick]; exact .inr (.inl rfl)
          rw [e3]; dsimp only
          rcases n_cases y3 b3 with e4 | ⟨x4, y4, u4, b4, r4, e4⟩
          · rw [e4]; exact .inr (.inl rfl)
          rw [e4]; dsimp only
          refine .inl ⟨rfl, ⟨hs, ⟨U0, U0, u1, u2, U0, u3, u4⟩, .inr ⟨rfl, rfl, rfl, rfl⟩⟩, b4, ?_⟩
          rw [hx, r1, r2, r3, r4, k2]
          unfold encE nums
          simp [puts]
        · rw [if_neg k2]
          exact .inr (.inr rfl)
theorem go_enc : ∀ (l : List S79) (acc : List S79) (ys : List Int), (∀ E ∈ l, FE E) → image_whole.go l.length (encs l ++ ys) acc = (0, acc ++ l, ys)
  | [], acc, ys, _ => by simp [image_whole.go, encs]
  | E :: l, acc, ys, h => by
    have e := entry_enc (h E (by simp)) (encs l ++ ys)
    rw [List.length_cons]
    unfold image_whole.go
    rw [encs, List.append_assoc, e]
    dsimp only
    rw [if_pos rfl, go_enc l (acc ++ [E]) ys (fun F hF => h F (by simp [hF]))]
    simp
theorem go_form : ∀ (n : Nat) (xs : List Int) (acc : List S79), By xs →
    ((image_whole.go n xs acc).1 = 0 ∧ ∃ l, (image_whole.go n xs acc).2.1 = acc ++ l ∧ l.length = n ∧ (∀ E ∈ l, FE E) ∧ By (image_whole.go n xs acc).2.2 ∧ xs = encs l ++ (image_whole.go n xs acc).2.2) ∨ (image_whole.go n xs acc).1 = 2 ∨ (image_whole.go n xs acc).1 = 3
  | 0, xs, acc, h => .inl ⟨rfl, [], by simp [image_whole.go], rfl, by simp, h, rfl⟩
  | n + 1, xs, acc, h => by
    unfold image_whole.go
    rcases entry_form xs h with ⟨e0, fe, hb, hx⟩ | e0 | e0
    · rw [if_pos e0]
      rcases go_form n _ (acc ++ [(image_entry.r xs).2.1]) hb with ⟨g0, l, g1, g2, g3, g4, g5⟩ | g0
      · refine .inl ⟨g0, (image_entry.r xs).2.1 :: l, by rw [g1]; simp, by simp [g2], ?_, g4, ?_⟩
        · intro E hE
          rcases List.mem_cons.1 hE with rfl | hE
          · exact fe
          · exact g3 E hE
        · rw [encs, List.append_assoc, ← g5]
          exact hx
      · exact .inr g0
    · rw [if_neg (by omega)]
      exact .inr (.inl e0)
    · rw [if_neg (by omega)]
      exact .inr (.inr e0)
theorem fit_VE {a0 a1 a2 a3 a4 b0 b1 b2 : Int} (h : fitB a0 a1 a2 a3 a4 b0 b1 b2 = true) : (a0 = 1 ∧ a3 = 0 ∧ a4 = 0 ∧ b1 = 0 ∧ b2 = 0) ∨ (a0 = 2 ∧ a1 = 0 ∧ a2 = 0 ∧ b0 = 0) := by
  unfold fitB okB at h
  by_cases k1 : a0 = 1
  · simp only [if_pos k1, Bool.and_eq_true, beq_iff_eq, decide_eq_true_eq] at h
    exact .inl ⟨k1, h.1.2.1, h.1.2.2, h.2.1, h.2.2⟩
  · by_cases k2 : a0 = 2
    · simp only [if_neg k1, if_pos k2, Bool.and_eq_true, beq_iff_eq, decide_eq_true_eq] at h
      exact .inr ⟨k2, h.1.2.1, h.1.2.2, h.2⟩
    · simp only [if_neg k1, if_neg k2, Bool.false_and] at h
      cases h
theorem val_VE {a : Int} {l : List S79} (h : valB a l = true) : l.length ≤ 4096 ∧ ∀ E ∈ l, VE E := by
  unfold valB at h
  simp only [Bool.and_eq_true, decide_eq_true_eq] at h
  refine ⟨h.2.1, fun E hE => ?_⟩
  obtain ⟨i, hi, rfl⟩ := List.mem_iff_getElem.1 hE
  have h1 := (allB_iff l l.length 0).1 h.2.2 i (by omega) (by omega)
  have e : rd_T79 l (i : Nat) = l[i] := by unfold rd_T79; simp [List.getD_eq_getElem?_getD, List.getElem?_eq_getElem hi]
  unfold entB at h1
  rw [e] at h1
  simp only [Bool.and_eq_true, decide_eq_true_eq] at h1
  exact ⟨h1.1.1, h1.1.2, fit_VE h1.2.2⟩
theorem FE_of {E : S79} (h : VE E) (u : EU E) : FE E := ⟨by have := h.2.1; omega, u, h.2.2⟩
theorem u32_ok (t ys : List Int) (n : t.length = 4) : pk_take (t ++ ys) 0 4 = (t, true, ys, 0) := by
  unfold pk_take
  rw [if_pos rfl, if_neg (by simp; omega), List.take_left' n, List.drop_left' n]
/-- What stands between the magic and the sum. -/
def midS (a b : Int) (l : List S79) : List Int := putN 8 a ++ (putN 8 b ++ (putN 4 l.length ++ encs l))
theorem whole_enc {a b : Int} {l : List S79} (ha : U a) (hb : U b) (hu : ∀ E ∈ l, EU E) (hV : valB a l = true) : image_whole.r (midS a b l) = some (0, a, b, l) := by
  obtain ⟨hl, hv⟩ := val_VE hV
  have hg := go_enc l [] [] (fun E hE => FE_of (hv E hE) (hu E hE))
  rw [List.append_nil, List.nil_append] at hg
  unfold image_whole.r midS
  dsimp only
  rw [n_put ha]
  dsimp only
  rw [n_put hb]
  dsimp only
  rw [u32_ok _ _ (putN_length 4 _)]
  dsimp only
  rw [if_neg (by decide), le_putN 4 _ (by omega) (by omega), Int.toNat_natCast, if_neg (by omega), hg]
  dsimp only
  rw [if_neg (by decide), if_neg (by decide), valid_B, hV, Option.bind_some, if_pos rfl]
theorem body_mid (a b : Int) (l : List S79) : bodyS a b l = [84, 73, 48, 49] ++ midS a b l := rfl
theorem magic_eq : ((strOfNums [84, 73, 48, 49]).toList == [84, 73, 48, 49]) = true := by decide +kernel
theorem dec_img {a b : Int} {l : List S79} (ha : U a) (hb : U b) (hu : ∀ E ∈ l, EU E) (hV : valB a l = true) : image_Decode.f (imgS a b l) = some (a, b, l, 0) := by
  obtain ⟨hl, hv⟩ := val_VE hV
  have hel := encs_len l (fun E hE => (hv E hE).2.1)
  have hbl := body_len a b l
  have hby := By_body a b l
  have hc := crcI_range hby
  have hlen : (imgS a b l).length = (bodyS a b l).length + 4 := by unfold imgS fin; rw [List.length_append, putN_length]
  have ht : (imgS a b l).take ((imgS a b l).length - 4) = bodyS a b l := by rw [hlen, Nat.add_sub_cancel]; unfold imgS fin; exact List.take_left' rfl
  have hd : (imgS a b l).drop ((imgS a b l).length - 4) = putN 4 (crcI (bodyS a b l)) := by rw [hlen, Nat.add_sub_cancel]; unfold imgS fin; exact List.drop_left' rfl
  have h4 : (imgS a b l).take 4 = [84, 73, 48, 49] := by unfold imgS fin bodyS; rfl
  have hm : (bodyS a b l).drop 4 = midS a b l := by rw [body_mid]; rfl
  unfold image_Decode.f
  rw [if_pos ⟨by rw [hlen, hbl]; omega, all_By (By_fin hby)⟩, if_neg (by rw [hlen, hbl]; omega), h4, if_neg (by rw [magic_eq]; decide), ht, hd, sum_I hby (by rw [hbl]; omega), Option.bind_some]
  have hk := u32_ok (putN 4 (crcI (bodyS a b l))) [] (putN_length 4 _)
  rw [List.append_nil] at hk
  rw [hk]
  dsimp only
  rw [le_putN 4 _ hc.1 (by have := hc.2; omega), if_neg (by simp), hm, whole_enc ha hb hu hV, Option.bind_some, if_pos rfl]
theorem magic_of {t : List Int} (h : By t) (hm : ((strOfNums t).toList == [84, 73, 48, 49]) = true) : t = [84, 73, 48, 49] := by
  rw [beq_iff_eq, ByteArray.toList_eq] at hm
  have h2 := bytes_str t h
  unfold bytesOf at h2
  rw [hm] at h2
  exact h2.symm
end Go.Proofs.YtkgjepmminmjjaaDoor.M
