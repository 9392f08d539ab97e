/- 'Decode' of a state's bytes with one turned, or cut short. -/
import Derived.Test.YtkgjepmminmjjaaDoorMImgS
namespace Go.Proofs.YtkgjepmminmjjaaDoor.M
set_option linter.unusedVariables false
set_option linter.unusedSimpArgs false
open Go.RowKit Go.Proofs.YtkgjepmminmjjaaDoor.E Go.Proofs.YtkgjepmminmjjaaDoorW.PrintWords Go.Proofs.YtkgjepmminmjjaaDoorW.PrintLast Go.Proofs.YtkgjepmminmjjaaDoorW.PrintMore Go.Proofs.YtkgjepmminmjjaaDoorW.PrintShort
theorem img_len (a b : Int) (l : List S79) : (imgS a b l).length = 28 + (encs l).length := by
  unfold imgS fin
  rw [List.length_append, putN_length, body_len]
  omega
theorem putN_inj {n : Nat} {x y : Int} (hx : 0 ≤ x) (hx2 : x < 256 ^ n) (hy : 0 ≤ y) (hy2 : y < 256 ^ n) (h : putN n x = putN n y) : x = y := by
  have := congrArg le h
  rw [le_putN n x hx hx2, le_putN n y hy hy2] at this
  exact this
/-- No beginning of a state's bytes is a state's bytes. -/
theorem img_prefix {a b c d : Int} {l m : List S79} {k : Nat} (ul : ∀ E ∈ l, FE E) (um : ∀ E ∈ m, FE E) (ll : l.length ≤ 4096) (lm : m.length ≤ 4096) (hk : k < (imgS a b l).length) : (imgS a b l).take k ≠ imgS c d m := by
  intro h
  have hl := img_len a b l
  have hm := img_len c d m
  have hkm : k = (imgS c d m).length := by rw [← h, List.length_take]; omega
  have hbl := body_len a b l
  have hbm := body_len c d m
  have e1 : (bodyS a b l).take (k - 4) = bodyS c d m := by
    have h1 := congrArg (fun x => x.take (k - 4)) h
    simp only [List.take_take] at h1
    rw [Nat.min_eq_left (by omega)] at h1
    unfold imgS fin at h1
    rw [List.take_append_of_le_length (by omega), List.take_append_of_le_length (by omega), List.take_of_length_le (l := bodyS c d m) (by omega)] at h1
    exact h1
  obtain ⟨r, hr⟩ : ∃ r, bodyS a b l = bodyS c d m ++ r := ⟨_, by rw [← e1]; exact (List.take_append_drop _ _).symm⟩
  have hrl : 0 < r.length := by
    have := congrArg List.length hr
    rw [List.length_append] at this
    omega
  rw [body_mid, body_mid, List.append_assoc] at hr
  have h2 := List.append_cancel_left hr
  unfold midS at h2
  rw [List.append_assoc, List.append_assoc, List.append_assoc] at h2
  obtain ⟨_, h3⟩ := List.append_inj h2 (by rw [putN_length, putN_length])
  obtain ⟨_, h4⟩ := List.append_inj h3 (by rw [putN_length, putN_length])
  obtain ⟨h5, h6⟩ := List.append_inj h4 (by rw [putN_length, putN_length])
  have h7 : (l.length : Int) = m.length := putN_inj (by omega) (by omega) (by omega) (by omega) h5
  have h8 : l.length = m.length := by omega
  have g1 := go_enc l [] [] ul
  have g2 := go_enc m [] r um
  rw [List.append_nil, h6, h8, g2] at g1
  have h9 : r = [] := congrArg (fun x => x.2.2) g1
  rw [h9] at hrl
  exact absurd hrl (by decide)
theorem dec_cut {a b : Int} {l : List S79} (hu : ∀ E ∈ l, EU E) (hV : valB a l = true) (k : Nat) (hk : k < (imgS a b l).length) :
    ∃ e, image_Decode.f ((imgS a b l).take k) = some (0, 0, [], e) ∧ (e = 2 ∨ e = 3 ∨ e = 6) ∧ (k < 28 → e = 2) := by
  obtain ⟨hl, hv⟩ := val_VE hV
  have hil := img_len a b l
  have hel := encs_len l (fun E hE => (hv E hE).2.1)
  have hby : By ((imgS a b l).take k) := fun x hx => By_fin (By_body a b l) x (List.mem_of_mem_take hx)
  by_cases h28 : k < 28
  · refine ⟨2, ?_, .inl rfl, fun _ => rfl⟩
    unfold image_Decode.f
    rw [if_pos ⟨by rw [List.length_take]; omega, all_By hby⟩, if_pos (by rw [List.length_take]; omega)]
  · obtain ⟨c, d, m, e, h1, h2⟩ := dec_form _ hby (by rw [List.length_take]; omega)
    rcases h2 with ⟨_, hx, hW, _, _, hum⟩ | ⟨he, rfl, rfl, rfl⟩
    · obtain ⟨hlm, hvm⟩ := val_VE hW
      exact absurd hx (img_prefix (fun E hE => FE_of (hv E hE) (hu E hE)) (fun E hE => FE_of (hvm E hE) (hum E hE)) hl hlm hk)
    · exact ⟨e, h1, he, fun h => absurd h h28⟩
theorem map_set_ne {p q : List Int} {c d : Int} (hp : By p) (hq : By q) (hc : 0 ≤ c ∧ c < 256) (hd : 0 ≤ d ∧ d < 256) (h : crcI (p ++ c :: q) = crcI (p ++ d :: q)) : c = d := by
  unfold crcI at h
  have h1 : (4294967295 ^^^ crcN 4294967295 ((p ++ c :: q).map Int.toNat)) = (4294967295 ^^^ crcN 4294967295 ((p ++ d :: q).map Int.toNat)) := by exact_mod_cast h
  have h2 : crcN 4294967295 ((p ++ c :: q).map Int.toNat) = crcN 4294967295 ((p ++ d :: q).map Int.toNat) := by
    have e : ∀ x : Nat, 4294967295 ^^^ (4294967295 ^^^ x) = x := fun x => by rw [← Nat.xor_assoc, Nat.xor_self, Nat.zero_xor]
    rw [← e (crcN 4294967295 ((p ++ c :: q).map Int.toNat)), h1, e]
  rw [List.map_append, List.map_append, List.map_cons, List.map_cons] at h2
  have h3 := crcN_turned (x := 4294967295) (by decide) (By_nat hp) (By_nat hq) (by omega) (by omega) h2
  omega
/-- One byte turned: nothing is taken. -/
theorem dec_turned {a b : Int} {l : List S79} (hu : ∀ E ∈ l, EU E) (hV : valB a l = true) (at_ : Nat) (hat : at_ < (imgS a b l).length) (y : Int) (hy : 0 ≤ y ∧ y < 256) (hne : y ≠ (imgS a b l)[at_]) :
    image_Decode.f ((imgS a b l).set at_ y) = some (0, 0, [], if at_ < 4 then 3 else 6) := by
  obtain ⟨hl, hv⟩ := val_VE hV
  have hil := img_len a b l
  have hel := encs_len l (fun E hE => (hv E hE).2.1)
  have hbl := body_len a b l
  have hbb := By_body a b l
  have hbi : By (imgS a b l) := By_fin hbb
  have hby : By ((imgS a b l).set at_ y) := fun x hx => by
    rcases List.mem_or_eq_of_mem_set hx with h | h
    · exact hbi x h
    · rw [h]; exact hy
  have hlen : ((imgS a b l).set at_ y).length = (imgS a b l).length := List.length_set
  unfold image_Decode.f
  rw [if_pos ⟨by rw [hlen]; omega, all_By hby⟩, if_neg (by rw [hlen]; omega), hlen]
  have ht4 : By (((imgS a b l).set at_ y).take 4) := fun x hx => hby x (List.mem_of_mem_take hx)
  have hg : ((imgS a b l).set at_ y)[at_]'(by rw [hlen]; exact hat) = y := List.getElem_set_self _
  have h4 : (imgS a b l).take 4 = [84, 73, 48, 49] := by unfold imgS fin bodyS; rfl
  by_cases h : at_ < 4
  · rw [if_pos h]
    cases hm : ((strOfNums (((imgS a b l).set at_ y).take 4)).toList == [84, 73, 48, 49]) with
    | false => rw [if_pos rfl]
    | true =>
      exfalso
      have e := magic_of ht4 hm
      rw [← h4] at e
      have e2 := congrArg (fun z => z[at_]?) e
      simp only [List.getElem?_take, if_pos h] at e2
      rw [List.getElem?_set_self hat, List.getElem?_eq_getElem hat] at e2
      exact hne (Option.some.inj e2)
  · rw [if_neg h]
    have e4 : ((imgS a b l).set at_ y).take 4 = [84, 73, 48, 49] := by rw [List.take_set_of_le (by omega), h4]
    rw [e4, magic_eq, if_neg (by decide)]
    obtain ⟨n, hn⟩ : ∃ n, (imgS a b l).length - 4 = n := ⟨_, rfl⟩
    have hnb : n = (bodyS a b l).length := by omega
    have ht : (imgS a b l).take n = bodyS a b l := by unfold imgS fin; exact List.take_left' hnb.symm
    have hd : (imgS a b l).drop n = putN 4 (crcI (bodyS a b l)) := by unfold imgS fin; exact List.drop_left' hnb.symm
    have hc := crcI_range hbb
    rw [hn]
    have hbt : By (((imgS a b l).set at_ y).take n) := fun x hx => hby x (List.mem_of_mem_take hx)
    have hbd : By (((imgS a b l).set at_ y).drop n) := fun x hx => hby x (List.mem_of_mem_drop hx)
    have hdl : (((imgS a b l).set at_ y).drop n).length = 4 := by rw [List.length_drop, hlen]; omega
    rw [sum_I hbt (by rw [List.length_take]; omega), Option.bind_some]
    have hk := u32_ok (((imgS a b l).set at_ y).drop n) [] hdl
    rw [List.append_nil] at hk
    rw [hk]
    dsimp only
    have key : le (((imgS a b l).set at_ y).drop n) ≠ crcI (((imgS a b l).set at_ y).take n) := by
      intro he
      by_cases hlt : at_ < n
      · have e1 : ((imgS a b l).set at_ y).drop n = putN 4 (crcI (bodyS a b l)) := by rw [List.drop_set_of_lt (by omega), hd]
        have e2 : ((imgS a b l).set at_ y).take n = (bodyS a b l).set at_ y := by rw [List.take_set, ht]
        rw [e1, le_putN 4 _ hc.1 (by have := hc.2; omega), e2] at he
        have hab : at_ < (bodyS a b l).length := by omega
        have hge : (imgS a b l)[at_] = (bodyS a b l)[at_] := by unfold imgS fin; exact List.getElem_append_left hab
        have s1 : bodyS a b l = (bodyS a b l).take at_ ++ (bodyS a b l)[at_] :: (bodyS a b l).drop (at_ + 1) := by rw [← List.drop_eq_getElem_cons hab, List.take_append_drop]
        have s2 : (bodyS a b l).set at_ y = (bodyS a b l).take at_ ++ y :: (bodyS a b l).drop (at_ + 1) := List.set_eq_take_append_cons_drop.trans (if_pos hab)
        rw [s2] at he
        rw [s1] at he
        have hp : By ((bodyS a b l).take at_) := fun x hx => hbb x (List.mem_of_mem_take hx)
        have hq : By ((bodyS a b l).drop (at_ + 1)) := fun x hx => hbb x (List.mem_of_mem_drop hx)
        have hcc := hbb _ (List.getElem_mem hab)
        rw [← s1] at he
        have he2 : crcI ((bodyS a b l).take at_ ++ (bodyS a b l)[at_] :: (bodyS a b l).drop (at_ + 1)) = crcI ((bodyS a b l).take at_ ++ y :: (bodyS a b l).drop (at_ + 1)) := by rw [← s1]; exact he
        have := map_set_ne hp hq hcc hy he2
        exact hne (by rw [hge]; exact this.symm)
      · have e2 : ((imgS a b l).set at_ y).take n = bodyS a b l := by rw [List.take_set_of_le (by omega), ht]
        rw [e2] at he
        have hp := putN_le _ hbd
        rw [hdl, he, ← hd] at hp
        have e3 := congrArg (fun z => z[at_ - n]?) hp
        simp only [List.getElem?_drop] at e3
        rw [show n + (at_ - n) = at_ by omega, List.getElem?_set_self hat, List.getElem?_eq_getElem hat] at e3
        exact hne (Option.some.inj e3).symm
    rw [if_pos (by simpa using key)]
end Go.Proofs.YtkgjepmminmjjaaDoor.M
