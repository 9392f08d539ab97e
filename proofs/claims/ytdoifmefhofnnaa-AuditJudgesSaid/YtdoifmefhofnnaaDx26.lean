/- Written by the session's own program hyb.py: what functions of the program compute; Lean checks it. -/
import Derived.Test.YtdoifmefhofnnaaDx0
import Derived.Test.YtdoifmefhofnnaaWMake
namespace Go.Proofs.Ytdoifmefhofnnaa.D
open Go.RowKit Go.Proofs.YtdoifmefhofnnaaW.PrintWords Go.Proofs.YtdoifmefhofnnaaW.PrintLast Go.Proofs.YtdoifmefhofnnaaW.PrintMore Go.Proofs.YtdoifmefhofnnaaW.PrintShort
attribute [local go_sem] run_Add64 run_Sub64
attribute [local go_sem] max2_int min2_int max_two min_two max_three min_three max_four min_four   -- for this text's walks alone
set_option linter.unusedVariables false
set_option linter.unusedSimpArgs false

/-! ### turnstilelaw24_events: function 11 -/
def turnstilelaw24_events.l0 : Nat → List (S31) → List (S31) → Int → Option ((List (S31)))
  | 0, _, _, _ => none
  | k + 1, x0, x3, x4 => if x4 < 9 then (if x3.length < 8796093022208 then (turnstilelaw24_events.l0 k x0 (x3 ++ [(⟨77, IntKind.u64.wrap (x4)⟩ : S31)]) (wrap64 (x4 + 1))) else (none)) else (if 0 ≤ (x0.length : Int) then (if (x0.length : Int) ≤ (x3.length : Int) then (some x3) else (none)) else (none))
def turnstilelaw24_events.g (k : Nat) (l0 : List (S31)) : Option ((List (S31))) := if 0 ≤ (wrap64 ((l0.length : Int) + 9)) then (if (wrap64 ((l0.length : Int) + 9) : Int).toNat ≤ 17592186044416 then ((some (List.replicate 0 z31 : List (S31))).bind fun y319 => (if y319.length + l0.length < 8796093022208 then (turnstilelaw24_events.l0 k l0 (y319 ++ l0) 0) else (none))) else (none)) else (none)
def turnstilelaw24_events.f (k : Nat) (l0 : List (S31)) : Option ((List (S31))) := (turnstilelaw24_events.g k l0).map (fun z => z.take l0.length)
set_option maxHeartbeats 8000000 in
set_option maxRecDepth 100000 in
theorem turnstilelaw24_events.calls2 (k : Nat) (A0 : Option Addr) (c0 : Nat) (l0 : List (S31)) (r t : List (S31)) (w : World) (hr0 : Kd.C k31 w A0 l0.length l0) (hc0 : l0.length ≤ c0) (h : turnstilelaw24_events.g k l0 = some r) (ht : r.take l0.length = t) :
    Calls Try.prog 11 #[.slice A0 l0.length c0] w fun e w' => ∃ (A : Option Addr) (c : Nat), e = .returned (.slice A t.length c) ∧ (t = r.take t.length ∧ t.length ≤ r.length) ∧ Kd.R k31 31 w' w.heap.size (fun _ => True) (.slice A r.length c) r ∧ Below w.heap.size w w' := by
  have hu31 := Try.underlying31
  have HR0 := Aside0.mk hr0
  have HC0 := Aside0.mk hc0
  clear hr0 hc0
  have HB := Aside0.mk (Below.refl w.heap.size w)
  have H : (if 0 ≤ (wrap64 ((l0.length : Int) + 9)) then (if (wrap64 ((l0.length : Int) + 9) : Int).toNat ≤ 17592186044416 then ((some (List.replicate 0 z31 : List (S31))).bind fun y319 => (if y319.length + l0.length < 8796093022208 then (turnstilelaw24_events.l0 k l0 (y319 ++ l0) 0) else (none))) else (none)) else (none)) = some r := h
  clear h
  obtain ⟨ji2, hji2⟩ : ∃ j_ : Int, (wrap64 ((l0.length : Int) + 9)) = j_ := ⟨_, rfl⟩
  replace H : (if 0 ≤ (ji2) then (if (ji2 : Int).toNat ≤ 17592186044416 then ((some (List.replicate 0 z31 : List (S31))).bind fun y319 => (if y319.length + l0.length < 8796093022208 then (turnstilelaw24_events.l0 k l0 (y319 ++ l0) 0) else (none))) else (none)) else (none)) = some r := by first | (rw [hji2] at H; exact H) | (simp only [hji2] at H ⊢; exact H)
  have hji2w : (IntKind.i64.wrap ((l0.length : Int) + 9)) = ji2 := (i64_w _).trans hji2
  by_cases c3 : 0 ≤ (ji2)
  · rw [if_pos c3] at H
    have c3b0 := eq_true c3
    have c3b1 : decide (0 ≤ (ji2)) = true := decide_eq_true c3
    clear c3
    by_cases c4 : (ji2 : Int).toNat ≤ 17592186044416
    · rw [if_pos c4] at H
      have c4b0 := eq_true c4
      have c4b1 : decide ((ji2 : Int).toNat ≤ 17592186044416) = true := decide_eq_true c4
      clear c4
      obtain ⟨y319, hy319⟩ : ∃ y_ : List (S31), y_ = (List.replicate 0 z31) := ⟨_, rfl⟩
      replace H : (if y319.length + l0.length < 8796093022208 then (turnstilelaw24_events.l0 k l0 (y319 ++ l0) 0) else (none)) = some r := by first | (rw [hy319]; with_reducible exact H) | (have H2_ := (Option.bind_some _ _).symm.trans H; rw [hy319]; with_reducible exact H2_) | (have H2_ := (Option.bind_some _ _).symm.trans H; with_reducible exact H2_) | with_reducible exact H | (rw [hy319]; exact H) | exact H
      have Ny319 := Aside0.mk hy319
      clear hy319
      by_cases c5 : y319.length + l0.length < 8796093022208
      · rw [if_pos c5] at H
        have LMc5 := Aside0.mk c5
        clear c5
        obtain ⟨y322, hy322⟩ : ∃ y_ : List (S31), y_ = (y319 ++ l0) := ⟨_, rfl⟩
        replace H : (turnstilelaw24_events.l0 k l0 y322 0) = some r := by first | (rw [hy322]; with_reducible exact H) | (have H2_ := (Option.bind_some _ _).symm.trans H; rw [hy322]; with_reducible exact H2_) | (have H2_ := (Option.bind_some _ _).symm.trans H; with_reducible exact H2_) | with_reducible exact H | (rw [hy322]; exact H) | exact H
        have Ny322 := Aside0.mk hy322
        clear hy322
        have H' := Aside0.mk H
        clear H
        go_enter Try.func11, Try.ntmps11
        go_wp2_with (first | ((with_reducible refine gate_dst (N := 8) rfl ?_); refine Kd.R_make0 k31 _ 31 rfl (N := 8) rfl 25 _ _ rfl ji2 rfl rfl Try.underlying25 (.agg #[(.int .u64 0), (.int .u64 0)]) 16 info31 rfl (by decide) (by omega) z31 (ok := fun _ => True) (okp := fun _ => True) (k31_mkM _ _ _ z31 ) (fun _ hk => hk) trivial (of_decide_eq_true (by first | (with_reducible assumption) | assumption)) (Nat.le_trans (Nat.mul_le_mul_right _ (of_decide_eq_true (by first | (with_reducible assumption) | assumption) : ji2.toNat ≤ 17592186044416)) (by omega)) (Below.refl _ _) (Nat.le_refl _) ?_; intro v320 w6 ho7 hb hg_ hnew_; clear hg_ hnew_; (first | rw [← Ny319.out] at ho7 | (simp only [Int.reduceToNat] at ho7; rw [← Ny319.out] at ho7)); have HO321 := Aside0.mk (Kd.R_lower ho7 (below_size (bw HB))); replace HB := bs HB hb; clear hb ho7) | ((with_reducible refine gate_builtin (b := .append) (xs := #[.tmp 9, .tmp 10]) rfl ?_); at_builtin; refine Kd.R_append_rows k31 (w0 := w) w.heap.size rfl (.tmp 9) (.tmp 10) 25 31 (.agg #[(.int .u64 0), (.int .u64 0)]) 16 rfl Try.underlying25 info31 rfl (by decide) (by omega) v320 y319 l0 _ _ _ (fun _ => True) (fun _ => False) rfl rfl ?aO ?aR (fun _ _ h => h) (fun _ h => h.elim) ?aF ?aB ?aS ?aL ?_; (case aR => repeat (first | exact (Kd.C_below HR0.out HB.out) | (with_reducible refine Kd.C_alloc ?_ _) | (with_reducible refine Kd.C_drewN ?_ _) | (with_reducible refine Kd.C_drew ?_))); (case aB => exact (bw HB)); (case aF => exact (fun _ _ => trivial)); (case aO => exact (ro HO321)); (case aS => exact (below_size (bw HB))); (case aL => have := LMc5.out; omega); intro v323 w8 ho hb hg hat; rw [← Ny322.out] at ho; have n0_ := Aside0.mk (hb); have n1_ := Aside0.mk (ho); clear HB; clear HO321; have HB := n0_; have HO324 := n1_; clear n0_ n1_; clear ho hb hg hat))
        go_loopg [3, 4] k (fun kq v3 v4 w' => ∃ (x3_1 : List (S31)) (x4_1 : Int), v4 = .int .i64 x4_1 ∧ Aside0 (turnstilelaw24_events.l0 kq l0 x3_1 x4_1 = some r) ∧ Aside0 (kq ≤ k) ∧ Aside0 (Kd.R k31 31 w' w.heap.size (fun _ => True) v3 x3_1) ∧ Aside0 (Below w.heap.size w w'))
        case atStart => exact ⟨(y322), (0), rs, H', ⟨Nat.le_refl _⟩, ⟨ro HO324⟩, ⟨bw HB⟩⟩
        case round =>
          clear H'
          try clear c1
          try clear p2
          try clear c3
          try clear c3b0
          try clear c3b1
          try clear c4
          try clear c4b0
          try clear c4b1
          try clear c5
          try clear p6
          obtain ⟨x3_1, x4_1, rfl, HA, HK1, HO_3, HB⟩ := hrel
          cases gk with
          | zero => exact absurd HA.out (by simp [turnstilelaw24_events.l0])
          | succ k1 =>
            have H := HA.out
            clear HA
            simp only [turnstilelaw24_events.l0] at H
            by_cases c9 : x4_1 < 9
            · rw [if_pos c9] at H
              have c9b0 : decide (x4_1 < 9) = true := decide_eq_true c9
              clear c9
              by_cases c10 : x3_1.length < 8796093022208
              · rw [if_pos c10] at H
                have LMc10 := Aside0.mk c10
                clear c10
                obtain ⟨y325, hy325⟩ : ∃ y_ : List (S31), y_ = (x3_1 ++ [(⟨77, IntKind.u64.wrap (x4_1)⟩ : S31)]) := ⟨_, rfl⟩
                replace H : (turnstilelaw24_events.l0 k1 l0 y325 (wrap64 (x4_1 + 1))) = some r := by first | (rw [hy325]; with_reducible exact H) | (have H2_ := (Option.bind_some _ _).symm.trans H; rw [hy325]; with_reducible exact H2_) | (have H2_ := (Option.bind_some _ _).symm.trans H; with_reducible exact H2_) | with_reducible exact H | (rw [hy325]; exact H) | exact H
                have Ny325 := Aside0.mk hy325
                clear hy325
                have H' := Aside0.mk H
                clear H
                go_wp2_with (first | ((with_reducible refine gate_builtin (b := .append) (xs := #[.tmp 16, .tmp 20]) rfl ?_); at_builtin; refine Kd.R_append k31 (w0 := w) w.heap.size rfl (.tmp 16) (.tmp 20) 25 31 (.agg #[(.int .u64 0), (.int .u64 0)]) 16 rfl Try.underlying25 info31 rfl (by decide) (by omega) u3 x3_1 (⟨77, IntKind.u64.wrap (x4_1)⟩ : S31) [.int .u64 77, .int .u64 (IntKind.u64.wrap (x4_1))] (fun _ => True) (fun _ => False) rfl rfl ?aP (fun _ hk => hk.elim) ?aF ?aO ?aB ?aS ?aL ?_; (case aP => exact k31_mkM _ _ _ (⟨77, IntKind.u64.wrap (x4_1)⟩ : S31)); (case aB => exact (bw HB)); (case aF => exact (fun _ _ => trivial)); (case aO => exact (ro HO_3)); (case aS => exact (below_size (bw HB))); (case aL => have := LMc10.out; omega); intro v326 w11 ho hb hg hat; rw [← Ny325.out] at ho; have n0_ := Aside0.mk (hb); have n1_ := Aside0.mk (ho); clear HB; clear HO_3; have HB := n0_; have HO327 := n1_; clear n0_ n1_; clear ho hb hg hat))
                go_roundg k1
                case measure => have := HK1.out; omega
                case rel => exact ⟨(y325), (wrap64 (x4_1 + 1)), rs, H', ⟨by have := HK1.out; omega⟩, ⟨ro HO327⟩, ⟨bw HB⟩⟩
              · rw [if_neg c10] at H
                exact absurd H (by simp)
            · rw [if_neg c9] at H
              have c9b0 : decide (x4_1 < 9) = false := decide_eq_false c9
              clear c9
              by_cases c12 : 0 ≤ (l0.length : Int)
              · rw [if_pos c12] at H
                have c12b0 := eq_true c12
                have c12b1 : decide (0 ≤ (l0.length : Int)) = true := decide_eq_true c12
                clear c12
                by_cases c13 : (l0.length : Int) ≤ (x3_1.length : Int)
                · rw [if_pos c13] at H
                  have c13b0 := eq_true c13
                  have c13b1 : decide ((l0.length : Int) ≤ (x3_1.length : Int)) = true := decide_eq_true c13
                  clear c13
                  obtain rfl := Option.some.inj H
                  obtain ⟨Ao14, co14, eo14⟩ := Kd.R_slice HO_3.out
                  subst eo14
                  have q15 : ((l0.length : Int) : Int) ≤ ((x3_1.length : Int) : Int) := of_decide_eq_true (by first | (with_reducible assumption) | assumption)
                  obtain ⟨i015, hi015, _, hsz15, _⟩ := info_parts info31
                  have hcut15 := cut_to (P := Try.prog) 25 31 .i64 Try.underlying25 hi015 Ao14 x3_1.length co14 (l0.length : Int) (of_decide_eq_true (by first | (with_reducible assumption) | assumption)) q15 (Kd.R_reads' HO_3.out).2.1
                  have hy15 : t.length = ((l0.length : Int) : Int).toNat := (by rw [← ht, List.length_take]; omega)
                  have hz15 : t.length ≤ x3_1.length := (by omega)
                  have hw15 : t = x3_1.take t.length := (by rw [hy15, Int.toNat_natCast]; exact ht.symm)
                  rw [← hy15] at hcut15
                  have HY15 := Aside0.mk (And.intro hw15 hz15)
                  clear hy15 hi015 hsz15 hz15 hw15 ht
                  replace q15 := eq_true q15
                  go_wp2
                  go_ret
                  exact ⟨Ao14, co14, rfl, HY15.out, ro HO_3, bw HB⟩
                · rw [if_neg c13] at H
                  exact absurd H (by simp)
              · rw [if_neg c12] at H
                exact absurd H (by simp)
      · rw [if_neg c5] at H
        exact absurd H (by simp)
    · rw [if_neg c4] at H
      exact absurd H (by simp)
  · rw [if_neg c3] at H
    exact absurd H (by simp)
set_option maxHeartbeats 8000000 in
set_option maxRecDepth 100000 in
theorem turnstilelaw24_events.calls (k : Nat) (A0 : Option Addr) (c0 : Nat) (l0 : List (S31)) (r : List (S31)) (w : World) (hr0 : Kd.C k31 w A0 l0.length l0) (hc0 : l0.length ≤ c0) (h : turnstilelaw24_events.f k l0 = some r) :
    Calls Try.prog 11 #[.slice A0 l0.length c0] w fun e w' => ∃ v0_ : Value, e = .returned (v0_) ∧ Kd.R k31 31 w' w.heap.size (fun _ => True) v0_ r ∧ Below w.heap.size w w' := by
  unfold turnstilelaw24_events.f at h
  obtain ⟨x, hg, hx⟩ := Option.map_eq_some_iff.1 h
  refine (turnstilelaw24_events.calls2 k A0 c0 l0 x r w hr0 hc0 hg hx).mono ?_
  rintro e w' ⟨A, c, he, ⟨h1, h2⟩, hR, hb⟩
  have h3 := Kd.R_take (m := r.length) hR h2
  rw [← h1] at h3
  exact ⟨_, he, h3, hb⟩

/-! ### turnstileref24_valid: function 30 -/
def turnstileref24_valid.f (a0_0 : Int) (a0_1 : Int) (a0_2 : Int) (a0_3 : Int) (a0_4 : Int) : Option (Bool) := if a0_0 = 1 then (if a0_1 ≥ 1 then (if a0_3 = 0 then (if a0_0 = 2 then (if a0_4 ≥ 1 then (if a0_1 = 0 then (if a0_4 = 0 then (some true) else (some (a0_2 == 0))) else (if a0_4 = 0 then (some true) else (some false))) else (if a0_4 = 0 then (some true) else (some false))) else (if a0_4 = 0 then (some true) else (some false))) else (if a0_0 = 2 then (if a0_4 ≥ 1 then (if a0_1 = 0 then (some (a0_2 == 0)) else (some false)) else (some false)) else (some false))) else (if a0_0 = 2 then (if a0_4 ≥ 1 then (if a0_1 = 0 then (some (a0_2 == 0)) else (some false)) else (some false)) else (some false))) else (if a0_0 = 2 then (if a0_4 ≥ 1 then (if a0_1 = 0 then (some (a0_2 == 0)) else (some false)) else (some false)) else (some false))
set_option maxHeartbeats 8000000 in
set_option maxRecDepth 100000 in
theorem turnstileref24_valid.calls (a0_0 : Int) (a0_1 : Int) (a0_2 : Int) (a0_3 : Int) (a0_4 : Int) (r : Bool) (w : World) (h : turnstileref24_valid.f a0_0 a0_1 a0_2 a0_3 a0_4 = some r) :
    Calls Try.prog 30 #[.agg #[.int .i64 a0_0, .int .u64 a0_1, .int .u64 a0_2, .int .u64 a0_3, .int .u64 a0_4]] w fun e w' => e = .returned (.bool r) ∧ Below w.heap.size w w' := by
  have hu24 := Try.underlying24
  have HB := Aside0.mk (Below.refl w.heap.size w)
  have H : (if a0_0 = 1 then (if a0_1 ≥ 1 then (if a0_3 = 0 then (if a0_0 = 2 then (if a0_4 ≥ 1 then (if a0_1 = 0 then (if a0_4 = 0 then (some true) else (some (a0_2 == 0))) else (if a0_4 = 0 then (some true) else (some false))) else (if a0_4 = 0 then (some true) else (some false))) else (if a0_4 = 0 then (some true) else (some false))) else (if a0_0 = 2 then (if a0_4 ≥ 1 then (if a0_1 = 0 then (some (a0_2 == 0)) else (some false)) else (some false)) else (some false))) else (if a0_0 = 2 then (if a0_4 ≥ 1 then (if a0_1 = 0 then (some (a0_2 == 0)) else (some false)) else (some false)) else (some false))) else (if a0_0 = 2 then (if a0_4 ≥ 1 then (if a0_1 = 0 then (some (a0_2 == 0)) else (some false)) else (some false)) else (some false))) = some r := h
  clear h
  by_cases c2 : a0_0 = 1
  · rw [if_pos c2] at H
    have c2b0 : (a0_0 == 1) = true := beq_iff_eq.mpr c2
    have c2b1 : (a0_0 != 1) = false := bne_eq_false_iff_eq.mpr c2
    clear c2
    by_cases c3 : a0_1 ≥ 1
    · rw [if_pos c3] at H
      have c3b0 : decide (1 ≤ a0_1) = true := decide_eq_true c3
      clear c3
      by_cases c4 : a0_3 = 0
      · rw [if_pos c4] at H
        have c4b0 : (a0_3 == 0) = true := beq_iff_eq.mpr c4
        have c4b1 : (a0_3 != 0) = false := bne_eq_false_iff_eq.mpr c4
        clear c4
        by_cases c5 : a0_0 = 2
        · rw [if_pos c5] at H
          have c5b0 : (a0_0 == 2) = true := beq_iff_eq.mpr c5
          have c5b1 : (a0_0 != 2) = false := bne_eq_false_iff_eq.mpr c5
          clear c5
          by_cases c6 : a0_4 ≥ 1
          · rw [if_pos c6] at H
            have c6b0 : decide (1 ≤ a0_4) = true := decide_eq_true c6
            clear c6
            by_cases c7 : a0_1 = 0
            · rw [if_pos c7] at H
              have c7b0 : (a0_1 == 0) = true := beq_iff_eq.mpr c7
              have c7b1 : (a0_1 != 0) = false := bne_eq_false_iff_eq.mpr c7
              clear c7
              by_cases c8 : a0_4 = 0
              · rw [if_pos c8] at H
                have c8b0 : (a0_4 == 0) = true := beq_iff_eq.mpr c8
                have c8b1 : (a0_4 != 0) = false := bne_eq_false_iff_eq.mpr c8
                clear c8
                obtain rfl := Option.some.inj H
                go_enter Try.func30, Try.ntmps30
                go_wp2_with (first | ((with_reducible refine gate_dst (N := 1) rfl ?_); refine bx 1 #[.int .i64 a0_0, .int .u64 a0_1, .int .u64 a0_2, .int .u64 a0_3, .int .u64 a0_4] 24 ?_; intro gb319 hg w9 hbox hb; have BK319 := Aside0.mk (hbox); have GW319 := sz HB hg; have GE319 := sz HB hg; replace HB := bs HB hb; clear hb hbox hg; obtain ⟨hcz10_0, hcz10_1, hcz10_2, hcz10_3, hcz10_4, hfz10_0, hfz10_1, hfz10_2, hfz10_3, hfz10_4⟩ := bc5 BK319))
                go_ret
                exact ⟨re, bw HB⟩
              · rw [if_neg c8] at H
                have c8b0 : (a0_4 == 0) = false := beq_eq_false_iff_ne.mpr c8
                have c8b1 : (a0_4 != 0) = true := bne_iff_ne.mpr c8
                obtain rfl := Option.some.inj H
                go_enter Try.func30, Try.ntmps30
                go_wp2_with (first | ((with_reducible refine gate_dst (N := 1) rfl ?_); refine bx 1 #[.int .i64 a0_0, .int .u64 a0_1, .int .u64 a0_2, .int .u64 a0_3, .int .u64 a0_4] 24 ?_; intro gb319 hg w11 hbox hb; have BK319 := Aside0.mk (hbox); have GW319 := sz HB hg; have GE319 := sz HB hg; replace HB := bs HB hb; clear hb hbox hg; obtain ⟨hcz12_0, hcz12_1, hcz12_2, hcz12_3, hcz12_4, hfz12_0, hfz12_1, hfz12_2, hfz12_3, hfz12_4⟩ := bc5 BK319))
                go_ret
                exact ⟨re, bw HB⟩
            · rw [if_neg c7] at H
              have c7b0 : (a0_1 == 0) = false := beq_eq_false_iff_ne.mpr c7
              have c7b1 : (a0_1 != 0) = true := bne_iff_ne.mpr c7
              by_cases c13 : a0_4 = 0
              · rw [if_pos c13] at H
                have c13b0 : (a0_4 == 0) = true := beq_iff_eq.mpr c13
                have c13b1 : (a0_4 != 0) = false := bne_eq_false_iff_eq.mpr c13
                clear c13
                obtain rfl := Option.some.inj H
                go_enter Try.func30, Try.ntmps30
                go_wp2_with (first | ((with_reducible refine gate_dst (N := 1) rfl ?_); refine bx 1 #[.int .i64 a0_0, .int .u64 a0_1, .int .u64 a0_2, .int .u64 a0_3, .int .u64 a0_4] 24 ?_; intro gb319 hg w14 hbox hb; have BK319 := Aside0.mk (hbox); have GW319 := sz HB hg; have GE319 := sz HB hg; replace HB := bs HB hb; clear hb hbox hg; obtain ⟨hcz15_0, hcz15_1, hcz15_2, hcz15_3, hcz15_4, hfz15_0, hfz15_1, hfz15_2, hfz15_3, hfz15_4⟩ := bc5 BK319))
                go_ret
                exact ⟨re, bw HB⟩
              · rw [if_neg c13] at H
                have c13b0 : (a0_4 == 0) = false := beq_eq_false_iff_ne.mpr c13
                have c13b1 : (a0_4 != 0) = true := bne_iff_ne.mpr c13
                obtain rfl := Option.some.inj H
                go_enter Try.func30, Try.ntmps30
                go_wp2_with (first | ((with_reducible refine gate_dst (N := 1) rfl ?_); refine bx 1 #[.int .i64 a0_0, .int .u64 a0_1, .int .u64 a0_2, .int .u64 a0_3, .int .u64 a0_4] 24 ?_; intro gb319 hg w16 hbox hb; have BK319 := Aside0.mk (hbox); have GW319 := sz HB hg; have GE319 := sz HB hg; replace HB := bs HB hb; clear hb hbox hg; obtain ⟨hcz17_0, hcz17_1, hcz17_2, hcz17_3, hcz17_4, hfz17_0, hfz17_1, hfz17_2, hfz17_3, hfz17_4⟩ := bc5 BK319))
                go_ret
                exact ⟨re, bw HB⟩
          · rw [if_neg c6] at H
            have c6b0 : decide (1 ≤ a0_4) = false := decide_eq_false c6
            clear c6
            by_cases c18 : a0_4 = 0
            · rw [if_pos c18] at H
              have c18b0 : (a0_4 == 0) = true := beq_iff_eq.mpr c18
              have c18b1 : (a0_4 != 0) = false := bne_eq_false_iff_eq.mpr c18
              clear c18
              obtain rfl := Option.some.inj H
              go_enter Try.func30, Try.ntmps30
              go_wp2_with (first | ((with_reducible refine gate_dst (N := 1) rfl ?_); refine bx 1 #[.int .i64 a0_0, .int .u64 a0_1, .int .u64 a0_2, .int .u64 a0_3, .int .u64 a0_4] 24 ?_; intro gb319 hg w19 hbox hb; have BK319 := Aside0.mk (hbox); have GW319 := sz HB hg; have GE319 := sz HB hg; replace HB := bs HB hb; clear hb hbox hg; obtain ⟨hcz20_0, hcz20_1, hcz20_2, hcz20_3, hcz20_4, hfz20_0, hfz20_1, hfz20_2, hfz20_3, hfz20_4⟩ := bc5 BK319))
              go_ret
              exact ⟨re, bw HB⟩
            · rw [if_neg c18] at H
              have c18b0 : (a0_4 == 0) = false := beq_eq_false_iff_ne.mpr c18
              have c18b1 : (a0_4 != 0) = true := bne_iff_ne.mpr c18
              obtain rfl := Option.some.inj H
              go_enter Try.func30, Try.ntmps30
              go_wp2_with (first | ((with_reducible refine gate_dst (N := 1) rfl ?_); refine bx 1 #[.int .i64 a0_0, .int .u64 a0_1, .int .u64 a0_2, .int .u64 a0_3, .int .u64 a0_4] 24 ?_; intro gb319 hg w21 hbox hb; have BK319 := Aside0.mk (hbox); have GW319 := sz HB hg; have GE319 := sz HB hg; replace HB := bs HB hb; clear hb hbox hg; obtain ⟨hcz22_0, hcz22_1, hcz22_2, hcz22_3, hcz22_4, hfz22_0, hfz22_1, hfz22_2, hfz22_3, hfz22_4⟩ := bc5 BK319))
              go_ret
              exact ⟨re, bw HB⟩
        · rw [if_neg c5] at H
          have c5b0 : (a0_0 == 2) = false := beq_eq_false_iff_ne.mpr c5
          have c5b1 : (a0_0 != 2) = true := bne_iff_ne.mpr c5
          by_cases c23 : a0_4 = 0
          · rw [if_pos c23] at H
            have c23b0 : (a0_4 == 0) = true := beq_iff_eq.mpr c23
            have c23b1 : (a0_4 != 0) = false := bne_eq_false_iff_eq.mpr c23
            clear c23
            obtain rfl := Option.some.inj H
            go_enter Try.func30, Try.ntmps30
            go_wp2_with (first | ((with_reducible refine gate_dst (N := 1) rfl ?_); refine bx 1 #[.int .i64 a0_0, .int .u64 a0_1, .int .u64 a0_2, .int .u64 a0_3, .int .u64 a0_4] 24 ?_; intro gb319 hg w24 hbox hb; have BK319 := Aside0.mk (hbox); have GW319 := sz HB hg; have GE319 := sz HB hg; replace HB := bs HB hb; clear hb hbox hg; obtain ⟨hcz25_0, hcz25_1, hcz25_2, hcz25_3, hcz25_4, hfz25_0, hfz25_1, hfz25_2, hfz25_3, hfz25_4⟩ := bc5 BK319))
            go_ret
            exact ⟨re, bw HB⟩
          · rw [if_neg c23] at H
            have c23b0 : (a0_4 == 0) = false := beq_eq_false_iff_ne.mpr c23
            have c23b1 : (a0_4 != 0) = true := bne_iff_ne.mpr c23
            obtain rfl := Option.some.inj H
            go_enter Try.func30, Try.ntmps30
            go_wp2_with (first | ((with_reducible refine gate_dst (N := 1) rfl ?_); refine bx 1 #[.int .i64 a0_0, .int .u64 a0_1, .int .u64 a0_2, .int .u64 a0_3, .int .u64 a0_4] 24 ?_; intro gb319 hg w26 hbox hb; have BK319 := Aside0.mk (hbox); have GW319 := sz HB hg; have GE319 := sz HB hg; replace HB := bs HB hb; clear hb hbox hg; obtain ⟨hcz27_0, hcz27_1, hcz27_2, hcz27_3, hcz27_4, hfz27_0, hfz27_1, hfz27_2, hfz27_3, hfz27_4⟩ := bc5 BK319))
            go_ret
            exact ⟨re, bw HB⟩
      · rw [if_neg c4] at H
        have c4b0 : (a0_3 == 0) = false := beq_eq_false_iff_ne.mpr c4
        have c4b1 : (a0_3 != 0) = true := bne_iff_ne.mpr c4
        by_cases c28 : a0_0 = 2
        · rw [if_pos c28] at H
          have c28b0 : (a0_0 == 2) = true := beq_iff_eq.mpr c28
          have c28b1 : (a0_0 != 2) = false := bne_eq_false_iff_eq.mpr c28
          clear c28
          by_cases c29 : a0_4 ≥ 1
          · rw [if_pos c29] at H
            have c29b0 : decide (1 ≤ a0_4) = true := decide_eq_true c29
            clear c29
            by_cases c30 : a0_1 = 0
            · rw [if_pos c30] at H
              have c30b0 : (a0_1 == 0) = true := beq_iff_eq.mpr c30
              have c30b1 : (a0_1 != 0) = false := bne_eq_false_iff_eq.mpr c30
              clear c30
              obtain rfl := Option.some.inj H
              go_enter Try.func30, Try.ntmps30
              go_wp2_with (first | ((with_reducible refine gate_dst (N := 1) rfl ?_); refine bx 1 #[.int .i64 a0_0, .int .u64 a0_1, .int .u64 a0_2, .int .u64 a0_3, .int .u64 a0_4] 24 ?_; intro gb319 hg w31 hbox hb; have BK319 := Aside0.mk (hbox); have GW319 := sz HB hg; have GE319 := sz HB hg; replace HB := bs HB hb; clear hb hbox hg; obtain ⟨hcz32_0, hcz32_1, hcz32_2, hcz32_3, hcz32_4, hfz32_0, hfz32_1, hfz32_2, hfz32_3, hfz32_4⟩ := bc5 BK319))
              go_ret
              exact ⟨re, bw HB⟩
            · rw [if_neg c30] at H
              have c30b0 : (a0_1 == 0) = false := beq_eq_false_iff_ne.mpr c30
              have c30b1 : (a0_1 != 0) = true := bne_iff_ne.mpr c30
              obtain rfl := Option.some.inj H
              go_enter Try.func30, Try.ntmps30
              go_wp2_with (first | ((with_reducible refine gate_dst (N := 1) rfl ?_); refine bx 1 #[.int .i64 a0_0, .int .u64 a0_1, .int .u64 a0_2, .int .u64 a0_3, .int .u64 a0_4] 24 ?_; intro gb319 hg w33 hbox hb; have BK319 := Aside0.mk (hbox); have GW319 := sz HB hg; have GE319 := sz HB hg; replace HB := bs HB hb; clear hb hbox hg; obtain ⟨hcz34_0, hcz34_1, hcz34_2, hcz34_3, hcz34_4, hfz34_0, hfz34_1, hfz34_2, hfz34_3, hfz34_4⟩ := bc5 BK319))
              go_ret
              exact ⟨re, bw HB⟩
          · rw [if_neg c29] at H
            have c29b0 : decide (1 ≤ a0_4) = false := decide_eq_false c29
            clear c29
            obtain rfl := Option.some.inj H
            go_enter Try.func30, Try.ntmps30
            go_wp2_with (first | ((with_reducible refine gate_dst (N := 1) rfl ?_); refine bx 1 #[.int .i64 a0_0, .int .u64 a0_1, .int .u64 a0_2, .int .u64 a0_3, .int .u64 a0_4] 24 ?_; intro gb319 hg w35 hbox hb; have BK319 := Aside0.mk (hbox); have GW319 := sz HB hg; have GE319 := sz HB hg; replace HB := bs HB hb; clear hb hbox hg; obtain ⟨hcz36_0, hcz36_1, hcz36_2, hcz36_3, hcz36_4, hfz36_0, hfz36_1, hfz36_2, hfz36_3, hfz36_4⟩ := bc5 BK319))
            go_ret
            exact ⟨re, bw HB⟩
        · rw [if_neg c28] at H
          have c28b0 : (a0_0 == 2) = false := beq_eq_false_iff_ne.mpr c28
          have c28b1 : (a0_0 != 2) = true := bne_iff_ne.mpr c28
          obtain rfl := Option.some.inj H
          go_enter Try.func30, Try.ntmps30
          go_wp2_with (first | ((with_reducible refine gate_dst (N := 1) rfl ?_); refine bx 1 #[.int .i64 a0_0, .int .u64 a0_1, .int .u64 a0_2, .int .u64 a0_3, .int .u64 a0_4] 24 ?_; intro gb319 hg w37 hbox hb; have BK319 := Aside0.mk (hbox); have GW319 := sz HB hg; have GE319 := sz HB hg; replace HB := bs HB hb; clear hb hbox hg; obtain ⟨hcz38_0, hcz38_1, hcz38_2, hcz38_3, hcz38_4, hfz38_0, hfz38_1, hfz38_2, hfz38_3, hfz38_4⟩ := bc5 BK319))
          go_ret
          exact ⟨re, bw HB⟩
    · rw [if_neg c3] at H
      have c3b0 : decide (1 ≤ a0_1) = false := decide_eq_false c3
      clear c3
      by_cases c39 : a0_0 = 2
      · rw [if_pos c39] at H
        have c39b0 : (a0_0 == 2) = true := beq_iff_eq.mpr c39
        have c39b1 : (a0_0 != 2) = false := bne_eq_false_iff_eq.mpr c39
        clear c39
        by_cases c40 : a0_4 ≥ 1
        · rw [if_pos c40] at H
          have c40b0 : decide (1 ≤ a0_4) = true := decide_eq_true c40
          clear c40
          by_cases c41 : a0_1 = 0
          · rw [if_pos c41] at H
            have c41b0 : (a0_1 == 0) = true := beq_iff_eq.mpr c41
            have c41b1 : (a0_1 != 0) = false := bne_eq_false_iff_eq.mpr c41
            clear c41
            obtain rfl := Option.some.inj H
            go_enter Try.func30, Try.ntmps30
            go_wp2_with (first | ((with_reducible refine gate_dst (N := 1) rfl ?_); refine bx 1 #[.int .i64 a0_0, .int .u64 a0_1, .int .u64 a0_2, .int .u64 a0_3, .int .u64 a0_4] 24 ?_; intro gb319 hg w42 hbox hb; have BK319 := Aside0.mk (hbox); have GW319 := sz HB hg; have GE319 := sz HB hg; replace HB := bs HB hb; clear hb hbox hg; obtain ⟨hcz43_0, hcz43_1, hcz43_2, hcz43_3, hcz43_4, hfz43_0, hfz43_1, hfz43_2, hfz43_3, hfz43_4⟩ := bc5 BK319))
            go_ret
            exact ⟨re, bw HB⟩
          · rw [if_neg c41] at H
            have c41b0 : (a0_1 == 0) = false := beq_eq_false_iff_ne.mpr c41
            have c41b1 : (a0_1 != 0) = true := bne_iff_ne.mpr c41
            obtain rfl := Option.some.inj H
            go_enter Try.func30, Try.ntmps30
            go_wp2_with (first | ((with_reducible refine gate_dst (N := 1) rfl ?_); refine bx 1 #[.int .i64 a0_0, .int .u64 a0_1, .int .u64 a0_2, .int .u64 a0_3, .int .u64 a0_4] 24 ?_; intro gb319 hg w44 hbox hb; have BK319 := Aside0.mk (hbox); have GW319 := sz HB hg; have GE319 := sz HB hg; replace HB := bs HB hb; clear hb hbox hg; obtain ⟨hcz45_0, hcz45_1, hcz45_2, hcz45_3, hcz45_4, hfz45_0, hfz45_1, hfz45_2, hfz45_3, hfz45_4⟩ := bc5 BK319))
            go_ret
            exact ⟨re, bw HB⟩
        · rw [if_neg c40] at H
          have c40b0 : decide (1 ≤ a0_4) = false := decide_eq_false c40
          clear c40
          obtain rfl := Option.some.inj H
          go_enter Try.func30, Try.ntmps30
          go_wp2_with (first | ((with_reducible refine gate_dst (N := 1) rfl ?_); refine bx 1 #[.int .i64 a0_0, .int .u64 a0_1, .int .u64 a0_2, .int .u64 a0_3, .int .u64 a0_4] 24 ?_; intro gb319 hg w46 hbox hb; have BK319 := Aside0.mk (hbox); have GW319 := sz HB hg; have GE319 := sz HB hg; replace HB := bs HB hb; clear hb hbox hg; obtain ⟨hcz47_0, hcz47_1, hcz47_2, hcz47_3, hcz47_4, hfz47_0, hfz47_1, hfz47_2, hfz47_3, hfz47_4⟩ := bc5 BK319))
          go_ret
          exact ⟨re, bw HB⟩
      · rw [if_neg c39] at H
        have c39b0 : (a0_0 == 2) = false := beq_eq_false_iff_ne.mpr c39
        have c39b1 : (a0_0 != 2) = true := bne_iff_ne.mpr c39
        obtain rfl := Option.some.inj H
        go_enter Try.func30, Try.ntmps30
        go_wp2_with (first | ((with_reducible refine gate_dst (N := 1) rfl ?_); refine bx 1 #[.int .i64 a0_0, .int .u64 a0_1, .int .u64 a0_2, .int .u64 a0_3, .int .u64 a0_4] 24 ?_; intro gb319 hg w48 hbox hb; have BK319 := Aside0.mk (hbox); have GW319 := sz HB hg; have GE319 := sz HB hg; replace HB := bs HB hb; clear hb hbox hg; obtain ⟨hcz49_0, hcz49_1, hcz49_2, hcz49_3, hcz49_4, hfz49_0, hfz49_1, hfz49_2, hfz49_3, hfz49_4⟩ := bc5 BK319))
        go_ret
        exact ⟨re, bw HB⟩
  · rw [if_neg c2] at H
    have c2b0 : (a0_0 == 1) = false := beq_eq_false_iff_ne.mpr c2
    have c2b1 : (a0_0 != 1) = true := bne_iff_ne.mpr c2
    by_cases c50 : a0_0 = 2
    · rw [if_pos c50] at H
      have c50b0 : (a0_0 == 2) = true := beq_iff_eq.mpr c50
      have c50b1 : (a0_0 != 2) = false := bne_eq_false_iff_eq.mpr c50
      clear c50
      by_cases c51 : a0_4 ≥ 1
      · rw [if_pos c51] at H
        have c51b0 : decide (1 ≤ a0_4) = true := decide_eq_true c51
        clear c51
        by_cases c52 : a0_1 = 0
        · rw [if_pos c52] at H
          have c52b0 : (a0_1 == 0) = true := beq_iff_eq.mpr c52
          have c52b1 : (a0_1 != 0) = false := bne_eq_false_iff_eq.mpr c52
          clear c52
          obtain rfl := Option.some.inj H
          go_enter Try.func30, Try.ntmps30
          go_wp2_with (first | ((with_reducible refine gate_dst (N := 1) rfl ?_); refine bx 1 #[.int .i64 a0_0, .int .u64 a0_1, .int .u64 a0_2, .int .u64 a0_3, .int .u64 a0_4] 24 ?_; intro gb319 hg w53 hbox hb; have BK319 := Aside0.mk (hbox); have GW319 := sz HB hg; have GE319 := sz HB hg; replace HB := bs HB hb; clear hb hbox hg; obtain ⟨hcz54_0, hcz54_1, hcz54_2, hcz54_3, hcz54_4, hfz54_0, hfz54_1, hfz54_2, hfz54_3, hfz54_4⟩ := bc5 BK319))
          go_ret
          exact ⟨re, bw HB⟩
        · rw [if_neg c52] at H
          have c52b0 : (a0_1 == 0) = false := beq_eq_false_iff_ne.mpr c52
          have c52b1 : (a0_1 != 0) = true := bne_iff_ne.mpr c52
          obtain rfl := Option.some.inj H
          go_enter Try.func30, Try.ntmps30
          go_wp2_with (first | ((with_reducible refine gate_dst (N := 1) rfl ?_); refine bx 1 #[.int .i64 a0_0, .int .u64 a0_1, .int .u64 a0_2, .int .u64 a0_3, .int .u64 a0_4] 24 ?_; intro gb319 hg w55 hbox hb; have BK319 := Aside0.mk (hbox); have GW319 := sz HB hg; have GE319 := sz HB hg; replace HB := bs HB hb; clear hb hbox hg; obtain ⟨hcz56_0, hcz56_1, hcz56_2, hcz56_3, hcz56_4, hfz56_0, hfz56_1, hfz56_2, hfz56_3, hfz56_4⟩ := bc5 BK319))
          go_ret
          exact ⟨re, bw HB⟩
      · rw [if_neg c51] at H
        have c51b0 : decide (1 ≤ a0_4) = false := decide_eq_false c51
        clear c51
        obtain rfl := Option.some.inj H
        go_enter Try.func30, Try.ntmps30
        go_wp2_with (first | ((with_reducible refine gate_dst (N := 1) rfl ?_); refine bx 1 #[.int .i64 a0_0, .int .u64 a0_1, .int .u64 a0_2, .int .u64 a0_3, .int .u64 a0_4] 24 ?_; intro gb319 hg w57 hbox hb; have BK319 := Aside0.mk (hbox); have GW319 := sz HB hg; have GE319 := sz HB hg; replace HB := bs HB hb; clear hb hbox hg; obtain ⟨hcz58_0, hcz58_1, hcz58_2, hcz58_3, hcz58_4, hfz58_0, hfz58_1, hfz58_2, hfz58_3, hfz58_4⟩ := bc5 BK319))
        go_ret
        exact ⟨re, bw HB⟩
    · rw [if_neg c50] at H
      have c50b0 : (a0_0 == 2) = false := beq_eq_false_iff_ne.mpr c50
      have c50b1 : (a0_0 != 2) = true := bne_iff_ne.mpr c50
      obtain rfl := Option.some.inj H
      go_enter Try.func30, Try.ntmps30
      go_wp2_with (first | ((with_reducible refine gate_dst (N := 1) rfl ?_); refine bx 1 #[.int .i64 a0_0, .int .u64 a0_1, .int .u64 a0_2, .int .u64 a0_3, .int .u64 a0_4] 24 ?_; intro gb319 hg w59 hbox hb; have BK319 := Aside0.mk (hbox); have GW319 := sz HB hg; have GE319 := sz HB hg; replace HB := bs HB hb; clear hb hbox hg; obtain ⟨hcz60_0, hcz60_1, hcz60_2, hcz60_3, hcz60_4, hfz60_0, hfz60_1, hfz60_2, hfz60_3, hfz60_4⟩ := bc5 BK319))
      go_ret
      exact ⟨re, bw HB⟩

end Go.Proofs.Ytdoifmefhofnnaa.D
