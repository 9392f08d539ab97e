/- Written by the session's own program hyb.py: what functions of the program compute; Lean checks it. -/
import Derived.Test.YtdoifmefhofnnaaDx0
namespace Go.Proofs.Ytdoifmefhofnnaa.D
open Go.RowKit Go.Proofs.YtdoifmefhofnnaaW.PrintWords Go.Proofs.YtdoifmefhofnnaaW.PrintLast Go.Proofs.YtdoifmefhofnnaaW.PrintMore Go.Proofs.YtdoifmefhofnnaaW.PrintShort
attribute [local go_sem] run_Add64 run_Sub64
attribute [local go_sem] max2_int min2_int max_two min_two max_three min_three max_four min_four   -- for this text's walks alone
set_option linter.unusedVariables false
set_option linter.unusedSimpArgs false

/-! ### turnstileref24_minus: function 46 -/
mutual
def turnstileref24_minus.l0 : Nat → List Int → List Int → List Int → Int → Int → Option (List Int)
  | 0, _, _, _, _, _ => none
  | k + 1, x0, x1, x5, x6, x7 => if x7 < (x0.length : Int) then (if 0 ≤ x7 then (if x7 < (x1.length : Int) then (if x5.length < 17592186044416 then (turnstileref24_minus.l0 k x0 x1 (x5 ++ [Int.tmod (IntKind.u64.wrap ((IntKind.u64.wrap ((IntKind.u64.wrap ((rd x0 x7) + 4294967296)) - x6)) - (rd x1 x7))) 4294967296]) (IntKind.u64.wrap (1 - (IntKind.u64.wrap (Int.tdiv (IntKind.u64.wrap ((IntKind.u64.wrap ((IntKind.u64.wrap ((rd x0 x7) + 4294967296)) - x6)) - (rd x1 x7))) 4294967296)))) (wrap64 (x7 + 1))) else (none)) else (if x5.length < 17592186044416 then (turnstileref24_minus.l0 k x0 x1 (x5 ++ [Int.tmod (IntKind.u64.wrap ((IntKind.u64.wrap ((rd x0 x7) + 4294967296)) - x6)) 4294967296]) (IntKind.u64.wrap (1 - (IntKind.u64.wrap (Int.tdiv (IntKind.u64.wrap ((IntKind.u64.wrap ((rd x0 x7) + 4294967296)) - x6)) 4294967296)))) (wrap64 (x7 + 1))) else (none))) else (none)) else (turnstileref24_minus.l1 k x5 (x5.length : Int))
def turnstileref24_minus.l1 : Nat → List Int → Int → Option (List Int)
  | 0, _, _ => none
  | k + 1, x5, x9 => if x9 > 0 then (if 0 ≤ (wrap64 (x9 - 1)) then (if (wrap64 (x9 - 1)) < (x5.length : Int) then (if (rd x5 (wrap64 (x9 - 1))) = 0 then (turnstileref24_minus.l1 k x5 (wrap64 (x9 - 1))) else (if 0 ≤ x9 then (if x9 ≤ (x5.length : Int) then (some (x5.take (x9 : Int).toNat)) else (none)) else (none))) else (none)) else (none)) else (if 0 ≤ x9 then (if x9 ≤ (x5.length : Int) then (some (x5.take (x9 : Int).toNat)) else (none)) else (none))
end
def turnstileref24_minus.f (k : Nat) (l0 : List Int) (l1 : List Int) : Option (List Int) := turnstileref24_minus.l0 k l0 l1 (([] : List Int)) 0 0
set_option maxHeartbeats 8000000 in
set_option maxRecDepth 100000 in
theorem turnstileref24_minus.calls (k : Nat) (A0 : Option Addr) (c0 : Nat) (l0 : List Int) (A1 : Option Addr) (c1 : Nat) (l1 : List Int) (r : List Int) (w : World) (hr0 : Kd.C (Kd.int .u64) w A0 l0.length l0) (hc0 : l0.length ≤ c0) (hr1 : Kd.C (Kd.int .u64) w A1 l1.length l1) (hc1 : l1.length ≤ c1) (h : turnstileref24_minus.f k l0 l1 = some r) :
    Calls Try.prog 46 #[.slice A0 l0.length c0, .slice A1 l1.length c1] w fun e w' => ∃ v0_ : Value, e = .returned (v0_) ∧ Kd.R (Kd.int .u64) 22 w' w.heap.size (fun _ => True) v0_ r ∧ Below w.heap.size w w' := by
  have HR0 := Aside0.mk hr0
  have HC0 := Aside0.mk hc0
  clear hr0 hc0
  have HR1 := Aside0.mk hr1
  have HC1 := Aside0.mk hc1
  clear hr1 hc1
  have HB := Aside0.mk (Below.refl w.heap.size w)
  have H : (turnstileref24_minus.l0 k l0 l1 (([] : List Int)) 0 0) = some r := h
  clear h
  obtain ⟨y384, hy384⟩ : ∃ y_ : List Int, y_ = (([] : List Int)) := ⟨_, rfl⟩
  replace H : (turnstileref24_minus.l0 k l0 l1 y384 0 0) = some r := by first | (rw [hy384]; with_reducible exact H) | (have H2_ := (Option.bind_some _ _).symm.trans H; rw [hy384]; with_reducible exact H2_) | (have H2_ := (Option.bind_some _ _).symm.trans H; with_reducible exact H2_) | with_reducible exact H | (rw [hy384]; exact H) | exact H
  have Ny384 := Aside0.mk hy384
  clear hy384
  have H' := Aside0.mk H
  clear H
  go_enter Try.func46, Try.ntmps46
  go_wp2_with (first | ((with_reducible refine gate_dst (N := 10) rfl ?_); refine Kd.R_lit (Kd.int .u64) _ 22 ?hg (N := 10) ?hd (xs := ([] : List Int)) (inner := []) (ok := fun _ => True) (okp := fun _ => True) ?hr ?hp (fun _ hk => hk) trivial (Below.refl _ _) (Nat.le_refl _) (by simp) ?_; (case hd => rfl); (case hg => rfl); (case hr => first | (go_simp; done) | (go_simp; rfl)); (case hp => exact (Reps.none _ _)); intro v385 w3 ho4 hb hg_ hnew_; clear hg_ hnew_; (first | rw [← Ny384.out] at ho4 | (simp only [Int.reduceToNat] at ho4; rw [← Ny384.out] at ho4)); have HO386 := Aside0.mk (Kd.R_lower ho4 (below_size (bw HB))); replace HB := bs HB hb; clear hb ho4))
  go_loopg [5, 6, 7] k (fun kq v5 v6 v7 w' => ∃ (x5_1 : List Int) (x6_1 : Int) (x7_1 : Int), v6 = .int .u64 x6_1 ∧ v7 = .int .i64 x7_1 ∧ Aside0 (turnstileref24_minus.l0 kq l0 l1 x5_1 x6_1 x7_1 = some r) ∧ Aside0 (kq ≤ k) ∧ Aside0 (Kd.R (Kd.int .u64) 22 w' w.heap.size (fun _ => True) v5 x5_1) ∧ Aside0 (Below w.heap.size w w'))
  case atStart => exact ⟨(y384), (0), (0), rs, rs, H', ⟨Nat.le_refl _⟩, ⟨ro HO386⟩, ⟨bw HB⟩⟩
  case round =>
    clear H'
    try clear c1
    try clear p2
    try clear c4
    obtain ⟨x5_1, x6_1, x7_1, rfl, rfl, HA, HK1, HO_5, HB⟩ := hrel
    cases gk with
    | zero => exact absurd HA.out (by simp [turnstileref24_minus.l0])
    | succ k1 =>
      have H := HA.out
      clear HA
      simp only [turnstileref24_minus.l0] at H
      by_cases c5 : x7_1 < (l0.length : Int)
      · rw [if_pos c5] at H
        have c5b0 : decide (x7_1 < (l0.length : Int)) = true := decide_eq_true c5
        clear c5
        by_cases c6 : 0 ≤ x7_1
        · rw [if_pos c6] at H
          have c6b0 : decide (0 ≤ x7_1) = true := decide_eq_true c6
          clear c6
          by_cases c7 : x7_1 < (l1.length : Int)
          · rw [if_pos c7] at H
            have c7b0 : decide (x7_1 < (l1.length : Int)) = true := decide_eq_true c7
            clear c7
            by_cases c8 : x5_1.length < 17592186044416
            · rw [if_pos c8] at H
              have LMc8 := Aside0.mk c8
              clear c8
              obtain ⟨y389, hy389⟩ : ∃ y_ : List Int, y_ = (x5_1 ++ [Int.tmod (IntKind.u64.wrap ((IntKind.u64.wrap ((IntKind.u64.wrap ((rd l0 x7_1) + 4294967296)) - x6_1)) - (rd l1 x7_1))) 4294967296]) := ⟨_, rfl⟩
              replace H : (turnstileref24_minus.l0 k1 l0 l1 y389 (IntKind.u64.wrap (1 - (IntKind.u64.wrap (Int.tdiv (IntKind.u64.wrap ((IntKind.u64.wrap ((IntKind.u64.wrap ((rd l0 x7_1) + 4294967296)) - x6_1)) - (rd l1 x7_1))) 4294967296)))) (wrap64 (x7_1 + 1))) = some r := by first | (rw [hy389]; with_reducible exact H) | (have H2_ := (Option.bind_some _ _).symm.trans H; rw [hy389]; with_reducible exact H2_) | (have H2_ := (Option.bind_some _ _).symm.trans H; with_reducible exact H2_) | with_reducible exact H | (rw [hy389]; exact H) | exact H
              have Ny389 := Aside0.mk hy389
              clear hy389
              have H' := Aside0.mk H
              clear H
              have p387 : 0 ≤ (x7_1 : Int) := of_decide_eq_true (by first | (with_reducible assumption) | assumption)
              have q387 : x7_1 < (l0.length : Int) := of_decide_eq_true (by first | (with_reducible assumption) | assumption)
              obtain ⟨ad387, e387, hx387_0⟩ := Kd.at_int HR0.out x7_1 p387 q387
              cases e387
              replace hx387_0 := (HB.out.cell (World.block_lt_of_cell? w _ hx387_0)).trans hx387_0
              replace p387 := eq_true p387
              replace q387 := eq_true q387
              have p388 : 0 ≤ (x7_1 : Int) := of_decide_eq_true (by first | (with_reducible assumption) | assumption)
              have q388 : x7_1 < (l1.length : Int) := of_decide_eq_true (by first | (with_reducible assumption) | assumption)
              obtain ⟨ad388, e388, hx388_0⟩ := Kd.at_int HR1.out x7_1 p388 q388
              cases e388
              replace hx388_0 := (HB.out.cell (World.block_lt_of_cell? w _ hx388_0)).trans hx388_0
              replace p388 := eq_true p388
              replace q388 := eq_true q388
              go_wp2_with (first | ((with_reducible refine gate_builtin (b := .append) (xs := #[.tmp 34, .tmp 37]) rfl ?_); at_builtin; refine Kd.R_append (Kd.int .u64) (w0 := w) w.heap.size rfl (.tmp 34) (.tmp 37) 81 22 (.int .u64 0) 8 rfl Try.underlying81 info22 rfl (by decide) (by omega) u5 x5_1 (Int.tmod (IntKind.u64.wrap ((IntKind.u64.wrap ((IntKind.u64.wrap ((rd l0 x7_1) + 4294967296)) - x6_1)) - (rd l1 x7_1))) 4294967296) [.int .u64 (Int.tmod (IntKind.u64.wrap ((IntKind.u64.wrap ((IntKind.u64.wrap ((rd l0 x7_1) + 4294967296)) - x6_1)) - (rd l1 x7_1))) 4294967296)] (fun _ => True) (fun _ => False) rfl rfl ?aP (fun _ hk => hk.elim) ?aF ?aO ?aB ?aS ?aL ?_; (case aP => exact rfl); (case aB => exact (bw HB)); (case aF => exact (fun _ _ => trivial)); (case aO => exact (ro HO_5)); (case aS => exact (below_size (bw HB))); (case aL => have := LMc8.out; omega); intro v390 w9 ho hb hg hat; rw [← Ny389.out] at ho; have n0_ := Aside0.mk (hb); have n1_ := Aside0.mk (ho); clear HB; clear HO_5; have HB := n0_; have HO391 := n1_; clear n0_ n1_; clear ho hb hg hat))
              go_roundg k1
              case measure => have := HK1.out; omega
              case rel => exact ⟨(y389), (IntKind.u64.wrap (1 - (IntKind.u64.wrap (Int.tdiv (IntKind.u64.wrap ((IntKind.u64.wrap ((IntKind.u64.wrap ((rd l0 x7_1) + 4294967296)) - x6_1)) - (rd l1 x7_1))) 4294967296)))), (wrap64 (x7_1 + 1)), rs, rs, H', ⟨by have := HK1.out; omega⟩, ⟨ro HO391⟩, ⟨bw HB⟩⟩
            · rw [if_neg c8] at H
              exact absurd H (by simp)
          · rw [if_neg c7] at H
            have c7b0 : decide (x7_1 < (l1.length : Int)) = false := decide_eq_false c7
            clear c7
            by_cases c10 : x5_1.length < 17592186044416
            · rw [if_pos c10] at H
              have LMc10 := Aside0.mk c10
              clear c10
              obtain ⟨y392, hy392⟩ : ∃ y_ : List Int, y_ = (x5_1 ++ [Int.tmod (IntKind.u64.wrap ((IntKind.u64.wrap ((rd l0 x7_1) + 4294967296)) - x6_1)) 4294967296]) := ⟨_, rfl⟩
              replace H : (turnstileref24_minus.l0 k1 l0 l1 y392 (IntKind.u64.wrap (1 - (IntKind.u64.wrap (Int.tdiv (IntKind.u64.wrap ((IntKind.u64.wrap ((rd l0 x7_1) + 4294967296)) - x6_1)) 4294967296)))) (wrap64 (x7_1 + 1))) = some r := by first | (rw [hy392]; with_reducible exact H) | (have H2_ := (Option.bind_some _ _).symm.trans H; rw [hy392]; with_reducible exact H2_) | (have H2_ := (Option.bind_some _ _).symm.trans H; with_reducible exact H2_) | with_reducible exact H | (rw [hy392]; exact H) | exact H
              have Ny392 := Aside0.mk hy392
              clear hy392
              have H' := Aside0.mk H
              clear H
              have p387 : 0 ≤ (x7_1 : Int) := of_decide_eq_true (by first | (with_reducible assumption) | assumption)
              have q387 : x7_1 < (l0.length : Int) := of_decide_eq_true (by first | (with_reducible assumption) | assumption)
              obtain ⟨ad387, e387, hx387_0⟩ := Kd.at_int HR0.out x7_1 p387 q387
              cases e387
              replace hx387_0 := (HB.out.cell (World.block_lt_of_cell? w _ hx387_0)).trans hx387_0
              replace p387 := eq_true p387
              replace q387 := eq_true q387
              go_wp2_with (first | ((with_reducible refine gate_builtin (b := .append) (xs := #[.tmp 34, .tmp 37]) rfl ?_); at_builtin; refine Kd.R_append (Kd.int .u64) (w0 := w) w.heap.size rfl (.tmp 34) (.tmp 37) 81 22 (.int .u64 0) 8 rfl Try.underlying81 info22 rfl (by decide) (by omega) u5 x5_1 (Int.tmod (IntKind.u64.wrap ((IntKind.u64.wrap ((rd l0 x7_1) + 4294967296)) - x6_1)) 4294967296) [.int .u64 (Int.tmod (IntKind.u64.wrap ((IntKind.u64.wrap ((rd l0 x7_1) + 4294967296)) - x6_1)) 4294967296)] (fun _ => True) (fun _ => False) rfl rfl ?aP (fun _ hk => hk.elim) ?aF ?aO ?aB ?aS ?aL ?_; (case aP => exact rfl); (case aB => exact (bw HB)); (case aF => exact (fun _ _ => trivial)); (case aO => exact (ro HO_5)); (case aS => exact (below_size (bw HB))); (case aL => have := LMc10.out; omega); intro v393 w11 ho hb hg hat; rw [← Ny392.out] at ho; have n0_ := Aside0.mk (hb); have n1_ := Aside0.mk (ho); clear HB; clear HO_5; have HB := n0_; have HO394 := n1_; clear n0_ n1_; clear ho hb hg hat))
              go_roundg k1
              case measure => have := HK1.out; omega
              case rel => exact ⟨(y392), (IntKind.u64.wrap (1 - (IntKind.u64.wrap (Int.tdiv (IntKind.u64.wrap ((IntKind.u64.wrap ((rd l0 x7_1) + 4294967296)) - x6_1)) 4294967296)))), (wrap64 (x7_1 + 1)), rs, rs, H', ⟨by have := HK1.out; omega⟩, ⟨ro HO394⟩, ⟨bw HB⟩⟩
            · rw [if_neg c10] at H
              exact absurd H (by simp)
        · rw [if_neg c6] at H
          exact absurd H (by simp)
      · rw [if_neg c5] at H
        have c5b0 : decide (x7_1 < (l0.length : Int)) = false := decide_eq_false c5
        clear c5
        have H' := Aside0.mk H
        clear H
        obtain ⟨Ao12, co12, eo12⟩ := Kd.R_slice HO_5.out
        subst eo12
        go_wp2
        go_loopg [9] k1 (fun kq v9 w' => ∃ (x9_2 : Int), v9 = .int .i64 x9_2 ∧ Aside0 (turnstileref24_minus.l1 kq x5_1 x9_2 = some r) ∧ Aside0 (kq ≤ k1) ∧ Aside0 (Kd.R (Kd.int .u64) 22 w' w.heap.size (fun _ => True) (.slice Ao12 x5_1.length co12) x5_1) ∧ Aside0 (Below w.heap.size w w'))
        case atStart => exact ⟨((x5_1.length : Int)), rs, H', ⟨Nat.le_refl _⟩, ⟨ro HO_5⟩, ⟨bw HB⟩⟩
        case round =>
          clear H'
          try clear c1
          try clear p2
          try clear p3
          try clear q3
          try clear hx3
          try clear c4
          try clear c5
          try clear c5b0
          try clear c6
          try clear c6b0
          try clear p6
          try clear c7
          try clear c7b0
          try clear c8
          try clear c10
          try clear hx387_0
          try clear hx388_0
          try clear p2
          try clear p387
          try clear p388
          try clear q387
          try clear q388
          obtain ⟨x9_2, rfl, HA, HK2, HO_5, HB⟩ := hrel
          cases gk with
          | zero => exact absurd HA.out (by simp [turnstileref24_minus.l1])
          | succ k2 =>
            have H := HA.out
            clear HA
            simp only [turnstileref24_minus.l1] at H
            by_cases c13 : x9_2 > 0
            · rw [if_pos c13] at H
              have c13b0 : decide (0 < x9_2) = true := decide_eq_true c13
              clear c13
              obtain ⟨ji14, hji14⟩ : ∃ j_ : Int, (wrap64 (x9_2 - 1)) = j_ := ⟨_, rfl⟩
              replace H : (if 0 ≤ (ji14) then (if (ji14) < (x5_1.length : Int) then (if (rd x5_1 (ji14)) = 0 then (turnstileref24_minus.l1 k2 x5_1 ji14) else (if 0 ≤ x9_2 then (if x9_2 ≤ (x5_1.length : Int) then (some (x5_1.take (x9_2 : Int).toNat)) else (none)) else (none))) else (none)) else (none)) = some r := by first | (rw [hji14] at H; exact H) | (simp only [hji14] at H ⊢; exact H)
              have hji14w : (IntKind.i64.wrap (x9_2 - 1)) = ji14 := (i64_w _).trans hji14
              by_cases c15 : 0 ≤ (ji14)
              · rw [if_pos c15] at H
                have c15b0 : decide (0 ≤ (ji14)) = true := decide_eq_true c15
                clear c15
                by_cases c16 : (ji14) < (x5_1.length : Int)
                · rw [if_pos c16] at H
                  have c16b0 : decide ((ji14) < (x5_1.length : Int)) = true := decide_eq_true c16
                  clear c16
                  by_cases c17 : (rd x5_1 (ji14)) = 0
                  · rw [if_pos c17] at H
                    have c17b0 : ((rd x5_1 (ji14)) == 0) = true := beq_iff_eq.mpr c17
                    have c17b1 : ((rd x5_1 (ji14)) != 0) = false := bne_eq_false_iff_eq.mpr c17
                    clear c17
                    have H' := Aside0.mk H
                    clear H
                    have p395 : 0 ≤ ((ji14) : Int) := of_decide_eq_true (by first | (with_reducible assumption) | assumption)
                    have q395 : (ji14) < (x5_1.length : Int) := of_decide_eq_true (by first | (with_reducible assumption) | assumption)
                    obtain ⟨ad395, e395, hx395_0⟩ := Kd.at_int (Kd.R_reads' HO_5.out).2.2 (ji14) p395 q395
                    cases e395
                    replace p395 := eq_true p395
                    replace q395 := eq_true q395
                    go_wp2
                    go_roundg k2
                    case measure => have := HK1.out; have := HK2.out; omega
                    case rel => exact ⟨(ji14), (by first | rfl | (simp; done) | (simp only [← hji14] <;> (first | rfl | simp)) | (simp [*]; done)), H', ⟨by have := HK1.out; have := HK2.out; omega⟩, ⟨ro HO_5⟩, ⟨bw HB⟩⟩
                  · rw [if_neg c17] at H
                    have c17b0 : ((rd x5_1 (ji14)) == 0) = false := beq_eq_false_iff_ne.mpr c17
                    have c17b1 : ((rd x5_1 (ji14)) != 0) = true := bne_iff_ne.mpr c17
                    by_cases c18 : 0 ≤ x9_2
                    · rw [if_pos c18] at H
                      have c18b0 := eq_true c18
                      have c18b1 : decide (0 ≤ x9_2) = true := decide_eq_true c18
                      clear c18
                      by_cases c19 : x9_2 ≤ (x5_1.length : Int)
                      · rw [if_pos c19] at H
                        have c19b0 := eq_true c19
                        have c19b1 : decide (x9_2 ≤ (x5_1.length : Int)) = true := decide_eq_true c19
                        clear c19
                        obtain ⟨y396, hy396⟩ : ∃ y_ : List Int, y_ = (x5_1.take (x9_2 : Int).toNat) := ⟨_, rfl⟩
                        replace H : (some y396) = some r := by first | (rw [hy396]; with_reducible exact H) | (have H2_ := (Option.bind_some _ _).symm.trans H; rw [hy396]; with_reducible exact H2_) | (have H2_ := (Option.bind_some _ _).symm.trans H; with_reducible exact H2_) | with_reducible exact H | (rw [hy396]; exact H) | exact H
                        have Ny396 := Aside0.mk hy396
                        clear hy396
                        obtain rfl := Option.some.inj H
                        have p395 : 0 ≤ ((ji14) : Int) := of_decide_eq_true (by first | (with_reducible assumption) | assumption)
                        have q395 : (ji14) < (x5_1.length : Int) := of_decide_eq_true (by first | (with_reducible assumption) | assumption)
                        obtain ⟨ad395, e395, hx395_0⟩ := Kd.at_int (Kd.R_reads' HO_5.out).2.2 (ji14) p395 q395
                        cases e395
                        replace p395 := eq_true p395
                        replace q395 := eq_true q395
                        have q20 : (x9_2 : Int) ≤ ((x5_1.length : Int) : Int) := of_decide_eq_true (by first | (with_reducible assumption) | assumption)
                        obtain ⟨i020, hi020, _, hsz20, _⟩ := info_parts info22
                        have hcut20 := cut_to (P := Try.prog) 81 22 .i64 Try.underlying81 hi020 (some ad395) x5_1.length co12 x9_2 (of_decide_eq_true (by first | (with_reducible assumption) | assumption)) q20 (Kd.R_reads' HO_5.out).2.1
                        have hr20 := Kd.R_take (m := (x9_2 : Int).toNat) HO_5.out (by omega)
                        have hy20 : y396.length = (x9_2 : Int).toNat := (by rw [Ny396.out, List.length_take]; omega)
                        rw [← Ny396.out] at hr20
                        rw [← hy20] at hr20 hcut20
                        clear hy20 hi020 hsz20 HO_5
                        have HO398 := Aside0.mk hr20
                        clear hr20
                        replace q20 := eq_true q20
                        go_wp2
                        go_ret
                        exact ⟨_, by first | rfl | (simp [errW_none, errW_some] <;> rfl) | (simp only [← hji14]; first | rfl | (simp [errW_none, errW_some] <;> rfl)) | (simp [*, errW_none, errW_some] <;> rfl), by (with_reducible repeat (first | apply Kd.R_alloc | apply Kd.R_drewN | apply Kd.R_drew)); exact HO398.out, bw HB⟩
                      · rw [if_neg c19] at H
                        exact absurd H (by simp)
                    · rw [if_neg c18] at H
                      exact absurd H (by simp)
                · rw [if_neg c16] at H
                  exact absurd H (by simp)
              · rw [if_neg c15] at H
                exact absurd H (by simp)
            · rw [if_neg c13] at H
              have c13b0 : decide (0 < x9_2) = false := decide_eq_false c13
              clear c13
              by_cases c21 : 0 ≤ x9_2
              · rw [if_pos c21] at H
                have c21b0 := eq_true c21
                have c21b1 : decide (0 ≤ x9_2) = true := decide_eq_true c21
                clear c21
                by_cases c22 : x9_2 ≤ (x5_1.length : Int)
                · rw [if_pos c22] at H
                  have c22b0 := eq_true c22
                  have c22b1 : decide (x9_2 ≤ (x5_1.length : Int)) = true := decide_eq_true c22
                  clear c22
                  obtain ⟨y399, hy399⟩ : ∃ y_ : List Int, y_ = (x5_1.take (x9_2 : Int).toNat) := ⟨_, rfl⟩
                  replace H : (some y399) = some r := by first | (rw [hy399]; with_reducible exact H) | (have H2_ := (Option.bind_some _ _).symm.trans H; rw [hy399]; with_reducible exact H2_) | (have H2_ := (Option.bind_some _ _).symm.trans H; with_reducible exact H2_) | with_reducible exact H | (rw [hy399]; exact H) | exact H
                  have Ny399 := Aside0.mk hy399
                  clear hy399
                  obtain rfl := Option.some.inj H
                  have q23 : (x9_2 : Int) ≤ ((x5_1.length : Int) : Int) := of_decide_eq_true (by first | (with_reducible assumption) | assumption)
                  obtain ⟨i023, hi023, _, hsz23, _⟩ := info_parts info22
                  have hcut23 := cut_to (P := Try.prog) 81 22 .i64 Try.underlying81 hi023 Ao12 x5_1.length co12 x9_2 (of_decide_eq_true (by first | (with_reducible assumption) | assumption)) q23 (Kd.R_reads' HO_5.out).2.1
                  have hr23 := Kd.R_take (m := (x9_2 : Int).toNat) HO_5.out (by omega)
                  have hy23 : y399.length = (x9_2 : Int).toNat := (by rw [Ny399.out, List.length_take]; omega)
                  rw [← Ny399.out] at hr23
                  rw [← hy23] at hr23 hcut23
                  clear hy23 hi023 hsz23 HO_5
                  have HO401 := Aside0.mk hr23
                  clear hr23
                  replace q23 := eq_true q23
                  go_wp2
                  go_ret
                  exact ⟨_, re, by (with_reducible repeat (first | apply Kd.R_alloc | apply Kd.R_drewN | apply Kd.R_drew)); exact HO401.out, bw HB⟩
                · rw [if_neg c22] at H
                  exact absurd H (by simp)
              · rw [if_neg c21] at H
                exact absurd H (by simp)

end Go.Proofs.Ytdoifmefhofnnaa.D
