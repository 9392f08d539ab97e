/- Written by the session's own program hyb.py: what functions of the program compute; Lean checks it. -/
import Derived.Test.YtdoifmefhofnnaaDx0
namespace Go.Proofs.Ytdoifmefhofnnaa.D
open Go.RowKit Go.Proofs.YtdoifmefhofnnaaW.PrintWords Go.Proofs.YtdoifmefhofnnaaW.PrintLast Go.Proofs.YtdoifmefhofnnaaW.PrintMore Go.Proofs.YtdoifmefhofnnaaW.PrintShort
attribute [local go_sem] run_Add64 run_Sub64
attribute [local go_sem] max2_int min2_int max_two min_two max_three min_three max_four min_four   -- for this text's walks alone
set_option linter.unusedVariables false
set_option linter.unusedSimpArgs false

/-! ### turnstileref24_sorted: function 47 -/
theorem turnstileref24_sorted.heap31 : Kd.Heap k31 := Kd.heap_iso _ (Kd.heap_pair (Kd.heap_int .u64) (Kd.heap_int .u64))
theorem turnstileref24_sorted.V_drop {α : Type} {d : Kd α} {e base m n c : Nat} {ok : Nat → Prop} {W : World} {A : Option Addr} {xs : List α} (h : Kd.V d e W base ok (.slice A n c) xs) (hm : m ≤ xs.length) :
    Kd.V d e W base ok (.slice (if c = m then A else A.map (·.add (m * d.sz))) (n - m) (c - m)) (xs.drop m) := by
  obtain ⟨hn, hc, hf⟩ := Kd.V_at h
  subst hn
  rw [← List.length_drop]
  exact Kd.V_mk (by rw [List.length_drop]; exact Nat.sub_le_sub_right hc _) (Kd.F_cut hf hm hc)
theorem turnstileref24_sorted.V_slice4 {α : Type} {d : Kd α} {e base : Nat} {ok : Nat → Prop} {W : World} {v : Value} {xs : List α} (h : Kd.V d e W base ok v xs) : ∃ A c, v = .slice A xs.length c ∧ xs.length ≤ c := by
  obtain ⟨A, c, hv, hl, _⟩ := h
  exact ⟨A, c, hv, hl⟩
mutual
def turnstileref24_sorted.l0 : Nat → List (S31) → List (S31) → List (S31) → Option ((List (S31)))
  | 0, _, _, _ => none
  | k + 1, x3, x4, x5 => if (x3.length : Int) > 0 then (turnstileref24_sorted.j1 k x3 x4 x5 true) else (turnstileref24_sorted.j1 k x3 x4 x5 (decide ((x4.length : Int) > 0)))
def turnstileref24_sorted.j1 : Nat → List (S31) → List (S31) → List (S31) → Bool → Option ((List (S31)))
  | 0, _, _, _, _ => none
  | k + 1, x3, x4, x5, x30 => if x30 = true then (if (x4.length : Int) = 0 then (if 0 < (x3.length : Int) then (if x5.length < 8796093022208 then (if 1 ≤ (x3.length : Int) then (turnstileref24_sorted.l0 k (x3.drop (1 : Int).toNat) x4 (x5 ++ [(⟨(rd_T31 x3 0).f0, (rd_T31 x3 0).f1⟩ : S31)])) else (none)) else (none)) else (none)) else (if (x3.length : Int) > 0 then (if 0 < (x3.length : Int) then (if 0 < (x4.length : Int) then (if ((rd_T31 x3 0).f0) ≤ ((rd_T31 x4 0).f0) then (if x5.length < 8796093022208 then (if 1 ≤ (x3.length : Int) then (turnstileref24_sorted.l0 k (x3.drop (1 : Int).toNat) x4 (x5 ++ [(⟨(rd_T31 x3 0).f0, (rd_T31 x3 0).f1⟩ : S31)])) else (none)) else (none)) else (if x5.length < 8796093022208 then (if 1 ≤ (x4.length : Int) then (turnstileref24_sorted.l0 k x3 (x4.drop (1 : Int).toNat) (x5 ++ [(⟨(rd_T31 x4 0).f0, (rd_T31 x4 0).f1⟩ : S31)])) else (none)) else (none))) else (none)) else (none)) else (if 0 < (x4.length : Int) then (if x5.length < 8796093022208 then (if 1 ≤ (x4.length : Int) then (turnstileref24_sorted.l0 k x3 (x4.drop (1 : Int).toNat) (x5 ++ [(⟨(rd_T31 x4 0).f0, (rd_T31 x4 0).f1⟩ : S31)])) else (none)) else (none)) else (none)))) else (some x5)
def turnstileref24_sorted.f : Nat → List (S31) → Option ((List (S31)))
  | 0, _ => none
  | k + 1, l0 => if (l0.length : Int) < 2 then (some l0) else (if 0 ≤ (wrap64 ((l0.length : Int) / 2)) then (if (wrap64 ((l0.length : Int) / 2)) ≤ (l0.length : Int) then ((turnstileref24_sorted.f k (l0.take ((wrap64 ((l0.length : Int) / 2)) : Int).toNat)).bind fun t485 => ((turnstileref24_sorted.f k (l0.drop ((wrap64 ((l0.length : Int) / 2)) : Int).toNat)).bind fun t492 => (turnstileref24_sorted.l0 k t485 t492 (([] : List (S31)))))) else (none)) else (none))
end
set_option maxHeartbeats 8000000 in
set_option maxRecDepth 100000 in
theorem turnstileref24_sorted.calls (k : Nat) : ∀ (A0 : Option Addr) (c0 : Nat) (l0 : List (S31)) (r : List (S31)) (w : World) (hr0 : Kd.C k31 w A0 l0.length l0) (hc0 : l0.length ≤ c0) (h : turnstileref24_sorted.f k l0 = some r),
    Calls Try.prog 47 #[.slice A0 l0.length c0] w fun e w' => ∃ v0_ : Value, e = .returned (v0_) ∧ Kd.V k31 31 w' 0 (fun _ => True) v0_ r ∧ Below w.heap.size w w' := by
  induction k using Nat.strongRecOn with
  | _ k ih =>
  intro A0 c0 l0 r w hr0 hc0 h
  cases k with
  | zero => exact absurd h (by simp [turnstileref24_sorted.f])
  | succ k =>
  simp only [turnstileref24_sorted.f] at h
  have hu31 := Try.underlying31
  have HR0 := Aside0.mk hr0
  have HC0 := Aside0.mk hc0
  clear hr0 hc0
  have HB := Aside0.mk (Below.refl w.heap.size w)
  have H : (if (l0.length : Int) < 2 then (some l0) else (if 0 ≤ (wrap64 ((l0.length : Int) / 2)) then (if (wrap64 ((l0.length : Int) / 2)) ≤ (l0.length : Int) then ((turnstileref24_sorted.f k (l0.take ((wrap64 ((l0.length : Int) / 2)) : Int).toNat)).bind fun t485 => ((turnstileref24_sorted.f k (l0.drop ((wrap64 ((l0.length : Int) / 2)) : Int).toNat)).bind fun t492 => (turnstileref24_sorted.l0 k t485 t492 (([] : List (S31)))))) else (none)) else (none))) = some r := h
  clear h
  by_cases c2 : (l0.length : Int) < 2
  · rw [if_pos c2] at H
    obtain rfl := Option.some.inj H
    have c2b0 : decide ((l0.length : Int) < 2) = true := decide_eq_true c2
    have c2b1 : decide (l0.length < 2) = true := decide_eq_true (by omega)
    clear c2
    clear H
    go_enter Try.func47, Try.ntmps47
    go_wp2
    go_ret
    exact ⟨_, rfl, Kd.V_mono (Kd.V_mk (base := 0) (e := 31) HC0.out (Kd.C_F turnstileref24_sorted.heap31 HR0.out)) (fun _ _ => trivial), bw HB⟩
  · rw [if_neg c2] at H
    have c2b0 : decide ((l0.length : Int) < 2) = false := decide_eq_false c2
    have c2b1 : decide (l0.length < 2) = false := decide_eq_false (by omega)
    clear c2
    obtain ⟨ji3, hji3⟩ : ∃ j_ : Int, (wrap64 ((l0.length : Int) / 2)) = j_ := ⟨_, rfl⟩
    replace H : (if 0 ≤ (ji3) then (if (ji3) ≤ (l0.length : Int) then ((turnstileref24_sorted.f k (l0.take ((ji3) : Int).toNat)).bind fun t485 => ((turnstileref24_sorted.f k (l0.drop ((ji3) : Int).toNat)).bind fun t492 => (turnstileref24_sorted.l0 k t485 t492 (([] : List (S31)))))) else (none)) else (none)) = some r := by first | (rw [hji3] at H; exact H) | (simp only [hji3] at H ⊢; exact H)
    have hji3w : (IntKind.i64.wrap ((l0.length : Int) / 2)) = ji3 := (i64_w _).trans hji3
    by_cases c4 : 0 ≤ (ji3)
    · rw [if_pos c4] at H
      have c4b0 := eq_true c4
      have c4b1 : decide (0 ≤ (ji3)) = true := decide_eq_true c4
      clear c4
      by_cases c5 : (ji3) ≤ (l0.length : Int)
      · rw [if_pos c5] at H
        have c5b0 := eq_true c5
        have c5b1 : decide ((ji3) ≤ (l0.length : Int)) = true := decide_eq_true c5
        clear c5
        obtain ⟨y481, hy481⟩ : ∃ y_ : List (S31), y_ = (l0.take ((ji3) : Int).toNat) := ⟨_, rfl⟩
        replace H : ((turnstileref24_sorted.f k y481).bind fun t485 => ((turnstileref24_sorted.f k (l0.drop ((ji3) : Int).toNat)).bind fun t492 => (turnstileref24_sorted.l0 k t485 t492 (([] : List (S31)))))) = some r := by first | (rw [hy481]; with_reducible exact H) | (have H2_ := (Option.bind_some _ _).symm.trans H; rw [hy481]; with_reducible exact H2_) | (have H2_ := (Option.bind_some _ _).symm.trans H; with_reducible exact H2_) | with_reducible exact H | (rw [hy481]; exact H) | exact H
        have Ny481 := Aside0.mk hy481
        clear hy481
        replace H := Option.bind_eq_some_iff.mp H
        obtain ⟨t485, A60, H⟩ := H
        replace H : ((turnstileref24_sorted.f k (l0.drop ((ji3) : Int).toNat)).bind fun t492 => (turnstileref24_sorted.l0 k t485 t492 (([] : List (S31))))) = some r := H
        have A6 := Aside0.mk A60
        clear A60
        have c7b0 := eq_true (of_decide_eq_true (by first | (with_reducible assumption) | assumption) : 0 ≤ (ji3))
        have c8b0 := eq_true (of_decide_eq_true (by first | (with_reducible assumption) | assumption) : (ji3) ≤ (l0.length : Int))
        obtain ⟨y488, hy488⟩ : ∃ y_ : List (S31), y_ = (l0.drop ((ji3) : Int).toNat) := ⟨_, rfl⟩
        replace H : ((turnstileref24_sorted.f k y488).bind fun t492 => (turnstileref24_sorted.l0 k t485 t492 (([] : List (S31))))) = some r := by first | (rw [hy488]; with_reducible exact H) | (have H2_ := (Option.bind_some _ _).symm.trans H; rw [hy488]; with_reducible exact H2_) | (have H2_ := (Option.bind_some _ _).symm.trans H; with_reducible exact H2_) | with_reducible exact H | (rw [hy488]; exact H) | exact H
        have Ny488 := Aside0.mk hy488
        clear hy488
        replace H := Option.bind_eq_some_iff.mp H
        obtain ⟨t492, A90, H⟩ := H
        replace H : (turnstileref24_sorted.l0 k t485 t492 (([] : List (S31)))) = some r := H
        have A9 := Aside0.mk A90
        clear A90
        obtain ⟨y495, hy495⟩ : ∃ y_ : List (S31), y_ = (([] : List (S31))) := ⟨_, rfl⟩
        replace H : (turnstileref24_sorted.l0 k t485 t492 y495) = some r := by first | (rw [hy495]; with_reducible exact H) | (have H2_ := (Option.bind_some _ _).symm.trans H; rw [hy495]; with_reducible exact H2_) | (have H2_ := (Option.bind_some _ _).symm.trans H; with_reducible exact H2_) | with_reducible exact H | (rw [hy495]; exact H) | exact H
        have Ny495 := Aside0.mk hy495
        clear hy495
        have H' := Aside0.mk H
        clear H
        have q10 : ((ji3) : Int) ≤ ((l0.length : Int) : Int) := of_decide_eq_true (by first | (with_reducible assumption) | assumption)
        obtain ⟨i010, hi010, _, hsz10, _⟩ := info_parts info31
        have hroom10 : l0.length ≤ c0 := HC0.out
        have hC10 : Kd.C k31 _ A0 l0.length l0 := HR0.out
        have hcut10 := cut_to (P := Try.prog) 25 31 .i64 Try.underlying25 hi010 A0 l0.length c0 (ji3) (of_decide_eq_true (by first | (with_reducible assumption) | assumption)) q10 hroom10
        have hr10 := Kd.C_take (m := ((ji3) : Int).toNat) hC10 (by omega)
        have hy10 : y481.length = ((ji3) : Int).toNat := (by rw [Ny481.out, List.length_take]; omega)
        rw [← Ny481.out] at hr10
        rw [← hy10] at hcut10
        have HR484 := Aside0.mk hr10
        have HC484 := Aside0.mk (show y481.length ≤ c0 from by omega)
        clear hr10 hC10 hroom10 hi010 hsz10
        have KY10 := Aside0.mk hy10
        clear hy10
        replace q10 := eq_true q10
        go_enter Try.func47, Try.ntmps47
        go_wp2_with (first | (go_at_call 47; (with_reducible refine (ih k (by omega) _ _ y481 t485 _ ?side1 ?side2 A6.out).mono ?_); (case side1 => exact co HR484.out); (case side2 => exact HC484.out); rintro e w11 ⟨v486, rfl, ho0, hb⟩; have HO487 := Aside0.mk ho0; replace HB := bs HB hb; (try clear hb); (try clear hb2); (try clear hk); (try clear hi); (try clear ho0); have q12 : ((ji3) : Int) ≤ ((l0.length : Int) : Int) := of_decide_eq_true (by first | (with_reducible assumption) | assumption); obtain ⟨i012, hi012, _, hsz12, _⟩ := info_parts info31; have hroom12 : l0.length ≤ c0 := HC0.out; have hC12 : Kd.C k31 _ A0 l0.length l0 := HR0.out; have q012 : (0 : Int) ≤ ((ji3) : Int) := of_decide_eq_true (by first | (with_reducible assumption) | assumption); have hcut12 := cut_from (P := Try.prog) 25 31 .i64 Try.underlying25 hi012 2 hsz12 A0 l0.length c0 (ji3) q012 q12; have hr12 := Kd.C_drop (m := ((ji3) : Int).toNat) (c := c0) hC12 (by omega) hroom12; obtain ⟨A12, hA12⟩ : ∃ A1, A1 = (if c0 = ((ji3) : Int).toNat then A0 else (A0 : Option Addr).map (·.add (((ji3) : Int).toNat * 2))) := ⟨_, rfl⟩; obtain ⟨c12, hc12⟩ : ∃ c1, c1 = c0 - ((ji3) : Int).toNat := ⟨_, rfl⟩; have hy12 : y488.length = l0.length - ((ji3) : Int).toNat := (by rw [Ny488.out, List.length_drop] <;> omega); rw [show (l0).drop ((ji3) : Int).toNat = y488 from Ny488.out.symm] at hr12; replace hr12 : Kd.C k31 _ A12 y488.length y488 := (by rw [hA12]; exact hr12); rw [← hy12, ← hA12, ← hc12] at hcut12; have HR491 := Aside0.mk hr12; have HC491 := Aside0.mk (show y488.length ≤ c12 from by rw [hy12, hc12]; exact Nat.sub_le_sub_right hroom12 _); clear hr12 hC12 hroom12 hi012 hsz12 hc12; have KY12 := Aside0.mk hy12; have KA12 := Aside0.mk hA12; clear hy12 hA12; replace q12 := eq_true q12) | (go_at_call 47; (with_reducible refine (ih k (by omega) _ _ y488 t492 _ ?side1 ?side2 A9.out).mono ?_); (case side1 => exact co (Kd.C_below HR491.out HB.out)); (case side2 => exact HC491.out); rintro e w13 ⟨v493, rfl, ho0, hb⟩; have HO494 := Aside0.mk ho0; replace HO487 := Aside0.mk (Kd.V_below (vo HO487) hb); replace HB := bs HB hb; (try clear hb); (try clear hb2); (try clear hk); (try clear hi); (try clear ho0)) | ((with_reducible refine gate_dst (N := 22) rfl ?_); (try (refine gate_guard (by rfl) ?_; dsimp only)); refine Kd.R_lit k31 _ 31 ?hg (N := 22) ?hd (xs := ([] : List (S31))) (inner := []) (ok := fun _ => True) (okp := fun _ => True) ?hr ?hp (fun _ hk => hk) trivial (Below.refl _ _) (Nat.le_refl _) (by simp) ?_; (case hd => rfl); (case hg => rfl); (case hr => first | (go_simp; done) | (go_simp; rfl)); (case hp => exact (Reps.none _ _)); intro v496 w14 ho15 hb hg_ hnew_; clear hg_ hnew_; (first | rw [← Ny495.out] at ho15 | (simp only [Int.reduceToNat] at ho15; rw [← Ny495.out] at ho15)); have HO497 := Aside0.mk (Kd.R_lower ho15 (below_size (bw HB))); replace HO487 := Aside0.mk (Kd.V_elder' (vo HO487) (Kd.R_base ho15) hb); replace HO494 := Aside0.mk (Kd.V_elder' (vo HO494) (Kd.R_base ho15) hb); replace HB := bs HB hb; clear hb ho15))
        go_loopg [3, 4, 5] k (fun kq v3 v4 v5 w' => ∃ (x3_1 : List (S31)) (x4_1 : List (S31)) (x5_1 : List (S31)), Aside0 (turnstileref24_sorted.l0 kq x3_1 x4_1 x5_1 = some r) ∧ Aside0 (kq ≤ k) ∧ Aside0 (Kd.V k31 31 w' w.heap.size (fun k_ => True ∧ some k_ ≠ (v5 : Value).ownBlock) v3 x3_1) ∧ Aside0 (Kd.V k31 31 w' w.heap.size (fun k_ => True ∧ some k_ ≠ (v5 : Value).ownBlock) v4 x4_1) ∧ Aside0 (Kd.R k31 31 w' w.heap.size (fun k_ => True ∧ True) v5 x5_1) ∧ Aside0 (Below w.heap.size w w'))
        case atStart => exact ⟨(t485), (t492), (y495), H', ⟨Nat.le_refl _⟩, ⟨vo HO487⟩, ⟨vo HO494⟩, ⟨by (with_reducible repeat (first | apply Kd.R_alloc | apply Kd.R_drewN | apply Kd.R_drew)); exact Kd.R_mono HO497.out (fun _ _ => ⟨trivial, trivial⟩)⟩, ⟨bw HB⟩⟩
        case round =>
          clear H'
          try clear c1
          try clear q1
          try clear c2
          try clear c2b0
          try clear c2b1
          try clear p2
          try clear c4
          try clear c4b0
          try clear c4b1
          try clear c5
          try clear c5b0
          try clear c5b1
          try clear p6
          try clear c7
          try clear c7b0
          try clear c8
          try clear c8b0
          try clear q10
          try clear c12
          try clear q12
          try clear q012
          try clear q10
          try clear q12
          obtain ⟨x3_1, x4_1, x5_1, HA, HK1, HO_3, HO_4, HO_5, HB⟩ := hrel
          cases gk with
          | zero => exact absurd HA.out (by simp [turnstileref24_sorted.l0])
          | succ k1 =>
            have H := HA.out
            clear HA
            simp only [turnstileref24_sorted.l0] at H
            have HC16 := Aside0.mk H
            clear H
            go_upto_region 6 with (fail)
            repeat (go_quiet (fail); go_upto_region 6 with (fail))
            go_cut [30] (fun v30 wc => ∃ (kq : Nat) (x30_15 : Bool), v30 = .bool x30_15 ∧ Aside0 (turnstileref24_sorted.j1 kq x3_1 x4_1 x5_1 x30_15 = some r) ∧ Aside0 (kq ≤ k1) ∧ Aside0 (Kd.V k31 31 wc w.heap.size (fun k_ => True ∧ some k_ ≠ (u5 : Value).ownBlock) u3 x3_1) ∧ Aside0 (Kd.V k31 31 wc w.heap.size (fun k_ => True ∧ some k_ ≠ (u5 : Value).ownBlock) u4 x4_1) ∧ Aside0 (Kd.R k31 31 wc w.heap.size (fun k_ => True ∧ True) u5 x5_1) ∧ Aside0 (Below w.heap.size w wc))
            case first =>
              have H := HC16.out
              clear HC16
              by_cases c17 : (x3_1.length : Int) > 0
              · rw [if_pos c17] at H
                have c17b0 : decide (0 < (x3_1.length : Int)) = true := decide_eq_true c17
                have c17b1 : decide (0 < x3_1.length) = true := decide_eq_true (by omega)
                clear c17
                (first | rw [c17b0] | (simp only [i64_w, i32_w]; rw [c17b0]) | skip)
                have H' := Aside0.mk H
                clear H
                obtain ⟨Ao18, co18, eo18, _⟩ := turnstileref24_sorted.V_slice4 HO_3.out
                subst eo18
                go_wp2
                repeat (go_quiet (fail); try go_wp2)
                go_meet
                case rel => exact ⟨_, (true), rs, H', ⟨by have := HK1.out; first | omega | exact Nat.le_refl _⟩, ⟨vo HO_3⟩, ⟨vo HO_4⟩, ⟨ro HO_5⟩, ⟨bw HB⟩⟩
              · rw [if_neg c17] at H
                have c17b0 : decide (0 < (x3_1.length : Int)) = false := decide_eq_false c17
                have c17b1 : decide (0 < x3_1.length) = false := decide_eq_false (by omega)
                clear c17
                (first | rw [c17b0] | (simp only [i64_w, i32_w]; rw [c17b0]) | skip)
                have H' := Aside0.mk H
                clear H
                obtain ⟨Ao19, co19, eo19, _⟩ := turnstileref24_sorted.V_slice4 HO_3.out
                subst eo19
                obtain ⟨Ao20, co20, eo20, _⟩ := turnstileref24_sorted.V_slice4 HO_4.out
                subst eo20
                go_wp2
                repeat (go_quiet (fail); try go_wp2)
                go_meet
                case rel => exact ⟨_, (decide ((x4_1.length : Int) > 0)), rs, H', ⟨by have := HK1.out; first | omega | exact Nat.le_refl _⟩, ⟨vo HO_3⟩, ⟨vo HO_4⟩, ⟨ro HO_5⟩, ⟨bw HB⟩⟩
            case rest =>
              clear HC16
              try clear c1
              try clear q1
              try clear c2
              try clear c2b0
              try clear c2b1
              try clear p2
              try clear c4
              try clear c4b0
              try clear c4b1
              try clear c5
              try clear c5b0
              try clear c5b1
              try clear p6
              try clear c7
              try clear c7b0
              try clear c8
              try clear c8b0
              try clear q10
              try clear c12
              try clear q12
              try clear c17
              try clear c17b0
              try clear c17b1
              try clear p2
              try clear p6
              try clear q012
              try clear q1
              try clear q10
              try clear q12
              obtain ⟨kq, x30_15, rfl, HA, HJ15, HO_3, HO_4, HO_5, HB⟩ := hcut
              cases kq with
              | zero => exact absurd HA.out (by simp [turnstileref24_sorted.j1])
              | succ kj15 =>
                have H := HA.out
                clear HA
                simp only [turnstileref24_sorted.j1] at H
                by_cases c21 : x30_15 = true
                · subst c21
                  have H1 : (if (x4_1.length : Int) = 0 then (if 0 < (x3_1.length : Int) then (if x5_1.length < 8796093022208 then (if 1 ≤ (x3_1.length : Int) then (turnstileref24_sorted.l0 kj15 (x3_1.drop (1 : Int).toNat) x4_1 (x5_1 ++ [(⟨(rd_T31 x3_1 0).f0, (rd_T31 x3_1 0).f1⟩ : S31)])) else (none)) else (none)) else (none)) else (if (x3_1.length : Int) > 0 then (if 0 < (x3_1.length : Int) then (if 0 < (x4_1.length : Int) then (if ((rd_T31 x3_1 0).f0) ≤ ((rd_T31 x4_1 0).f0) then (if x5_1.length < 8796093022208 then (if 1 ≤ (x3_1.length : Int) then (turnstileref24_sorted.l0 kj15 (x3_1.drop (1 : Int).toNat) x4_1 (x5_1 ++ [(⟨(rd_T31 x3_1 0).f0, (rd_T31 x3_1 0).f1⟩ : S31)])) else (none)) else (none)) else (if x5_1.length < 8796093022208 then (if 1 ≤ (x4_1.length : Int) then (turnstileref24_sorted.l0 kj15 x3_1 (x4_1.drop (1 : Int).toNat) (x5_1 ++ [(⟨(rd_T31 x4_1 0).f0, (rd_T31 x4_1 0).f1⟩ : S31)])) else (none)) else (none))) else (none)) else (none)) else (if 0 < (x4_1.length : Int) then (if x5_1.length < 8796093022208 then (if 1 ≤ (x4_1.length : Int) then (turnstileref24_sorted.l0 kj15 x3_1 (x4_1.drop (1 : Int).toNat) (x5_1 ++ [(⟨(rd_T31 x4_1 0).f0, (rd_T31 x4_1 0).f1⟩ : S31)])) else (none)) else (none)) else (none)))) = some r := by rw [if_pos rfl] at H; exact H
                  clear H
                  have H := H1
                  clear H1
                  by_cases c22 : (x4_1.length : Int) = 0
                  · rw [if_pos c22] at H
                    have c22b0 : ((x4_1.length : Int) == 0) = true := beq_iff_eq.mpr c22
                    have c22b1 : ((x4_1.length : Int) != 0) = false := bne_eq_false_iff_eq.mpr c22
                    clear c22
                    by_cases c23 : 0 < (x3_1.length : Int)
                    · rw [if_pos c23] at H
                      have c23b0 : decide (0 < (x3_1.length : Int)) = true := decide_eq_true c23
                      have c23b1 : decide (0 < x3_1.length) = true := decide_eq_true (by omega)
                      clear c23
                      by_cases c24 : x5_1.length < 8796093022208
                      · rw [if_pos c24] at H
                        have LMc24 := Aside0.mk c24
                        clear c24
                        obtain ⟨y499, hy499⟩ : ∃ y_ : List (S31), y_ = (x5_1 ++ [(⟨(rd_T31 x3_1 0).f0, (rd_T31 x3_1 0).f1⟩ : S31)]) := ⟨_, rfl⟩
                        replace H : (if 1 ≤ (x3_1.length : Int) then (turnstileref24_sorted.l0 kj15 (x3_1.drop (1 : Int).toNat) x4_1 y499) else (none)) = some r := by first | (rw [hy499]; with_reducible exact H) | (have H2_ := (Option.bind_some _ _).symm.trans H; rw [hy499]; with_reducible exact H2_) | (have H2_ := (Option.bind_some _ _).symm.trans H; with_reducible exact H2_) | with_reducible exact H | (rw [hy499]; exact H) | exact H
                        have Ny499 := Aside0.mk hy499
                        clear hy499
                        by_cases c25 : 1 ≤ (x3_1.length : Int)
                        · rw [if_pos c25] at H
                          have c25b0 := eq_true c25
                          have c25b1 : decide (1 ≤ (x3_1.length : Int)) = true := decide_eq_true c25
                          clear c25
                          obtain ⟨y502, hy502⟩ : ∃ y_ : List (S31), y_ = (x3_1.drop (1 : Int).toNat) := ⟨_, rfl⟩
                          replace H : (turnstileref24_sorted.l0 kj15 y502 x4_1 y499) = some r := by first | (rw [hy502]; with_reducible exact H) | (have H2_ := (Option.bind_some _ _).symm.trans H; rw [hy502]; with_reducible exact H2_) | (have H2_ := (Option.bind_some _ _).symm.trans H; with_reducible exact H2_) | with_reducible exact H | (rw [hy502]; exact H) | exact H
                          have Ny502 := Aside0.mk hy502
                          clear hy502
                          have H' := Aside0.mk H
                          clear H
                          obtain ⟨Ao26, co26, eo26, _⟩ := turnstileref24_sorted.V_slice4 HO_4.out
                          subst eo26
                          obtain ⟨Ao27, co27, eo27, _⟩ := turnstileref24_sorted.V_slice4 HO_3.out
                          subst eo27
                          have p498 : 0 ≤ (0 : Int) := (by omega)
                          have q498 : 0 < (x3_1.length : Int) := of_decide_eq_true (by first | (with_reducible assumption) | assumption)
                          obtain ⟨ad498, e498, hx498_0, hx498_1⟩ := at_T31 (Kd.V_reads' HO_3.out).2.2 0 p498 q498
                          cases e498
                          have qi498 : (0 < x3_1.length) = True := eq_true (by omega)
                          (try rw [show ((0 : Int)).toNat = 0 from rfl] at hx498_0)
                          (try rw [show 0 * 2 = 0 from rfl] at hx498_0)
                          (try rw [Addr.add_zero'] at hx498_0)
                          (try rw [show ((0 : Int)).toNat = 0 from rfl] at hx498_1)
                          (try rw [show 0 * 2 = 0 from rfl] at hx498_1)
                          (try rw [Addr.add_zero'] at hx498_1)
                          replace p498 := eq_true p498
                          replace q498 := eq_true q498
                          go_wp2
                          repeat (go_quiet (fail); try go_wp2_with (first | ((with_reducible refine gate_builtin (b := .append) (xs := #[.tmp 50, .tmp 54]) rfl ?_); (try (refine gate_guard (by rfl) ?_; dsimp only)); at_builtin; refine Kd.R_append k31 (w0 := w) w.heap.size rfl (.tmp 50) (.tmp 54) 25 31 (.agg #[(.int .u64 0), (.int .u64 0)]) 16 rfl Try.underlying25 info31 rfl (by decide) (by omega) u5 x5_1 (⟨(rd_T31 x3_1 0).f0, (rd_T31 x3_1 0).f1⟩ : S31) [.int .u64 ((rd_T31 x3_1 0).f0), .int .u64 ((rd_T31 x3_1 0).f1)] (fun k_ => True ∧ True) (fun _ => False) rfl rfl ?aP (fun _ hk => hk.elim) ?aF ?aO ?aB ?aS ?aL ?_; (case aP => exact k31_mkM _ _ _ (⟨(rd_T31 x3_1 0).f0, (rd_T31 x3_1 0).f1⟩ : S31)); (case aB => exact (bw HB)); (case aF => exact (fun k_ hk => ⟨trivial, trivial⟩)); (case aO => exact (ro HO_5)); (case aS => exact (below_size (bw HB))); (case aL => have := LMc24.out; omega); intro v500 w28 ho hb hg hat; rw [← Ny499.out] at ho; have n0_ := Aside0.mk (Kd.V_after (ok := (fun k_ => True)) (vo HO_3) hg hat); have n1_ := Aside0.mk (Kd.V_after (ok := (fun k_ => True)) (vo HO_4) hg hat); have n2_ := Aside0.mk (hb); have n3_ := Aside0.mk (ho); clear HO_3; clear HO_4; clear HB; clear HO_5; have HO_3 := n0_; have HO_4 := n1_; have HB := n2_; have HO501 := n3_; clear n0_ n1_ n2_ n3_; clear ho hb hg hat; have q29 : (1 : Int) ≤ ((x3_1.length : Int) : Int) := of_decide_eq_true (by first | (with_reducible assumption) | assumption); obtain ⟨i029, hi029, _, hsz29, _⟩ := info_parts info31; have hcut29 := cut_from (P := Try.prog) 25 31 .i64 Try.underlying25 hi029 2 hsz29 (some ad498) x3_1.length co27 1 (by omega) q29; have hr29 := turnstileref24_sorted.V_drop (m := (1 : Int).toNat) HO_3.out (by omega); obtain ⟨A29, hA29⟩ : ∃ A1, A1 = (if co27 = (1 : Int).toNat then (some ad498) else ((some ad498) : Option Addr).map (·.add ((1 : Int).toNat * 2))) := ⟨_, rfl⟩; obtain ⟨c29, hc29⟩ : ∃ c1, c1 = co27 - (1 : Int).toNat := ⟨_, rfl⟩; have hy29 : y502.length = x3_1.length - (1 : Int).toNat := (by rw [Ny502.out, List.length_drop]); rw [← Ny502.out] at hr29; rw [← hy29, ← hA29, ← hc29] at hcut29; replace hr29 : Kd.V k31 31 w28 w.heap.size (fun k_ => True ∧ some k_ ≠ (v500 : Value).ownBlock) (.slice A29 y502.length c29) y502 := (by rw [hA29, hc29, hy29]; exact hr29); have HE29 : Aside0 ((Value.slice A29 y502.length c29).ownBlock = (.slice (some ad498) x3_1.length co27 : Value).ownBlock) := ⟨by rw [hA29]; split <;> (cases ((some ad498) : Option Addr) <;> rfl)⟩; clear hy29 hi029 hsz29 HO_3 hA29 hc29; have HO504 := Aside0.mk hr29; clear hr29; replace q29 := eq_true q29; have n_ := Aside0.mk ((HO_4.out)); clear HO_4; have HO_4 := n_; clear n_; have n_ := Aside0.mk ((HO501.out)); clear HO501; have HO501 := n_; clear n_)))
                          go_roundg kj15
                          case measure => have := HK1.out; have := HJ15.out; omega
                          case rel => exact ⟨(y502), (x4_1), (y499), H', ⟨by have := HK1.out; have := HJ15.out; omega⟩, ⟨vo HO504⟩, ⟨vo HO_4⟩, ⟨ro HO501⟩, ⟨bw HB⟩⟩
                        · rw [if_neg c25] at H
                          exact absurd H (by simp)
                      · rw [if_neg c24] at H
                        exact absurd H (by simp)
                    · rw [if_neg c23] at H
                      exact absurd H (by simp)
                  · rw [if_neg c22] at H
                    have c22b0 : ((x4_1.length : Int) == 0) = false := beq_eq_false_iff_ne.mpr c22
                    have c22b1 : ((x4_1.length : Int) != 0) = true := bne_iff_ne.mpr c22
                    have c22b2 : ¬ (x4_1 = []) := fun h_ => c22 (by rw [h_]; rfl)
                    by_cases c30 : (x3_1.length : Int) > 0
                    · rw [if_pos c30] at H
                      have c30b0 : decide (0 < (x3_1.length : Int)) = true := decide_eq_true c30
                      have c30b1 : decide (0 < x3_1.length) = true := decide_eq_true (by omega)
                      clear c30
                      by_cases c31 : 0 < (x3_1.length : Int)
                      · rw [if_pos c31] at H
                        have c31b0 : decide (0 < (x3_1.length : Int)) = true := decide_eq_true c31
                        have c31b1 : decide (0 < x3_1.length) = true := decide_eq_true (by omega)
                        clear c31
                        by_cases c32 : 0 < (x4_1.length : Int)
                        · rw [if_pos c32] at H
                          have c32b0 : decide (0 < (x4_1.length : Int)) = true := decide_eq_true c32
                          have c32b1 : decide (0 < x4_1.length) = true := decide_eq_true (by omega)
                          clear c32
                          by_cases c33 : ((rd_T31 x3_1 0).f0) ≤ ((rd_T31 x4_1 0).f0)
                          · rw [if_pos c33] at H
                            have c33b0 : decide (((rd_T31 x3_1 0).f0) ≤ ((rd_T31 x4_1 0).f0)) = true := decide_eq_true c33
                            clear c33
                            by_cases c34 : x5_1.length < 8796093022208
                            · rw [if_pos c34] at H
                              have LMc34 := Aside0.mk c34
                              clear c34
                              obtain ⟨y508, hy508⟩ : ∃ y_ : List (S31), y_ = (x5_1 ++ [(⟨(rd_T31 x3_1 0).f0, (rd_T31 x3_1 0).f1⟩ : S31)]) := ⟨_, rfl⟩
                              replace H : (if 1 ≤ (x3_1.length : Int) then (turnstileref24_sorted.l0 kj15 (x3_1.drop (1 : Int).toNat) x4_1 y508) else (none)) = some r := by first | (rw [hy508]; with_reducible exact H) | (have H2_ := (Option.bind_some _ _).symm.trans H; rw [hy508]; with_reducible exact H2_) | (have H2_ := (Option.bind_some _ _).symm.trans H; with_reducible exact H2_) | with_reducible exact H | (rw [hy508]; exact H) | exact H
                              have Ny508 := Aside0.mk hy508
                              clear hy508
                              by_cases c35 : 1 ≤ (x3_1.length : Int)
                              · rw [if_pos c35] at H
                                have c35b0 := eq_true c35
                                have c35b1 : decide (1 ≤ (x3_1.length : Int)) = true := decide_eq_true c35
                                clear c35
                                obtain ⟨y511, hy511⟩ : ∃ y_ : List (S31), y_ = (x3_1.drop (1 : Int).toNat) := ⟨_, rfl⟩
                                replace H : (turnstileref24_sorted.l0 kj15 y511 x4_1 y508) = some r := by first | (rw [hy511]; with_reducible exact H) | (have H2_ := (Option.bind_some _ _).symm.trans H; rw [hy511]; with_reducible exact H2_) | (have H2_ := (Option.bind_some _ _).symm.trans H; with_reducible exact H2_) | with_reducible exact H | (rw [hy511]; exact H) | exact H
                                have Ny511 := Aside0.mk hy511
                                clear hy511
                                have H' := Aside0.mk H
                                clear H
                                obtain ⟨Ao36, co36, eo36, _⟩ := turnstileref24_sorted.V_slice4 HO_4.out
                                subst eo36
                                obtain ⟨Ao37, co37, eo37, _⟩ := turnstileref24_sorted.V_slice4 HO_3.out
                                subst eo37
                                have p505 : 0 ≤ (0 : Int) := (by omega)
                                have q505 : 0 < (x3_1.length : Int) := of_decide_eq_true (by first | (with_reducible assumption) | assumption)
                                obtain ⟨ad505, e505, hx505_0, hx505_1⟩ := at_T31 (Kd.V_reads' HO_3.out).2.2 0 p505 q505
                                cases e505
                                have qi505 : (0 < x3_1.length) = True := eq_true (by omega)
                                (try rw [show ((0 : Int)).toNat = 0 from rfl] at hx505_0)
                                (try rw [show 0 * 2 = 0 from rfl] at hx505_0)
                                (try rw [Addr.add_zero'] at hx505_0)
                                (try rw [show ((0 : Int)).toNat = 0 from rfl] at hx505_1)
                                (try rw [show 0 * 2 = 0 from rfl] at hx505_1)
                                (try rw [Addr.add_zero'] at hx505_1)
                                replace p505 := eq_true p505
                                replace q505 := eq_true q505
                                have p506 : 0 ≤ (0 : Int) := (by omega)
                                have q506 : 0 < (x4_1.length : Int) := of_decide_eq_true (by first | (with_reducible assumption) | assumption)
                                obtain ⟨ad506, e506, hx506_0, hx506_1⟩ := at_T31 (Kd.V_reads' HO_4.out).2.2 0 p506 q506
                                cases e506
                                have qi506 : (0 < x4_1.length) = True := eq_true (by omega)
                                (try rw [show ((0 : Int)).toNat = 0 from rfl] at hx506_0)
                                (try rw [show 0 * 2 = 0 from rfl] at hx506_0)
                                (try rw [Addr.add_zero'] at hx506_0)
                                (try rw [show ((0 : Int)).toNat = 0 from rfl] at hx506_1)
                                (try rw [show 0 * 2 = 0 from rfl] at hx506_1)
                                (try rw [Addr.add_zero'] at hx506_1)
                                replace p506 := eq_true p506
                                replace q506 := eq_true q506
                                have p507 : 0 ≤ (0 : Int) := (by omega)
                                have q507 : 0 < (x3_1.length : Int) := of_decide_eq_true (by first | (with_reducible assumption) | assumption)
                                obtain ⟨ad507, e507, hx507_0, hx507_1⟩ := at_T31 (Kd.V_reads' HO_3.out).2.2 0 p507 q507
                                obtain rfl : ad505 = ad507 := (by injection e507)
                                have qi507 : (0 < x3_1.length) = True := eq_true (by omega)
                                (try rw [show ((0 : Int)).toNat = 0 from rfl] at hx507_0)
                                (try rw [show 0 * 2 = 0 from rfl] at hx507_0)
                                (try rw [Addr.add_zero'] at hx507_0)
                                (try rw [show ((0 : Int)).toNat = 0 from rfl] at hx507_1)
                                (try rw [show 0 * 2 = 0 from rfl] at hx507_1)
                                (try rw [Addr.add_zero'] at hx507_1)
                                replace p507 := eq_true p507
                                replace q507 := eq_true q507
                                go_wp2
                                repeat (go_quiet (fail); try go_wp2_with (first | ((with_reducible refine gate_builtin (b := .append) (xs := #[.tmp 50, .tmp 54]) rfl ?_); (try (refine gate_guard (by rfl) ?_; dsimp only)); at_builtin; refine Kd.R_append k31 (w0 := w) w.heap.size rfl (.tmp 50) (.tmp 54) 25 31 (.agg #[(.int .u64 0), (.int .u64 0)]) 16 rfl Try.underlying25 info31 rfl (by decide) (by omega) u5 x5_1 (⟨(rd_T31 x3_1 0).f0, (rd_T31 x3_1 0).f1⟩ : S31) [.int .u64 ((rd_T31 x3_1 0).f0), .int .u64 ((rd_T31 x3_1 0).f1)] (fun k_ => True ∧ True) (fun _ => False) rfl rfl ?aP (fun _ hk => hk.elim) ?aF ?aO ?aB ?aS ?aL ?_; (case aP => exact k31_mkM _ _ _ (⟨(rd_T31 x3_1 0).f0, (rd_T31 x3_1 0).f1⟩ : S31)); (case aB => exact (bw HB)); (case aF => exact (fun k_ hk => ⟨trivial, trivial⟩)); (case aO => exact (ro HO_5)); (case aS => exact (below_size (bw HB))); (case aL => have := LMc34.out; omega); intro v509 w38 ho hb hg hat; rw [← Ny508.out] at ho; have n0_ := Aside0.mk (Kd.V_after (ok := (fun k_ => True)) (vo HO_3) hg hat); have n1_ := Aside0.mk (Kd.V_after (ok := (fun k_ => True)) (vo HO_4) hg hat); have n2_ := Aside0.mk (hb); have n3_ := Aside0.mk (ho); clear HO_3; clear HO_4; clear HB; clear HO_5; have HO_3 := n0_; have HO_4 := n1_; have HB := n2_; have HO510 := n3_; clear n0_ n1_ n2_ n3_; clear ho hb hg hat; have q39 : (1 : Int) ≤ ((x3_1.length : Int) : Int) := of_decide_eq_true (by first | (with_reducible assumption) | assumption); obtain ⟨i039, hi039, _, hsz39, _⟩ := info_parts info31; have hcut39 := cut_from (P := Try.prog) 25 31 .i64 Try.underlying25 hi039 2 hsz39 (some ad505) x3_1.length co37 1 (by omega) q39; have hr39 := turnstileref24_sorted.V_drop (m := (1 : Int).toNat) HO_3.out (by omega); obtain ⟨A39, hA39⟩ : ∃ A1, A1 = (if co37 = (1 : Int).toNat then (some ad505) else ((some ad505) : Option Addr).map (·.add ((1 : Int).toNat * 2))) := ⟨_, rfl⟩; obtain ⟨c39, hc39⟩ : ∃ c1, c1 = co37 - (1 : Int).toNat := ⟨_, rfl⟩; have hy39 : y511.length = x3_1.length - (1 : Int).toNat := (by rw [Ny511.out, List.length_drop]); rw [← Ny511.out] at hr39; rw [← hy39, ← hA39, ← hc39] at hcut39; replace hr39 : Kd.V k31 31 w38 w.heap.size (fun k_ => True ∧ some k_ ≠ (v509 : Value).ownBlock) (.slice A39 y511.length c39) y511 := (by rw [hA39, hc39, hy39]; exact hr39); have HE39 : Aside0 ((Value.slice A39 y511.length c39).ownBlock = (.slice (some ad505) x3_1.length co37 : Value).ownBlock) := ⟨by rw [hA39]; split <;> (cases ((some ad505) : Option Addr) <;> rfl)⟩; clear hy39 hi039 hsz39 HO_3 hA39 hc39; have HO513 := Aside0.mk hr39; clear hr39; replace q39 := eq_true q39; have n_ := Aside0.mk ((HO_4.out)); clear HO_4; have HO_4 := n_; clear n_; have n_ := Aside0.mk ((HO510.out)); clear HO510; have HO510 := n_; clear n_)))
                                go_roundg kj15
                                case measure => have := HK1.out; have := HJ15.out; omega
                                case rel => exact ⟨(y511), (x4_1), (y508), H', ⟨by have := HK1.out; have := HJ15.out; omega⟩, ⟨vo HO513⟩, ⟨vo HO_4⟩, ⟨ro HO510⟩, ⟨bw HB⟩⟩
                              · rw [if_neg c35] at H
                                exact absurd H (by simp)
                            · rw [if_neg c34] at H
                              exact absurd H (by simp)
                          · rw [if_neg c33] at H
                            have c33b0 : decide (((rd_T31 x3_1 0).f0) ≤ ((rd_T31 x4_1 0).f0)) = false := decide_eq_false c33
                            clear c33
                            by_cases c40 : x5_1.length < 8796093022208
                            · rw [if_pos c40] at H
                              have LMc40 := Aside0.mk c40
                              clear c40
                              obtain ⟨y515, hy515⟩ : ∃ y_ : List (S31), y_ = (x5_1 ++ [(⟨(rd_T31 x4_1 0).f0, (rd_T31 x4_1 0).f1⟩ : S31)]) := ⟨_, rfl⟩
                              replace H : (if 1 ≤ (x4_1.length : Int) then (turnstileref24_sorted.l0 kj15 x3_1 (x4_1.drop (1 : Int).toNat) y515) else (none)) = some r := by first | (rw [hy515]; with_reducible exact H) | (have H2_ := (Option.bind_some _ _).symm.trans H; rw [hy515]; with_reducible exact H2_) | (have H2_ := (Option.bind_some _ _).symm.trans H; with_reducible exact H2_) | with_reducible exact H | (rw [hy515]; exact H) | exact H
                              have Ny515 := Aside0.mk hy515
                              clear hy515
                              by_cases c41 : 1 ≤ (x4_1.length : Int)
                              · rw [if_pos c41] at H
                                have c41b0 := eq_true c41
                                have c41b1 : decide (1 ≤ (x4_1.length : Int)) = true := decide_eq_true c41
                                clear c41
                                obtain ⟨y518, hy518⟩ : ∃ y_ : List (S31), y_ = (x4_1.drop (1 : Int).toNat) := ⟨_, rfl⟩
                                replace H : (turnstileref24_sorted.l0 kj15 x3_1 y518 y515) = some r := by first | (rw [hy518]; with_reducible exact H) | (have H2_ := (Option.bind_some _ _).symm.trans H; rw [hy518]; with_reducible exact H2_) | (have H2_ := (Option.bind_some _ _).symm.trans H; with_reducible exact H2_) | with_reducible exact H | (rw [hy518]; exact H) | exact H
                                have Ny518 := Aside0.mk hy518
                                clear hy518
                                have H' := Aside0.mk H
                                clear H
                                obtain ⟨Ao42, co42, eo42, _⟩ := turnstileref24_sorted.V_slice4 HO_4.out
                                subst eo42
                                obtain ⟨Ao43, co43, eo43, _⟩ := turnstileref24_sorted.V_slice4 HO_3.out
                                subst eo43
                                have p505 : 0 ≤ (0 : Int) := (by omega)
                                have q505 : 0 < (x3_1.length : Int) := of_decide_eq_true (by first | (with_reducible assumption) | assumption)
                                obtain ⟨ad505, e505, hx505_0, hx505_1⟩ := at_T31 (Kd.V_reads' HO_3.out).2.2 0 p505 q505
                                cases e505
                                have qi505 : (0 < x3_1.length) = True := eq_true (by omega)
                                (try rw [show ((0 : Int)).toNat = 0 from rfl] at hx505_0)
                                (try rw [show 0 * 2 = 0 from rfl] at hx505_0)
                                (try rw [Addr.add_zero'] at hx505_0)
                                (try rw [show ((0 : Int)).toNat = 0 from rfl] at hx505_1)
                                (try rw [show 0 * 2 = 0 from rfl] at hx505_1)
                                (try rw [Addr.add_zero'] at hx505_1)
                                replace p505 := eq_true p505
                                replace q505 := eq_true q505
                                have p506 : 0 ≤ (0 : Int) := (by omega)
                                have q506 : 0 < (x4_1.length : Int) := of_decide_eq_true (by first | (with_reducible assumption) | assumption)
                                obtain ⟨ad506, e506, hx506_0, hx506_1⟩ := at_T31 (Kd.V_reads' HO_4.out).2.2 0 p506 q506
                                cases e506
                                have qi506 : (0 < x4_1.length) = True := eq_true (by omega)
                                (try rw [show ((0 : Int)).toNat = 0 from rfl] at hx506_0)
                                (try rw [show 0 * 2 = 0 from rfl] at hx506_0)
                                (try rw [Addr.add_zero'] at hx506_0)
                                (try rw [show ((0 : Int)).toNat = 0 from rfl] at hx506_1)
                                (try rw [show 0 * 2 = 0 from rfl] at hx506_1)
                                (try rw [Addr.add_zero'] at hx506_1)
                                replace p506 := eq_true p506
                                replace q506 := eq_true q506
                                have p514 : 0 ≤ (0 : Int) := (by omega)
                                have q514 : 0 < (x4_1.length : Int) := of_decide_eq_true (by first | (with_reducible assumption) | assumption)
                                obtain ⟨ad514, e514, hx514_0, hx514_1⟩ := at_T31 (Kd.V_reads' HO_4.out).2.2 0 p514 q514
                                obtain rfl : ad506 = ad514 := (by injection e514)
                                have qi514 : (0 < x4_1.length) = True := eq_true (by omega)
                                (try rw [show ((0 : Int)).toNat = 0 from rfl] at hx514_0)
                                (try rw [show 0 * 2 = 0 from rfl] at hx514_0)
                                (try rw [Addr.add_zero'] at hx514_0)
                                (try rw [show ((0 : Int)).toNat = 0 from rfl] at hx514_1)
                                (try rw [show 0 * 2 = 0 from rfl] at hx514_1)
                                (try rw [Addr.add_zero'] at hx514_1)
                                replace p514 := eq_true p514
                                replace q514 := eq_true q514
                                go_wp2
                                repeat (go_quiet (fail); try go_wp2_with (first | ((with_reducible refine gate_builtin (b := .append) (xs := #[.tmp 58, .tmp 62]) rfl ?_); (try (refine gate_guard (by rfl) ?_; dsimp only)); at_builtin; refine Kd.R_append k31 (w0 := w) w.heap.size rfl (.tmp 58) (.tmp 62) 25 31 (.agg #[(.int .u64 0), (.int .u64 0)]) 16 rfl Try.underlying25 info31 rfl (by decide) (by omega) u5 x5_1 (⟨(rd_T31 x4_1 0).f0, (rd_T31 x4_1 0).f1⟩ : S31) [.int .u64 ((rd_T31 x4_1 0).f0), .int .u64 ((rd_T31 x4_1 0).f1)] (fun k_ => True ∧ True) (fun _ => False) rfl rfl ?aP (fun _ hk => hk.elim) ?aF ?aO ?aB ?aS ?aL ?_; (case aP => exact k31_mkM _ _ _ (⟨(rd_T31 x4_1 0).f0, (rd_T31 x4_1 0).f1⟩ : S31)); (case aB => exact (bw HB)); (case aF => exact (fun k_ hk => ⟨trivial, trivial⟩)); (case aO => exact (ro HO_5)); (case aS => exact (below_size (bw HB))); (case aL => have := LMc40.out; omega); intro v516 w44 ho hb hg hat; rw [← Ny515.out] at ho; have n0_ := Aside0.mk (Kd.V_after (ok := (fun k_ => True)) (vo HO_3) hg hat); have n1_ := Aside0.mk (Kd.V_after (ok := (fun k_ => True)) (vo HO_4) hg hat); have n2_ := Aside0.mk (hb); have n3_ := Aside0.mk (ho); clear HO_3; clear HO_4; clear HB; clear HO_5; have HO_3 := n0_; have HO_4 := n1_; have HB := n2_; have HO517 := n3_; clear n0_ n1_ n2_ n3_; clear ho hb hg hat; have q45 : (1 : Int) ≤ ((x4_1.length : Int) : Int) := of_decide_eq_true (by first | (with_reducible assumption) | assumption); obtain ⟨i045, hi045, _, hsz45, _⟩ := info_parts info31; have hcut45 := cut_from (P := Try.prog) 25 31 .i64 Try.underlying25 hi045 2 hsz45 (some ad506) x4_1.length co42 1 (by omega) q45; have hr45 := turnstileref24_sorted.V_drop (m := (1 : Int).toNat) HO_4.out (by omega); obtain ⟨A45, hA45⟩ : ∃ A1, A1 = (if co42 = (1 : Int).toNat then (some ad506) else ((some ad506) : Option Addr).map (·.add ((1 : Int).toNat * 2))) := ⟨_, rfl⟩; obtain ⟨c45, hc45⟩ : ∃ c1, c1 = co42 - (1 : Int).toNat := ⟨_, rfl⟩; have hy45 : y518.length = x4_1.length - (1 : Int).toNat := (by rw [Ny518.out, List.length_drop]); rw [← Ny518.out] at hr45; rw [← hy45, ← hA45, ← hc45] at hcut45; replace hr45 : Kd.V k31 31 w44 w.heap.size (fun k_ => True ∧ some k_ ≠ (v516 : Value).ownBlock) (.slice A45 y518.length c45) y518 := (by rw [hA45, hc45, hy45]; exact hr45); have HE45 : Aside0 ((Value.slice A45 y518.length c45).ownBlock = (.slice (some ad506) x4_1.length co42 : Value).ownBlock) := ⟨by rw [hA45]; split <;> (cases ((some ad506) : Option Addr) <;> rfl)⟩; clear hy45 hi045 hsz45 HO_4 hA45 hc45; have HO520 := Aside0.mk hr45; clear hr45; replace q45 := eq_true q45; have n_ := Aside0.mk ((HO_3.out)); clear HO_3; have HO_3 := n_; clear n_; have n_ := Aside0.mk ((HO517.out)); clear HO517; have HO517 := n_; clear n_)))
                                go_roundg kj15
                                case measure => have := HK1.out; have := HJ15.out; omega
                                case rel => exact ⟨(x3_1), (y518), (y515), H', ⟨by have := HK1.out; have := HJ15.out; omega⟩, ⟨vo HO_3⟩, ⟨vo HO520⟩, ⟨ro HO517⟩, ⟨bw HB⟩⟩
                              · rw [if_neg c41] at H
                                exact absurd H (by simp)
                            · rw [if_neg c40] at H
                              exact absurd H (by simp)
                        · rw [if_neg c32] at H
                          exact absurd H (by simp)
                      · rw [if_neg c31] at H
                        exact absurd H (by simp)
                    · rw [if_neg c30] at H
                      have c30b0 : decide (0 < (x3_1.length : Int)) = false := decide_eq_false c30
                      have c30b1 : decide (0 < x3_1.length) = false := decide_eq_false (by omega)
                      clear c30
                      by_cases c46 : 0 < (x4_1.length : Int)
                      · rw [if_pos c46] at H
                        have c46b0 : decide (0 < (x4_1.length : Int)) = true := decide_eq_true c46
                        have c46b1 : decide (0 < x4_1.length) = true := decide_eq_true (by omega)
                        clear c46
                        by_cases c47 : x5_1.length < 8796093022208
                        · rw [if_pos c47] at H
                          have LMc47 := Aside0.mk c47
                          clear c47
                          obtain ⟨y522, hy522⟩ : ∃ y_ : List (S31), y_ = (x5_1 ++ [(⟨(rd_T31 x4_1 0).f0, (rd_T31 x4_1 0).f1⟩ : S31)]) := ⟨_, rfl⟩
                          replace H : (if 1 ≤ (x4_1.length : Int) then (turnstileref24_sorted.l0 kj15 x3_1 (x4_1.drop (1 : Int).toNat) y522) else (none)) = some r := by first | (rw [hy522]; with_reducible exact H) | (have H2_ := (Option.bind_some _ _).symm.trans H; rw [hy522]; with_reducible exact H2_) | (have H2_ := (Option.bind_some _ _).symm.trans H; with_reducible exact H2_) | with_reducible exact H | (rw [hy522]; exact H) | exact H
                          have Ny522 := Aside0.mk hy522
                          clear hy522
                          by_cases c48 : 1 ≤ (x4_1.length : Int)
                          · rw [if_pos c48] at H
                            have c48b0 := eq_true c48
                            have c48b1 : decide (1 ≤ (x4_1.length : Int)) = true := decide_eq_true c48
                            clear c48
                            obtain ⟨y525, hy525⟩ : ∃ y_ : List (S31), y_ = (x4_1.drop (1 : Int).toNat) := ⟨_, rfl⟩
                            replace H : (turnstileref24_sorted.l0 kj15 x3_1 y525 y522) = some r := by first | (rw [hy525]; with_reducible exact H) | (have H2_ := (Option.bind_some _ _).symm.trans H; rw [hy525]; with_reducible exact H2_) | (have H2_ := (Option.bind_some _ _).symm.trans H; with_reducible exact H2_) | with_reducible exact H | (rw [hy525]; exact H) | exact H
                            have Ny525 := Aside0.mk hy525
                            clear hy525
                            have H' := Aside0.mk H
                            clear H
                            obtain ⟨Ao49, co49, eo49, _⟩ := turnstileref24_sorted.V_slice4 HO_4.out
                            subst eo49
                            obtain ⟨Ao50, co50, eo50, _⟩ := turnstileref24_sorted.V_slice4 HO_3.out
                            subst eo50
                            have p521 : 0 ≤ (0 : Int) := (by omega)
                            have q521 : 0 < (x4_1.length : Int) := of_decide_eq_true (by first | (with_reducible assumption) | assumption)
                            obtain ⟨ad521, e521, hx521_0, hx521_1⟩ := at_T31 (Kd.V_reads' HO_4.out).2.2 0 p521 q521
                            cases e521
                            have qi521 : (0 < x4_1.length) = True := eq_true (by omega)
                            (try rw [show ((0 : Int)).toNat = 0 from rfl] at hx521_0)
                            (try rw [show 0 * 2 = 0 from rfl] at hx521_0)
                            (try rw [Addr.add_zero'] at hx521_0)
                            (try rw [show ((0 : Int)).toNat = 0 from rfl] at hx521_1)
                            (try rw [show 0 * 2 = 0 from rfl] at hx521_1)
                            (try rw [Addr.add_zero'] at hx521_1)
                            replace p521 := eq_true p521
                            replace q521 := eq_true q521
                            go_wp2
                            repeat (go_quiet (fail); try go_wp2_with (first | ((with_reducible refine gate_builtin (b := .append) (xs := #[.tmp 58, .tmp 62]) rfl ?_); (try (refine gate_guard (by rfl) ?_; dsimp only)); at_builtin; refine Kd.R_append k31 (w0 := w) w.heap.size rfl (.tmp 58) (.tmp 62) 25 31 (.agg #[(.int .u64 0), (.int .u64 0)]) 16 rfl Try.underlying25 info31 rfl (by decide) (by omega) u5 x5_1 (⟨(rd_T31 x4_1 0).f0, (rd_T31 x4_1 0).f1⟩ : S31) [.int .u64 ((rd_T31 x4_1 0).f0), .int .u64 ((rd_T31 x4_1 0).f1)] (fun k_ => True ∧ True) (fun _ => False) rfl rfl ?aP (fun _ hk => hk.elim) ?aF ?aO ?aB ?aS ?aL ?_; (case aP => exact k31_mkM _ _ _ (⟨(rd_T31 x4_1 0).f0, (rd_T31 x4_1 0).f1⟩ : S31)); (case aB => exact (bw HB)); (case aF => exact (fun k_ hk => ⟨trivial, trivial⟩)); (case aO => exact (ro HO_5)); (case aS => exact (below_size (bw HB))); (case aL => have := LMc47.out; omega); intro v523 w51 ho hb hg hat; rw [← Ny522.out] at ho; have n0_ := Aside0.mk (Kd.V_after (ok := (fun k_ => True)) (vo HO_3) hg hat); have n1_ := Aside0.mk (Kd.V_after (ok := (fun k_ => True)) (vo HO_4) hg hat); have n2_ := Aside0.mk (hb); have n3_ := Aside0.mk (ho); clear HO_3; clear HO_4; clear HB; clear HO_5; have HO_3 := n0_; have HO_4 := n1_; have HB := n2_; have HO524 := n3_; clear n0_ n1_ n2_ n3_; clear ho hb hg hat; have q52 : (1 : Int) ≤ ((x4_1.length : Int) : Int) := of_decide_eq_true (by first | (with_reducible assumption) | assumption); obtain ⟨i052, hi052, _, hsz52, _⟩ := info_parts info31; have hcut52 := cut_from (P := Try.prog) 25 31 .i64 Try.underlying25 hi052 2 hsz52 (some ad521) x4_1.length co49 1 (by omega) q52; have hr52 := turnstileref24_sorted.V_drop (m := (1 : Int).toNat) HO_4.out (by omega); obtain ⟨A52, hA52⟩ : ∃ A1, A1 = (if co49 = (1 : Int).toNat then (some ad521) else ((some ad521) : Option Addr).map (·.add ((1 : Int).toNat * 2))) := ⟨_, rfl⟩; obtain ⟨c52, hc52⟩ : ∃ c1, c1 = co49 - (1 : Int).toNat := ⟨_, rfl⟩; have hy52 : y525.length = x4_1.length - (1 : Int).toNat := (by rw [Ny525.out, List.length_drop]); rw [← Ny525.out] at hr52; rw [← hy52, ← hA52, ← hc52] at hcut52; replace hr52 : Kd.V k31 31 w51 w.heap.size (fun k_ => True ∧ some k_ ≠ (v523 : Value).ownBlock) (.slice A52 y525.length c52) y525 := (by rw [hA52, hc52, hy52]; exact hr52); have HE52 : Aside0 ((Value.slice A52 y525.length c52).ownBlock = (.slice (some ad521) x4_1.length co49 : Value).ownBlock) := ⟨by rw [hA52]; split <;> (cases ((some ad521) : Option Addr) <;> rfl)⟩; clear hy52 hi052 hsz52 HO_4 hA52 hc52; have HO527 := Aside0.mk hr52; clear hr52; replace q52 := eq_true q52; have n_ := Aside0.mk ((HO_3.out)); clear HO_3; have HO_3 := n_; clear n_; have n_ := Aside0.mk ((HO524.out)); clear HO524; have HO524 := n_; clear n_)))
                            go_roundg kj15
                            case measure => have := HK1.out; have := HJ15.out; omega
                            case rel => exact ⟨(x3_1), (y525), (y522), H', ⟨by have := HK1.out; have := HJ15.out; omega⟩, ⟨vo HO_3⟩, ⟨vo HO527⟩, ⟨ro HO524⟩, ⟨bw HB⟩⟩
                          · rw [if_neg c48] at H
                            exact absurd H (by simp)
                        · rw [if_neg c47] at H
                          exact absurd H (by simp)
                      · rw [if_neg c46] at H
                        exact absurd H (by simp)
                · replace c21 := Bool.eq_false_iff.mpr c21
                  subst c21
                  have H1 : (some x5_1) = some r := by rw [if_neg (show ¬ (false = true) by decide)] at H; exact H
                  clear H
                  have H := H1
                  clear H1
                  obtain rfl := Option.some.inj H
                  go_wp2
                  repeat (go_quiet (fail); try go_wp2)
                  go_ret
                  exact ⟨_, rfl, by (with_reducible repeat (first | apply Kd.V_alloc | apply Kd.V_drewN | apply Kd.V_drew)); exact Kd.V_mono (Kd.R_V (base' := 0) HO_5.out) (fun _ hk => trivial), bw HB⟩
      · rw [if_neg c5] at H
        exact absurd H (by simp)
    · rw [if_neg c4] at H
      exact absurd H (by simp)

end Go.Proofs.Ytdoifmefhofnnaa.D
