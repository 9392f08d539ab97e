/- Written by the session's own program hyb.py: what functions of the program compute; Lean checks it. -/
import Derived.Test.YtdoifmefhofnnaaDx0
namespace Go.Proofs.Ytdoifmefhofnnaa.D
open Go.RowKit Go.Proofs.YtdoifmefhofnnaaW.PrintWords Go.Proofs.YtdoifmefhofnnaaW.PrintLast Go.Proofs.YtdoifmefhofnnaaW.PrintMore Go.Proofs.YtdoifmefhofnnaaW.PrintShort
attribute [local go_sem] run_Add64 run_Sub64
attribute [local go_sem] max2_int min2_int max_two min_two max_three min_three max_four min_four   -- for this text's walks alone
set_option linter.unusedVariables false
set_option linter.unusedSimpArgs false

/-! ### turnstileref24_Of: function 41 -/
def turnstileref24_Of.l0 : Nat → Int → List Int → Option (List Int)
  | 0, _, _ => none
  | k + 1, x0, x3 => if x0 > 0 then (if x3.length < 17592186044416 then (turnstileref24_Of.l0 k (IntKind.u64.wrap (Int.tdiv x0 4294967296)) (x3 ++ [Int.tmod x0 4294967296])) else (none)) else (some x3)
def turnstileref24_Of.f (k : Nat) (a0 : Int) : Option (List Int) := turnstileref24_Of.l0 k a0 (([] : List Int))
set_option maxHeartbeats 8000000 in
set_option maxRecDepth 100000 in
theorem turnstileref24_Of.calls (k : Nat) (a0 : Int) (r : List Int) (w : World) (h : turnstileref24_Of.f k a0 = some r) :
    Calls Try.prog 41 #[.int .u64 a0] w fun e w' => ∃ v0_ : Value, e = .returned (v0_) ∧ Kd.V (Kd.int .u64) 22 w' w.heap.size (fun k_ => (w.heap.size ≤ k_)) v0_ r ∧ Below w.heap.size w w' := by
  have HB := Aside0.mk (Below.refl w.heap.size w)
  have H : (turnstileref24_Of.l0 k a0 (([] : List Int))) = some r := h
  clear h
  obtain ⟨y320, hy320⟩ : ∃ y_ : List Int, y_ = (([] : List Int)) := ⟨_, rfl⟩
  replace H : (turnstileref24_Of.l0 k a0 y320) = some r := by first | (rw [hy320]; with_reducible exact H) | (have H2_ := (Option.bind_some _ _).symm.trans H; rw [hy320]; with_reducible exact H2_) | (have H2_ := (Option.bind_some _ _).symm.trans H; with_reducible exact H2_) | with_reducible exact H | (rw [hy320]; exact H) | exact H
  have Ny320 := Aside0.mk hy320
  clear hy320
  have H' := Aside0.mk H
  clear H
  go_enter Try.func41, Try.ntmps41
  go_wp2_with (first | ((with_reducible refine gate_dst (N := 4) rfl ?_); refine Kd.R_lit (Kd.int .u64) _ 22 ?hg (N := 4) ?hd (xs := ([] : List Int)) (inner := []) (ok := fun _ => True) (okp := fun _ => True) ?hr ?hp (fun _ hk => hk) trivial (Below.refl _ _) (Nat.le_refl _) (by simp) ?_; (case hd => rfl); (case hg => rfl); (case hr => first | (go_simp; done) | (go_simp; rfl)); (case hp => exact (Reps.none _ _)); intro v321 w2 ho3 hb hg_ hnew_; clear hg_ hnew_; (first | rw [← Ny320.out] at ho3 | (simp only [Int.reduceToNat] at ho3; rw [← Ny320.out] at ho3)); have HO322 := Aside0.mk (Kd.R_lower (Kd.R_newM (M := fun k_ => (w.heap.size ≤ k_)) ho3 (below_size (bw HB)) (fun k_ h_ => h_)) (below_size (bw HB))); replace HB := bs HB hb; clear hb ho3))
  go_loopg [0, 3] k (fun kq v0 v3 w' => ∃ (x0_1 : Int) (x3_1 : List Int), v0 = .int .u64 x0_1 ∧ Aside0 (turnstileref24_Of.l0 kq x0_1 x3_1 = some r) ∧ Aside0 (kq ≤ k) ∧ Aside0 (Kd.R (Kd.int .u64) 22 w' w.heap.size (fun k_ => (w.heap.size ≤ k_)) v3 x3_1) ∧ Aside0 (Below w.heap.size w w'))
  case atStart => exact ⟨(a0), (y320), rs, H', ⟨Nat.le_refl _⟩, ⟨by (with_reducible repeat (first | apply Kd.R_alloc | apply Kd.R_drewN | apply Kd.R_drew)); exact Kd.R_mono HO322.out (fun _ hk => hk.1)⟩, ⟨bw HB⟩⟩
  case round =>
    clear H'
    try clear p2
    obtain ⟨x0_1, x3_1, rfl, HA, HK1, HO_3, HB⟩ := hrel
    cases gk with
    | zero => exact absurd HA.out (by simp [turnstileref24_Of.l0])
    | succ k1 =>
      have H := HA.out
      clear HA
      simp only [turnstileref24_Of.l0] at H
      by_cases c4 : x0_1 > 0
      · rw [if_pos c4] at H
        have c4b0 : decide (0 < x0_1) = true := decide_eq_true c4
        clear c4
        by_cases c5 : x3_1.length < 17592186044416
        · rw [if_pos c5] at H
          have LMc5 := Aside0.mk c5
          clear c5
          obtain ⟨y323, hy323⟩ : ∃ y_ : List Int, y_ = (x3_1 ++ [Int.tmod x0_1 4294967296]) := ⟨_, rfl⟩
          replace H : (turnstileref24_Of.l0 k1 (IntKind.u64.wrap (Int.tdiv x0_1 4294967296)) y323) = some r := by first | (rw [hy323]; with_reducible exact H) | (have H2_ := (Option.bind_some _ _).symm.trans H; rw [hy323]; with_reducible exact H2_) | (have H2_ := (Option.bind_some _ _).symm.trans H; with_reducible exact H2_) | with_reducible exact H | (rw [hy323]; exact H) | exact H
          have Ny323 := Aside0.mk hy323
          clear hy323
          have H' := Aside0.mk H
          clear H
          go_wp2_with (first | ((with_reducible refine gate_builtin (b := .append) (xs := #[.tmp 7, .tmp 10]) rfl ?_); at_builtin; refine Kd.R_append (Kd.int .u64) (w0 := w) w.heap.size rfl (.tmp 7) (.tmp 10) 81 22 (.int .u64 0) 8 rfl Try.underlying81 info22 rfl (by decide) (by omega) u3 x3_1 (Int.tmod x0_1 4294967296) [.int .u64 (Int.tmod x0_1 4294967296)] (fun k_ => (w.heap.size ≤ k_)) (fun _ => False) rfl rfl ?aP (fun _ hk => hk.elim) ?aF ?aO ?aB ?aS ?aL ?_; (case aP => exact rfl); (case aB => exact (bw HB)); (case aF => exact (fun k_ hk => (Nat.le_trans (below_size (bw HB)) hk))); (case aO => exact (ro HO_3)); (case aS => exact (below_size (bw HB))); (case aL => have := LMc5.out; omega); intro v324 w6 ho hb hg hat; rw [← Ny323.out] at ho; have n0_ := Aside0.mk (hb); have n1_ := Aside0.mk (ho); clear HB; clear HO_3; have HB := n0_; have HO325 := n1_; clear n0_ n1_; clear ho hb hg hat))
          go_roundg k1
          case measure => have := HK1.out; omega
          case rel => exact ⟨(IntKind.u64.wrap (Int.tdiv x0_1 4294967296)), (y323), rs, H', ⟨by have := HK1.out; omega⟩, ⟨ro HO325⟩, ⟨bw HB⟩⟩
        · rw [if_neg c5] at H
          exact absurd H (by simp)
      · rw [if_neg c4] at H
        have c4b0 : decide (0 < x0_1) = false := decide_eq_false c4
        clear c4
        obtain rfl := Option.some.inj H
        go_wp2
        go_ret
        exact ⟨_, re, Kd.R_V (ro HO_3), bw HB⟩

/-! ### turnstileref24_Plus: function 43 -/
mutual
def turnstileref24_Plus.l0 : Nat → List Int → List Int → List Int → Int → Int → Option (List Int)
  | 0, _, _, _, _, _ => none
  | k + 1, x0, x1, x5, x6, x7 => if x7 < (x0.length : Int) then (turnstileref24_Plus.j1 k x0 x1 x5 x6 x7 true) else (if x7 < (x1.length : Int) then (turnstileref24_Plus.j1 k x0 x1 x5 x6 x7 true) else (turnstileref24_Plus.j1 k x0 x1 x5 x6 x7 (decide (x6 > 0))))
def turnstileref24_Plus.j1 : Nat → List Int → List Int → List Int → Int → Int → Bool → Option (List Int)
  | 0, _, _, _, _, _, _ => none
  | k + 1, x0, x1, x5, x6, x7, x22 => if x22 = true then (if x7 < (x0.length : Int) then (if 0 ≤ x7 then (if x7 < (x1.length : Int) then (if x5.length < 17592186044416 then (turnstileref24_Plus.l0 k x0 x1 (x5 ++ [Int.tmod (IntKind.u64.wrap ((IntKind.u64.wrap (x6 + (rd x0 x7))) + (rd x1 x7))) 4294967296]) (IntKind.u64.wrap (Int.tdiv (IntKind.u64.wrap ((IntKind.u64.wrap (x6 + (rd x0 x7))) + (rd x1 x7))) 4294967296)) (wrap64 (x7 + 1))) else (none)) else (if x5.length < 17592186044416 then (turnstileref24_Plus.l0 k x0 x1 (x5 ++ [Int.tmod (IntKind.u64.wrap (x6 + (rd x0 x7))) 4294967296]) (IntKind.u64.wrap (Int.tdiv (IntKind.u64.wrap (x6 + (rd x0 x7))) 4294967296)) (wrap64 (x7 + 1))) else (none))) else (none)) else (if x7 < (x1.length : Int) then (if 0 ≤ x7 then (if x5.length < 17592186044416 then (turnstileref24_Plus.l0 k x0 x1 (x5 ++ [Int.tmod (IntKind.u64.wrap (x6 + (rd x1 x7))) 4294967296]) (IntKind.u64.wrap (Int.tdiv (IntKind.u64.wrap (x6 + (rd x1 x7))) 4294967296)) (wrap64 (x7 + 1))) else (none)) else (none)) else (if x5.length < 17592186044416 then (turnstileref24_Plus.l0 k x0 x1 (x5 ++ [Int.tmod x6 4294967296]) (IntKind.u64.wrap (Int.tdiv x6 4294967296)) (wrap64 (x7 + 1))) else (none)))) else (some x5)
end
def turnstileref24_Plus.f (k : Nat) (l0 : List Int) (l1 : List Int) : Option (List Int) := turnstileref24_Plus.l0 k l0 l1 (([] : List Int)) 0 0
set_option maxHeartbeats 8000000 in
set_option maxRecDepth 100000 in
theorem turnstileref24_Plus.calls (k : Nat) (A0 : Option Addr) (c0 : Nat) (l0 : List Int) (A1 : Option Addr) (c1 : Nat) (l1 : List Int) (r : List Int) (w : World) (hr0 : Kd.C (Kd.int .u64) w A0 l0.length l0) (hc0 : l0.length ≤ c0) (hr1 : Kd.C (Kd.int .u64) w A1 l1.length l1) (hc1 : l1.length ≤ c1) (h : turnstileref24_Plus.f k l0 l1 = some r) :
    Calls Try.prog 43 #[.slice A0 l0.length c0, .slice A1 l1.length c1] w fun e w' => ∃ v0_ : Value, e = .returned (v0_) ∧ Kd.V (Kd.int .u64) 22 w' w.heap.size (fun k_ => (w.heap.size ≤ k_)) v0_ r ∧ Below w.heap.size w w' := by
  have HR0 := Aside0.mk hr0
  have HC0 := Aside0.mk hc0
  clear hr0 hc0
  have HR1 := Aside0.mk hr1
  have HC1 := Aside0.mk hc1
  clear hr1 hc1
  have HB := Aside0.mk (Below.refl w.heap.size w)
  have H : (turnstileref24_Plus.l0 k l0 l1 (([] : List Int)) 0 0) = some r := h
  clear h
  obtain ⟨y326, hy326⟩ : ∃ y_ : List Int, y_ = (([] : List Int)) := ⟨_, rfl⟩
  replace H : (turnstileref24_Plus.l0 k l0 l1 y326 0 0) = some r := by first | (rw [hy326]; with_reducible exact H) | (have H2_ := (Option.bind_some _ _).symm.trans H; rw [hy326]; with_reducible exact H2_) | (have H2_ := (Option.bind_some _ _).symm.trans H; with_reducible exact H2_) | with_reducible exact H | (rw [hy326]; exact H) | exact H
  have Ny326 := Aside0.mk hy326
  clear hy326
  have H' := Aside0.mk H
  clear H
  go_enter Try.func43, Try.ntmps43
  go_wp2_with (first | ((with_reducible refine gate_dst (N := 8) rfl ?_); (try (refine gate_guard (by rfl) ?_; dsimp only)); refine Kd.R_lit (Kd.int .u64) _ 22 ?hg (N := 8) ?hd (xs := ([] : List Int)) (inner := []) (ok := fun _ => True) (okp := fun _ => True) ?hr ?hp (fun _ hk => hk) trivial (Below.refl _ _) (Nat.le_refl _) (by simp) ?_; (case hd => rfl); (case hg => rfl); (case hr => first | (go_simp; done) | (go_simp; rfl)); (case hp => exact (Reps.none _ _)); intro v327 w3 ho4 hb hg_ hnew_; clear hg_ hnew_; (first | rw [← Ny326.out] at ho4 | (simp only [Int.reduceToNat] at ho4; rw [← Ny326.out] at ho4)); have HO328 := Aside0.mk (Kd.R_lower (Kd.R_newM (M := fun k_ => (w.heap.size ≤ k_)) ho4 (below_size (bw HB)) (fun k_ h_ => h_)) (below_size (bw HB))); replace HB := bs HB hb; clear hb ho4))
  go_loopg [5, 6, 7] k (fun kq v5 v6 v7 w' => ∃ (x5_1 : List Int) (x6_1 : Int) (x7_1 : Int), v6 = .int .u64 x6_1 ∧ v7 = .int .i64 x7_1 ∧ Aside0 (turnstileref24_Plus.l0 kq l0 l1 x5_1 x6_1 x7_1 = some r) ∧ Aside0 (kq ≤ k) ∧ Aside0 (Kd.R (Kd.int .u64) 22 w' w.heap.size (fun k_ => (w.heap.size ≤ k_)) v5 x5_1) ∧ Aside0 (Below w.heap.size w w'))
  case atStart => exact ⟨(y326), (0), (0), rs, rs, H', ⟨Nat.le_refl _⟩, ⟨by (with_reducible repeat (first | apply Kd.R_alloc | apply Kd.R_drewN | apply Kd.R_drew)); exact Kd.R_mono HO328.out (fun _ hk => hk.1)⟩, ⟨bw HB⟩⟩
  case round =>
    clear H'
    try clear c1
    try clear p2
    try clear c4
    obtain ⟨x5_1, x6_1, x7_1, rfl, rfl, HA, HK1, HO_5, HB⟩ := hrel
    cases gk with
    | zero => exact absurd HA.out (by simp [turnstileref24_Plus.l0])
    | succ k1 =>
      have H := HA.out
      clear HA
      simp only [turnstileref24_Plus.l0] at H
      have HC5 := Aside0.mk H
      clear H
      go_upto_region 4 with (fail)
      go_cut [22] (fun v22 wc => ∃ (kq : Nat) (x22_4 : Bool), v22 = .bool x22_4 ∧ Aside0 (turnstileref24_Plus.j1 kq l0 l1 x5_1 x6_1 x7_1 x22_4 = some r) ∧ Aside0 (kq ≤ k1) ∧ Aside0 (Kd.R (Kd.int .u64) 22 wc w.heap.size (fun k_ => (w.heap.size ≤ k_)) u5 x5_1) ∧ Aside0 (Below w.heap.size w wc))
      case first =>
        have H := HC5.out
        clear HC5
        by_cases c6 : x7_1 < (l0.length : Int)
        · rw [if_pos c6] at H
          have c6b0 : decide (x7_1 < (l0.length : Int)) = true := decide_eq_true c6
          clear c6
          (first | rw [c6b0] | (simp only [i64_w, i32_w]; rw [c6b0]) | skip)
          have H' := Aside0.mk H
          clear H
          go_wp2
          go_meet
          case rel => exact ⟨_, (true), rs, H', ⟨by have := HK1.out; first | omega | exact Nat.le_refl _⟩, ⟨ro HO_5⟩, ⟨bw HB⟩⟩
        · rw [if_neg c6] at H
          have c6b0 : decide (x7_1 < (l0.length : Int)) = false := decide_eq_false c6
          clear c6
          (first | rw [c6b0] | (simp only [i64_w, i32_w]; rw [c6b0]) | skip)
          by_cases c7 : x7_1 < (l1.length : Int)
          · rw [if_pos c7] at H
            have c7b0 : decide (x7_1 < (l1.length : Int)) = true := decide_eq_true c7
            clear c7
            have H' := Aside0.mk H
            clear H
            go_wp2
            go_meet
            case rel => exact ⟨_, (true), rs, H', ⟨by have := HK1.out; first | omega | exact Nat.le_refl _⟩, ⟨ro HO_5⟩, ⟨bw HB⟩⟩
          · rw [if_neg c7] at H
            have c7b0 : decide (x7_1 < (l1.length : Int)) = false := decide_eq_false c7
            clear c7
            have H' := Aside0.mk H
            clear H
            go_wp2
            go_meet
            case rel => exact ⟨_, (decide (x6_1 > 0)), rs, H', ⟨by have := HK1.out; first | omega | exact Nat.le_refl _⟩, ⟨ro HO_5⟩, ⟨bw HB⟩⟩
      case rest =>
        clear HC5
        try clear c1
        try clear p2
        try clear c4
        try clear c6
        try clear c6b0
        try clear c7
        try clear c7b0
        try clear p2
        obtain ⟨kq, x22_4, rfl, HA, HJ4, HO_5, HB⟩ := hcut
        cases kq with
        | zero => exact absurd HA.out (by simp [turnstileref24_Plus.j1])
        | succ kj4 =>
          have H := HA.out
          clear HA
          simp only [turnstileref24_Plus.j1] at H
          by_cases c8 : x22_4 = true
          · subst c8
            have H1 : (if x7_1 < (l0.length : Int) then (if 0 ≤ x7_1 then (if x7_1 < (l1.length : Int) then (if x5_1.length < 17592186044416 then (turnstileref24_Plus.l0 kj4 l0 l1 (x5_1 ++ [Int.tmod (IntKind.u64.wrap ((IntKind.u64.wrap (x6_1 + (rd l0 x7_1))) + (rd l1 x7_1))) 4294967296]) (IntKind.u64.wrap (Int.tdiv (IntKind.u64.wrap ((IntKind.u64.wrap (x6_1 + (rd l0 x7_1))) + (rd l1 x7_1))) 4294967296)) (wrap64 (x7_1 + 1))) else (none)) else (if x5_1.length < 17592186044416 then (turnstileref24_Plus.l0 kj4 l0 l1 (x5_1 ++ [Int.tmod (IntKind.u64.wrap (x6_1 + (rd l0 x7_1))) 4294967296]) (IntKind.u64.wrap (Int.tdiv (IntKind.u64.wrap (x6_1 + (rd l0 x7_1))) 4294967296)) (wrap64 (x7_1 + 1))) else (none))) else (none)) else (if x7_1 < (l1.length : Int) then (if 0 ≤ x7_1 then (if x5_1.length < 17592186044416 then (turnstileref24_Plus.l0 kj4 l0 l1 (x5_1 ++ [Int.tmod (IntKind.u64.wrap (x6_1 + (rd l1 x7_1))) 4294967296]) (IntKind.u64.wrap (Int.tdiv (IntKind.u64.wrap (x6_1 + (rd l1 x7_1))) 4294967296)) (wrap64 (x7_1 + 1))) else (none)) else (none)) else (if x5_1.length < 17592186044416 then (turnstileref24_Plus.l0 kj4 l0 l1 (x5_1 ++ [Int.tmod x6_1 4294967296]) (IntKind.u64.wrap (Int.tdiv x6_1 4294967296)) (wrap64 (x7_1 + 1))) else (none)))) = some r := by rw [if_pos rfl] at H; exact H
            clear H
            have H := H1
            clear H1
            by_cases c9 : x7_1 < (l0.length : Int)
            · rw [if_pos c9] at H
              have c9b0 : decide (x7_1 < (l0.length : Int)) = true := decide_eq_true c9
              clear c9
              by_cases c10 : 0 ≤ x7_1
              · rw [if_pos c10] at H
                have c10b0 : decide (0 ≤ x7_1) = true := decide_eq_true c10
                clear c10
                by_cases c11 : x7_1 < (l1.length : Int)
                · rw [if_pos c11] at H
                  have c11b0 : decide (x7_1 < (l1.length : Int)) = true := decide_eq_true c11
                  clear c11
                  by_cases c12 : x5_1.length < 17592186044416
                  · rw [if_pos c12] at H
                    have LMc12 := Aside0.mk c12
                    clear c12
                    obtain ⟨y331, hy331⟩ : ∃ y_ : List Int, y_ = (x5_1 ++ [Int.tmod (IntKind.u64.wrap ((IntKind.u64.wrap (x6_1 + (rd l0 x7_1))) + (rd l1 x7_1))) 4294967296]) := ⟨_, rfl⟩
                    replace H : (turnstileref24_Plus.l0 kj4 l0 l1 y331 (IntKind.u64.wrap (Int.tdiv (IntKind.u64.wrap ((IntKind.u64.wrap (x6_1 + (rd l0 x7_1))) + (rd l1 x7_1))) 4294967296)) (wrap64 (x7_1 + 1))) = some r := by first | (rw [hy331]; with_reducible exact H) | (have H2_ := (Option.bind_some _ _).symm.trans H; rw [hy331]; with_reducible exact H2_) | (have H2_ := (Option.bind_some _ _).symm.trans H; with_reducible exact H2_) | with_reducible exact H | (rw [hy331]; exact H) | exact H
                    have Ny331 := Aside0.mk hy331
                    clear hy331
                    have H' := Aside0.mk H
                    clear H
                    have p329 : 0 ≤ (x7_1 : Int) := of_decide_eq_true (by first | (with_reducible assumption) | assumption)
                    have q329 : x7_1 < (l0.length : Int) := of_decide_eq_true (by first | (with_reducible assumption) | assumption)
                    obtain ⟨ad329, e329, hx329_0⟩ := Kd.at_int HR0.out x7_1 p329 q329
                    cases e329
                    replace hx329_0 := (HB.out.cell (World.block_lt_of_cell? w _ hx329_0)).trans hx329_0
                    replace p329 := eq_true p329
                    replace q329 := eq_true q329
                    have p330 : 0 ≤ (x7_1 : Int) := of_decide_eq_true (by first | (with_reducible assumption) | assumption)
                    have q330 : x7_1 < (l1.length : Int) := of_decide_eq_true (by first | (with_reducible assumption) | assumption)
                    obtain ⟨ad330, e330, hx330_0⟩ := Kd.at_int HR1.out x7_1 p330 q330
                    cases e330
                    replace hx330_0 := (HB.out.cell (World.block_lt_of_cell? w _ hx330_0)).trans hx330_0
                    replace p330 := eq_true p330
                    replace q330 := eq_true q330
                    go_wp2_with (first | ((with_reducible refine gate_builtin (b := .append) (xs := #[.tmp 45, .tmp 48]) rfl ?_); (try (refine gate_guard (by rfl) ?_; dsimp only)); at_builtin; refine Kd.R_append (Kd.int .u64) (w0 := w) w.heap.size rfl (.tmp 45) (.tmp 48) 81 22 (.int .u64 0) 8 rfl Try.underlying81 info22 rfl (by decide) (by omega) u5 x5_1 (Int.tmod (IntKind.u64.wrap ((IntKind.u64.wrap (x6_1 + (rd l0 x7_1))) + (rd l1 x7_1))) 4294967296) [.int .u64 (Int.tmod (IntKind.u64.wrap ((IntKind.u64.wrap (x6_1 + (rd l0 x7_1))) + (rd l1 x7_1))) 4294967296)] (fun k_ => (w.heap.size ≤ k_)) (fun _ => False) rfl rfl ?aP (fun _ hk => hk.elim) ?aF ?aO ?aB ?aS ?aL ?_; (case aP => exact rfl); (case aB => exact (bw HB)); (case aF => exact (fun k_ hk => (Nat.le_trans (below_size (bw HB)) hk))); (case aO => exact (ro HO_5)); (case aS => exact (below_size (bw HB))); (case aL => have := LMc12.out; omega); intro v332 w13 ho hb hg hat; rw [← Ny331.out] at ho; have n0_ := Aside0.mk (hb); have n1_ := Aside0.mk (ho); clear HB; clear HO_5; have HB := n0_; have HO333 := n1_; clear n0_ n1_; clear ho hb hg hat))
                    go_roundg kj4
                    case measure => have := HK1.out; have := HJ4.out; omega
                    case rel => exact ⟨(y331), (IntKind.u64.wrap (Int.tdiv (IntKind.u64.wrap ((IntKind.u64.wrap (x6_1 + (rd l0 x7_1))) + (rd l1 x7_1))) 4294967296)), (wrap64 (x7_1 + 1)), rs, rs, H', ⟨by have := HK1.out; have := HJ4.out; omega⟩, ⟨ro HO333⟩, ⟨bw HB⟩⟩
                  · rw [if_neg c12] at H
                    exact absurd H (by simp)
                · rw [if_neg c11] at H
                  have c11b0 : decide (x7_1 < (l1.length : Int)) = false := decide_eq_false c11
                  clear c11
                  by_cases c14 : x5_1.length < 17592186044416
                  · rw [if_pos c14] at H
                    have LMc14 := Aside0.mk c14
                    clear c14
                    obtain ⟨y334, hy334⟩ : ∃ y_ : List Int, y_ = (x5_1 ++ [Int.tmod (IntKind.u64.wrap (x6_1 + (rd l0 x7_1))) 4294967296]) := ⟨_, rfl⟩
                    replace H : (turnstileref24_Plus.l0 kj4 l0 l1 y334 (IntKind.u64.wrap (Int.tdiv (IntKind.u64.wrap (x6_1 + (rd l0 x7_1))) 4294967296)) (wrap64 (x7_1 + 1))) = some r := by first | (rw [hy334]; with_reducible exact H) | (have H2_ := (Option.bind_some _ _).symm.trans H; rw [hy334]; with_reducible exact H2_) | (have H2_ := (Option.bind_some _ _).symm.trans H; with_reducible exact H2_) | with_reducible exact H | (rw [hy334]; exact H) | exact H
                    have Ny334 := Aside0.mk hy334
                    clear hy334
                    have H' := Aside0.mk H
                    clear H
                    have p329 : 0 ≤ (x7_1 : Int) := of_decide_eq_true (by first | (with_reducible assumption) | assumption)
                    have q329 : x7_1 < (l0.length : Int) := of_decide_eq_true (by first | (with_reducible assumption) | assumption)
                    obtain ⟨ad329, e329, hx329_0⟩ := Kd.at_int HR0.out x7_1 p329 q329
                    cases e329
                    replace hx329_0 := (HB.out.cell (World.block_lt_of_cell? w _ hx329_0)).trans hx329_0
                    replace p329 := eq_true p329
                    replace q329 := eq_true q329
                    go_wp2_with (first | ((with_reducible refine gate_builtin (b := .append) (xs := #[.tmp 45, .tmp 48]) rfl ?_); (try (refine gate_guard (by rfl) ?_; dsimp only)); at_builtin; refine Kd.R_append (Kd.int .u64) (w0 := w) w.heap.size rfl (.tmp 45) (.tmp 48) 81 22 (.int .u64 0) 8 rfl Try.underlying81 info22 rfl (by decide) (by omega) u5 x5_1 (Int.tmod (IntKind.u64.wrap (x6_1 + (rd l0 x7_1))) 4294967296) [.int .u64 (Int.tmod (IntKind.u64.wrap (x6_1 + (rd l0 x7_1))) 4294967296)] (fun k_ => (w.heap.size ≤ k_)) (fun _ => False) rfl rfl ?aP (fun _ hk => hk.elim) ?aF ?aO ?aB ?aS ?aL ?_; (case aP => exact rfl); (case aB => exact (bw HB)); (case aF => exact (fun k_ hk => (Nat.le_trans (below_size (bw HB)) hk))); (case aO => exact (ro HO_5)); (case aS => exact (below_size (bw HB))); (case aL => have := LMc14.out; omega); intro v335 w15 ho hb hg hat; rw [← Ny334.out] at ho; have n0_ := Aside0.mk (hb); have n1_ := Aside0.mk (ho); clear HB; clear HO_5; have HB := n0_; have HO336 := n1_; clear n0_ n1_; clear ho hb hg hat))
                    go_roundg kj4
                    case measure => have := HK1.out; have := HJ4.out; omega
                    case rel => exact ⟨(y334), (IntKind.u64.wrap (Int.tdiv (IntKind.u64.wrap (x6_1 + (rd l0 x7_1))) 4294967296)), (wrap64 (x7_1 + 1)), rs, rs, H', ⟨by have := HK1.out; have := HJ4.out; omega⟩, ⟨ro HO336⟩, ⟨bw HB⟩⟩
                  · rw [if_neg c14] at H
                    exact absurd H (by simp)
              · rw [if_neg c10] at H
                exact absurd H (by simp)
            · rw [if_neg c9] at H
              have c9b0 : decide (x7_1 < (l0.length : Int)) = false := decide_eq_false c9
              clear c9
              by_cases c16 : x7_1 < (l1.length : Int)
              · rw [if_pos c16] at H
                have c16b0 : decide (x7_1 < (l1.length : Int)) = true := decide_eq_true c16
                clear c16
                by_cases c17 : 0 ≤ x7_1
                · rw [if_pos c17] at H
                  have c17b0 : decide (0 ≤ x7_1) = true := decide_eq_true c17
                  clear c17
                  by_cases c18 : x5_1.length < 17592186044416
                  · rw [if_pos c18] at H
                    have LMc18 := Aside0.mk c18
                    clear c18
                    obtain ⟨y338, hy338⟩ : ∃ y_ : List Int, y_ = (x5_1 ++ [Int.tmod (IntKind.u64.wrap (x6_1 + (rd l1 x7_1))) 4294967296]) := ⟨_, rfl⟩
                    replace H : (turnstileref24_Plus.l0 kj4 l0 l1 y338 (IntKind.u64.wrap (Int.tdiv (IntKind.u64.wrap (x6_1 + (rd l1 x7_1))) 4294967296)) (wrap64 (x7_1 + 1))) = some r := by first | (rw [hy338]; with_reducible exact H) | (have H2_ := (Option.bind_some _ _).symm.trans H; rw [hy338]; with_reducible exact H2_) | (have H2_ := (Option.bind_some _ _).symm.trans H; with_reducible exact H2_) | with_reducible exact H | (rw [hy338]; exact H) | exact H
                    have Ny338 := Aside0.mk hy338
                    clear hy338
                    have H' := Aside0.mk H
                    clear H
                    have p337 : 0 ≤ (x7_1 : Int) := of_decide_eq_true (by first | (with_reducible assumption) | assumption)
                    have q337 : x7_1 < (l1.length : Int) := of_decide_eq_true (by first | (with_reducible assumption) | assumption)
                    obtain ⟨ad337, e337, hx337_0⟩ := Kd.at_int HR1.out x7_1 p337 q337
                    cases e337
                    replace hx337_0 := (HB.out.cell (World.block_lt_of_cell? w _ hx337_0)).trans hx337_0
                    replace p337 := eq_true p337
                    replace q337 := eq_true q337
                    go_wp2_with (first | ((with_reducible refine gate_builtin (b := .append) (xs := #[.tmp 45, .tmp 48]) rfl ?_); (try (refine gate_guard (by rfl) ?_; dsimp only)); at_builtin; refine Kd.R_append (Kd.int .u64) (w0 := w) w.heap.size rfl (.tmp 45) (.tmp 48) 81 22 (.int .u64 0) 8 rfl Try.underlying81 info22 rfl (by decide) (by omega) u5 x5_1 (Int.tmod (IntKind.u64.wrap (x6_1 + (rd l1 x7_1))) 4294967296) [.int .u64 (Int.tmod (IntKind.u64.wrap (x6_1 + (rd l1 x7_1))) 4294967296)] (fun k_ => (w.heap.size ≤ k_)) (fun _ => False) rfl rfl ?aP (fun _ hk => hk.elim) ?aF ?aO ?aB ?aS ?aL ?_; (case aP => exact rfl); (case aB => exact (bw HB)); (case aF => exact (fun k_ hk => (Nat.le_trans (below_size (bw HB)) hk))); (case aO => exact (ro HO_5)); (case aS => exact (below_size (bw HB))); (case aL => have := LMc18.out; omega); intro v339 w19 ho hb hg hat; rw [← Ny338.out] at ho; have n0_ := Aside0.mk (hb); have n1_ := Aside0.mk (ho); clear HB; clear HO_5; have HB := n0_; have HO340 := n1_; clear n0_ n1_; clear ho hb hg hat))
                    go_roundg kj4
                    case measure => have := HK1.out; have := HJ4.out; omega
                    case rel => exact ⟨(y338), (IntKind.u64.wrap (Int.tdiv (IntKind.u64.wrap (x6_1 + (rd l1 x7_1))) 4294967296)), (wrap64 (x7_1 + 1)), rs, rs, H', ⟨by have := HK1.out; have := HJ4.out; omega⟩, ⟨ro HO340⟩, ⟨bw HB⟩⟩
                  · rw [if_neg c18] at H
                    exact absurd H (by simp)
                · rw [if_neg c17] at H
                  exact absurd H (by simp)
              · rw [if_neg c16] at H
                have c16b0 : decide (x7_1 < (l1.length : Int)) = false := decide_eq_false c16
                clear c16
                by_cases c20 : x5_1.length < 17592186044416
                · rw [if_pos c20] at H
                  have LMc20 := Aside0.mk c20
                  clear c20
                  obtain ⟨y341, hy341⟩ : ∃ y_ : List Int, y_ = (x5_1 ++ [Int.tmod x6_1 4294967296]) := ⟨_, rfl⟩
                  replace H : (turnstileref24_Plus.l0 kj4 l0 l1 y341 (IntKind.u64.wrap (Int.tdiv x6_1 4294967296)) (wrap64 (x7_1 + 1))) = some r := by first | (rw [hy341]; with_reducible exact H) | (have H2_ := (Option.bind_some _ _).symm.trans H; rw [hy341]; with_reducible exact H2_) | (have H2_ := (Option.bind_some _ _).symm.trans H; with_reducible exact H2_) | with_reducible exact H | (rw [hy341]; exact H) | exact H
                  have Ny341 := Aside0.mk hy341
                  clear hy341
                  have H' := Aside0.mk H
                  clear H
                  go_wp2_with (first | ((with_reducible refine gate_builtin (b := .append) (xs := #[.tmp 45, .tmp 48]) rfl ?_); (try (refine gate_guard (by rfl) ?_; dsimp only)); at_builtin; refine Kd.R_append (Kd.int .u64) (w0 := w) w.heap.size rfl (.tmp 45) (.tmp 48) 81 22 (.int .u64 0) 8 rfl Try.underlying81 info22 rfl (by decide) (by omega) u5 x5_1 (Int.tmod x6_1 4294967296) [.int .u64 (Int.tmod x6_1 4294967296)] (fun k_ => (w.heap.size ≤ k_)) (fun _ => False) rfl rfl ?aP (fun _ hk => hk.elim) ?aF ?aO ?aB ?aS ?aL ?_; (case aP => exact rfl); (case aB => exact (bw HB)); (case aF => exact (fun k_ hk => (Nat.le_trans (below_size (bw HB)) hk))); (case aO => exact (ro HO_5)); (case aS => exact (below_size (bw HB))); (case aL => have := LMc20.out; omega); intro v342 w21 ho hb hg hat; rw [← Ny341.out] at ho; have n0_ := Aside0.mk (hb); have n1_ := Aside0.mk (ho); clear HB; clear HO_5; have HB := n0_; have HO343 := n1_; clear n0_ n1_; clear ho hb hg hat))
                  go_roundg kj4
                  case measure => have := HK1.out; have := HJ4.out; omega
                  case rel => exact ⟨(y341), (IntKind.u64.wrap (Int.tdiv x6_1 4294967296)), (wrap64 (x7_1 + 1)), rs, rs, H', ⟨by have := HK1.out; have := HJ4.out; omega⟩, ⟨ro HO343⟩, ⟨bw HB⟩⟩
                · rw [if_neg c20] at H
                  exact absurd H (by simp)
          · replace c8 := Bool.eq_false_iff.mpr c8
            subst c8
            have H1 : (some x5_1) = some r := by rw [if_neg (show ¬ (false = true) by decide)] at H; exact H
            clear H
            have H := H1
            clear H1
            obtain rfl := Option.some.inj H
            go_wp2
            go_ret
            exact ⟨_, re, Kd.R_V (ro HO_5), bw HB⟩

end Go.Proofs.Ytdoifmefhofnnaa.D
