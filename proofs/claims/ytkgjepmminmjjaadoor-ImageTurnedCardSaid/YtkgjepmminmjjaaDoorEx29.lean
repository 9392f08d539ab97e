/- Written by the session's own program hyb.py: what functions of the program compute; Lean checks it. -/
import Derived.Test.YtkgjepmminmjjaaDoorEx0
import Derived.Test.YtkgjepmminmjjaaDoorEx17
import Derived.Test.YtkgjepmminmjjaaDoorEx24
import Derived.Test.YtkgjepmminmjjaaDoorEx26
import Derived.Test.YtkgjepmminmjjaaDoorEx27
import Derived.Test.YtkgjepmminmjjaaDoorEx28
import Derived.Test.YtkgjepmminmjjaaDoorWErr
namespace Go.Proofs.YtkgjepmminmjjaaDoor.E
open Go.RowKit Go.Proofs.YtkgjepmminmjjaaDoorW.PrintWords Go.Proofs.YtkgjepmminmjjaaDoorW.PrintLast Go.Proofs.YtkgjepmminmjjaaDoorW.PrintMore Go.Proofs.YtkgjepmminmjjaaDoorW.PrintShort
attribute [local go_sem] run_Add64 run_Sub64
attribute [local go_sem] max2_int min2_int max_two min_two max_three min_three max_four min_four   -- for this text's walks alone
set_option linter.unusedVariables false
set_option linter.unusedSimpArgs false

/-! ### turnstilelaw14_ImageTurned: function 11 -/
def turnstilelaw14_ImageTurned.tn (c : List Int) (at_ x : Int) : Option (List Int) := if 0 ≤ at_ ∧ at_ < (c.length : Int) then some (c.set at_.toNat (Go.bits .xor .u8 (rd c at_) x)) else none
theorem turnstilelaw14_ImageTurned.tn_some {c y : List Int} {i x : Int} (h : turnstilelaw14_ImageTurned.tn c i x = some y) : 0 ≤ i ∧ i < (c.length : Int) ∧ c.set i.toNat (Go.bits .xor .u8 (rd c i) x) = y := by
  unfold turnstilelaw14_ImageTurned.tn at h
  split at h
  · rename_i hh
    exact ⟨hh.1, hh.2, Option.some.inj h⟩
  · cases h
theorem turnstilelaw14_ImageTurned.tn_len {c y : List Int} {i x : Int} (h : turnstilelaw14_ImageTurned.tn c i x = some y) : y.length = c.length := by
  rw [← (turnstilelaw14_ImageTurned.tn_some h).2.2, List.length_set]
theorem turnstilelaw14_ImageTurned.tn_own {W : World} {base : Nat} {ok : Nat → Prop} {A : Option Addr} {n k : Nat} {xs : List Int} {i : Int} (h : Kd.R (Kd.int .u8) 5 W base ok (.slice A n k) xs) (h0 : 0 ≤ i) (h1 : i < (xs.length : Int)) : ∃ g, A = some ⟨g, 0, none⟩ ∧ base ≤ g := by
  have hl := (Kd.R_reads' h).1
  obtain ⟨_, cs, ho, _⟩ := h
  rcases ho.2 with ⟨e0, _⟩ | ⟨g, cap, cur, e0, hg, _⟩
  · injection e0 with _ e1 _
    omega
  · injection e0 with e1 _ _
    exact ⟨g, e1, hg⟩
theorem turnstilelaw14_ImageTurned.tn_cell {W : World} {base : Nat} {ok : Nat → Prop} {g n k : Nat} {xs : List Int} {i : Int} (h : Kd.R (Kd.int .u8) 5 W base ok (.slice (some ⟨g, 0, none⟩) n k) xs) (h0 : 0 ≤ i) (h1 : i < (xs.length : Int)) : W.cell? ⟨g, i.toNat, none⟩ = some (.int .u8 (rd xs i)) ∧ W.frozen? ⟨g, i.toNat, none⟩ = false :=
  Kd.R_celln 0 h i h0 (by rw [(Kd.R_reads' h).1]; exact h1)
theorem turnstilelaw14_ImageTurned.tn_put {W : World} {base : Nat} {ok : Nat → Prop} {g n k : Nat} {xs ys : List Int} {i x : Int} (h : Kd.R (Kd.int .u8) 5 W base ok (.slice (some ⟨g, 0, none⟩) n k) xs) (h0 : 0 ≤ i) (h1 : i < (xs.length : Int)) (ht : turnstilelaw14_ImageTurned.tn xs i x = some ys) :
    Kd.R (Kd.int .u8) 5 (W.setCell ⟨g, i.toNat, none⟩ (.int .u8 (Go.bits .xor .u8 (rd xs i) x))) base ok (.slice (some ⟨g, 0, none⟩) n k) ys := by
  have h2 := (Kd.R_putg h i (Go.bits .xor .u8 (rd xs i) x)).1
  rw [(turnstilelaw14_ImageTurned.tn_some ht).2.2] at h2
  exact h2
theorem turnstilelaw14_ImageTurned.tn_ne {W : World} {base : Nat} {ok : Nat → Prop} {g n k b : Nat} {cs : Array Value} {xs : List Int} (h : Kd.R (Kd.int .u8) 5 W base ok (.slice (some ⟨g, 0, none⟩) n k) xs) (hb : W.heap[b]? = some (.cells cs 51 (0, 0))) : b ≠ g := by
  have h1 := Kd.R_ne h hb (by decide)
  intro e
  exact h1 (by rw [e]; rfl)
theorem turnstilelaw14_ImageTurned.tn_dec [Errs] (A0 : Option Addr) (c0 n : Nat) (l0 : List Int) (hn : l0.length = n) (r1 r2 : Int) (r3 : List S79) (r4 : Int) (w : World) (hE : Sent w) (hr0 : Kd.C (Kd.int .u8) w A0 l0.length l0) (hc0 : l0.length ≤ c0) (h : image_Decode.f l0 = some (r1, r2, r3, r4)) :
    Calls Tryd.prog 27 #[.slice A0 n c0] w fun e w' => ∃ v, e = .returned (.tuple #[.agg #[.int .u64 r1, .int .u64 r2, v], errW r4]) ∧ Kd.R k79 79 w' w.heap.size (fun _ => True) v r3 ∧ Below w.heap.size w w' := by
  subst hn
  exact image_Decode.calls A0 c0 l0 r1 r2 r3 r4 w hE hr0 hc0 h
mutual
def turnstilelaw14_ImageTurned.j0 : Nat → Int → Int → Int → Bool → Bool → Int → Int → List (S79) → Option (Bool)
  | 0, _, _, _, _, _, _, _, _ => none
  | k + 1, x1, x2, x3, x9, x23, x365000, x365001, x365002 => if x23 = true then (some x9) else ((turnstilelaw14_copied.f x365000 x365001 x365002).bind fun bt367 => ((image_Encode.f k bt367.1 bt367.2.1 bt367.2.2).bind fun bt372 => (if 0 ≤ bt372.2 then (if bt372.2 = 0 then (if x1 ≥ 0 then (if x1 < (bt372.1.length : Int) then (turnstilelaw14_ImageTurned.j1 k x1 x2 x3 bt372.1 (x2 != 0)) else (turnstilelaw14_ImageTurned.j1 k x1 x2 x3 bt372.1 false)) else (turnstilelaw14_ImageTurned.j1 k x1 x2 x3 bt372.1 false)) else (if bt372.2 ≤ 6 then (some (bt372.2 == 1)) else (none))) else (none))))
def turnstilelaw14_ImageTurned.j1 : Nat → Int → Int → Int → List Int → Bool → Option (Bool)
  | 0, _, _, _, _, _ => none
  | k + 1, x1, x2, x3, x10, x47 => if x47 = true then ((some (([] : List Int) : List Int)).bind fun y376 => (if y376.length + x10.length < 140737488355328 then ((turnstilelaw14_ImageTurned.tn (y376 ++ x10) x1 x2).bind fun tn_ => (image_Decode.f tn_).bind fun bt382 => ((turnstilelaw14_empty.f k bt382.1 bt382.2.1 bt382.2.2.1).bind fun t389 => (if t389 = true then (if x1 < 4 then (if 0 ≤ bt382.2.2.2 then (if bt382.2.2.2 ≤ 6 then (if bt382.2.2.2 = 3 then (if x1 ≥ 4 then (if bt382.2.2.2 = 6 then (turnstilelaw14_ImageTurned.j2 k x3 x10) else (some false)) else (turnstilelaw14_ImageTurned.j2 k x3 x10)) else (some false)) else (none)) else (none)) else (if x1 ≥ 4 then (if 0 ≤ bt382.2.2.2 then (if bt382.2.2.2 ≤ 6 then (if bt382.2.2.2 = 6 then (turnstilelaw14_ImageTurned.j2 k x3 x10) else (some false)) else (none)) else (none)) else (turnstilelaw14_ImageTurned.j2 k x3 x10))) else (some false)))) else (none))) else (turnstilelaw14_ImageTurned.j2 k x3 x10)
def turnstilelaw14_ImageTurned.j2 : Nat → Int → List Int → Option (Bool)
  | 0, _, _ => none
  | k + 1, x3, x10 => if x3 < 0 then (turnstilelaw14_ImageTurned.j3 k x3 x10 true) else (turnstilelaw14_ImageTurned.j3 k x3 x10 (decide (x3 ≥ (x10.length : Int))))
def turnstilelaw14_ImageTurned.j3 : Nat → Int → List Int → Bool → Option (Bool)
  | 0, _, _, _ => none
  | k + 1, x3, x10, x93 => if x93 = true then (some true) else ((some (([] : List Int) : List Int)).bind fun y390 => (if 0 ≤ x3 then (if x3 ≤ (x10.length : Int) then ((some (x10.take (x3 : Int).toNat : List Int)).bind fun y393 => (if y390.length + y393.length < 140737488355328 then ((image_Decode.f (y390 ++ y393)).bind fun bt400 => ((turnstilelaw14_empty.f k bt400.1 bt400.2.1 bt400.2.2.1).bind fun t407 => (if t407 = true then (if 0 ≤ bt400.2.2.2 then (if bt400.2.2.2 = 0 then (some false) else (if x3 ≥ 28 then (some true) else (if bt400.2.2.2 ≤ 6 then (some (bt400.2.2.2 == 2)) else (none)))) else (none)) else (some false)))) else (none))) else (none)) else (none)))
end
def turnstilelaw14_ImageTurned.f (k : Nat) (a0_0 : Int) (a0_1 : Int) (l0_2 : List (S79)) (a1 : Int) (a2 : Int) (a3 : Int) : Option (Bool) := (turnstilelaw14_awake.f k).bind fun t365 => (if t365 = true then ((turnstilelaw14_wide.f k a0_0 a0_1 l0_2).bind fun t366 => (turnstilelaw14_ImageTurned.j0 k a1 a2 a3 t365 t366 a0_0 a0_1 l0_2)) else (turnstilelaw14_ImageTurned.j0 k a1 a2 a3 t365 true a0_0 a0_1 l0_2))
set_option maxHeartbeats 8000000 in
set_option maxRecDepth 100000 in
theorem turnstilelaw14_ImageTurned.calls (k : Nat) [Errs] (a0_0 : Int) (a0_1 : Int) (A0_2 : Option Addr) (c0_2 : Nat) (l0_2 : List (S79)) (a1 : Int) (a2 : Int) (a3 : Int) (r : Bool) (w : World) (hE : Sent w) (hr0_2 : Kd.C k79 w A0_2 l0_2.length l0_2) (hc0_2 : l0_2.length ≤ c0_2) (h : turnstilelaw14_ImageTurned.f k a0_0 a0_1 l0_2 a1 a2 a3 = some r) (hr_ : r = true := by rfl) :
    Calls Tryd.prog 11 #[.agg #[.int .u64 a0_0, .int .u64 a0_1, .slice A0_2 l0_2.length c0_2], .int .i64 a1, .int .u8 a2, .int .i64 a3] w fun e w' => e = .returned (.bool r) ∧ Below w.heap.size w w' := by
  have HR_ := Aside0.mk hr_
  clear hr_
  have hu51 := Tryd.underlying51
  have hu37 := Tryd.underlying37
  have HR0_2 := Aside0.mk hr0_2
  have HC0_2 := Aside0.mk hc0_2
  clear hr0_2 hc0_2
  have HERR := Aside0.mk hE
  clear hE
  have HB := Aside0.mk (Below.refl w.heap.size w)
  have H : ((turnstilelaw14_awake.f k).bind fun t365 => (if t365 = true then ((turnstilelaw14_wide.f k a0_0 a0_1 l0_2).bind fun t366 => (turnstilelaw14_ImageTurned.j0 k a1 a2 a3 t365 t366 a0_0 a0_1 l0_2)) else (turnstilelaw14_ImageTurned.j0 k a1 a2 a3 t365 true a0_0 a0_1 l0_2))) = some r := h
  clear h
  replace H := Option.bind_eq_some_iff.mp H
  obtain ⟨t365, A50, H⟩ := H
  replace H : (if t365 = true then ((turnstilelaw14_wide.f k a0_0 a0_1 l0_2).bind fun t366 => (turnstilelaw14_ImageTurned.j0 k a1 a2 a3 t365 t366 a0_0 a0_1 l0_2)) else (turnstilelaw14_ImageTurned.j0 k a1 a2 a3 t365 true a0_0 a0_1 l0_2)) = some r := H
  have A5 := Aside0.mk A50
  clear A50
  have HC6 := Aside0.mk H
  clear H
  go_enter Tryd.func11, Tryd.ntmps11
  go_upto_region 2 with (first | ((with_reducible refine gate_dst (N := 4) rfl ?_); (try (refine gate_guard (by rfl) ?_; dsimp only)); refine bx 4 #[.int .u64 a0_0, .int .u64 a0_1, .slice A0_2 l0_2.length c0_2] 51 ?_; intro gb364 hg w7 hbox hb; have n0_ := bs HB hb; have n1_ := Aside0.mk (hbox); have n2_ := sz HB hg; have n3_ := sz HB hg; clear HB; have HB := n0_; have BK364 := n1_; have GW364 := n2_; have GE364 := n3_; clear n0_ n1_ n2_ n3_; clear hb hbox hg) | ((with_reducible refine gate_callee (f := 20) rfl ?_); refine gl (some 17) Tryd.func20 #[] ?_; (with_reducible refine (turnstilelaw14_awake.calls k  t365 _ ?side1 A5.out).mono ?_); (case side1 => exact (HERR.out.below (bw HB))); rintro e w8 ⟨rfl, hb⟩; refine ⟨_, rfl, ?_⟩; have n0_ := bb BK364 hb; have n1_ := bs HB hb; clear BK364; clear HB; have BK364 := n0_; have HB := n1_; clear n0_ n1_; (try clear hb); (try clear hb2); (try clear hk); (try clear hi)))
  (try simp only [Act.put, List.setIfInBounds_toArray, List.set_cons_zero, List.set_cons_succ])
  go_cut [23] (fun v23 wc => ∃ (kq : Nat) (x23_5 : Bool), v23 = .bool x23_5 ∧ Aside0 (turnstilelaw14_ImageTurned.j0 kq a1 a2 a3 t365 x23_5 a0_0 a0_1 l0_2 = some r) ∧ Aside0 (kq ≤ k) ∧ Aside0 (wc.heap[gb364]? = some (.cells #[.int .u64 a0_0, .int .u64 a0_1, (.slice A0_2 l0_2.length c0_2)] 51 (0, 0))) ∧ Aside0 (Below w.heap.size w wc))
  case first =>
    have H := HC6.out
    clear HC6
    by_cases c9 : t365 = true
    · subst c9
      have H1 : ((turnstilelaw14_wide.f k a0_0 a0_1 l0_2).bind fun t366 => (turnstilelaw14_ImageTurned.j0 k a1 a2 a3 true t366 a0_0 a0_1 l0_2)) = some r := by rw [if_pos rfl] at H; exact H
      clear H
      have H := H1
      clear H1
      replace H := Option.bind_eq_some_iff.mp H
      obtain ⟨t366, A100, H⟩ := H
      replace H : (turnstilelaw14_ImageTurned.j0 k a1 a2 a3 true t366 a0_0 a0_1 l0_2) = some r := H
      have A10 := Aside0.mk A100
      clear A100
      have H' := Aside0.mk H
      clear H
      obtain ⟨hcz11_0, hcz11_1, hcz11_2, hfz11_0, hfz11_1, hfz11_2⟩ := bc3 BK364
      go_wp2_with (first | (go_at_call 23; (with_reducible refine (turnstilelaw14_wide.calls k a0_0 a0_1 _ _ l0_2 t366 _ ?side1 ?side2 A10.out).mono ?_); (case side1 => exact co (Kd.C_below HR0_2.out HB.out)); (case side2 => exact HC0_2.out); rintro e w12 ⟨rfl, hb⟩; have n0_ := bb BK364 hb; have n1_ := bs HB hb; clear BK364; clear HB; have BK364 := n0_; have HB := n1_; clear n0_ n1_; (try clear hb); (try clear hb2); (try clear hk); (try clear hi)))
      go_meet
      case rel => exact ⟨_, (t366), rs, H', ⟨by first | omega | exact Nat.le_refl _⟩, ⟨bk BK364⟩, ⟨bw HB⟩⟩
    · replace c9 := Bool.eq_false_iff.mpr c9
      subst c9
      have H1 : (turnstilelaw14_ImageTurned.j0 k a1 a2 a3 false true a0_0 a0_1 l0_2) = some r := by rw [if_neg (show ¬ (false = true) by decide)] at H; exact H
      clear H
      have H := H1
      clear H1
      have H' := Aside0.mk H
      clear H
      go_wp2
      go_meet
      case rel => exact ⟨_, (true), rs, H', ⟨by first | omega | exact Nat.le_refl _⟩, ⟨bk BK364⟩, ⟨bw HB⟩⟩
  case rest =>
    clear HC6
    try clear c1
    try clear c2
    try clear p2
    try clear c9
    try clear c11
    try clear hcz11_0
    try clear hcz11_1
    try clear hcz11_2
    try clear hfz11_0
    try clear hfz11_1
    try clear hfz11_2
    obtain ⟨kq, x23_5, rfl, HA, HJ5, BK364, HB⟩ := hcut
    cases kq with
    | zero => exact absurd HA.out (by simp [turnstilelaw14_ImageTurned.j0])
    | succ kj5 =>
      have H := HA.out
      clear HA
      simp only [turnstilelaw14_ImageTurned.j0] at H
      by_cases c13 : x23_5 = true
      · subst c13
        have H1 : (some t365) = some r := by rw [if_pos rfl] at H; exact H
        clear H
        have H := H1
        clear H1
        obtain rfl := Option.some.inj H
        go_wp2
        go_ret
        exact ⟨re, bw HB⟩
      · replace c13 := Bool.eq_false_iff.mpr c13
        subst c13
        have H1 : ((turnstilelaw14_copied.f a0_0 a0_1 l0_2).bind fun bt367 => ((image_Encode.f kj5 bt367.1 bt367.2.1 bt367.2.2).bind fun bt372 => (if 0 ≤ bt372.2 then (if bt372.2 = 0 then (if a1 ≥ 0 then (if a1 < (bt372.1.length : Int) then (turnstilelaw14_ImageTurned.j1 kj5 a1 a2 a3 bt372.1 (a2 != 0)) else (turnstilelaw14_ImageTurned.j1 kj5 a1 a2 a3 bt372.1 false)) else (turnstilelaw14_ImageTurned.j1 kj5 a1 a2 a3 bt372.1 false)) else (if bt372.2 ≤ 6 then (some (bt372.2 == 1)) else (none))) else (none)))) = some r := by rw [if_neg (show ¬ (false = true) by decide)] at H; exact H
        clear H
        have H := H1
        clear H1
        replace H := Option.bind_eq_some_iff.mp H
        obtain ⟨⟨t367, t368, t369⟩, A140, H⟩ := H
        replace H : ((image_Encode.f kj5 t367 t368 t369).bind fun bt372 => (if 0 ≤ bt372.2 then (if bt372.2 = 0 then (if a1 ≥ 0 then (if a1 < (bt372.1.length : Int) then (turnstilelaw14_ImageTurned.j1 kj5 a1 a2 a3 bt372.1 (a2 != 0)) else (turnstilelaw14_ImageTurned.j1 kj5 a1 a2 a3 bt372.1 false)) else (turnstilelaw14_ImageTurned.j1 kj5 a1 a2 a3 bt372.1 false)) else (if bt372.2 ≤ 6 then (some (bt372.2 == 1)) else (none))) else (none))) = some r := H
        have A14 := Aside0.mk A140
        clear A140
        replace H := Option.bind_eq_some_iff.mp H
        obtain ⟨⟨t372, t375⟩, A150, H⟩ := H
        replace H : (if 0 ≤ t375 then (if t375 = 0 then (if a1 ≥ 0 then (if a1 < (t372.length : Int) then (turnstilelaw14_ImageTurned.j1 kj5 a1 a2 a3 t372 (a2 != 0)) else (turnstilelaw14_ImageTurned.j1 kj5 a1 a2 a3 t372 false)) else (turnstilelaw14_ImageTurned.j1 kj5 a1 a2 a3 t372 false)) else (if t375 ≤ 6 then (some (t375 == 1)) else (none))) else (none)) = some r := H
        have A15 := Aside0.mk A150
        clear A150
        by_cases c16 : 0 ≤ t375
        · rw [if_pos c16] at H
          have c16b0 := eq_true c16
          have c16b1 : decide (0 ≤ t375) = true := decide_eq_true c16
          clear c16
          by_cases c17 : t375 = 0
          · rw [if_pos c17] at H
            have c17b0 : (t375 == 0) = true := beq_iff_eq.mpr c17
            have c17b1 : (t375 != 0) = false := bne_eq_false_iff_eq.mpr c17
            clear c17
            have HC18 := Aside0.mk H
            clear H
            obtain ⟨hcz19_0, hcz19_1, hcz19_2, hfz19_0, hfz19_1, hfz19_2⟩ := bc3 BK364
            go_upto_region 7 with (first | ((with_reducible refine gate_callee (f := 25) rfl ?_); refine gl (some 27) Tryd.func25 #[.agg #[.int .u64 a0_0, .int .u64 a0_1, .slice A0_2 l0_2.length c0_2]] ?_; (with_reducible refine (turnstilelaw14_copied.calls a0_0 a0_1 _ _ l0_2 t367 t368 t369 _ ?side1 ?side2 A14.out).mono ?_); (case side1 => exact co (Kd.C_below HR0_2.out HB.out)); (case side2 => exact HC0_2.out); rintro e w20 ⟨v370, rfl, ho0, hb⟩; refine ⟨_, rfl, ?_⟩; have n0_ := Aside0.mk (Kd.R_lower ho0 (below_size (bw HB))); have n1_ := bb BK364 hb; have n2_ := bs HB hb; clear BK364; clear HB; have HO371 := n0_; have BK364 := n1_; have HB := n2_; clear n0_ n1_ n2_; (try clear hb); (try clear hb2); (try clear hk); (try clear hi); (try clear ho0); obtain ⟨Ao21, co21, eo21⟩ := Kd.R_slice HO371.out; subst eo21) | ((with_reducible refine gate_callee (f := 24) rfl ?_); refine gl (some 28) Tryd.func24 #[.agg #[.int .u64 t367, .int .u64 t368, .slice Ao21 t369.length co21]] ?_; (with_reducible refine (image_Encode.calls kj5 t367 t368 _ _ t369 t372 t375 _ ?side3 ?side1 ?side2 A15.out).mono ?_); (case side1 => exact co (Kd.R_reads' HO371.out).2.2); (case side2 => exact (Kd.R_reads' HO371.out).2.1); (case side3 => exact (HERR.out.below (bw HB))); rintro e w22 ⟨v373, rfl, ho0, hb⟩; refine ⟨_, rfl, ?_⟩; have n0_ := Aside0.mk (Kd.R_below (ro HO371) hb); have n1_ := Aside0.mk (Kd.R_lower ho0 (below_size (bw HB))); have n2_ := bb BK364 hb; have n3_ := bs HB hb; clear HO371; clear BK364; clear HB; have HO371 := n0_; have HO374 := n1_; have BK364 := n2_; have HB := n3_; clear n0_ n1_ n2_ n3_; (try clear hb); (try clear hb2); (try clear hk); (try clear hi); (try clear ho0)) | ((with_reducible refine gate_dst (N := 32) rfl ?_); (try (refine gate_guard (by rfl) ?_; dsimp only)); refine nen_err t375 (b := (t375 != 0)) ?_ rfl (of_decide_eq_true (by first | (with_reducible assumption) | assumption))))
            (try simp only [Act.put, List.setIfInBounds_toArray, List.set_cons_zero, List.set_cons_succ])
            go_cut [47] (fun v47 wc => ∃ (kq : Nat) (x47_17 : Bool), v47 = .bool x47_17 ∧ Aside0 (turnstilelaw14_ImageTurned.j1 kq a1 a2 a3 t372 x47_17 = some r) ∧ Aside0 (kq ≤ kj5) ∧ Aside0 (Kd.R (Kd.int .u8) 5 wc w.heap.size (fun _ => True) v373 t372) ∧ Aside0 (wc.heap[gb364]? = some (.cells #[.int .u64 a0_0, .int .u64 a0_1, (.slice A0_2 l0_2.length c0_2)] 51 (0, 0))) ∧ Aside0 (Below w.heap.size w wc))
            case first =>
              have H := HC18.out
              clear HC18
              by_cases c23 : a1 ≥ 0
              · rw [if_pos c23] at H
                have c23b0 : decide (0 ≤ a1) = true := decide_eq_true c23
                clear c23
                (first | rw [c23b0] | (simp only [i64_w, i32_w]; rw [c23b0]) | skip)
                by_cases c24 : a1 < (t372.length : Int)
                · rw [if_pos c24] at H
                  have c24b0 : decide (a1 < (t372.length : Int)) = true := decide_eq_true c24
                  clear c24
                  have H' := Aside0.mk H
                  clear H
                  obtain ⟨Ao25, co25, eo25⟩ := Kd.R_slice HO374.out
                  subst eo25
                  go_wp2
                  go_meet
                  case rel => exact ⟨_, ((a2 != 0)), rs, H', ⟨by have := HJ5.out; first | omega | exact Nat.le_refl _⟩, ⟨ro HO374⟩, ⟨bk BK364⟩, ⟨bw HB⟩⟩
                · rw [if_neg c24] at H
                  have c24b0 : decide (a1 < (t372.length : Int)) = false := decide_eq_false c24
                  clear c24
                  have H' := Aside0.mk H
                  clear H
                  obtain ⟨Ao26, co26, eo26⟩ := Kd.R_slice HO374.out
                  subst eo26
                  go_wp2
                  go_meet
                  case rel => exact ⟨_, (false), rs, H', ⟨by have := HJ5.out; first | omega | exact Nat.le_refl _⟩, ⟨ro HO374⟩, ⟨bk BK364⟩, ⟨bw HB⟩⟩
              · rw [if_neg c23] at H
                have c23b0 : decide (0 ≤ a1) = false := decide_eq_false c23
                clear c23
                (first | rw [c23b0] | (simp only [i64_w, i32_w]; rw [c23b0]) | skip)
                have H' := Aside0.mk H
                clear H
                go_wp2
                go_meet
                case rel => exact ⟨_, (false), rs, H', ⟨by have := HJ5.out; first | omega | exact Nat.le_refl _⟩, ⟨ro HO374⟩, ⟨bk BK364⟩, ⟨bw HB⟩⟩
            case rest =>
              clear HC18
              try clear c1
              try clear c2
              try clear p2
              try clear c9
              try clear c11
              try clear c13
              try clear c16
              try clear c16b0
              try clear c16b1
              try clear c17
              try clear c17b0
              try clear c17b1
              try clear c20
              try clear c23
              try clear c23b0
              try clear c24
              try clear c24b0
              try clear c25
              try clear hcz11_0
              try clear hcz11_1
              try clear hcz11_2
              try clear hcz19_0
              try clear hcz19_1
              try clear hcz19_2
              try clear hfz11_0
              try clear hfz11_1
              try clear hfz11_2
              try clear hfz19_0
              try clear hfz19_1
              try clear hfz19_2
              try clear p2
              obtain ⟨kq, x47_17, rfl, HA, HJ17, HO_10, BK364, HB⟩ := hcut
              cases kq with
              | zero => exact absurd HA.out (by simp [turnstilelaw14_ImageTurned.j1])
              | succ kj17 =>
                have H := HA.out
                clear HA
                simp only [turnstilelaw14_ImageTurned.j1] at H
                have HC27 := Aside0.mk H
                clear H
                go_upto_if 47 with (fail)
                go_cut [] (fun wc => ∃ (kq : Nat), Aside0 (turnstilelaw14_ImageTurned.j2 kq a3 t372 = some r) ∧ Aside0 (kq ≤ kj17) ∧ Aside0 (Kd.R (Kd.int .u8) 5 wc w.heap.size (fun _ => True) v373 t372) ∧ Aside0 (wc.heap[gb364]? = some (.cells #[.int .u64 a0_0, .int .u64 a0_1, (.slice A0_2 l0_2.length c0_2)] 51 (0, 0))) ∧ Aside0 (Below w.heap.size w wc))
                case first =>
                  have H := HC27.out
                  clear HC27
                  by_cases c28 : x47_17 = true
                  · subst c28
                    have H1 : ((some (([] : List Int) : List Int)).bind fun y376 => (if y376.length + t372.length < 140737488355328 then ((turnstilelaw14_ImageTurned.tn (y376 ++ t372) a1 a2).bind fun tn_ => (image_Decode.f tn_).bind fun bt382 => ((turnstilelaw14_empty.f kj17 bt382.1 bt382.2.1 bt382.2.2.1).bind fun t389 => (if t389 = true then (if a1 < 4 then (if 0 ≤ bt382.2.2.2 then (if bt382.2.2.2 ≤ 6 then (if bt382.2.2.2 = 3 then (if a1 ≥ 4 then (if bt382.2.2.2 = 6 then (turnstilelaw14_ImageTurned.j2 kj17 a3 t372) else (some false)) else (turnstilelaw14_ImageTurned.j2 kj17 a3 t372)) else (some false)) else (none)) else (none)) else (if a1 ≥ 4 then (if 0 ≤ bt382.2.2.2 then (if bt382.2.2.2 ≤ 6 then (if bt382.2.2.2 = 6 then (turnstilelaw14_ImageTurned.j2 kj17 a3 t372) else (some false)) else (none)) else (none)) else (turnstilelaw14_ImageTurned.j2 kj17 a3 t372))) else (some false)))) else (none))) = some r := by rw [if_pos rfl] at H; exact H
                    clear H
                    have H := H1
                    clear H1
                    obtain ⟨y376, hy376⟩ : ∃ y_ : List Int, y_ = (([] : List Int)) := ⟨_, rfl⟩
                    replace H : (if y376.length + t372.length < 140737488355328 then ((turnstilelaw14_ImageTurned.tn (y376 ++ t372) a1 a2).bind fun tn_ => (image_Decode.f tn_).bind fun bt382 => ((turnstilelaw14_empty.f kj17 bt382.1 bt382.2.1 bt382.2.2.1).bind fun t389 => (if t389 = true then (if a1 < 4 then (if 0 ≤ bt382.2.2.2 then (if bt382.2.2.2 ≤ 6 then (if bt382.2.2.2 = 3 then (if a1 ≥ 4 then (if bt382.2.2.2 = 6 then (turnstilelaw14_ImageTurned.j2 kj17 a3 t372) else (some false)) else (turnstilelaw14_ImageTurned.j2 kj17 a3 t372)) else (some false)) else (none)) else (none)) else (if a1 ≥ 4 then (if 0 ≤ bt382.2.2.2 then (if bt382.2.2.2 ≤ 6 then (if bt382.2.2.2 = 6 then (turnstilelaw14_ImageTurned.j2 kj17 a3 t372) else (some false)) else (none)) else (none)) else (turnstilelaw14_ImageTurned.j2 kj17 a3 t372))) else (some false)))) else (none)) = some r := by first | (rw [hy376]; with_reducible exact H) | (have H2_ := (Option.bind_some _ _).symm.trans H; rw [hy376]; with_reducible exact H2_) | (have H2_ := (Option.bind_some _ _).symm.trans H; with_reducible exact H2_) | with_reducible exact H | (rw [hy376]; exact H) | exact H
                    have Ny376 := Aside0.mk hy376
                    clear hy376
                    by_cases c29 : y376.length + t372.length < 140737488355328
                    · rw [if_pos c29] at H
                      have LMc29 := Aside0.mk c29
                      clear c29
                      obtain ⟨y379, hy379⟩ : ∃ y_ : List Int, y_ = (y376 ++ t372) := ⟨_, rfl⟩
                      replace H : ((turnstilelaw14_ImageTurned.tn y379 a1 a2).bind fun tn_ => (image_Decode.f tn_).bind fun bt382 => ((turnstilelaw14_empty.f kj17 bt382.1 bt382.2.1 bt382.2.2.1).bind fun t389 => (if t389 = true then (if a1 < 4 then (if 0 ≤ bt382.2.2.2 then (if bt382.2.2.2 ≤ 6 then (if bt382.2.2.2 = 3 then (if a1 ≥ 4 then (if bt382.2.2.2 = 6 then (turnstilelaw14_ImageTurned.j2 kj17 a3 t372) else (some false)) else (turnstilelaw14_ImageTurned.j2 kj17 a3 t372)) else (some false)) else (none)) else (none)) else (if a1 ≥ 4 then (if 0 ≤ bt382.2.2.2 then (if bt382.2.2.2 ≤ 6 then (if bt382.2.2.2 = 6 then (turnstilelaw14_ImageTurned.j2 kj17 a3 t372) else (some false)) else (none)) else (none)) else (turnstilelaw14_ImageTurned.j2 kj17 a3 t372))) else (some false)))) = some r := by first | (rw [hy379]; with_reducible exact H) | (have H2_ := (Option.bind_some _ _).symm.trans H; rw [hy379]; with_reducible exact H2_) | (have H2_ := (Option.bind_some _ _).symm.trans H; with_reducible exact H2_) | with_reducible exact H | (rw [hy379]; exact H) | exact H
                      have Ny379 := Aside0.mk hy379
                      clear hy379
                      replace H := Option.bind_eq_some_iff.mp H
                      obtain ⟨tn_, hT_, H⟩ := H
                      have TN_ := Aside0.mk hT_
                      clear hT_
                      obtain ⟨p0_, p1_, _⟩ := turnstilelaw14_ImageTurned.tn_some TN_.out
                      have P0_ := Aside0.mk p0_; have P1_ := Aside0.mk p1_
                      replace p0_ := eq_true p0_; replace p1_ := eq_true p1_
                      replace H := Option.bind_eq_some_iff.mp H
                      obtain ⟨⟨t382, t383, t384, t387⟩, A300, H⟩ := H
                      replace H : ((turnstilelaw14_empty.f kj17 t382 t383 t384).bind fun t389 => (if t389 = true then (if a1 < 4 then (if 0 ≤ t387 then (if t387 ≤ 6 then (if t387 = 3 then (if a1 ≥ 4 then (if t387 = 6 then (turnstilelaw14_ImageTurned.j2 kj17 a3 t372) else (some false)) else (turnstilelaw14_ImageTurned.j2 kj17 a3 t372)) else (some false)) else (none)) else (none)) else (if a1 ≥ 4 then (if 0 ≤ t387 then (if t387 ≤ 6 then (if t387 = 6 then (turnstilelaw14_ImageTurned.j2 kj17 a3 t372) else (some false)) else (none)) else (none)) else (turnstilelaw14_ImageTurned.j2 kj17 a3 t372))) else (some false))) = some r := H
                      have A30 := Aside0.mk A300
                      clear A300
                      replace H := Option.bind_eq_some_iff.mp H
                      obtain ⟨t389, A310, H⟩ := H
                      replace H : (if t389 = true then (if a1 < 4 then (if 0 ≤ t387 then (if t387 ≤ 6 then (if t387 = 3 then (if a1 ≥ 4 then (if t387 = 6 then (turnstilelaw14_ImageTurned.j2 kj17 a3 t372) else (some false)) else (turnstilelaw14_ImageTurned.j2 kj17 a3 t372)) else (some false)) else (none)) else (none)) else (if a1 ≥ 4 then (if 0 ≤ t387 then (if t387 ≤ 6 then (if t387 = 6 then (turnstilelaw14_ImageTurned.j2 kj17 a3 t372) else (some false)) else (none)) else (none)) else (turnstilelaw14_ImageTurned.j2 kj17 a3 t372))) else (some false)) = some r := H
                      have A31 := Aside0.mk A310
                      clear A310
                      by_cases c32 : t389 = true
                      · subst c32
                        have H1 : (if a1 < 4 then (if 0 ≤ t387 then (if t387 ≤ 6 then (if t387 = 3 then (if a1 ≥ 4 then (if t387 = 6 then (turnstilelaw14_ImageTurned.j2 kj17 a3 t372) else (some false)) else (turnstilelaw14_ImageTurned.j2 kj17 a3 t372)) else (some false)) else (none)) else (none)) else (if a1 ≥ 4 then (if 0 ≤ t387 then (if t387 ≤ 6 then (if t387 = 6 then (turnstilelaw14_ImageTurned.j2 kj17 a3 t372) else (some false)) else (none)) else (none)) else (turnstilelaw14_ImageTurned.j2 kj17 a3 t372))) = some r := by rw [if_pos rfl] at H; exact H
                        clear H
                        have H := H1
                        clear H1
                        by_cases c33 : a1 < 4
                        · rw [if_pos c33] at H
                          have c33b0 : decide (a1 < 4) = true := decide_eq_true c33
                          clear c33
                          (first | rw [c33b0] | (simp only [i64_w, i32_w]; rw [c33b0]) | skip)
                          by_cases c34 : 0 ≤ t387
                          · rw [if_pos c34] at H
                            have c34b0 := eq_true c34
                            have c34b1 : decide (0 ≤ t387) = true := decide_eq_true c34
                            clear c34
                            by_cases c35 : t387 ≤ 6
                            · rw [if_pos c35] at H
                              have c35b0 := eq_true c35
                              have c35b1 : decide (t387 ≤ 6) = true := decide_eq_true c35
                              clear c35
                              by_cases c36 : t387 = 3
                              · rw [if_pos c36] at H
                                have c36b0 : (t387 == 3) = true := beq_iff_eq.mpr c36
                                have c36b1 : (t387 != 3) = false := bne_eq_false_iff_eq.mpr c36
                                clear c36
                                by_cases c37 : a1 ≥ 4
                                · rw [if_pos c37] at H
                                  have c37b0 : decide (4 ≤ a1) = true := decide_eq_true c37
                                  clear c37
                                  have c38b0 := eq_true (of_decide_eq_true (by first | (with_reducible assumption) | assumption) : 0 ≤ t387)
                                  have c39b0 := eq_true (of_decide_eq_true (by first | (with_reducible assumption) | assumption) : t387 ≤ 6)
                                  by_cases c40 : t387 = 6
                                  · rw [if_pos c40] at H
                                    have c40b0 : (t387 == 6) = true := beq_iff_eq.mpr c40
                                    have c40b1 : (t387 != 6) = false := bne_eq_false_iff_eq.mpr c40
                                    clear c40
                                    have H' := Aside0.mk H
                                    clear H
                                    go_wp2_with (first | ((with_reducible refine gate_dst (N := 48) rfl ?_); (try (refine gate_guard (by rfl) ?_; dsimp only)); refine Kd.R_lit (Kd.int .u8) _ 5 ?hg (N := 48) ?hd (xs := ([] : List Int)) (inner := []) (ok := fun _ => True) (okp := fun _ => True) ?hr ?hp (fun _ hk => hk) trivial (Below.refl _ _) (Nat.le_refl _) (by simp) ?_; (case hd => rfl); (case hg => rfl); (case hr => first | (go_simp; done) | (go_simp; rfl)); (case hp => exact (Reps.none _ _)); intro v377 w41 ho42 hb hg_ hnew_; clear hg_ hnew_; (first | rw [← Ny376.out] at ho42 | (simp only [Int.reduceToNat] at ho42; rw [← Ny376.out] at ho42)); have n0_ := Aside0.mk (Kd.R_elder' (ro HO_10) (Kd.R_base ho42) hb); have n1_ := Aside0.mk (Kd.R_lower (Kd.R_new' ho42 (Kd.R_lt (ro HO_10))) (below_size (bw HB))); have n2_ := bb BK364 hb; have n3_ := bs HB hb; clear HO_10; clear BK364; clear HB; have HO_10 := n0_; have HO378 := n1_; have BK364 := n2_; have HB := n3_; clear n0_ n1_ n2_ n3_; clear hb ho42; obtain ⟨Ao44, co44, eo44⟩ := Kd.R_slice HO_10.out; subst eo44) | ((with_reducible refine gate_builtin (b := .append) (xs := #[.tmp 48, .tmp 49]) rfl ?_); (try (refine gate_guard (by rfl) ?_; dsimp only)); at_builtin; refine Kd.R_append_rows (Kd.int .u8) (w0 := w) w.heap.size rfl (.tmp 48) (.tmp 49) 33 5 (.int .u8 0) 1 rfl Tryd.underlying33 info5 rfl (by decide) (by omega) v377 y376 t372 _ _ _ (fun k_ => some k_ ≠ (.slice Ao44 t372.length co44 : Value).ownBlock) (fun _ => False) rfl rfl ?aO ?aR (fun _ _ h => h) (fun _ h => h.elim) ?aF ?aB ?aS ?aL ?_; (case aR => repeat (first | exact (Kd.R_reads' HO_10.out).2.2 | (with_reducible refine Kd.C_alloc ?_ _) | (with_reducible refine Kd.C_drewN ?_ _) | (with_reducible refine Kd.C_drew ?_))); (case aB => exact (bw HB)); (case aF => exact (fun k_ hk => Kd.fresh' (Kd.R_lt (ro HO_10)) k_ hk)); (case aO => exact (by (with_reducible repeat (first | apply Kd.R_alloc | apply Kd.R_drewN | apply Kd.R_drew)); exact Kd.R_mono HO378.out (fun _ hk => hk.2))); (case aS => exact (below_size (bw HB))); (case aL => have := LMc29.out; omega); intro v380 w43 ho hb hg hat; rw [← Ny379.out] at ho; have n0_ := Aside0.mk (Kd.R_after (ok := (fun _ => True)) (ro HO_10) hg hat); have n1_ := Aside0.mk (blk_grown (g := gb364) (o := .cells #[.int .u64 a0_0, .int .u64 a0_1, .slice A0_2 l0_2.length c0_2] 51 (0, 0)) (bk BK364) hg (Kd.R_ne HO378.out BK364.out (by decide))); have n2_ := Aside0.mk (hb); have n3_ := Aside0.mk (ho); clear HO_10; clear BK364; clear HB; clear HO378; have HO_10 := n0_; have BK364 := n1_; have HB := n2_; have HO381 := n3_; clear n0_ n1_ n2_ n3_; clear ho hb hg hat; obtain ⟨Ao45, co45, eo45⟩ := Kd.R_slice HO381.out; subst eo45; obtain ⟨g_, rfl, hg_⟩ := turnstilelaw14_ImageTurned.tn_own HO381.out P0_.out P1_.out; have GE_ := Aside0.mk hg_; clear hg_; obtain ⟨hx_, hf_⟩ := turnstilelaw14_ImageTurned.tn_cell HO381.out P0_.out P1_.out))
                                    have n3_ := Aside0.mk (turnstilelaw14_ImageTurned.tn_put HO381.out P0_.out P1_.out TN_.out)
                                    have n0_ := Aside0.mk (Kd.R_far (p := ⟨g_, a1.toNat, none⟩) HO_10.out (fun k hk e => hk.2 (by rw [e]; rfl)) (.int .u8 (Go.bits .xor .u8 (rd y379 a1) a2)))
                                    have n1_ := Aside0.mk (blk_far (p := ⟨g_, a1.toNat, none⟩) BK364.out (turnstilelaw14_ImageTurned.tn_ne HO381.out BK364.out) (.int .u8 (Go.bits .xor .u8 (rd y379 a1) a2)))
                                    have n2_ := Aside0.mk (below_set (g := g_) (j := a1.toNat) (v := (.int .u8 (Go.bits .xor .u8 (rd y379 a1) a2))) HB.out GE_.out)
                                    generalize World.setCell _ ⟨g_, a1.toNat, none⟩ (.int .u8 (Go.bits .xor .u8 (rd y379 a1) a2)) = wT_ at n0_ n1_ n2_ n3_ ⊢
                                    clear HO_10 HO381 BK364 HB hx_ hf_
                                    have HO_10 := n0_; have HO381 := n3_; have BK364 := n1_; have HB := n2_
                                    clear n0_ n1_ n2_ n3_
                                    refine (turnstilelaw14_ImageTurned.tn_dec _ _ y379.length tn_ (turnstilelaw14_ImageTurned.tn_len TN_.out) t382 t383 t384 t387 _ (HERR.out.below HB.out) (Kd.R_reads' HO381.out).2.2 (by have := Kd.R_reads' HO381.out; omega) A30.out).mono ?_
                                    rintro e w46 ⟨v385, rfl, ho0, hb⟩
                                    have n0_ := Aside0.mk (Kd.R_below (ro HO_10) hb); have n1_ := Aside0.mk (Kd.R_below (ro HO381) hb); have n2_ := Aside0.mk (Kd.R_lower ho0 (below_size (bw HB))); have n3_ := bb BK364 hb; have n4_ := bs HB hb; clear HO_10; clear HO381; clear BK364; clear HB; have HO_10 := n0_; have HO381 := n1_; have HO386 := n2_; have BK364 := n3_; have HB := n4_; clear n0_ n1_ n2_ n3_ n4_; (try clear hb); (try clear hb2); (try clear hk); (try clear hi); (try clear ho0)
                                    go_wp2_with (first | ((with_reducible refine gate_dst (N := 13) rfl ?_); (try (refine gate_guard (by rfl) ?_; dsimp only)); refine bx 13 #[.int .u64 0, .int .u64 0, .slice none 0 0] 51 ?_; intro gb388 hg w47 hbox hb; have n0_ := Aside0.mk (Kd.R_below (ro HO_10) hb); have n1_ := Aside0.mk (Kd.R_below (ro HO381) hb); have n2_ := Aside0.mk (Kd.R_below (ro HO386) hb); have n3_ := bb BK364 hb; have n4_ := bs HB hb; have n5_ := Aside0.mk (hbox); have n6_ := sz HB hg; have n7_ := sz HB hg; have n8_ := nl BK364 hg; have n9_ := nr BK364 hg; clear HO_10; clear HO381; clear HO386; clear BK364; clear HB; have HO_10 := n0_; have HO381 := n1_; have HO386 := n2_; have BK364 := n3_; have HB := n4_; have BK388 := n5_; have GW388 := n6_; have GE388 := n7_; have NB364_388 := n8_; have NB388_364 := n9_; clear n0_ n1_ n2_ n3_ n4_ n5_ n6_ n7_ n8_ n9_; clear hb hbox hg; have hnb48 := NB388_364.out; have hnc48 := NB364_388.out; obtain ⟨hcz49_0, hcz49_1, hcz49_2, hfz49_0, hfz49_1, hfz49_2⟩ := bc3 BK388; obtain ⟨Ao50, co50, eo50⟩ := Kd.R_slice HO386.out; subst eo50) | ((with_reducible refine gate_callee (f := 29) rfl ?_); refine gl (some 66) Tryd.func29 #[.agg #[.int .u64 t382, .int .u64 t383, .slice Ao50 t384.length co50]] ?_; (with_reducible refine (turnstilelaw14_empty.calls kj17 t382 t383 _ _ t384 true _ ?side1 ?side2 A31.out).mono ?_); (case side1 => refine (Kd.R_reads' (e := 79) (base := w.heap.size) (ok := fun k_ => True) (n := t384.length) (c := co50) ?_).2.2; exact (by (with_reducible repeat (first | apply Kd.R_alloc | apply Kd.R_drewN | apply Kd.R_drew)); exact (Kd.R_mono (Kd.R_far (p := ⟨gb388, 2, none⟩) (Kd.R_far (p := ⟨gb388, 1, none⟩) (Kd.R_far (p := ⟨gb388, 0, none⟩) (Kd.R_types HO386.out BK388.out (by decide)) (fun _ hk => hk.2) (.int .u64 t382)) (fun _ hk => hk.2) (.int .u64 t383)) (fun _ hk => hk.2) (.slice Ao50 t384.length co50)) (fun _ h_ => h_.1)))); (case side2 => exact (Kd.R_reads' HO386.out).2.1); rintro e w51 ⟨rfl, hb⟩; refine ⟨_, rfl, ?_⟩; have n0_ := Aside0.mk (Kd.R_below (by (with_reducible repeat (first | apply Kd.R_alloc | apply Kd.R_drewN | apply Kd.R_drew)); exact (Kd.R_mono (Kd.R_far (p := ⟨gb388, 2, none⟩) (Kd.R_far (p := ⟨gb388, 1, none⟩) (Kd.R_far (p := ⟨gb388, 0, none⟩) (Kd.R_types HO_10.out BK388.out (by decide)) (fun _ hk => hk.2) (.int .u64 t382)) (fun _ hk => hk.2) (.int .u64 t383)) (fun _ hk => hk.2) (.slice Ao50 t384.length co50)) (fun _ h_ => h_.1))) hb); have n1_ := Aside0.mk (Kd.R_below (by (with_reducible repeat (first | apply Kd.R_alloc | apply Kd.R_drewN | apply Kd.R_drew)); exact (Kd.R_mono (Kd.R_far (p := ⟨gb388, 2, none⟩) (Kd.R_far (p := ⟨gb388, 1, none⟩) (Kd.R_far (p := ⟨gb388, 0, none⟩) (Kd.R_types HO381.out BK388.out (by decide)) (fun _ hk => hk.2) (.int .u64 t382)) (fun _ hk => hk.2) (.int .u64 t383)) (fun _ hk => hk.2) (.slice Ao50 t384.length co50)) (fun _ h_ => h_.1))) hb); have n2_ := Aside0.mk (Kd.R_below (by (with_reducible repeat (first | apply Kd.R_alloc | apply Kd.R_drewN | apply Kd.R_drew)); exact (Kd.R_mono (Kd.R_far (p := ⟨gb388, 2, none⟩) (Kd.R_far (p := ⟨gb388, 1, none⟩) (Kd.R_far (p := ⟨gb388, 0, none⟩) (Kd.R_types HO386.out BK388.out (by decide)) (fun _ hk => hk.2) (.int .u64 t382)) (fun _ hk => hk.2) (.int .u64 t383)) (fun _ hk => hk.2) (.slice Ao50 t384.length co50)) (fun _ h_ => h_.1))) hb); have n3_ := bb BK364 hb; have n4_ := bbp (.cells #[.int .u64 t382, .int .u64 t383, .slice Ao50 t384.length co50] 51 (0, 0)) BK388 hb; have n5_ := bs HB hb; clear HO_10; clear HO381; clear HO386; clear BK364; clear BK388; clear HB; have HO_10 := n0_; have HO381 := n1_; have HO386 := n2_; have BK364 := n3_; have BK388 := n4_; have HB := n5_; clear n0_ n1_ n2_ n3_ n4_ n5_; (try clear hb); (try clear hb2); (try clear hk); (try clear hi)) | ((with_reducible refine gate_dst (N := 73) rfl ?_); (try (refine gate_guard (by rfl) ?_; dsimp only)); refine ld_err 3 2 (HERR.out.below (bw HB)) ?_ rfl rfl (by decide) (by have := Errs.five; omega) rfl) | ((with_reducible refine gate_dst (N := 74) rfl ?_); (try (refine gate_guard (by rfl) ?_; dsimp only)); refine ne_err t387 3 (b := (t387 != 3)) (HERR.out.below (bw HB)) ?_ rfl (of_decide_eq_true (by first | (with_reducible assumption) | assumption)) (Int.le_trans (of_decide_eq_true (by first | (with_reducible assumption) | assumption) : t387 ≤ 6) Errs.five) (by decide) (by have := Errs.five; omega)) | ((with_reducible refine gate_dst (N := 82) rfl ?_); (try (refine gate_guard (by rfl) ?_; dsimp only)); refine ld_err 6 3 (HERR.out.below (bw HB)) ?_ rfl rfl (by decide) (by have := Errs.five; omega) rfl) | ((with_reducible refine gate_dst (N := 83) rfl ?_); (try (refine gate_guard (by rfl) ?_; dsimp only)); refine ne_err t387 6 (b := (t387 != 6)) (HERR.out.below (bw HB)) ?_ rfl (of_decide_eq_true (by first | (with_reducible assumption) | assumption)) (Int.le_trans (of_decide_eq_true (by first | (with_reducible assumption) | assumption) : t387 ≤ 6) Errs.five) (by decide) (by have := Errs.five; omega)))
                                    go_meet
                                    case rel => exact ⟨_, H', ⟨by have := HJ5.out; have := HJ17.out; first | omega | exact Nat.le_refl _⟩, ⟨by (with_reducible repeat (first | apply Kd.R_alloc | apply Kd.R_drewN | apply Kd.R_drew)); exact Kd.R_mono HO_10.out (fun _ hk => trivial)⟩, ⟨bk BK364⟩, ⟨bw HB⟩⟩
                                  · rw [if_neg c40] at H
                                    rw [HR_.out] at H
                                    exact absurd H (by simp)
                                · rw [if_neg c37] at H
                                  have c37b0 : decide (4 ≤ a1) = false := decide_eq_false c37
                                  clear c37
                                  have H' := Aside0.mk H
                                  clear H
                                  go_wp2_with (first | ((with_reducible refine gate_dst (N := 48) rfl ?_); (try (refine gate_guard (by rfl) ?_; dsimp only)); refine Kd.R_lit (Kd.int .u8) _ 5 ?hg (N := 48) ?hd (xs := ([] : List Int)) (inner := []) (ok := fun _ => True) (okp := fun _ => True) ?hr ?hp (fun _ hk => hk) trivial (Below.refl _ _) (Nat.le_refl _) (by simp) ?_; (case hd => rfl); (case hg => rfl); (case hr => first | (go_simp; done) | (go_simp; rfl)); (case hp => exact (Reps.none _ _)); intro v377 w63 ho64 hb hg_ hnew_; clear hg_ hnew_; (first | rw [← Ny376.out] at ho64 | (simp only [Int.reduceToNat] at ho64; rw [← Ny376.out] at ho64)); have n0_ := Aside0.mk (Kd.R_elder' (ro HO_10) (Kd.R_base ho64) hb); have n1_ := Aside0.mk (Kd.R_lower (Kd.R_new' ho64 (Kd.R_lt (ro HO_10))) (below_size (bw HB))); have n2_ := bb BK364 hb; have n3_ := bs HB hb; clear HO_10; clear BK364; clear HB; have HO_10 := n0_; have HO378 := n1_; have BK364 := n2_; have HB := n3_; clear n0_ n1_ n2_ n3_; clear hb ho64; obtain ⟨Ao66, co66, eo66⟩ := Kd.R_slice HO_10.out; subst eo66) | ((with_reducible refine gate_builtin (b := .append) (xs := #[.tmp 48, .tmp 49]) rfl ?_); (try (refine gate_guard (by rfl) ?_; dsimp only)); at_builtin; refine Kd.R_append_rows (Kd.int .u8) (w0 := w) w.heap.size rfl (.tmp 48) (.tmp 49) 33 5 (.int .u8 0) 1 rfl Tryd.underlying33 info5 rfl (by decide) (by omega) v377 y376 t372 _ _ _ (fun k_ => some k_ ≠ (.slice Ao66 t372.length co66 : Value).ownBlock) (fun _ => False) rfl rfl ?aO ?aR (fun _ _ h => h) (fun _ h => h.elim) ?aF ?aB ?aS ?aL ?_; (case aR => repeat (first | exact (Kd.R_reads' HO_10.out).2.2 | (with_reducible refine Kd.C_alloc ?_ _) | (with_reducible refine Kd.C_drewN ?_ _) | (with_reducible refine Kd.C_drew ?_))); (case aB => exact (bw HB)); (case aF => exact (fun k_ hk => Kd.fresh' (Kd.R_lt (ro HO_10)) k_ hk)); (case aO => exact (by (with_reducible repeat (first | apply Kd.R_alloc | apply Kd.R_drewN | apply Kd.R_drew)); exact Kd.R_mono HO378.out (fun _ hk => hk.2))); (case aS => exact (below_size (bw HB))); (case aL => have := LMc29.out; omega); intro v380 w65 ho hb hg hat; rw [← Ny379.out] at ho; have n0_ := Aside0.mk (Kd.R_after (ok := (fun _ => True)) (ro HO_10) hg hat); have n1_ := Aside0.mk (blk_grown (g := gb364) (o := .cells #[.int .u64 a0_0, .int .u64 a0_1, .slice A0_2 l0_2.length c0_2] 51 (0, 0)) (bk BK364) hg (Kd.R_ne HO378.out BK364.out (by decide))); have n2_ := Aside0.mk (hb); have n3_ := Aside0.mk (ho); clear HO_10; clear BK364; clear HB; clear HO378; have HO_10 := n0_; have BK364 := n1_; have HB := n2_; have HO381 := n3_; clear n0_ n1_ n2_ n3_; clear ho hb hg hat; obtain ⟨Ao67, co67, eo67⟩ := Kd.R_slice HO381.out; subst eo67; obtain ⟨g_, rfl, hg_⟩ := turnstilelaw14_ImageTurned.tn_own HO381.out P0_.out P1_.out; have GE_ := Aside0.mk hg_; clear hg_; obtain ⟨hx_, hf_⟩ := turnstilelaw14_ImageTurned.tn_cell HO381.out P0_.out P1_.out))
                                  have n3_ := Aside0.mk (turnstilelaw14_ImageTurned.tn_put HO381.out P0_.out P1_.out TN_.out)
                                  have n0_ := Aside0.mk (Kd.R_far (p := ⟨g_, a1.toNat, none⟩) HO_10.out (fun k hk e => hk.2 (by rw [e]; rfl)) (.int .u8 (Go.bits .xor .u8 (rd y379 a1) a2)))
                                  have n1_ := Aside0.mk (blk_far (p := ⟨g_, a1.toNat, none⟩) BK364.out (turnstilelaw14_ImageTurned.tn_ne HO381.out BK364.out) (.int .u8 (Go.bits .xor .u8 (rd y379 a1) a2)))
                                  have n2_ := Aside0.mk (below_set (g := g_) (j := a1.toNat) (v := (.int .u8 (Go.bits .xor .u8 (rd y379 a1) a2))) HB.out GE_.out)
                                  generalize World.setCell _ ⟨g_, a1.toNat, none⟩ (.int .u8 (Go.bits .xor .u8 (rd y379 a1) a2)) = wT_ at n0_ n1_ n2_ n3_ ⊢
                                  clear HO_10 HO381 BK364 HB hx_ hf_
                                  have HO_10 := n0_; have HO381 := n3_; have BK364 := n1_; have HB := n2_
                                  clear n0_ n1_ n2_ n3_
                                  refine (turnstilelaw14_ImageTurned.tn_dec _ _ y379.length tn_ (turnstilelaw14_ImageTurned.tn_len TN_.out) t382 t383 t384 t387 _ (HERR.out.below HB.out) (Kd.R_reads' HO381.out).2.2 (by have := Kd.R_reads' HO381.out; omega) A30.out).mono ?_
                                  rintro e w68 ⟨v385, rfl, ho0, hb⟩
                                  have n0_ := Aside0.mk (Kd.R_below (ro HO_10) hb); have n1_ := Aside0.mk (Kd.R_below (ro HO381) hb); have n2_ := Aside0.mk (Kd.R_lower ho0 (below_size (bw HB))); have n3_ := bb BK364 hb; have n4_ := bs HB hb; clear HO_10; clear HO381; clear BK364; clear HB; have HO_10 := n0_; have HO381 := n1_; have HO386 := n2_; have BK364 := n3_; have HB := n4_; clear n0_ n1_ n2_ n3_ n4_; (try clear hb); (try clear hb2); (try clear hk); (try clear hi); (try clear ho0)
                                  go_wp2_with (first | ((with_reducible refine gate_dst (N := 13) rfl ?_); (try (refine gate_guard (by rfl) ?_; dsimp only)); refine bx 13 #[.int .u64 0, .int .u64 0, .slice none 0 0] 51 ?_; intro gb388 hg w69 hbox hb; have n0_ := Aside0.mk (Kd.R_below (ro HO_10) hb); have n1_ := Aside0.mk (Kd.R_below (ro HO381) hb); have n2_ := Aside0.mk (Kd.R_below (ro HO386) hb); have n3_ := bb BK364 hb; have n4_ := bs HB hb; have n5_ := Aside0.mk (hbox); have n6_ := sz HB hg; have n7_ := sz HB hg; have n8_ := nl BK364 hg; have n9_ := nr BK364 hg; clear HO_10; clear HO381; clear HO386; clear BK364; clear HB; have HO_10 := n0_; have HO381 := n1_; have HO386 := n2_; have BK364 := n3_; have HB := n4_; have BK388 := n5_; have GW388 := n6_; have GE388 := n7_; have NB364_388 := n8_; have NB388_364 := n9_; clear n0_ n1_ n2_ n3_ n4_ n5_ n6_ n7_ n8_ n9_; clear hb hbox hg; have hnb70 := NB388_364.out; have hnc70 := NB364_388.out; obtain ⟨hcz71_0, hcz71_1, hcz71_2, hfz71_0, hfz71_1, hfz71_2⟩ := bc3 BK388; obtain ⟨Ao72, co72, eo72⟩ := Kd.R_slice HO386.out; subst eo72) | ((with_reducible refine gate_callee (f := 29) rfl ?_); refine gl (some 66) Tryd.func29 #[.agg #[.int .u64 t382, .int .u64 t383, .slice Ao72 t384.length co72]] ?_; (with_reducible refine (turnstilelaw14_empty.calls kj17 t382 t383 _ _ t384 true _ ?side1 ?side2 A31.out).mono ?_); (case side1 => refine (Kd.R_reads' (e := 79) (base := w.heap.size) (ok := fun k_ => True) (n := t384.length) (c := co72) ?_).2.2; exact (by (with_reducible repeat (first | apply Kd.R_alloc | apply Kd.R_drewN | apply Kd.R_drew)); exact (Kd.R_mono (Kd.R_far (p := ⟨gb388, 2, none⟩) (Kd.R_far (p := ⟨gb388, 1, none⟩) (Kd.R_far (p := ⟨gb388, 0, none⟩) (Kd.R_types HO386.out BK388.out (by decide)) (fun _ hk => hk.2) (.int .u64 t382)) (fun _ hk => hk.2) (.int .u64 t383)) (fun _ hk => hk.2) (.slice Ao72 t384.length co72)) (fun _ h_ => h_.1)))); (case side2 => exact (Kd.R_reads' HO386.out).2.1); rintro e w73 ⟨rfl, hb⟩; refine ⟨_, rfl, ?_⟩; have n0_ := Aside0.mk (Kd.R_below (by (with_reducible repeat (first | apply Kd.R_alloc | apply Kd.R_drewN | apply Kd.R_drew)); exact (Kd.R_mono (Kd.R_far (p := ⟨gb388, 2, none⟩) (Kd.R_far (p := ⟨gb388, 1, none⟩) (Kd.R_far (p := ⟨gb388, 0, none⟩) (Kd.R_types HO_10.out BK388.out (by decide)) (fun _ hk => hk.2) (.int .u64 t382)) (fun _ hk => hk.2) (.int .u64 t383)) (fun _ hk => hk.2) (.slice Ao72 t384.length co72)) (fun _ h_ => h_.1))) hb); have n1_ := Aside0.mk (Kd.R_below (by (with_reducible repeat (first | apply Kd.R_alloc | apply Kd.R_drewN | apply Kd.R_drew)); exact (Kd.R_mono (Kd.R_far (p := ⟨gb388, 2, none⟩) (Kd.R_far (p := ⟨gb388, 1, none⟩) (Kd.R_far (p := ⟨gb388, 0, none⟩) (Kd.R_types HO381.out BK388.out (by decide)) (fun _ hk => hk.2) (.int .u64 t382)) (fun _ hk => hk.2) (.int .u64 t383)) (fun _ hk => hk.2) (.slice Ao72 t384.length co72)) (fun _ h_ => h_.1))) hb); have n2_ := Aside0.mk (Kd.R_below (by (with_reducible repeat (first | apply Kd.R_alloc | apply Kd.R_drewN | apply Kd.R_drew)); exact (Kd.R_mono (Kd.R_far (p := ⟨gb388, 2, none⟩) (Kd.R_far (p := ⟨gb388, 1, none⟩) (Kd.R_far (p := ⟨gb388, 0, none⟩) (Kd.R_types HO386.out BK388.out (by decide)) (fun _ hk => hk.2) (.int .u64 t382)) (fun _ hk => hk.2) (.int .u64 t383)) (fun _ hk => hk.2) (.slice Ao72 t384.length co72)) (fun _ h_ => h_.1))) hb); have n3_ := bb BK364 hb; have n4_ := bbp (.cells #[.int .u64 t382, .int .u64 t383, .slice Ao72 t384.length co72] 51 (0, 0)) BK388 hb; have n5_ := bs HB hb; clear HO_10; clear HO381; clear HO386; clear BK364; clear BK388; clear HB; have HO_10 := n0_; have HO381 := n1_; have HO386 := n2_; have BK364 := n3_; have BK388 := n4_; have HB := n5_; clear n0_ n1_ n2_ n3_ n4_ n5_; (try clear hb); (try clear hb2); (try clear hk); (try clear hi)) | ((with_reducible refine gate_dst (N := 73) rfl ?_); (try (refine gate_guard (by rfl) ?_; dsimp only)); refine ld_err 3 2 (HERR.out.below (bw HB)) ?_ rfl rfl (by decide) (by have := Errs.five; omega) rfl) | ((with_reducible refine gate_dst (N := 74) rfl ?_); (try (refine gate_guard (by rfl) ?_; dsimp only)); refine ne_err t387 3 (b := (t387 != 3)) (HERR.out.below (bw HB)) ?_ rfl (of_decide_eq_true (by first | (with_reducible assumption) | assumption)) (Int.le_trans (of_decide_eq_true (by first | (with_reducible assumption) | assumption) : t387 ≤ 6) Errs.five) (by decide) (by have := Errs.five; omega)))
                                  go_meet
                                  case rel => exact ⟨_, H', ⟨by have := HJ5.out; have := HJ17.out; first | omega | exact Nat.le_refl _⟩, ⟨by (with_reducible repeat (first | apply Kd.R_alloc | apply Kd.R_drewN | apply Kd.R_drew)); exact Kd.R_mono HO_10.out (fun _ hk => trivial)⟩, ⟨bk BK364⟩, ⟨bw HB⟩⟩
                              · rw [if_neg c36] at H
                                rw [HR_.out] at H
                                exact absurd H (by simp)
                            · rw [if_neg c35] at H
                              exact absurd H (by simp)
                          · rw [if_neg c34] at H
                            exact absurd H (by simp)
                        · rw [if_neg c33] at H
                          have c33b0 : decide (a1 < 4) = false := decide_eq_false c33
                          clear c33
                          (first | rw [c33b0] | (simp only [i64_w, i32_w]; rw [c33b0]) | skip)
                          by_cases c85 : a1 ≥ 4
                          · rw [if_pos c85] at H
                            have c85b0 : decide (4 ≤ a1) = true := decide_eq_true c85
                            clear c85
                            by_cases c86 : 0 ≤ t387
                            · rw [if_pos c86] at H
                              have c86b0 := eq_true c86
                              have c86b1 : decide (0 ≤ t387) = true := decide_eq_true c86
                              clear c86
                              by_cases c87 : t387 ≤ 6
                              · rw [if_pos c87] at H
                                have c87b0 := eq_true c87
                                have c87b1 : decide (t387 ≤ 6) = true := decide_eq_true c87
                                clear c87
                                by_cases c88 : t387 = 6
                                · rw [if_pos c88] at H
                                  have c88b0 : (t387 == 6) = true := beq_iff_eq.mpr c88
                                  have c88b1 : (t387 != 6) = false := bne_eq_false_iff_eq.mpr c88
                                  clear c88
                                  have H' := Aside0.mk H
                                  clear H
                                  go_wp2_with (first | ((with_reducible refine gate_dst (N := 48) rfl ?_); (try (refine gate_guard (by rfl) ?_; dsimp only)); refine Kd.R_lit (Kd.int .u8) _ 5 ?hg (N := 48) ?hd (xs := ([] : List Int)) (inner := []) (ok := fun _ => True) (okp := fun _ => True) ?hr ?hp (fun _ hk => hk) trivial (Below.refl _ _) (Nat.le_refl _) (by simp) ?_; (case hd => rfl); (case hg => rfl); (case hr => first | (go_simp; done) | (go_simp; rfl)); (case hp => exact (Reps.none _ _)); intro v377 w89 ho90 hb hg_ hnew_; clear hg_ hnew_; (first | rw [← Ny376.out] at ho90 | (simp only [Int.reduceToNat] at ho90; rw [← Ny376.out] at ho90)); have n0_ := Aside0.mk (Kd.R_elder' (ro HO_10) (Kd.R_base ho90) hb); have n1_ := Aside0.mk (Kd.R_lower (Kd.R_new' ho90 (Kd.R_lt (ro HO_10))) (below_size (bw HB))); have n2_ := bb BK364 hb; have n3_ := bs HB hb; clear HO_10; clear BK364; clear HB; have HO_10 := n0_; have HO378 := n1_; have BK364 := n2_; have HB := n3_; clear n0_ n1_ n2_ n3_; clear hb ho90; obtain ⟨Ao92, co92, eo92⟩ := Kd.R_slice HO_10.out; subst eo92) | ((with_reducible refine gate_builtin (b := .append) (xs := #[.tmp 48, .tmp 49]) rfl ?_); (try (refine gate_guard (by rfl) ?_; dsimp only)); at_builtin; refine Kd.R_append_rows (Kd.int .u8) (w0 := w) w.heap.size rfl (.tmp 48) (.tmp 49) 33 5 (.int .u8 0) 1 rfl Tryd.underlying33 info5 rfl (by decide) (by omega) v377 y376 t372 _ _ _ (fun k_ => some k_ ≠ (.slice Ao92 t372.length co92 : Value).ownBlock) (fun _ => False) rfl rfl ?aO ?aR (fun _ _ h => h) (fun _ h => h.elim) ?aF ?aB ?aS ?aL ?_; (case aR => repeat (first | exact (Kd.R_reads' HO_10.out).2.2 | (with_reducible refine Kd.C_alloc ?_ _) | (with_reducible refine Kd.C_drewN ?_ _) | (with_reducible refine Kd.C_drew ?_))); (case aB => exact (bw HB)); (case aF => exact (fun k_ hk => Kd.fresh' (Kd.R_lt (ro HO_10)) k_ hk)); (case aO => exact (by (with_reducible repeat (first | apply Kd.R_alloc | apply Kd.R_drewN | apply Kd.R_drew)); exact Kd.R_mono HO378.out (fun _ hk => hk.2))); (case aS => exact (below_size (bw HB))); (case aL => have := LMc29.out; omega); intro v380 w91 ho hb hg hat; rw [← Ny379.out] at ho; have n0_ := Aside0.mk (Kd.R_after (ok := (fun _ => True)) (ro HO_10) hg hat); have n1_ := Aside0.mk (blk_grown (g := gb364) (o := .cells #[.int .u64 a0_0, .int .u64 a0_1, .slice A0_2 l0_2.length c0_2] 51 (0, 0)) (bk BK364) hg (Kd.R_ne HO378.out BK364.out (by decide))); have n2_ := Aside0.mk (hb); have n3_ := Aside0.mk (ho); clear HO_10; clear BK364; clear HB; clear HO378; have HO_10 := n0_; have BK364 := n1_; have HB := n2_; have HO381 := n3_; clear n0_ n1_ n2_ n3_; clear ho hb hg hat; obtain ⟨Ao93, co93, eo93⟩ := Kd.R_slice HO381.out; subst eo93; obtain ⟨g_, rfl, hg_⟩ := turnstilelaw14_ImageTurned.tn_own HO381.out P0_.out P1_.out; have GE_ := Aside0.mk hg_; clear hg_; obtain ⟨hx_, hf_⟩ := turnstilelaw14_ImageTurned.tn_cell HO381.out P0_.out P1_.out))
                                  have n3_ := Aside0.mk (turnstilelaw14_ImageTurned.tn_put HO381.out P0_.out P1_.out TN_.out)
                                  have n0_ := Aside0.mk (Kd.R_far (p := ⟨g_, a1.toNat, none⟩) HO_10.out (fun k hk e => hk.2 (by rw [e]; rfl)) (.int .u8 (Go.bits .xor .u8 (rd y379 a1) a2)))
                                  have n1_ := Aside0.mk (blk_far (p := ⟨g_, a1.toNat, none⟩) BK364.out (turnstilelaw14_ImageTurned.tn_ne HO381.out BK364.out) (.int .u8 (Go.bits .xor .u8 (rd y379 a1) a2)))
                                  have n2_ := Aside0.mk (below_set (g := g_) (j := a1.toNat) (v := (.int .u8 (Go.bits .xor .u8 (rd y379 a1) a2))) HB.out GE_.out)
                                  generalize World.setCell _ ⟨g_, a1.toNat, none⟩ (.int .u8 (Go.bits .xor .u8 (rd y379 a1) a2)) = wT_ at n0_ n1_ n2_ n3_ ⊢
                                  clear HO_10 HO381 BK364 HB hx_ hf_
                                  have HO_10 := n0_; have HO381 := n3_; have BK364 := n1_; have HB := n2_
                                  clear n0_ n1_ n2_ n3_
                                  refine (turnstilelaw14_ImageTurned.tn_dec _ _ y379.length tn_ (turnstilelaw14_ImageTurned.tn_len TN_.out) t382 t383 t384 t387 _ (HERR.out.below HB.out) (Kd.R_reads' HO381.out).2.2 (by have := Kd.R_reads' HO381.out; omega) A30.out).mono ?_
                                  rintro e w94 ⟨v385, rfl, ho0, hb⟩
                                  have n0_ := Aside0.mk (Kd.R_below (ro HO_10) hb); have n1_ := Aside0.mk (Kd.R_below (ro HO381) hb); have n2_ := Aside0.mk (Kd.R_lower ho0 (below_size (bw HB))); have n3_ := bb BK364 hb; have n4_ := bs HB hb; clear HO_10; clear HO381; clear BK364; clear HB; have HO_10 := n0_; have HO381 := n1_; have HO386 := n2_; have BK364 := n3_; have HB := n4_; clear n0_ n1_ n2_ n3_ n4_; (try clear hb); (try clear hb2); (try clear hk); (try clear hi); (try clear ho0)
                                  go_wp2_with (first | ((with_reducible refine gate_dst (N := 13) rfl ?_); (try (refine gate_guard (by rfl) ?_; dsimp only)); refine bx 13 #[.int .u64 0, .int .u64 0, .slice none 0 0] 51 ?_; intro gb388 hg w95 hbox hb; have n0_ := Aside0.mk (Kd.R_below (ro HO_10) hb); have n1_ := Aside0.mk (Kd.R_below (ro HO381) hb); have n2_ := Aside0.mk (Kd.R_below (ro HO386) hb); have n3_ := bb BK364 hb; have n4_ := bs HB hb; have n5_ := Aside0.mk (hbox); have n6_ := sz HB hg; have n7_ := sz HB hg; have n8_ := nl BK364 hg; have n9_ := nr BK364 hg; clear HO_10; clear HO381; clear HO386; clear BK364; clear HB; have HO_10 := n0_; have HO381 := n1_; have HO386 := n2_; have BK364 := n3_; have HB := n4_; have BK388 := n5_; have GW388 := n6_; have GE388 := n7_; have NB364_388 := n8_; have NB388_364 := n9_; clear n0_ n1_ n2_ n3_ n4_ n5_ n6_ n7_ n8_ n9_; clear hb hbox hg; have hnb96 := NB388_364.out; have hnc96 := NB364_388.out; obtain ⟨hcz97_0, hcz97_1, hcz97_2, hfz97_0, hfz97_1, hfz97_2⟩ := bc3 BK388; obtain ⟨Ao98, co98, eo98⟩ := Kd.R_slice HO386.out; subst eo98) | ((with_reducible refine gate_callee (f := 29) rfl ?_); refine gl (some 66) Tryd.func29 #[.agg #[.int .u64 t382, .int .u64 t383, .slice Ao98 t384.length co98]] ?_; (with_reducible refine (turnstilelaw14_empty.calls kj17 t382 t383 _ _ t384 true _ ?side1 ?side2 A31.out).mono ?_); (case side1 => refine (Kd.R_reads' (e := 79) (base := w.heap.size) (ok := fun k_ => True) (n := t384.length) (c := co98) ?_).2.2; exact (by (with_reducible repeat (first | apply Kd.R_alloc | apply Kd.R_drewN | apply Kd.R_drew)); exact (Kd.R_mono (Kd.R_far (p := ⟨gb388, 2, none⟩) (Kd.R_far (p := ⟨gb388, 1, none⟩) (Kd.R_far (p := ⟨gb388, 0, none⟩) (Kd.R_types HO386.out BK388.out (by decide)) (fun _ hk => hk.2) (.int .u64 t382)) (fun _ hk => hk.2) (.int .u64 t383)) (fun _ hk => hk.2) (.slice Ao98 t384.length co98)) (fun _ h_ => h_.1)))); (case side2 => exact (Kd.R_reads' HO386.out).2.1); rintro e w99 ⟨rfl, hb⟩; refine ⟨_, rfl, ?_⟩; have n0_ := Aside0.mk (Kd.R_below (by (with_reducible repeat (first | apply Kd.R_alloc | apply Kd.R_drewN | apply Kd.R_drew)); exact (Kd.R_mono (Kd.R_far (p := ⟨gb388, 2, none⟩) (Kd.R_far (p := ⟨gb388, 1, none⟩) (Kd.R_far (p := ⟨gb388, 0, none⟩) (Kd.R_types HO_10.out BK388.out (by decide)) (fun _ hk => hk.2) (.int .u64 t382)) (fun _ hk => hk.2) (.int .u64 t383)) (fun _ hk => hk.2) (.slice Ao98 t384.length co98)) (fun _ h_ => h_.1))) hb); have n1_ := Aside0.mk (Kd.R_below (by (with_reducible repeat (first | apply Kd.R_alloc | apply Kd.R_drewN | apply Kd.R_drew)); exact (Kd.R_mono (Kd.R_far (p := ⟨gb388, 2, none⟩) (Kd.R_far (p := ⟨gb388, 1, none⟩) (Kd.R_far (p := ⟨gb388, 0, none⟩) (Kd.R_types HO381.out BK388.out (by decide)) (fun _ hk => hk.2) (.int .u64 t382)) (fun _ hk => hk.2) (.int .u64 t383)) (fun _ hk => hk.2) (.slice Ao98 t384.length co98)) (fun _ h_ => h_.1))) hb); have n2_ := Aside0.mk (Kd.R_below (by (with_reducible repeat (first | apply Kd.R_alloc | apply Kd.R_drewN | apply Kd.R_drew)); exact (Kd.R_mono (Kd.R_far (p := ⟨gb388, 2, none⟩) (Kd.R_far (p := ⟨gb388, 1, none⟩) (Kd.R_far (p := ⟨gb388, 0, none⟩) (Kd.R_types HO386.out BK388.out (by decide)) (fun _ hk => hk.2) (.int .u64 t382)) (fun _ hk => hk.2) (.int .u64 t383)) (fun _ hk => hk.2) (.slice Ao98 t384.length co98)) (fun _ h_ => h_.1))) hb); have n3_ := bb BK364 hb; have n4_ := bbp (.cells #[.int .u64 t382, .int .u64 t383, .slice Ao98 t384.length co98] 51 (0, 0)) BK388 hb; have n5_ := bs HB hb; clear HO_10; clear HO381; clear HO386; clear BK364; clear BK388; clear HB; have HO_10 := n0_; have HO381 := n1_; have HO386 := n2_; have BK364 := n3_; have BK388 := n4_; have HB := n5_; clear n0_ n1_ n2_ n3_ n4_ n5_; (try clear hb); (try clear hb2); (try clear hk); (try clear hi)) | ((with_reducible refine gate_dst (N := 82) rfl ?_); (try (refine gate_guard (by rfl) ?_; dsimp only)); refine ld_err 6 3 (HERR.out.below (bw HB)) ?_ rfl rfl (by decide) (by have := Errs.five; omega) rfl) | ((with_reducible refine gate_dst (N := 83) rfl ?_); (try (refine gate_guard (by rfl) ?_; dsimp only)); refine ne_err t387 6 (b := (t387 != 6)) (HERR.out.below (bw HB)) ?_ rfl (of_decide_eq_true (by first | (with_reducible assumption) | assumption)) (Int.le_trans (of_decide_eq_true (by first | (with_reducible assumption) | assumption) : t387 ≤ 6) Errs.five) (by decide) (by have := Errs.five; omega)))
                                  go_meet
                                  case rel => exact ⟨_, H', ⟨by have := HJ5.out; have := HJ17.out; first | omega | exact Nat.le_refl _⟩, ⟨by (with_reducible repeat (first | apply Kd.R_alloc | apply Kd.R_drewN | apply Kd.R_drew)); exact Kd.R_mono HO_10.out (fun _ hk => trivial)⟩, ⟨bk BK364⟩, ⟨bw HB⟩⟩
                                · rw [if_neg c88] at H
                                  rw [HR_.out] at H
                                  exact absurd H (by simp)
                              · rw [if_neg c87] at H
                                exact absurd H (by simp)
                            · rw [if_neg c86] at H
                              exact absurd H (by simp)
                          · rw [if_neg c85] at H
                            have c85b0 : decide (4 ≤ a1) = false := decide_eq_false c85
                            clear c85
                            have H' := Aside0.mk H
                            clear H
                            go_wp2_with (first | ((with_reducible refine gate_dst (N := 48) rfl ?_); (try (refine gate_guard (by rfl) ?_; dsimp only)); refine Kd.R_lit (Kd.int .u8) _ 5 ?hg (N := 48) ?hd (xs := ([] : List Int)) (inner := []) (ok := fun _ => True) (okp := fun _ => True) ?hr ?hp (fun _ hk => hk) trivial (Below.refl _ _) (Nat.le_refl _) (by simp) ?_; (case hd => rfl); (case hg => rfl); (case hr => first | (go_simp; done) | (go_simp; rfl)); (case hp => exact (Reps.none _ _)); intro v377 w111 ho112 hb hg_ hnew_; clear hg_ hnew_; (first | rw [← Ny376.out] at ho112 | (simp only [Int.reduceToNat] at ho112; rw [← Ny376.out] at ho112)); have n0_ := Aside0.mk (Kd.R_elder' (ro HO_10) (Kd.R_base ho112) hb); have n1_ := Aside0.mk (Kd.R_lower (Kd.R_new' ho112 (Kd.R_lt (ro HO_10))) (below_size (bw HB))); have n2_ := bb BK364 hb; have n3_ := bs HB hb; clear HO_10; clear BK364; clear HB; have HO_10 := n0_; have HO378 := n1_; have BK364 := n2_; have HB := n3_; clear n0_ n1_ n2_ n3_; clear hb ho112; obtain ⟨Ao114, co114, eo114⟩ := Kd.R_slice HO_10.out; subst eo114) | ((with_reducible refine gate_builtin (b := .append) (xs := #[.tmp 48, .tmp 49]) rfl ?_); (try (refine gate_guard (by rfl) ?_; dsimp only)); at_builtin; refine Kd.R_append_rows (Kd.int .u8) (w0 := w) w.heap.size rfl (.tmp 48) (.tmp 49) 33 5 (.int .u8 0) 1 rfl Tryd.underlying33 info5 rfl (by decide) (by omega) v377 y376 t372 _ _ _ (fun k_ => some k_ ≠ (.slice Ao114 t372.length co114 : Value).ownBlock) (fun _ => False) rfl rfl ?aO ?aR (fun _ _ h => h) (fun _ h => h.elim) ?aF ?aB ?aS ?aL ?_; (case aR => repeat (first | exact (Kd.R_reads' HO_10.out).2.2 | (with_reducible refine Kd.C_alloc ?_ _) | (with_reducible refine Kd.C_drewN ?_ _) | (with_reducible refine Kd.C_drew ?_))); (case aB => exact (bw HB)); (case aF => exact (fun k_ hk => Kd.fresh' (Kd.R_lt (ro HO_10)) k_ hk)); (case aO => exact (by (with_reducible repeat (first | apply Kd.R_alloc | apply Kd.R_drewN | apply Kd.R_drew)); exact Kd.R_mono HO378.out (fun _ hk => hk.2))); (case aS => exact (below_size (bw HB))); (case aL => have := LMc29.out; omega); intro v380 w113 ho hb hg hat; rw [← Ny379.out] at ho; have n0_ := Aside0.mk (Kd.R_after (ok := (fun _ => True)) (ro HO_10) hg hat); have n1_ := Aside0.mk (blk_grown (g := gb364) (o := .cells #[.int .u64 a0_0, .int .u64 a0_1, .slice A0_2 l0_2.length c0_2] 51 (0, 0)) (bk BK364) hg (Kd.R_ne HO378.out BK364.out (by decide))); have n2_ := Aside0.mk (hb); have n3_ := Aside0.mk (ho); clear HO_10; clear BK364; clear HB; clear HO378; have HO_10 := n0_; have BK364 := n1_; have HB := n2_; have HO381 := n3_; clear n0_ n1_ n2_ n3_; clear ho hb hg hat; obtain ⟨Ao115, co115, eo115⟩ := Kd.R_slice HO381.out; subst eo115; obtain ⟨g_, rfl, hg_⟩ := turnstilelaw14_ImageTurned.tn_own HO381.out P0_.out P1_.out; have GE_ := Aside0.mk hg_; clear hg_; obtain ⟨hx_, hf_⟩ := turnstilelaw14_ImageTurned.tn_cell HO381.out P0_.out P1_.out))
                            have n3_ := Aside0.mk (turnstilelaw14_ImageTurned.tn_put HO381.out P0_.out P1_.out TN_.out)
                            have n0_ := Aside0.mk (Kd.R_far (p := ⟨g_, a1.toNat, none⟩) HO_10.out (fun k hk e => hk.2 (by rw [e]; rfl)) (.int .u8 (Go.bits .xor .u8 (rd y379 a1) a2)))
                            have n1_ := Aside0.mk (blk_far (p := ⟨g_, a1.toNat, none⟩) BK364.out (turnstilelaw14_ImageTurned.tn_ne HO381.out BK364.out) (.int .u8 (Go.bits .xor .u8 (rd y379 a1) a2)))
                            have n2_ := Aside0.mk (below_set (g := g_) (j := a1.toNat) (v := (.int .u8 (Go.bits .xor .u8 (rd y379 a1) a2))) HB.out GE_.out)
                            generalize World.setCell _ ⟨g_, a1.toNat, none⟩ (.int .u8 (Go.bits .xor .u8 (rd y379 a1) a2)) = wT_ at n0_ n1_ n2_ n3_ ⊢
                            clear HO_10 HO381 BK364 HB hx_ hf_
                            have HO_10 := n0_; have HO381 := n3_; have BK364 := n1_; have HB := n2_
                            clear n0_ n1_ n2_ n3_
                            refine (turnstilelaw14_ImageTurned.tn_dec _ _ y379.length tn_ (turnstilelaw14_ImageTurned.tn_len TN_.out) t382 t383 t384 t387 _ (HERR.out.below HB.out) (Kd.R_reads' HO381.out).2.2 (by have := Kd.R_reads' HO381.out; omega) A30.out).mono ?_
                            rintro e w116 ⟨v385, rfl, ho0, hb⟩
                            have n0_ := Aside0.mk (Kd.R_below (ro HO_10) hb); have n1_ := Aside0.mk (Kd.R_below (ro HO381) hb); have n2_ := Aside0.mk (Kd.R_lower ho0 (below_size (bw HB))); have n3_ := bb BK364 hb; have n4_ := bs HB hb; clear HO_10; clear HO381; clear BK364; clear HB; have HO_10 := n0_; have HO381 := n1_; have HO386 := n2_; have BK364 := n3_; have HB := n4_; clear n0_ n1_ n2_ n3_ n4_; (try clear hb); (try clear hb2); (try clear hk); (try clear hi); (try clear ho0)
                            go_wp2_with (first | ((with_reducible refine gate_dst (N := 13) rfl ?_); (try (refine gate_guard (by rfl) ?_; dsimp only)); refine bx 13 #[.int .u64 0, .int .u64 0, .slice none 0 0] 51 ?_; intro gb388 hg w117 hbox hb; have n0_ := Aside0.mk (Kd.R_below (ro HO_10) hb); have n1_ := Aside0.mk (Kd.R_below (ro HO381) hb); have n2_ := Aside0.mk (Kd.R_below (ro HO386) hb); have n3_ := bb BK364 hb; have n4_ := bs HB hb; have n5_ := Aside0.mk (hbox); have n6_ := sz HB hg; have n7_ := sz HB hg; have n8_ := nl BK364 hg; have n9_ := nr BK364 hg; clear HO_10; clear HO381; clear HO386; clear BK364; clear HB; have HO_10 := n0_; have HO381 := n1_; have HO386 := n2_; have BK364 := n3_; have HB := n4_; have BK388 := n5_; have GW388 := n6_; have GE388 := n7_; have NB364_388 := n8_; have NB388_364 := n9_; clear n0_ n1_ n2_ n3_ n4_ n5_ n6_ n7_ n8_ n9_; clear hb hbox hg; have hnb118 := NB388_364.out; have hnc118 := NB364_388.out; obtain ⟨hcz119_0, hcz119_1, hcz119_2, hfz119_0, hfz119_1, hfz119_2⟩ := bc3 BK388; obtain ⟨Ao120, co120, eo120⟩ := Kd.R_slice HO386.out; subst eo120) | ((with_reducible refine gate_callee (f := 29) rfl ?_); refine gl (some 66) Tryd.func29 #[.agg #[.int .u64 t382, .int .u64 t383, .slice Ao120 t384.length co120]] ?_; (with_reducible refine (turnstilelaw14_empty.calls kj17 t382 t383 _ _ t384 true _ ?side1 ?side2 A31.out).mono ?_); (case side1 => refine (Kd.R_reads' (e := 79) (base := w.heap.size) (ok := fun k_ => True) (n := t384.length) (c := co120) ?_).2.2; exact (by (with_reducible repeat (first | apply Kd.R_alloc | apply Kd.R_drewN | apply Kd.R_drew)); exact (Kd.R_mono (Kd.R_far (p := ⟨gb388, 2, none⟩) (Kd.R_far (p := ⟨gb388, 1, none⟩) (Kd.R_far (p := ⟨gb388, 0, none⟩) (Kd.R_types HO386.out BK388.out (by decide)) (fun _ hk => hk.2) (.int .u64 t382)) (fun _ hk => hk.2) (.int .u64 t383)) (fun _ hk => hk.2) (.slice Ao120 t384.length co120)) (fun _ h_ => h_.1)))); (case side2 => exact (Kd.R_reads' HO386.out).2.1); rintro e w121 ⟨rfl, hb⟩; refine ⟨_, rfl, ?_⟩; have n0_ := Aside0.mk (Kd.R_below (by (with_reducible repeat (first | apply Kd.R_alloc | apply Kd.R_drewN | apply Kd.R_drew)); exact (Kd.R_mono (Kd.R_far (p := ⟨gb388, 2, none⟩) (Kd.R_far (p := ⟨gb388, 1, none⟩) (Kd.R_far (p := ⟨gb388, 0, none⟩) (Kd.R_types HO_10.out BK388.out (by decide)) (fun _ hk => hk.2) (.int .u64 t382)) (fun _ hk => hk.2) (.int .u64 t383)) (fun _ hk => hk.2) (.slice Ao120 t384.length co120)) (fun _ h_ => h_.1))) hb); have n1_ := Aside0.mk (Kd.R_below (by (with_reducible repeat (first | apply Kd.R_alloc | apply Kd.R_drewN | apply Kd.R_drew)); exact (Kd.R_mono (Kd.R_far (p := ⟨gb388, 2, none⟩) (Kd.R_far (p := ⟨gb388, 1, none⟩) (Kd.R_far (p := ⟨gb388, 0, none⟩) (Kd.R_types HO381.out BK388.out (by decide)) (fun _ hk => hk.2) (.int .u64 t382)) (fun _ hk => hk.2) (.int .u64 t383)) (fun _ hk => hk.2) (.slice Ao120 t384.length co120)) (fun _ h_ => h_.1))) hb); have n2_ := Aside0.mk (Kd.R_below (by (with_reducible repeat (first | apply Kd.R_alloc | apply Kd.R_drewN | apply Kd.R_drew)); exact (Kd.R_mono (Kd.R_far (p := ⟨gb388, 2, none⟩) (Kd.R_far (p := ⟨gb388, 1, none⟩) (Kd.R_far (p := ⟨gb388, 0, none⟩) (Kd.R_types HO386.out BK388.out (by decide)) (fun _ hk => hk.2) (.int .u64 t382)) (fun _ hk => hk.2) (.int .u64 t383)) (fun _ hk => hk.2) (.slice Ao120 t384.length co120)) (fun _ h_ => h_.1))) hb); have n3_ := bb BK364 hb; have n4_ := bbp (.cells #[.int .u64 t382, .int .u64 t383, .slice Ao120 t384.length co120] 51 (0, 0)) BK388 hb; have n5_ := bs HB hb; clear HO_10; clear HO381; clear HO386; clear BK364; clear BK388; clear HB; have HO_10 := n0_; have HO381 := n1_; have HO386 := n2_; have BK364 := n3_; have BK388 := n4_; have HB := n5_; clear n0_ n1_ n2_ n3_ n4_ n5_; (try clear hb); (try clear hb2); (try clear hk); (try clear hi)))
                            go_meet
                            case rel => exact ⟨_, H', ⟨by have := HJ5.out; have := HJ17.out; first | omega | exact Nat.le_refl _⟩, ⟨by (with_reducible repeat (first | apply Kd.R_alloc | apply Kd.R_drewN | apply Kd.R_drew)); exact Kd.R_mono HO_10.out (fun _ hk => trivial)⟩, ⟨bk BK364⟩, ⟨bw HB⟩⟩
                      · replace c32 := Bool.eq_false_iff.mpr c32
                        subst c32
                        have H1 : (some false) = some r := by rw [if_neg (show ¬ (false = true) by decide)] at H; exact H
                        rw [HR_.out] at H1
                        exact absurd H1 (by simp)
                    · rw [if_neg c29] at H
                      exact absurd H (by simp)
                  · replace c28 := Bool.eq_false_iff.mpr c28
                    subst c28
                    have H1 : (turnstilelaw14_ImageTurned.j2 kj17 a3 t372) = some r := by rw [if_neg (show ¬ (false = true) by decide)] at H; exact H
                    clear H
                    have H := H1
                    clear H1
                    have H' := Aside0.mk H
                    clear H
                    go_wp2
                    go_meet
                    case rel => exact ⟨_, H', ⟨by have := HJ5.out; have := HJ17.out; first | omega | exact Nat.le_refl _⟩, ⟨ro HO_10⟩, ⟨bk BK364⟩, ⟨bw HB⟩⟩
                case rest =>
                  clear HC27
                  try clear c1
                  try clear c2
                  try clear p2
                  try clear c3
                  try clear c4
                  try clear c5
                  try clear c7
                  try clear c8
                  try clear c9
                  try clear c10
                  try clear c11
                  try clear c12
                  try clear c13
                  try clear c16
                  try clear c16b0
                  try clear c16b1
                  try clear c17
                  try clear c17b0
                  try clear c17b1
                  try clear c20
                  try clear c23
                  try clear c23b0
                  try clear c24
                  try clear c24b0
                  try clear c25
                  try clear c27
                  try clear c28
                  try clear c29
                  try clear c32
                  try clear c33
                  try clear c33b0
                  try clear c34
                  try clear c34b0
                  try clear c34b1
                  try clear c35
                  try clear c35b0
                  try clear c35b1
                  try clear c36
                  try clear c36b0
                  try clear c36b1
                  try clear c37
                  try clear c37b0
                  try clear c38
                  try clear c38b0
                  try clear c39
                  try clear c39b0
                  try clear c40
                  try clear c40b0
                  try clear c40b1
                  try clear c48
                  try clear c59
                  try clear c70
                  try clear c81
                  try clear c85
                  try clear c85b0
                  try clear c86
                  try clear c86b0
                  try clear c86b1
                  try clear c87
                  try clear c87b0
                  try clear c87b1
                  try clear c88
                  try clear c88b0
                  try clear c88b1
                  try clear c96
                  try clear c107
                  try clear c118
                  try clear c129
                  try clear hcz108_0
                  try clear hcz108_1
                  try clear hcz108_2
                  try clear hcz119_0
                  try clear hcz119_1
                  try clear hcz119_2
                  try clear hcz11_0
                  try clear hcz11_1
                  try clear hcz11_2
                  try clear hcz130_0
                  try clear hcz130_1
                  try clear hcz130_2
                  try clear hcz19_0
                  try clear hcz19_1
                  try clear hcz19_2
                  try clear hcz49_0
                  try clear hcz49_1
                  try clear hcz49_2
                  try clear hcz60_0
                  try clear hcz60_1
                  try clear hcz60_2
                  try clear hcz71_0
                  try clear hcz71_1
                  try clear hcz71_2
                  try clear hcz82_0
                  try clear hcz82_1
                  try clear hcz82_2
                  try clear hcz97_0
                  try clear hcz97_1
                  try clear hcz97_2
                  try clear hfz108_0
                  try clear hfz108_1
                  try clear hfz108_2
                  try clear hfz119_0
                  try clear hfz119_1
                  try clear hfz119_2
                  try clear hfz11_0
                  try clear hfz11_1
                  try clear hfz11_2
                  try clear hfz130_0
                  try clear hfz130_1
                  try clear hfz130_2
                  try clear hfz19_0
                  try clear hfz19_1
                  try clear hfz19_2
                  try clear hfz49_0
                  try clear hfz49_1
                  try clear hfz49_2
                  try clear hfz60_0
                  try clear hfz60_1
                  try clear hfz60_2
                  try clear hfz71_0
                  try clear hfz71_1
                  try clear hfz71_2
                  try clear hfz82_0
                  try clear hfz82_1
                  try clear hfz82_2
                  try clear hfz97_0
                  try clear hfz97_1
                  try clear hfz97_2
                  try clear p2
                  obtain ⟨kq, HA, HJ26, HO_10, BK364, HB⟩ := hcut
                  cases kq with
                  | zero => exact absurd HA.out (by simp [turnstilelaw14_ImageTurned.j2])
                  | succ kj26 =>
                    have H := HA.out
                    clear HA
                    simp only [turnstilelaw14_ImageTurned.j2] at H
                    have HC133 := Aside0.mk H
                    clear H
                    go_upto_region 13 with (fail)
                    go_cut [93] (fun v93 wc => ∃ (kq : Nat) (x93_132 : Bool), v93 = .bool x93_132 ∧ Aside0 (turnstilelaw14_ImageTurned.j3 kq a3 t372 x93_132 = some r) ∧ Aside0 (kq ≤ kj26) ∧ Aside0 (Kd.R (Kd.int .u8) 5 wc w.heap.size (fun _ => True) v373 t372) ∧ Aside0 (wc.heap[gb364]? = some (.cells #[.int .u64 a0_0, .int .u64 a0_1, (.slice A0_2 l0_2.length c0_2)] 51 (0, 0))) ∧ Aside0 (Below w.heap.size w wc))
                    case first =>
                      have H := HC133.out
                      clear HC133
                      by_cases c134 : a3 < 0
                      · rw [if_pos c134] at H
                        have c134b0 : decide (a3 < 0) = true := decide_eq_true c134
                        clear c134
                        (first | rw [c134b0] | (simp only [i64_w, i32_w]; rw [c134b0]) | skip)
                        have H' := Aside0.mk H
                        clear H
                        go_wp2
                        go_meet
                        case rel => exact ⟨_, (true), rs, H', ⟨by have := HJ5.out; have := HJ17.out; have := HJ26.out; first | omega | exact Nat.le_refl _⟩, ⟨ro HO_10⟩, ⟨bk BK364⟩, ⟨bw HB⟩⟩
                      · rw [if_neg c134] at H
                        have c134b0 : decide (a3 < 0) = false := decide_eq_false c134
                        clear c134
                        (first | rw [c134b0] | (simp only [i64_w, i32_w]; rw [c134b0]) | skip)
                        have H' := Aside0.mk H
                        clear H
                        obtain ⟨Ao135, co135, eo135⟩ := Kd.R_slice HO_10.out
                        subst eo135
                        go_wp2
                        go_meet
                        case rel => exact ⟨_, (decide (a3 ≥ (t372.length : Int))), rs, H', ⟨by have := HJ5.out; have := HJ17.out; have := HJ26.out; first | omega | exact Nat.le_refl _⟩, ⟨ro HO_10⟩, ⟨bk BK364⟩, ⟨bw HB⟩⟩
                    case rest =>
                      clear HC133
                      try clear c1
                      try clear c2
                      try clear p2
                      try clear c3
                      try clear c4
                      try clear c5
                      try clear c7
                      try clear c8
                      try clear c9
                      try clear c10
                      try clear c11
                      try clear c12
                      try clear c13
                      try clear c16
                      try clear c16b0
                      try clear c16b1
                      try clear c17
                      try clear c17b0
                      try clear c17b1
                      try clear c20
                      try clear c23
                      try clear c23b0
                      try clear c24
                      try clear c24b0
                      try clear c25
                      try clear c27
                      try clear c28
                      try clear c29
                      try clear c32
                      try clear c33
                      try clear c33b0
                      try clear c34
                      try clear c34b0
                      try clear c34b1
                      try clear c35
                      try clear c35b0
                      try clear c35b1
                      try clear c36
                      try clear c36b0
                      try clear c36b1
                      try clear c37
                      try clear c37b0
                      try clear c38
                      try clear c38b0
                      try clear c39
                      try clear c39b0
                      try clear c40
                      try clear c40b0
                      try clear c40b1
                      try clear c48
                      try clear c59
                      try clear c70
                      try clear c81
                      try clear c85
                      try clear c85b0
                      try clear c86
                      try clear c86b0
                      try clear c86b1
                      try clear c87
                      try clear c87b0
                      try clear c87b1
                      try clear c88
                      try clear c88b0
                      try clear c88b1
                      try clear c96
                      try clear c107
                      try clear c118
                      try clear c129
                      try clear c134
                      try clear c134b0
                      try clear hcz108_0
                      try clear hcz108_1
                      try clear hcz108_2
                      try clear hcz119_0
                      try clear hcz119_1
                      try clear hcz119_2
                      try clear hcz11_0
                      try clear hcz11_1
                      try clear hcz11_2
                      try clear hcz130_0
                      try clear hcz130_1
                      try clear hcz130_2
                      try clear hcz19_0
                      try clear hcz19_1
                      try clear hcz19_2
                      try clear hcz49_0
                      try clear hcz49_1
                      try clear hcz49_2
                      try clear hcz60_0
                      try clear hcz60_1
                      try clear hcz60_2
                      try clear hcz71_0
                      try clear hcz71_1
                      try clear hcz71_2
                      try clear hcz82_0
                      try clear hcz82_1
                      try clear hcz82_2
                      try clear hcz97_0
                      try clear hcz97_1
                      try clear hcz97_2
                      try clear hfz108_0
                      try clear hfz108_1
                      try clear hfz108_2
                      try clear hfz119_0
                      try clear hfz119_1
                      try clear hfz119_2
                      try clear hfz11_0
                      try clear hfz11_1
                      try clear hfz11_2
                      try clear hfz130_0
                      try clear hfz130_1
                      try clear hfz130_2
                      try clear hfz19_0
                      try clear hfz19_1
                      try clear hfz19_2
                      try clear hfz49_0
                      try clear hfz49_1
                      try clear hfz49_2
                      try clear hfz60_0
                      try clear hfz60_1
                      try clear hfz60_2
                      try clear hfz71_0
                      try clear hfz71_1
                      try clear hfz71_2
                      try clear hfz82_0
                      try clear hfz82_1
                      try clear hfz82_2
                      try clear hfz97_0
                      try clear hfz97_1
                      try clear hfz97_2
                      try clear p2
                      obtain ⟨kq, x93_132, rfl, HA, HJ132, HO_10, BK364, HB⟩ := hcut
                      cases kq with
                      | zero => exact absurd HA.out (by simp [turnstilelaw14_ImageTurned.j3])
                      | succ kj132 =>
                        have H := HA.out
                        clear HA
                        simp only [turnstilelaw14_ImageTurned.j3] at H
                        by_cases c136 : x93_132 = true
                        · subst c136
                          have H1 : (some true) = some r := by rw [if_pos rfl] at H; exact H
                          clear H
                          have H := H1
                          clear H1
                          obtain rfl := Option.some.inj H
                          go_wp2
                          go_ret
                          exact ⟨re, bw HB⟩
                        · replace c136 := Bool.eq_false_iff.mpr c136
                          subst c136
                          have H1 : ((some (([] : List Int) : List Int)).bind fun y390 => (if 0 ≤ a3 then (if a3 ≤ (t372.length : Int) then ((some (t372.take (a3 : Int).toNat : List Int)).bind fun y393 => (if y390.length + y393.length < 140737488355328 then ((image_Decode.f (y390 ++ y393)).bind fun bt400 => ((turnstilelaw14_empty.f kj132 bt400.1 bt400.2.1 bt400.2.2.1).bind fun t407 => (if t407 = true then (if 0 ≤ bt400.2.2.2 then (if bt400.2.2.2 = 0 then (some false) else (if a3 ≥ 28 then (some true) else (if bt400.2.2.2 ≤ 6 then (some (bt400.2.2.2 == 2)) else (none)))) else (none)) else (some false)))) else (none))) else (none)) else (none))) = some r := by rw [if_neg (show ¬ (false = true) by decide)] at H; exact H
                          clear H
                          have H := H1
                          clear H1
                          obtain ⟨y390, hy390⟩ : ∃ y_ : List Int, y_ = (([] : List Int)) := ⟨_, rfl⟩
                          replace H : (if 0 ≤ a3 then (if a3 ≤ (t372.length : Int) then ((some (t372.take (a3 : Int).toNat : List Int)).bind fun y393 => (if y390.length + y393.length < 140737488355328 then ((image_Decode.f (y390 ++ y393)).bind fun bt400 => ((turnstilelaw14_empty.f kj132 bt400.1 bt400.2.1 bt400.2.2.1).bind fun t407 => (if t407 = true then (if 0 ≤ bt400.2.2.2 then (if bt400.2.2.2 = 0 then (some false) else (if a3 ≥ 28 then (some true) else (if bt400.2.2.2 ≤ 6 then (some (bt400.2.2.2 == 2)) else (none)))) else (none)) else (some false)))) else (none))) else (none)) else (none)) = some r := by first | (rw [hy390]; with_reducible exact H) | (have H2_ := (Option.bind_some _ _).symm.trans H; rw [hy390]; with_reducible exact H2_) | (have H2_ := (Option.bind_some _ _).symm.trans H; with_reducible exact H2_) | with_reducible exact H | (rw [hy390]; exact H) | exact H
                          have Ny390 := Aside0.mk hy390
                          clear hy390
                          by_cases c137 : 0 ≤ a3
                          · rw [if_pos c137] at H
                            have c137b0 := eq_true c137
                            have c137b1 : decide (0 ≤ a3) = true := decide_eq_true c137
                            clear c137
                            by_cases c138 : a3 ≤ (t372.length : Int)
                            · rw [if_pos c138] at H
                              have c138b0 := eq_true c138
                              have c138b1 : decide (a3 ≤ (t372.length : Int)) = true := decide_eq_true c138
                              clear c138
                              obtain ⟨y393, hy393⟩ : ∃ y_ : List Int, y_ = (t372.take (a3 : Int).toNat) := ⟨_, rfl⟩
                              replace H : (if y390.length + y393.length < 140737488355328 then ((image_Decode.f (y390 ++ y393)).bind fun bt400 => ((turnstilelaw14_empty.f kj132 bt400.1 bt400.2.1 bt400.2.2.1).bind fun t407 => (if t407 = true then (if 0 ≤ bt400.2.2.2 then (if bt400.2.2.2 = 0 then (some false) else (if a3 ≥ 28 then (some true) else (if bt400.2.2.2 ≤ 6 then (some (bt400.2.2.2 == 2)) else (none)))) else (none)) else (some false)))) else (none)) = some r := by first | (rw [hy393]; with_reducible exact H) | (have H2_ := (Option.bind_some _ _).symm.trans H; rw [hy393]; with_reducible exact H2_) | (have H2_ := (Option.bind_some _ _).symm.trans H; with_reducible exact H2_) | with_reducible exact H | (rw [hy393]; exact H) | exact H
                              have Ny393 := Aside0.mk hy393
                              clear hy393
                              by_cases c139 : y390.length + y393.length < 140737488355328
                              · rw [if_pos c139] at H
                                have LMc139 := Aside0.mk c139
                                clear c139
                                obtain ⟨y397, hy397⟩ : ∃ y_ : List Int, y_ = (y390 ++ y393) := ⟨_, rfl⟩
                                replace H : ((image_Decode.f y397).bind fun bt400 => ((turnstilelaw14_empty.f kj132 bt400.1 bt400.2.1 bt400.2.2.1).bind fun t407 => (if t407 = true then (if 0 ≤ bt400.2.2.2 then (if bt400.2.2.2 = 0 then (some false) else (if a3 ≥ 28 then (some true) else (if bt400.2.2.2 ≤ 6 then (some (bt400.2.2.2 == 2)) else (none)))) else (none)) else (some false)))) = some r := by first | (rw [hy397]; with_reducible exact H) | (have H2_ := (Option.bind_some _ _).symm.trans H; rw [hy397]; with_reducible exact H2_) | (have H2_ := (Option.bind_some _ _).symm.trans H; with_reducible exact H2_) | with_reducible exact H | (rw [hy397]; exact H) | exact H
                                have Ny397 := Aside0.mk hy397
                                clear hy397
                                replace H := Option.bind_eq_some_iff.mp H
                                obtain ⟨⟨t400, t401, t402, t405⟩, A1400, H⟩ := H
                                replace H : ((turnstilelaw14_empty.f kj132 t400 t401 t402).bind fun t407 => (if t407 = true then (if 0 ≤ t405 then (if t405 = 0 then (some false) else (if a3 ≥ 28 then (some true) else (if t405 ≤ 6 then (some (t405 == 2)) else (none)))) else (none)) else (some false))) = some r := H
                                have A140 := Aside0.mk A1400
                                clear A1400
                                replace H := Option.bind_eq_some_iff.mp H
                                obtain ⟨t407, A1410, H⟩ := H
                                replace H : (if t407 = true then (if 0 ≤ t405 then (if t405 = 0 then (some false) else (if a3 ≥ 28 then (some true) else (if t405 ≤ 6 then (some (t405 == 2)) else (none)))) else (none)) else (some false)) = some r := H
                                have A141 := Aside0.mk A1410
                                clear A1410
                                by_cases c142 : t407 = true
                                · subst c142
                                  have H1 : (if 0 ≤ t405 then (if t405 = 0 then (some false) else (if a3 ≥ 28 then (some true) else (if t405 ≤ 6 then (some (t405 == 2)) else (none)))) else (none)) = some r := by rw [if_pos rfl] at H; exact H
                                  clear H
                                  have H := H1
                                  clear H1
                                  by_cases c143 : 0 ≤ t405
                                  · rw [if_pos c143] at H
                                    have c143b0 := eq_true c143
                                    have c143b1 : decide (0 ≤ t405) = true := decide_eq_true c143
                                    clear c143
                                    by_cases c144 : t405 = 0
                                    · rw [if_pos c144] at H
                                      rw [HR_.out] at H
                                      exact absurd H (by simp)
                                    · rw [if_neg c144] at H
                                      have c144b0 : (t405 == 0) = false := beq_eq_false_iff_ne.mpr c144
                                      have c144b1 : (t405 != 0) = true := bne_iff_ne.mpr c144
                                      by_cases c157 : a3 ≥ 28
                                      · rw [if_pos c157] at H
                                        have c157b0 : decide (28 ≤ a3) = true := decide_eq_true c157
                                        clear c157
                                        obtain rfl := Option.some.inj H
                                        go_wp2_with (first | ((with_reducible refine gate_dst (N := 95) rfl ?_); (try (refine gate_guard (by rfl) ?_; dsimp only)); refine Kd.R_lit (Kd.int .u8) _ 5 ?hg (N := 95) ?hd (xs := ([] : List Int)) (inner := []) (ok := fun _ => True) (okp := fun _ => True) ?hr ?hp (fun _ hk => hk) trivial (Below.refl _ _) (Nat.le_refl _) (by simp) ?_; (case hd => rfl); (case hg => rfl); (case hr => first | (go_simp; done) | (go_simp; rfl)); (case hp => exact (Reps.none _ _)); intro v391 w158 ho159 hb hg_ hnew_; clear hg_ hnew_; (first | rw [← Ny390.out] at ho159 | (simp only [Int.reduceToNat] at ho159; rw [← Ny390.out] at ho159)); have n0_ := Aside0.mk (Kd.R_elder' (ro HO_10) (Kd.R_base ho159) hb); have n1_ := Aside0.mk (Kd.R_lower (Kd.R_new' ho159 (Kd.R_lt (ro HO_10))) (below_size (bw HB))); have n2_ := bb BK364 hb; have n3_ := bs HB hb; clear HO_10; clear BK364; clear HB; have HO_10 := n0_; have HO392 := n1_; have BK364 := n2_; have HB := n3_; clear n0_ n1_ n2_ n3_; clear hb ho159; obtain ⟨Ao161, co161, eo161⟩ := Kd.R_slice HO_10.out; subst eo161; have q160 : (a3 : Int) ≤ ((t372.length : Int) : Int) := of_decide_eq_true (by first | (with_reducible assumption) | assumption); obtain ⟨i0160, hi0160, _, hsz160, _⟩ := info_parts info5; have hroom160 : t372.length ≤ co161 := (Kd.R_reads' HO_10.out).2.1; have hC160 : Kd.C (Kd.int .u8) _ Ao161 t372.length t372 := (Kd.R_reads' HO_10.out).2.2; have hcut160 := cut_to (P := Tryd.prog) 33 5 .i64 Tryd.underlying33 hi0160 Ao161 t372.length co161 a3 (of_decide_eq_true (by first | (with_reducible assumption) | assumption)) q160 hroom160; have hr160 := Kd.C_take (m := (a3 : Int).toNat) hC160 (by omega); have hy160 : y393.length = (a3 : Int).toNat := (by rw [Ny393.out, List.length_take]; omega); rw [← Ny393.out] at hr160; rw [← hy160] at hcut160; have HR396 := Aside0.mk hr160; have HC396 := Aside0.mk (show y393.length ≤ co161 from by omega); clear hr160 hC160 hroom160 hi0160 hsz160; have KY160 := Aside0.mk hy160; clear hy160; have KL160 := Aside0.mk (show (a3 : Int).toNat ≤ t372.length from by omega); replace q160 := eq_true q160) | ((with_reducible refine gate_builtin (b := .append) (xs := #[.tmp 95, .tmp 98]) rfl ?_); (try (refine gate_guard (by rfl) ?_; dsimp only)); at_builtin; refine Kd.R_append_rows (Kd.int .u8) (w0 := w) w.heap.size rfl (.tmp 95) (.tmp 98) 33 5 (.int .u8 0) 1 rfl Tryd.underlying33 info5 rfl (by decide) (by omega) v391 y390 y393 _ _ _ (fun k_ => some k_ ≠ (.slice Ao161 t372.length co161 : Value).ownBlock) (fun _ => False) rfl rfl ?aO ?aR (fun _ _ h => h) (fun _ h => h.elim) ?aF ?aB ?aS ?aL ?_; (case aR => repeat (first | exact (by repeat (first | (with_reducible exact HR396.out) | (with_reducible refine Kd.C_alloc ?_ _) | (with_reducible refine Kd.C_drewN ?_ _) | (with_reducible refine Kd.C_drew ?_) | exact HR396.out)) | (with_reducible refine Kd.C_alloc ?_ _) | (with_reducible refine Kd.C_drewN ?_ _) | (with_reducible refine Kd.C_drew ?_))); (case aB => exact (bw HB)); (case aF => exact (fun k_ hk => Kd.fresh' (Kd.R_lt (ro HO_10)) k_ hk)); (case aO => exact (by (with_reducible repeat (first | apply Kd.R_alloc | apply Kd.R_drewN | apply Kd.R_drew)); exact Kd.R_mono HO392.out (fun _ hk => hk.2))); (case aS => exact (below_size (bw HB))); (case aL => have := LMc139.out; omega); intro v398 w162 ho hb hg hat; rw [← Ny397.out] at ho; have n0_ := Aside0.mk (Kd.R_after (ok := (fun _ => True)) (ro HO_10) hg hat); have n1_ := Aside0.mk (blk_grown (g := gb364) (o := .cells #[.int .u64 a0_0, .int .u64 a0_1, .slice A0_2 l0_2.length c0_2] 51 (0, 0)) (bk BK364) hg (Kd.R_ne HO392.out BK364.out (by decide))); have n2_ := Aside0.mk (hb); have n3_ := Aside0.mk ((show Kd.C (Kd.int .u8) w162 Ao161 y393.length y393 from by rw [Ny393.out]; exact Kd.C_take (m := (a3 : Int).toNat) ((Kd.R_reads' (Kd.R_after (ok := (fun _ => True)) (ro HO_10) hg hat)).2.2) KL160.out)); have n4_ := Aside0.mk (ho); clear HO_10; clear BK364; clear HB; clear HR396; clear HO392; have HO_10 := n0_; have BK364 := n1_; have HB := n2_; have HR396 := n3_; have HO399 := n4_; clear n0_ n1_ n2_ n3_ n4_; clear ho hb hg hat; obtain ⟨Ao163, co163, eo163⟩ := Kd.R_slice HO399.out; subst eo163) | ((with_reducible refine gate_callee (f := 27) rfl ?_); refine gl (some 100) Tryd.func27 #[.slice Ao163 y397.length co163] ?_; (with_reducible refine (image_Decode.calls _ _ y397 t400 t401 t402 t405 _ ?side3 ?side1 ?side2 A140.out).mono ?_); (case side1 => exact co (Kd.R_reads' HO399.out).2.2); (case side2 => exact (Kd.R_reads' HO399.out).2.1); (case side3 => exact (HERR.out.below (bw HB))); rintro e w164 ⟨v403, rfl, ho0, hb⟩; refine ⟨_, rfl, ?_⟩; have n0_ := Aside0.mk (Kd.R_below (ro HO_10) hb); have n1_ := Aside0.mk (Kd.R_below (ro HO399) hb); have n2_ := Aside0.mk (Kd.R_lower ho0 (below_size (bw HB))); have n3_ := bb BK364 hb; have n4_ := Aside0.mk (Kd.C_below (by repeat (first | (with_reducible exact HR396.out) | (with_reducible refine Kd.C_alloc ?_ _) | (with_reducible refine Kd.C_drewN ?_ _) | (with_reducible refine Kd.C_drew ?_) | exact HR396.out)) hb); have n5_ := bs HB hb; clear HO_10; clear HO399; clear BK364; clear HR396; clear HB; have HO_10 := n0_; have HO399 := n1_; have HO404 := n2_; have BK364 := n3_; have HR396 := n4_; have HB := n5_; clear n0_ n1_ n2_ n3_ n4_ n5_; (try clear hb); (try clear hb2); (try clear hk); (try clear hi); (try clear ho0)) | ((with_reducible refine gate_dst (N := 15) rfl ?_); (try (refine gate_guard (by rfl) ?_; dsimp only)); refine bx 15 #[.int .u64 0, .int .u64 0, .slice none 0 0] 51 ?_; intro gb406 hg w165 hbox hb; have n0_ := Aside0.mk (Kd.R_below (ro HO_10) hb); have n1_ := Aside0.mk (Kd.R_below (ro HO399) hb); have n2_ := Aside0.mk (Kd.R_below (ro HO404) hb); have n3_ := bb BK364 hb; have n4_ := Aside0.mk (Kd.C_below (by repeat (first | (with_reducible exact HR396.out) | (with_reducible refine Kd.C_alloc ?_ _) | (with_reducible refine Kd.C_drewN ?_ _) | (with_reducible refine Kd.C_drew ?_) | exact HR396.out)) hb); have n5_ := bs HB hb; have n6_ := Aside0.mk (hbox); have n7_ := sz HB hg; have n8_ := sz HB hg; have n9_ := nl BK364 hg; have n10_ := nr BK364 hg; clear HO_10; clear HO399; clear HO404; clear BK364; clear HR396; clear HB; have HO_10 := n0_; have HO399 := n1_; have HO404 := n2_; have BK364 := n3_; have HR396 := n4_; have HB := n5_; have BK406 := n6_; have GW406 := n7_; have GE406 := n8_; have NB364_406 := n9_; have NB406_364 := n10_; clear n0_ n1_ n2_ n3_ n4_ n5_ n6_ n7_ n8_ n9_ n10_; clear hb hbox hg; have hnb166 := NB406_364.out; have hnc166 := NB364_406.out; obtain ⟨hcz167_0, hcz167_1, hcz167_2, hfz167_0, hfz167_1, hfz167_2⟩ := bc3 BK406; obtain ⟨Ao168, co168, eo168⟩ := Kd.R_slice HO404.out; subst eo168) | ((with_reducible refine gate_callee (f := 29) rfl ?_); refine gl (some 104) Tryd.func29 #[.agg #[.int .u64 t400, .int .u64 t401, .slice Ao168 t402.length co168]] ?_; (with_reducible refine (turnstilelaw14_empty.calls kj132 t400 t401 _ _ t402 true _ ?side1 ?side2 A141.out).mono ?_); (case side1 => refine (Kd.R_reads' (e := 79) (base := w.heap.size) (ok := fun k_ => True) (n := t402.length) (c := co168) ?_).2.2; exact (by (with_reducible repeat (first | apply Kd.R_alloc | apply Kd.R_drewN | apply Kd.R_drew)); exact (Kd.R_mono (Kd.R_far (p := ⟨gb406, 2, none⟩) (Kd.R_far (p := ⟨gb406, 1, none⟩) (Kd.R_far (p := ⟨gb406, 0, none⟩) (Kd.R_types HO404.out BK406.out (by decide)) (fun _ hk => hk.2) (.int .u64 t400)) (fun _ hk => hk.2) (.int .u64 t401)) (fun _ hk => hk.2) (.slice Ao168 t402.length co168)) (fun _ h_ => h_.1)))); (case side2 => exact (Kd.R_reads' HO404.out).2.1); rintro e w169 ⟨rfl, hb⟩; refine ⟨_, rfl, ?_⟩; have n0_ := Aside0.mk (Kd.R_below (by (with_reducible repeat (first | apply Kd.R_alloc | apply Kd.R_drewN | apply Kd.R_drew)); exact (Kd.R_mono (Kd.R_far (p := ⟨gb406, 2, none⟩) (Kd.R_far (p := ⟨gb406, 1, none⟩) (Kd.R_far (p := ⟨gb406, 0, none⟩) (Kd.R_types HO_10.out BK406.out (by decide)) (fun _ hk => hk.2) (.int .u64 t400)) (fun _ hk => hk.2) (.int .u64 t401)) (fun _ hk => hk.2) (.slice Ao168 t402.length co168)) (fun _ h_ => h_.1))) hb); have n1_ := Aside0.mk (Kd.R_below (by (with_reducible repeat (first | apply Kd.R_alloc | apply Kd.R_drewN | apply Kd.R_drew)); exact (Kd.R_mono (Kd.R_far (p := ⟨gb406, 2, none⟩) (Kd.R_far (p := ⟨gb406, 1, none⟩) (Kd.R_far (p := ⟨gb406, 0, none⟩) (Kd.R_types HO399.out BK406.out (by decide)) (fun _ hk => hk.2) (.int .u64 t400)) (fun _ hk => hk.2) (.int .u64 t401)) (fun _ hk => hk.2) (.slice Ao168 t402.length co168)) (fun _ h_ => h_.1))) hb); have n2_ := Aside0.mk (Kd.R_below (by (with_reducible repeat (first | apply Kd.R_alloc | apply Kd.R_drewN | apply Kd.R_drew)); exact (Kd.R_mono (Kd.R_far (p := ⟨gb406, 2, none⟩) (Kd.R_far (p := ⟨gb406, 1, none⟩) (Kd.R_far (p := ⟨gb406, 0, none⟩) (Kd.R_types HO404.out BK406.out (by decide)) (fun _ hk => hk.2) (.int .u64 t400)) (fun _ hk => hk.2) (.int .u64 t401)) (fun _ hk => hk.2) (.slice Ao168 t402.length co168)) (fun _ h_ => h_.1))) hb); have n3_ := bb BK364 hb; have n4_ := bbp (.cells #[.int .u64 t400, .int .u64 t401, .slice Ao168 t402.length co168] 51 (0, 0)) BK406 hb; have n5_ := bs HB hb; clear HO_10; clear HO399; clear HO404; clear BK364; clear BK406; clear HB; have HO_10 := n0_; have HO399 := n1_; have HO404 := n2_; have BK364 := n3_; have BK406 := n4_; have HB := n5_; clear n0_ n1_ n2_ n3_ n4_ n5_; (try clear hb); (try clear hb2); (try clear hk); (try clear hi)) | ((with_reducible refine gate_dst (N := 107) rfl ?_); (try (refine gate_guard (by rfl) ?_; dsimp only)); refine nen_err t405 (b := (t405 != 0)) ?_ rfl (of_decide_eq_true (by first | (with_reducible assumption) | assumption))))
                                        go_ret
                                        exact ⟨re, bw HB⟩
                                      · rw [if_neg c157] at H
                                        have c157b0 : decide (28 ≤ a3) = false := decide_eq_false c157
                                        clear c157
                                        have c170b0 := eq_true (of_decide_eq_true (by first | (with_reducible assumption) | assumption) : 0 ≤ t405)
                                        by_cases c171 : t405 ≤ 6
                                        · rw [if_pos c171] at H
                                          have c171b0 := eq_true c171
                                          have c171b1 : decide (t405 ≤ 6) = true := decide_eq_true c171
                                          clear c171
                                          obtain rfl := Option.some.inj H
                                          go_wp2_with (first | ((with_reducible refine gate_dst (N := 95) rfl ?_); (try (refine gate_guard (by rfl) ?_; dsimp only)); refine Kd.R_lit (Kd.int .u8) _ 5 ?hg (N := 95) ?hd (xs := ([] : List Int)) (inner := []) (ok := fun _ => True) (okp := fun _ => True) ?hr ?hp (fun _ hk => hk) trivial (Below.refl _ _) (Nat.le_refl _) (by simp) ?_; (case hd => rfl); (case hg => rfl); (case hr => first | (go_simp; done) | (go_simp; rfl)); (case hp => exact (Reps.none _ _)); intro v391 w172 ho173 hb hg_ hnew_; clear hg_ hnew_; (first | rw [← Ny390.out] at ho173 | (simp only [Int.reduceToNat] at ho173; rw [← Ny390.out] at ho173)); have n0_ := Aside0.mk (Kd.R_elder' (ro HO_10) (Kd.R_base ho173) hb); have n1_ := Aside0.mk (Kd.R_lower (Kd.R_new' ho173 (Kd.R_lt (ro HO_10))) (below_size (bw HB))); have n2_ := bb BK364 hb; have n3_ := bs HB hb; clear HO_10; clear BK364; clear HB; have HO_10 := n0_; have HO392 := n1_; have BK364 := n2_; have HB := n3_; clear n0_ n1_ n2_ n3_; clear hb ho173; obtain ⟨Ao175, co175, eo175⟩ := Kd.R_slice HO_10.out; subst eo175; have q174 : (a3 : Int) ≤ ((t372.length : Int) : Int) := of_decide_eq_true (by first | (with_reducible assumption) | assumption); obtain ⟨i0174, hi0174, _, hsz174, _⟩ := info_parts info5; have hroom174 : t372.length ≤ co175 := (Kd.R_reads' HO_10.out).2.1; have hC174 : Kd.C (Kd.int .u8) _ Ao175 t372.length t372 := (Kd.R_reads' HO_10.out).2.2; have hcut174 := cut_to (P := Tryd.prog) 33 5 .i64 Tryd.underlying33 hi0174 Ao175 t372.length co175 a3 (of_decide_eq_true (by first | (with_reducible assumption) | assumption)) q174 hroom174; have hr174 := Kd.C_take (m := (a3 : Int).toNat) hC174 (by omega); have hy174 : y393.length = (a3 : Int).toNat := (by rw [Ny393.out, List.length_take]; omega); rw [← Ny393.out] at hr174; rw [← hy174] at hcut174; have HR396 := Aside0.mk hr174; have HC396 := Aside0.mk (show y393.length ≤ co175 from by omega); clear hr174 hC174 hroom174 hi0174 hsz174; have KY174 := Aside0.mk hy174; clear hy174; have KL174 := Aside0.mk (show (a3 : Int).toNat ≤ t372.length from by omega); replace q174 := eq_true q174) | ((with_reducible refine gate_builtin (b := .append) (xs := #[.tmp 95, .tmp 98]) rfl ?_); (try (refine gate_guard (by rfl) ?_; dsimp only)); at_builtin; refine Kd.R_append_rows (Kd.int .u8) (w0 := w) w.heap.size rfl (.tmp 95) (.tmp 98) 33 5 (.int .u8 0) 1 rfl Tryd.underlying33 info5 rfl (by decide) (by omega) v391 y390 y393 _ _ _ (fun k_ => some k_ ≠ (.slice Ao175 t372.length co175 : Value).ownBlock) (fun _ => False) rfl rfl ?aO ?aR (fun _ _ h => h) (fun _ h => h.elim) ?aF ?aB ?aS ?aL ?_; (case aR => repeat (first | exact (by repeat (first | (with_reducible exact HR396.out) | (with_reducible refine Kd.C_alloc ?_ _) | (with_reducible refine Kd.C_drewN ?_ _) | (with_reducible refine Kd.C_drew ?_) | exact HR396.out)) | (with_reducible refine Kd.C_alloc ?_ _) | (with_reducible refine Kd.C_drewN ?_ _) | (with_reducible refine Kd.C_drew ?_))); (case aB => exact (bw HB)); (case aF => exact (fun k_ hk => Kd.fresh' (Kd.R_lt (ro HO_10)) k_ hk)); (case aO => exact (by (with_reducible repeat (first | apply Kd.R_alloc | apply Kd.R_drewN | apply Kd.R_drew)); exact Kd.R_mono HO392.out (fun _ hk => hk.2))); (case aS => exact (below_size (bw HB))); (case aL => have := LMc139.out; omega); intro v398 w176 ho hb hg hat; rw [← Ny397.out] at ho; have n0_ := Aside0.mk (Kd.R_after (ok := (fun _ => True)) (ro HO_10) hg hat); have n1_ := Aside0.mk (blk_grown (g := gb364) (o := .cells #[.int .u64 a0_0, .int .u64 a0_1, .slice A0_2 l0_2.length c0_2] 51 (0, 0)) (bk BK364) hg (Kd.R_ne HO392.out BK364.out (by decide))); have n2_ := Aside0.mk (hb); have n3_ := Aside0.mk ((show Kd.C (Kd.int .u8) w176 Ao175 y393.length y393 from by rw [Ny393.out]; exact Kd.C_take (m := (a3 : Int).toNat) ((Kd.R_reads' (Kd.R_after (ok := (fun _ => True)) (ro HO_10) hg hat)).2.2) KL174.out)); have n4_ := Aside0.mk (ho); clear HO_10; clear BK364; clear HB; clear HR396; clear HO392; have HO_10 := n0_; have BK364 := n1_; have HB := n2_; have HR396 := n3_; have HO399 := n4_; clear n0_ n1_ n2_ n3_ n4_; clear ho hb hg hat; obtain ⟨Ao177, co177, eo177⟩ := Kd.R_slice HO399.out; subst eo177) | ((with_reducible refine gate_callee (f := 27) rfl ?_); refine gl (some 100) Tryd.func27 #[.slice Ao177 y397.length co177] ?_; (with_reducible refine (image_Decode.calls _ _ y397 t400 t401 t402 t405 _ ?side3 ?side1 ?side2 A140.out).mono ?_); (case side1 => exact co (Kd.R_reads' HO399.out).2.2); (case side2 => exact (Kd.R_reads' HO399.out).2.1); (case side3 => exact (HERR.out.below (bw HB))); rintro e w178 ⟨v403, rfl, ho0, hb⟩; refine ⟨_, rfl, ?_⟩; have n0_ := Aside0.mk (Kd.R_below (ro HO_10) hb); have n1_ := Aside0.mk (Kd.R_below (ro HO399) hb); have n2_ := Aside0.mk (Kd.R_lower ho0 (below_size (bw HB))); have n3_ := bb BK364 hb; have n4_ := Aside0.mk (Kd.C_below (by repeat (first | (with_reducible exact HR396.out) | (with_reducible refine Kd.C_alloc ?_ _) | (with_reducible refine Kd.C_drewN ?_ _) | (with_reducible refine Kd.C_drew ?_) | exact HR396.out)) hb); have n5_ := bs HB hb; clear HO_10; clear HO399; clear BK364; clear HR396; clear HB; have HO_10 := n0_; have HO399 := n1_; have HO404 := n2_; have BK364 := n3_; have HR396 := n4_; have HB := n5_; clear n0_ n1_ n2_ n3_ n4_ n5_; (try clear hb); (try clear hb2); (try clear hk); (try clear hi); (try clear ho0)) | ((with_reducible refine gate_dst (N := 15) rfl ?_); (try (refine gate_guard (by rfl) ?_; dsimp only)); refine bx 15 #[.int .u64 0, .int .u64 0, .slice none 0 0] 51 ?_; intro gb406 hg w179 hbox hb; have n0_ := Aside0.mk (Kd.R_below (ro HO_10) hb); have n1_ := Aside0.mk (Kd.R_below (ro HO399) hb); have n2_ := Aside0.mk (Kd.R_below (ro HO404) hb); have n3_ := bb BK364 hb; have n4_ := Aside0.mk (Kd.C_below (by repeat (first | (with_reducible exact HR396.out) | (with_reducible refine Kd.C_alloc ?_ _) | (with_reducible refine Kd.C_drewN ?_ _) | (with_reducible refine Kd.C_drew ?_) | exact HR396.out)) hb); have n5_ := bs HB hb; have n6_ := Aside0.mk (hbox); have n7_ := sz HB hg; have n8_ := sz HB hg; have n9_ := nl BK364 hg; have n10_ := nr BK364 hg; clear HO_10; clear HO399; clear HO404; clear BK364; clear HR396; clear HB; have HO_10 := n0_; have HO399 := n1_; have HO404 := n2_; have BK364 := n3_; have HR396 := n4_; have HB := n5_; have BK406 := n6_; have GW406 := n7_; have GE406 := n8_; have NB364_406 := n9_; have NB406_364 := n10_; clear n0_ n1_ n2_ n3_ n4_ n5_ n6_ n7_ n8_ n9_ n10_; clear hb hbox hg; have hnb180 := NB406_364.out; have hnc180 := NB364_406.out; obtain ⟨hcz181_0, hcz181_1, hcz181_2, hfz181_0, hfz181_1, hfz181_2⟩ := bc3 BK406; obtain ⟨Ao182, co182, eo182⟩ := Kd.R_slice HO404.out; subst eo182) | ((with_reducible refine gate_callee (f := 29) rfl ?_); refine gl (some 104) Tryd.func29 #[.agg #[.int .u64 t400, .int .u64 t401, .slice Ao182 t402.length co182]] ?_; (with_reducible refine (turnstilelaw14_empty.calls kj132 t400 t401 _ _ t402 true _ ?side1 ?side2 A141.out).mono ?_); (case side1 => refine (Kd.R_reads' (e := 79) (base := w.heap.size) (ok := fun k_ => True) (n := t402.length) (c := co182) ?_).2.2; exact (by (with_reducible repeat (first | apply Kd.R_alloc | apply Kd.R_drewN | apply Kd.R_drew)); exact (Kd.R_mono (Kd.R_far (p := ⟨gb406, 2, none⟩) (Kd.R_far (p := ⟨gb406, 1, none⟩) (Kd.R_far (p := ⟨gb406, 0, none⟩) (Kd.R_types HO404.out BK406.out (by decide)) (fun _ hk => hk.2) (.int .u64 t400)) (fun _ hk => hk.2) (.int .u64 t401)) (fun _ hk => hk.2) (.slice Ao182 t402.length co182)) (fun _ h_ => h_.1)))); (case side2 => exact (Kd.R_reads' HO404.out).2.1); rintro e w183 ⟨rfl, hb⟩; refine ⟨_, rfl, ?_⟩; have n0_ := Aside0.mk (Kd.R_below (by (with_reducible repeat (first | apply Kd.R_alloc | apply Kd.R_drewN | apply Kd.R_drew)); exact (Kd.R_mono (Kd.R_far (p := ⟨gb406, 2, none⟩) (Kd.R_far (p := ⟨gb406, 1, none⟩) (Kd.R_far (p := ⟨gb406, 0, none⟩) (Kd.R_types HO_10.out BK406.out (by decide)) (fun _ hk => hk.2) (.int .u64 t400)) (fun _ hk => hk.2) (.int .u64 t401)) (fun _ hk => hk.2) (.slice Ao182 t402.length co182)) (fun _ h_ => h_.1))) hb); have n1_ := Aside0.mk (Kd.R_below (by (with_reducible repeat (first | apply Kd.R_alloc | apply Kd.R_drewN | apply Kd.R_drew)); exact (Kd.R_mono (Kd.R_far (p := ⟨gb406, 2, none⟩) (Kd.R_far (p := ⟨gb406, 1, none⟩) (Kd.R_far (p := ⟨gb406, 0, none⟩) (Kd.R_types HO399.out BK406.out (by decide)) (fun _ hk => hk.2) (.int .u64 t400)) (fun _ hk => hk.2) (.int .u64 t401)) (fun _ hk => hk.2) (.slice Ao182 t402.length co182)) (fun _ h_ => h_.1))) hb); have n2_ := Aside0.mk (Kd.R_below (by (with_reducible repeat (first | apply Kd.R_alloc | apply Kd.R_drewN | apply Kd.R_drew)); exact (Kd.R_mono (Kd.R_far (p := ⟨gb406, 2, none⟩) (Kd.R_far (p := ⟨gb406, 1, none⟩) (Kd.R_far (p := ⟨gb406, 0, none⟩) (Kd.R_types HO404.out BK406.out (by decide)) (fun _ hk => hk.2) (.int .u64 t400)) (fun _ hk => hk.2) (.int .u64 t401)) (fun _ hk => hk.2) (.slice Ao182 t402.length co182)) (fun _ h_ => h_.1))) hb); have n3_ := bb BK364 hb; have n4_ := bbp (.cells #[.int .u64 t400, .int .u64 t401, .slice Ao182 t402.length co182] 51 (0, 0)) BK406 hb; have n5_ := bs HB hb; clear HO_10; clear HO399; clear HO404; clear BK364; clear BK406; clear HB; have HO_10 := n0_; have HO399 := n1_; have HO404 := n2_; have BK364 := n3_; have BK406 := n4_; have HB := n5_; clear n0_ n1_ n2_ n3_ n4_ n5_; (try clear hb); (try clear hb2); (try clear hk); (try clear hi)) | ((with_reducible refine gate_dst (N := 107) rfl ?_); (try (refine gate_guard (by rfl) ?_; dsimp only)); refine nen_err t405 (b := (t405 != 0)) ?_ rfl (of_decide_eq_true (by first | (with_reducible assumption) | assumption))) | ((with_reducible refine gate_dst (N := 114) rfl ?_); (try (refine gate_guard (by rfl) ?_; dsimp only)); refine ld_err 2 1 (HERR.out.below (bw HB)) ?_ rfl rfl (by decide) (by have := Errs.five; omega) rfl) | ((with_reducible refine gate_dst (N := 115) rfl ?_); (try (refine gate_guard (by rfl) ?_; dsimp only)); refine eq_err t405 2 (b := (t405 == 2)) (HERR.out.below (bw HB)) ?_ rfl (of_decide_eq_true (by first | (with_reducible assumption) | assumption)) (Int.le_trans (of_decide_eq_true (by first | (with_reducible assumption) | assumption) : t405 ≤ 6) Errs.five) (by decide) (by have := Errs.five; omega)))
                                          go_ret
                                          exact ⟨re, bw HB⟩
                                        · rw [if_neg c171] at H
                                          exact absurd H (by simp)
                                  · rw [if_neg c143] at H
                                    exact absurd H (by simp)
                                · replace c142 := Bool.eq_false_iff.mpr c142
                                  subst c142
                                  have H1 : (some false) = some r := by rw [if_neg (show ¬ (false = true) by decide)] at H; exact H
                                  rw [HR_.out] at H1
                                  exact absurd H1 (by simp)
                              · rw [if_neg c139] at H
                                exact absurd H (by simp)
                            · rw [if_neg c138] at H
                              exact absurd H (by simp)
                          · rw [if_neg c137] at H
                            exact absurd H (by simp)
          · rw [if_neg c17] at H
            have c17b0 : (t375 == 0) = false := beq_eq_false_iff_ne.mpr c17
            have c17b1 : (t375 != 0) = true := bne_iff_ne.mpr c17
            have c196b0 := eq_true (of_decide_eq_true (by first | (with_reducible assumption) | assumption) : 0 ≤ t375)
            by_cases c197 : t375 ≤ 6
            · rw [if_pos c197] at H
              have c197b0 := eq_true c197
              have c197b1 : decide (t375 ≤ 6) = true := decide_eq_true c197
              clear c197
              obtain rfl := Option.some.inj H
              obtain ⟨hcz198_0, hcz198_1, hcz198_2, hfz198_0, hfz198_1, hfz198_2⟩ := bc3 BK364
              go_wp2_with (first | ((with_reducible refine gate_callee (f := 25) rfl ?_); refine gl (some 27) Tryd.func25 #[.agg #[.int .u64 a0_0, .int .u64 a0_1, .slice A0_2 l0_2.length c0_2]] ?_; (with_reducible refine (turnstilelaw14_copied.calls a0_0 a0_1 _ _ l0_2 t367 t368 t369 _ ?side1 ?side2 A14.out).mono ?_); (case side1 => exact co (Kd.C_below HR0_2.out HB.out)); (case side2 => exact HC0_2.out); rintro e w199 ⟨v370, rfl, ho0, hb⟩; refine ⟨_, rfl, ?_⟩; have n0_ := Aside0.mk (Kd.R_lower ho0 (below_size (bw HB))); have n1_ := bb BK364 hb; have n2_ := bs HB hb; clear BK364; clear HB; have HO371 := n0_; have BK364 := n1_; have HB := n2_; clear n0_ n1_ n2_; (try clear hb); (try clear hb2); (try clear hk); (try clear hi); (try clear ho0); obtain ⟨Ao200, co200, eo200⟩ := Kd.R_slice HO371.out; subst eo200) | ((with_reducible refine gate_callee (f := 24) rfl ?_); refine gl (some 28) Tryd.func24 #[.agg #[.int .u64 t367, .int .u64 t368, .slice Ao200 t369.length co200]] ?_; (with_reducible refine (image_Encode.calls kj5 t367 t368 _ _ t369 t372 t375 _ ?side3 ?side1 ?side2 A15.out).mono ?_); (case side1 => exact co (Kd.R_reads' HO371.out).2.2); (case side2 => exact (Kd.R_reads' HO371.out).2.1); (case side3 => exact (HERR.out.below (bw HB))); rintro e w201 ⟨v373, rfl, ho0, hb⟩; refine ⟨_, rfl, ?_⟩; have n0_ := Aside0.mk (Kd.R_below (ro HO371) hb); have n1_ := Aside0.mk (Kd.R_lower ho0 (below_size (bw HB))); have n2_ := bb BK364 hb; have n3_ := bs HB hb; clear HO371; clear BK364; clear HB; have HO371 := n0_; have HO374 := n1_; have BK364 := n2_; have HB := n3_; clear n0_ n1_ n2_ n3_; (try clear hb); (try clear hb2); (try clear hk); (try clear hi); (try clear ho0)) | ((with_reducible refine gate_dst (N := 32) rfl ?_); (try (refine gate_guard (by rfl) ?_; dsimp only)); refine nen_err t375 (b := (t375 != 0)) ?_ rfl (of_decide_eq_true (by first | (with_reducible assumption) | assumption))) | ((with_reducible refine gate_dst (N := 34) rfl ?_); (try (refine gate_guard (by rfl) ?_; dsimp only)); refine ld_err 1 0 (HERR.out.below (bw HB)) ?_ rfl rfl (by decide) (by have := Errs.five; omega) rfl) | ((with_reducible refine gate_dst (N := 35) rfl ?_); (try (refine gate_guard (by rfl) ?_; dsimp only)); refine eq_err t375 1 (b := (t375 == 1)) (HERR.out.below (bw HB)) ?_ rfl (of_decide_eq_true (by first | (with_reducible assumption) | assumption)) (Int.le_trans (of_decide_eq_true (by first | (with_reducible assumption) | assumption) : t375 ≤ 6) Errs.five) (by decide) (by have := Errs.five; omega)))
              go_ret
              exact ⟨re, bw HB⟩
            · rw [if_neg c197] at H
              exact absurd H (by simp)
        · rw [if_neg c16] at H
          exact absurd H (by simp)


end Go.Proofs.YtkgjepmminmjjaaDoor.E
