/- Written by the session's own program hyb.py: what functions of the program compute; Lean checks it. -/
import Derived.Test.YtkgjepmminmjjaaDoorEx0
import Derived.Test.YtkgjepmminmjjaaDoorEx2
namespace Go.Proofs.YtkgjepmminmjjaaDoor.E
open Go.RowKit Go.Proofs.YtkgjepmminmjjaaDoorW.PrintWords Go.Proofs.YtkgjepmminmjjaaDoorW.PrintLast Go.Proofs.YtkgjepmminmjjaaDoorW.PrintMore Go.Proofs.YtkgjepmminmjjaaDoorW.PrintShort
attribute [local go_sem] run_Add64 run_Sub64
attribute [local go_sem] max2_int min2_int max_two min_two max_three min_three max_four min_four   -- for this text's walks alone
set_option linter.unusedVariables false
set_option linter.unusedSimpArgs false

attribute [local go_sem high] eqA79
/-! ### turnstilelaw14_alike: function 28 -/
mutual
def turnstilelaw14_alike.j0 : Nat → Bool → Int → Int → List (S79) → Int → Int → List (S79) → Option (Bool)
  | 0, _, _, _, _, _, _, _ => none
  | k + 1, x26, x329000, x329001, x329002, x330000, x330001, x330002 => if x26 = true then (some false) else (turnstilelaw14_alike.l0 k 0 x329000 x329001 x329002 x330000 x330001 x330002)
def turnstilelaw14_alike.l0 : Nat → Int → Int → Int → List (S79) → Int → Int → List (S79) → Option (Bool)
  | 0, _, _, _, _, _, _, _ => none
  | k + 1, x5, x329000, x329001, x329002, x330000, x330001, x330002 => if x5 < (x329002.length : Int) then (if 0 ≤ x5 then (if x5 < (x330002.length : Int) then (if (!((((rd_T79 x329002 x5).f0).toList) == (((rd_T79 x330002 x5).f0).toList)) || ((!(((rd_T79 x329002 x5).f1.f0) == ((rd_T79 x330002 x5).f1.f0)) || (!(((rd_T79 x329002 x5).f1.f1) == ((rd_T79 x330002 x5).f1.f1)) || (!(((rd_T79 x329002 x5).f1.f2) == ((rd_T79 x330002 x5).f1.f2)) || (!(((rd_T79 x329002 x5).f1.f3) == ((rd_T79 x330002 x5).f1.f3)) || (!(((rd_T79 x329002 x5).f1.f4) == ((rd_T79 x330002 x5).f1.f4))))))) || ((!(((rd_T79 x329002 x5).f2.f0) == ((rd_T79 x330002 x5).f2.f0)) || (!(((rd_T79 x329002 x5).f2.f1) == ((rd_T79 x330002 x5).f2.f1)) || (!(((rd_T79 x329002 x5).f2.f2) == ((rd_T79 x330002 x5).f2.f2)))))))) = true then (some false) else (turnstilelaw14_alike.l0 k (wrap64 (x5 + 1)) x329000 x329001 x329002 x330000 x330001 x330002)) else (none)) else (none)) else (some true)
end
def turnstilelaw14_alike.f (k : Nat) (a0_0 : Int) (a0_1 : Int) (l0_2 : List (S79)) (a1_0 : Int) (a1_1 : Int) (l1_2 : List (S79)) : Option (Bool) := if a0_0 = a1_0 then (if a0_1 = a1_1 then (turnstilelaw14_alike.j0 k ((l0_2.length : Int) != (l1_2.length : Int)) a0_0 a0_1 l0_2 a1_0 a1_1 l1_2) else (turnstilelaw14_alike.j0 k true a0_0 a0_1 l0_2 a1_0 a1_1 l1_2)) else (turnstilelaw14_alike.j0 k true a0_0 a0_1 l0_2 a1_0 a1_1 l1_2)
set_option maxHeartbeats 8000000 in
set_option maxRecDepth 100000 in
theorem turnstilelaw14_alike.calls (k : Nat) (a0_0 : Int) (a0_1 : Int) (A0_2 : Option Addr) (c0_2 : Nat) (l0_2 : List (S79)) (a1_0 : Int) (a1_1 : Int) (A1_2 : Option Addr) (c1_2 : Nat) (l1_2 : List (S79)) (r : Bool) (w : World) (hr0_2 : Kd.C k79 w A0_2 l0_2.length l0_2) (hc0_2 : l0_2.length ≤ c0_2) (hr1_2 : Kd.C k79 w A1_2 l1_2.length l1_2) (hc1_2 : l1_2.length ≤ c1_2) (h : turnstilelaw14_alike.f k a0_0 a0_1 l0_2 a1_0 a1_1 l1_2 = some r) :
 Calls Tryd.prog 28 #[.agg #[.int .u64 a0_0, .int .u64 a0_1, .slice A0_2 l0_2.length c0_2], .agg #[.int .u64 a1_0, .int .u64 a1_1, .slice A1_2 l1_2.length c1_2]] w fun e w' => e = .returned (.bool r) ∧ Below w.heap.size w w' := by
 have hu51 := Tryd.underlying51; have hu79 := Tryd.underlying79; have HR0_2 := Aside0.mk hr0_2; have HC0_2 := Aside0.mk hc0_2; clear hr0_2 hc0_2; have HR1_2 := Aside0.mk hr1_2; have HC1_2 := Aside0.mk hc1_2; clear hr1_2 hc1_2; have HB := Aside0.mk (Below.refl w.heap.size w)
 have H : (if a0_0 = a1_0 then (if a0_1 = a1_1 then (turnstilelaw14_alike.j0 k ((l0_2.length : Int) != (l1_2.length : Int)) a0_0 a0_1 l0_2 a1_0 a1_1 l1_2) else (turnstilelaw14_alike.j0 k true a0_0 a0_1 l0_2 a1_0 a1_1 l1_2)) else (turnstilelaw14_alike.j0 k true a0_0 a0_1 l0_2 a1_0 a1_1 l1_2)) = some r := h
 clear h; have HC3 := Aside0.mk H; clear H
 go_enter Tryd.func28, Tryd.ntmps28
 go_upto_region 1 with (first | ((with_reducible refine gate_dst (N := 2) rfl ?_); (try (refine gate_guard (by rfl) ?_; dsimp only)); refine bx 2 #[.int .u64 a0_0, .int .u64 a0_1, .slice A0_2 l0_2.length c0_2] 51 ?_; intro gb328 hg w4 hbox hb; have BK328 := Aside0.mk (hbox); have GW328 := sz HB hg; have GE328 := sz HB hg; replace HB := bs HB hb; clear hb hbox hg) | ((with_reducible refine gate_dst (N := 3) rfl ?_); (try (refine gate_guard (by rfl) ?_; dsimp only)); refine bx 3 #[.int .u64 a1_0, .int .u64 a1_1, .slice A1_2 l1_2.length c1_2] 51 ?_; intro gb329 hg w5 hbox hb; have BK329 := Aside0.mk (hbox); have GW329 := sz HB hg; have GE329 := sz HB hg; have NB328_329 := nl BK328 hg; have NB329_328 := nr BK328 hg; replace BK328 := bb BK328 hb; replace HB := bs HB hb; clear hb hbox hg))
 repeat (go_quiet (first | ((with_reducible refine gate_dst (N := 2) rfl ?_); (try (refine gate_guard (by rfl) ?_; dsimp only)); refine bx 2 #[.int .u64 a0_0, .int .u64 a0_1, .slice A0_2 l0_2.length c0_2] 51 ?_; intro gb328 hg w4 hbox hb; have BK328 := Aside0.mk (hbox); have GW328 := sz HB hg; have GE328 := sz HB hg; replace HB := bs HB hb; clear hb hbox hg) | ((with_reducible refine gate_dst (N := 3) rfl ?_); (try (refine gate_guard (by rfl) ?_; dsimp only)); refine bx 3 #[.int .u64 a1_0, .int .u64 a1_1, .slice A1_2 l1_2.length c1_2] 51 ?_; intro gb329 hg w5 hbox hb; have BK329 := Aside0.mk (hbox); have GW329 := sz HB hg; have GE329 := sz HB hg; have NB328_329 := nl BK328 hg; have NB329_328 := nr BK328 hg; replace BK328 := bb BK328 hb; replace HB := bs HB hb; clear hb hbox hg)); go_upto_region 1 with (first | ((with_reducible refine gate_dst (N := 2) rfl ?_); (try (refine gate_guard (by rfl) ?_; dsimp only)); refine bx 2 #[.int .u64 a0_0, .int .u64 a0_1, .slice A0_2 l0_2.length c0_2] 51 ?_; intro gb328 hg w4 hbox hb; have BK328 := Aside0.mk (hbox); have GW328 := sz HB hg; have GE328 := sz HB hg; replace HB := bs HB hb; clear hb hbox hg) | ((with_reducible refine gate_dst (N := 3) rfl ?_); (try (refine gate_guard (by rfl) ?_; dsimp only)); refine bx 3 #[.int .u64 a1_0, .int .u64 a1_1, .slice A1_2 l1_2.length c1_2] 51 ?_; intro gb329 hg w5 hbox hb; have BK329 := Aside0.mk (hbox); have GW329 := sz HB hg; have GE329 := sz HB hg; have NB328_329 := nl BK328 hg; have NB329_328 := nr BK328 hg; replace BK328 := bb BK328 hb; replace HB := bs HB hb; clear hb hbox hg)))
 (try simp only [Act.put, List.setIfInBounds_toArray, List.set_cons_zero, List.set_cons_succ])
 go_cut [26] (fun v26 wc => ∃ (kq : Nat) (x26_2 : Bool), v26 = .bool x26_2 ∧ Aside0 (turnstilelaw14_alike.j0 kq x26_2 a0_0 a0_1 l0_2 a1_0 a1_1 l1_2 = some r) ∧ Aside0 (kq ≤ k) ∧ Aside0 (wc.heap[gb328]? = some (.cells #[.int .u64 a0_0, .int .u64 a0_1, (.slice A0_2 l0_2.length c0_2)] 51 (0, 0))) ∧ Aside0 (wc.heap[gb329]? = some (.cells #[.int .u64 a1_0, .int .u64 a1_1, (.slice A1_2 l1_2.length c1_2)] 51 (0, 0))) ∧ Aside0 (Below w.heap.size w wc))
 case first =>
  have H := HC3.out; clear HC3
  by_cases c6 : a0_0 = a1_0
  · rw [if_pos c6] at H
    have c6b0 : (a0_0 == a1_0) = true := beq_iff_eq.mpr c6
    have c6b1 : (a0_0 != a1_0) = false := bne_eq_false_iff_eq.mpr c6
    clear c6
    (first | rw [c6b0] | (simp only [i64_w, i32_w]; rw [c6b0]) | skip)
    by_cases c7 : a0_1 = a1_1
    · rw [if_pos c7] at H
      have c7b0 : (a0_1 == a1_1) = true := beq_iff_eq.mpr c7
      have c7b1 : (a0_1 != a1_1) = false := bne_eq_false_iff_eq.mpr c7
      clear c7
      have H' := Aside0.mk H
      clear H; have hnb8 := NB328_329.out; have hnc8 := NB329_328.out
      obtain ⟨hcz9_0, hcz9_1, hcz9_2, hfz9_0, hfz9_1, hfz9_2⟩ := bc3 BK328
      obtain ⟨hcz10_0, hcz10_1, hcz10_2, hfz10_0, hfz10_1, hfz10_2⟩ := bc3 BK329
      go_wp2
      repeat (go_quiet (fail); try go_wp2)
      go_meet
      case rel => exact ⟨_, (((l0_2.length : Int) != (l1_2.length : Int))), rs, H', ⟨by first | omega | exact Nat.le_refl _⟩, ⟨bk BK328⟩, ⟨bk BK329⟩, ⟨bw HB⟩⟩
    · rw [if_neg c7] at H
      have c7b0 : (a0_1 == a1_1) = false := beq_eq_false_iff_ne.mpr c7
      have c7b1 : (a0_1 != a1_1) = true := bne_iff_ne.mpr c7
      have H' := Aside0.mk H
      clear H; have hnb11 := NB328_329.out; have hnc11 := NB329_328.out
      obtain ⟨hcz12_0, hcz12_1, hcz12_2, hfz12_0, hfz12_1, hfz12_2⟩ := bc3 BK328
      obtain ⟨hcz13_0, hcz13_1, hcz13_2, hfz13_0, hfz13_1, hfz13_2⟩ := bc3 BK329
      go_wp2
      repeat (go_quiet (fail); try go_wp2)
      go_meet
      case rel => exact ⟨_, (true), rs, H', ⟨by first | omega | exact Nat.le_refl _⟩, ⟨bk BK328⟩, ⟨bk BK329⟩, ⟨bw HB⟩⟩
  · rw [if_neg c6] at H
    have c6b0 : (a0_0 == a1_0) = false := beq_eq_false_iff_ne.mpr c6
    have c6b1 : (a0_0 != a1_0) = true := bne_iff_ne.mpr c6
    (first | rw [c6b0] | (simp only [i64_w, i32_w]; rw [c6b0]) | skip)
    have H' := Aside0.mk H
    clear H; have hnb14 := NB328_329.out; have hnc14 := NB329_328.out
    obtain ⟨hcz15_0, hcz15_1, hcz15_2, hfz15_0, hfz15_1, hfz15_2⟩ := bc3 BK328
    obtain ⟨hcz16_0, hcz16_1, hcz16_2, hfz16_0, hfz16_1, hfz16_2⟩ := bc3 BK329
    go_wp2
    repeat (go_quiet (fail); try go_wp2)
    go_meet
    case rel => exact ⟨_, (true), rs, H', ⟨by first | omega | exact Nat.le_refl _⟩, ⟨bk BK328⟩, ⟨bk BK329⟩, ⟨bw HB⟩⟩
 case rest =>
  clear HC3; (try clear c1); (try clear c2); (try clear p2); (try clear c6); (try clear c6b0); (try clear c6b1); (try clear c7); (try clear c7b0); (try clear c7b1); (try clear c8); (try clear c11); (try clear c14); (try clear hcz10_0); (try clear hcz10_1); (try clear hcz10_2); (try clear hcz12_0); (try clear hcz12_1); (try clear hcz12_2); (try clear hcz13_0); (try clear hcz13_1); (try clear hcz13_2); (try clear hcz15_0); (try clear hcz15_1); (try clear hcz15_2); (try clear hcz16_0); (try clear hcz16_1); (try clear hcz16_2); (try clear hcz9_0); (try clear hcz9_1); (try clear hcz9_2); (try clear hfz10_0); (try clear hfz10_1); (try clear hfz10_2); (try clear hfz12_0); (try clear hfz12_1); (try clear hfz12_2); (try clear hfz13_0); (try clear hfz13_1); (try clear hfz13_2); (try clear hfz15_0); (try clear hfz15_1); (try clear hfz15_2); (try clear hfz16_0); (try clear hfz16_1); (try clear hfz16_2); (try clear hfz9_0); (try clear hfz9_1); (try clear hfz9_2)
  obtain ⟨kq, x26_2, rfl, HA, HJ2, BK328, BK329, HB⟩ := hcut
  cases kq with
  | zero => exact absurd HA.out (by simp [turnstilelaw14_alike.j0])
  | succ kj2 =>
   have H := HA.out; clear HA
   simp only [turnstilelaw14_alike.j0] at H
   by_cases c17 : x26_2 = true
   · subst c17
     have H1 : (some false) = some r := by rw [if_pos rfl] at H; exact H
     clear H; have H := H1; clear H1
     obtain rfl := Option.some.inj H
     go_wp2
     repeat (go_quiet (fail); try go_wp2)
     go_ret
     exact ⟨re, bw HB⟩
   · replace c17 := Bool.eq_false_iff.mpr c17
     subst c17
     have H1 : (turnstilelaw14_alike.l0 kj2 0 a0_0 a0_1 l0_2 a1_0 a1_1 l1_2) = some r := by rw [if_neg (show ¬ (false = true) by decide)] at H; exact H
     clear H; have H := H1; clear H1
     have H' := Aside0.mk H
     clear H
     go_wp2
     repeat (go_quiet (fail); try go_wp2)
     go_loopg [5] kj2 (fun kq v5 w' => ∃ (x5_2 : Int), v5 = .int .i64 x5_2 ∧ Aside0 (turnstilelaw14_alike.l0 kq x5_2 a0_0 a0_1 l0_2 a1_0 a1_1 l1_2 = some r) ∧ Aside0 (kq ≤ kj2) ∧ Aside0 (w'.heap[gb328]? = some (.cells #[.int .u64 a0_0, .int .u64 a0_1, (.slice A0_2 l0_2.length c0_2)] 51 (0, 0))) ∧ Aside0 (w'.heap[gb329]? = some (.cells #[.int .u64 a1_0, .int .u64 a1_1, (.slice A1_2 l1_2.length c1_2)] 51 (0, 0))) ∧ Aside0 (Below w.heap.size w w'))
     case atStart => exact ⟨(0), rs, H', ⟨Nat.le_refl _⟩, ⟨bk BK328⟩, ⟨bk BK329⟩, ⟨bw HB⟩⟩
     case round =>
      clear H'; (try clear c1); (try clear c2); (try clear p2); (try clear c6); (try clear c6b0); (try clear c6b1); (try clear c7); (try clear c7b0); (try clear c7b1); (try clear c8); (try clear c11); (try clear c14); (try clear c17); (try clear hcz10_0); (try clear hcz10_1); (try clear hcz10_2); (try clear hcz12_0); (try clear hcz12_1); (try clear hcz12_2); (try clear hcz13_0); (try clear hcz13_1); (try clear hcz13_2); (try clear hcz15_0); (try clear hcz15_1); (try clear hcz15_2); (try clear hcz16_0); (try clear hcz16_1); (try clear hcz16_2); (try clear hcz9_0); (try clear hcz9_1); (try clear hcz9_2); (try clear hfz10_0); (try clear hfz10_1); (try clear hfz10_2); (try clear hfz12_0); (try clear hfz12_1); (try clear hfz12_2); (try clear hfz13_0); (try clear hfz13_1); (try clear hfz13_2); (try clear hfz15_0); (try clear hfz15_1); (try clear hfz15_2); (try clear hfz16_0); (try clear hfz16_1); (try clear hfz16_2); (try clear hfz9_0); (try clear hfz9_1); (try clear hfz9_2); (try clear p2)
      obtain ⟨x5_2, rfl, HA, HK2, BK328, BK329, HB⟩ := hrel
      cases gk with
      | zero => exact absurd HA.out (by simp [turnstilelaw14_alike.l0])
      | succ k2 =>
       have H := HA.out; clear HA
       simp only [turnstilelaw14_alike.l0] at H
       by_cases c18 : x5_2 < (l0_2.length : Int)
       · rw [if_pos c18] at H
         have c18b0 : decide (x5_2 < (l0_2.length : Int)) = true := decide_eq_true c18
         clear c18
         by_cases c19 : 0 ≤ x5_2
         · rw [if_pos c19] at H
           have c19b0 : decide (0 ≤ x5_2) = true := decide_eq_true c19
           clear c19
           by_cases c20 : x5_2 < (l1_2.length : Int)
           · rw [if_pos c20] at H
             have c20b0 : decide (x5_2 < (l1_2.length : Int)) = true := decide_eq_true c20
             clear c20
             by_cases c21 : (!((((rd_T79 l0_2 x5_2).f0).toList) == (((rd_T79 l1_2 x5_2).f0).toList)) || ((!(((rd_T79 l0_2 x5_2).f1.f0) == ((rd_T79 l1_2 x5_2).f1.f0)) || (!(((rd_T79 l0_2 x5_2).f1.f1) == ((rd_T79 l1_2 x5_2).f1.f1)) || (!(((rd_T79 l0_2 x5_2).f1.f2) == ((rd_T79 l1_2 x5_2).f1.f2)) || (!(((rd_T79 l0_2 x5_2).f1.f3) == ((rd_T79 l1_2 x5_2).f1.f3)) || (!(((rd_T79 l0_2 x5_2).f1.f4) == ((rd_T79 l1_2 x5_2).f1.f4))))))) || ((!(((rd_T79 l0_2 x5_2).f2.f0) == ((rd_T79 l1_2 x5_2).f2.f0)) || (!(((rd_T79 l0_2 x5_2).f2.f1) == ((rd_T79 l1_2 x5_2).f2.f1)) || (!(((rd_T79 l0_2 x5_2).f2.f2) == ((rd_T79 l1_2 x5_2).f2.f2)))))))) = true
             · rw [if_pos c21] at H
               have c21b0 : Aside0 ((!((((rd_T79 l0_2 x5_2).f0).toList) == (((rd_T79 l1_2 x5_2).f0).toList)) || ((!(((rd_T79 l0_2 x5_2).f1.f0) == ((rd_T79 l1_2 x5_2).f1.f0)) || (!(((rd_T79 l0_2 x5_2).f1.f1) == ((rd_T79 l1_2 x5_2).f1.f1)) || (!(((rd_T79 l0_2 x5_2).f1.f2) == ((rd_T79 l1_2 x5_2).f1.f2)) || (!(((rd_T79 l0_2 x5_2).f1.f3) == ((rd_T79 l1_2 x5_2).f1.f3)) || (!(((rd_T79 l0_2 x5_2).f1.f4) == ((rd_T79 l1_2 x5_2).f1.f4))))))) || ((!(((rd_T79 l0_2 x5_2).f2.f0) == ((rd_T79 l1_2 x5_2).f2.f0)) || (!(((rd_T79 l0_2 x5_2).f2.f1) == ((rd_T79 l1_2 x5_2).f2.f1)) || (!(((rd_T79 l0_2 x5_2).f2.f2) == ((rd_T79 l1_2 x5_2).f2.f2)))))))) = true) := ⟨c21⟩
               clear c21
               obtain rfl := Option.some.inj H
               have hnb22 := NB328_329.out; have hnc22 := NB329_328.out
               obtain ⟨hcz23_0, hcz23_1, hcz23_2, hfz23_0, hfz23_1, hfz23_2⟩ := bc3 BK328
               have p330 : 0 ≤ (x5_2 : Int) := of_decide_eq_true (by first | (with_reducible assumption) | assumption)
               have q330 : x5_2 < (l0_2.length : Int) := of_decide_eq_true (by first | (with_reducible assumption) | assumption)
               obtain ⟨ad330, e330, hx330_0, hx330_1, hx330_2, hx330_3, hx330_4, hx330_5, hx330_6, hx330_7, hx330_8⟩ := at_T79 HR0_2.out x5_2 p330 q330
               cases e330
               replace hx330_0 := (HB.out.cell (World.block_lt_of_cell? w _ hx330_0)).trans hx330_0; replace hx330_1 := (HB.out.cell (World.block_lt_of_cell? w _ hx330_1)).trans hx330_1; replace hx330_2 := (HB.out.cell (World.block_lt_of_cell? w _ hx330_2)).trans hx330_2; replace hx330_3 := (HB.out.cell (World.block_lt_of_cell? w _ hx330_3)).trans hx330_3; replace hx330_4 := (HB.out.cell (World.block_lt_of_cell? w _ hx330_4)).trans hx330_4; replace hx330_5 := (HB.out.cell (World.block_lt_of_cell? w _ hx330_5)).trans hx330_5; replace hx330_6 := (HB.out.cell (World.block_lt_of_cell? w _ hx330_6)).trans hx330_6; replace hx330_7 := (HB.out.cell (World.block_lt_of_cell? w _ hx330_7)).trans hx330_7; replace hx330_8 := (HB.out.cell (World.block_lt_of_cell? w _ hx330_8)).trans hx330_8; replace p330 := eq_true p330; replace q330 := eq_true q330
               obtain ⟨hcz24_0, hcz24_1, hcz24_2, hfz24_0, hfz24_1, hfz24_2⟩ := bc3 BK329
               have p331 : 0 ≤ (x5_2 : Int) := of_decide_eq_true (by first | (with_reducible assumption) | assumption)
               have q331 : x5_2 < (l1_2.length : Int) := of_decide_eq_true (by first | (with_reducible assumption) | assumption)
               obtain ⟨ad331, e331, hx331_0, hx331_1, hx331_2, hx331_3, hx331_4, hx331_5, hx331_6, hx331_7, hx331_8⟩ := at_T79 HR1_2.out x5_2 p331 q331
               cases e331
               replace hx331_0 := (HB.out.cell (World.block_lt_of_cell? w _ hx331_0)).trans hx331_0; replace hx331_1 := (HB.out.cell (World.block_lt_of_cell? w _ hx331_1)).trans hx331_1; replace hx331_2 := (HB.out.cell (World.block_lt_of_cell? w _ hx331_2)).trans hx331_2; replace hx331_3 := (HB.out.cell (World.block_lt_of_cell? w _ hx331_3)).trans hx331_3; replace hx331_4 := (HB.out.cell (World.block_lt_of_cell? w _ hx331_4)).trans hx331_4; replace hx331_5 := (HB.out.cell (World.block_lt_of_cell? w _ hx331_5)).trans hx331_5; replace hx331_6 := (HB.out.cell (World.block_lt_of_cell? w _ hx331_6)).trans hx331_6; replace hx331_7 := (HB.out.cell (World.block_lt_of_cell? w _ hx331_7)).trans hx331_7; replace hx331_8 := (HB.out.cell (World.block_lt_of_cell? w _ hx331_8)).trans hx331_8; replace p331 := eq_true p331; replace q331 := eq_true q331; have hqz25 := c21b0.out
               go_wp2
               repeat (go_quiet (fail); try go_wp2)
               go_ret
               exact ⟨re, bw HB⟩
             · rw [if_neg c21] at H
               have c21b0 : Aside0 ((!((((rd_T79 l0_2 x5_2).f0).toList) == (((rd_T79 l1_2 x5_2).f0).toList)) || ((!(((rd_T79 l0_2 x5_2).f1.f0) == ((rd_T79 l1_2 x5_2).f1.f0)) || (!(((rd_T79 l0_2 x5_2).f1.f1) == ((rd_T79 l1_2 x5_2).f1.f1)) || (!(((rd_T79 l0_2 x5_2).f1.f2) == ((rd_T79 l1_2 x5_2).f1.f2)) || (!(((rd_T79 l0_2 x5_2).f1.f3) == ((rd_T79 l1_2 x5_2).f1.f3)) || (!(((rd_T79 l0_2 x5_2).f1.f4) == ((rd_T79 l1_2 x5_2).f1.f4))))))) || ((!(((rd_T79 l0_2 x5_2).f2.f0) == ((rd_T79 l1_2 x5_2).f2.f0)) || (!(((rd_T79 l0_2 x5_2).f2.f1) == ((rd_T79 l1_2 x5_2).f2.f1)) || (!(((rd_T79 l0_2 x5_2).f2.f2) == ((rd_T79 l1_2 x5_2).f2.f2)))))))) = false) := ⟨Bool.eq_false_iff.mpr c21⟩
               clear c21
               have H' := Aside0.mk H
               clear H; have hnb26 := NB328_329.out; have hnc26 := NB329_328.out
               obtain ⟨hcz27_0, hcz27_1, hcz27_2, hfz27_0, hfz27_1, hfz27_2⟩ := bc3 BK328
               have p330 : 0 ≤ (x5_2 : Int) := of_decide_eq_true (by first | (with_reducible assumption) | assumption)
               have q330 : x5_2 < (l0_2.length : Int) := of_decide_eq_true (by first | (with_reducible assumption) | assumption)
               obtain ⟨ad330, e330, hx330_0, hx330_1, hx330_2, hx330_3, hx330_4, hx330_5, hx330_6, hx330_7, hx330_8⟩ := at_T79 HR0_2.out x5_2 p330 q330
               cases e330
               replace hx330_0 := (HB.out.cell (World.block_lt_of_cell? w _ hx330_0)).trans hx330_0; replace hx330_1 := (HB.out.cell (World.block_lt_of_cell? w _ hx330_1)).trans hx330_1; replace hx330_2 := (HB.out.cell (World.block_lt_of_cell? w _ hx330_2)).trans hx330_2; replace hx330_3 := (HB.out.cell (World.block_lt_of_cell? w _ hx330_3)).trans hx330_3; replace hx330_4 := (HB.out.cell (World.block_lt_of_cell? w _ hx330_4)).trans hx330_4; replace hx330_5 := (HB.out.cell (World.block_lt_of_cell? w _ hx330_5)).trans hx330_5; replace hx330_6 := (HB.out.cell (World.block_lt_of_cell? w _ hx330_6)).trans hx330_6; replace hx330_7 := (HB.out.cell (World.block_lt_of_cell? w _ hx330_7)).trans hx330_7; replace hx330_8 := (HB.out.cell (World.block_lt_of_cell? w _ hx330_8)).trans hx330_8; replace p330 := eq_true p330; replace q330 := eq_true q330
               obtain ⟨hcz28_0, hcz28_1, hcz28_2, hfz28_0, hfz28_1, hfz28_2⟩ := bc3 BK329
               have p331 : 0 ≤ (x5_2 : Int) := of_decide_eq_true (by first | (with_reducible assumption) | assumption)
               have q331 : x5_2 < (l1_2.length : Int) := of_decide_eq_true (by first | (with_reducible assumption) | assumption)
               obtain ⟨ad331, e331, hx331_0, hx331_1, hx331_2, hx331_3, hx331_4, hx331_5, hx331_6, hx331_7, hx331_8⟩ := at_T79 HR1_2.out x5_2 p331 q331
               cases e331
               replace hx331_0 := (HB.out.cell (World.block_lt_of_cell? w _ hx331_0)).trans hx331_0; replace hx331_1 := (HB.out.cell (World.block_lt_of_cell? w _ hx331_1)).trans hx331_1; replace hx331_2 := (HB.out.cell (World.block_lt_of_cell? w _ hx331_2)).trans hx331_2; replace hx331_3 := (HB.out.cell (World.block_lt_of_cell? w _ hx331_3)).trans hx331_3; replace hx331_4 := (HB.out.cell (World.block_lt_of_cell? w _ hx331_4)).trans hx331_4; replace hx331_5 := (HB.out.cell (World.block_lt_of_cell? w _ hx331_5)).trans hx331_5; replace hx331_6 := (HB.out.cell (World.block_lt_of_cell? w _ hx331_6)).trans hx331_6; replace hx331_7 := (HB.out.cell (World.block_lt_of_cell? w _ hx331_7)).trans hx331_7; replace hx331_8 := (HB.out.cell (World.block_lt_of_cell? w _ hx331_8)).trans hx331_8; replace p331 := eq_true p331; replace q331 := eq_true q331; have hqz29 := c21b0.out
               go_wp2
               repeat (go_quiet (fail); try go_wp2)
               go_roundg k2
               case measure => have := HJ2.out; have := HK2.out; omega
               case rel => exact ⟨(wrap64 (x5_2 + 1)), rs, H', ⟨by have := HJ2.out; have := HK2.out; omega⟩, ⟨bk BK328⟩, ⟨bk BK329⟩, ⟨bw HB⟩⟩
           · rw [if_neg c20] at H
             exact absurd H (by simp)
         · rw [if_neg c19] at H
           exact absurd H (by simp)
       · rw [if_neg c18] at H
         have c18b0 : decide (x5_2 < (l0_2.length : Int)) = false := decide_eq_false c18
         clear c18
         obtain rfl := Option.some.inj H
         have hnb30 := NB328_329.out; have hnc30 := NB329_328.out
         obtain ⟨hcz31_0, hcz31_1, hcz31_2, hfz31_0, hfz31_1, hfz31_2⟩ := bc3 BK328
         go_wp2
         repeat (go_quiet (fail); try go_wp2)
         go_ret
         exact ⟨re, bw HB⟩

end Go.Proofs.YtkgjepmminmjjaaDoor.E
