/- Written by the session's own program hyb.py: what functions of the program compute; Lean checks it. -/
import Derived.Test.YtkgjepmminmjjaaDoorEx0
import Derived.Test.YtkgjepmminmjjaaDoorEx32
import Derived.Test.YtkgjepmminmjjaaDoorEx33
namespace Go.Proofs.YtkgjepmminmjjaaDoor.E
open Go.RowKit Go.Proofs.YtkgjepmminmjjaaDoorW.PrintWords Go.Proofs.YtkgjepmminmjjaaDoorW.PrintLast Go.Proofs.YtkgjepmminmjjaaDoorW.PrintMore Go.Proofs.YtkgjepmminmjjaaDoorW.PrintShort
attribute [local go_sem] run_Add64 run_Sub64
attribute [local go_sem] max2_int min2_int max_two min_two max_three min_three max_four min_four   -- for this text's walks alone
set_option linter.unusedVariables false
set_option linter.unusedSimpArgs false

/-! ### turnstileref13_Valid: function 64 -/
mutual
def turnstileref13_Valid.j0 : Nat → Bool → Int → Int → List (S79) → Option (Bool)
  | 0, _, _, _, _ => none
  | k + 1, x13, x406000, x406001, x406002 => if x13 = true then (some false) else (turnstileref13_Valid.l0 k 0 x406000 x406001 x406002)
def turnstileref13_Valid.l0 : Nat → Int → Int → Int → List (S79) → Option (Bool)
  | 0, _, _, _, _ => none
  | k + 1, x3, x406000, x406001, x406002 => if x3 < (x406002.length : Int) then (if 0 ≤ x3 then (if (((rd_T79 x406002 x3).f0).size : Int) < 1 then (turnstileref13_Valid.j2 k x3 true x406000 x406001 x406002 ((rd_T79 x406002 x3).f0) ((rd_T79 x406002 x3).f1.f0) ((rd_T79 x406002 x3).f1.f1) ((rd_T79 x406002 x3).f1.f2) ((rd_T79 x406002 x3).f1.f3) ((rd_T79 x406002 x3).f1.f4) ((rd_T79 x406002 x3).f2.f0) ((rd_T79 x406002 x3).f2.f1) ((rd_T79 x406002 x3).f2.f2)) else (if (((rd_T79 x406002 x3).f0).size : Int) > 64 then (turnstileref13_Valid.j2 k x3 true x406000 x406001 x406002 ((rd_T79 x406002 x3).f0) ((rd_T79 x406002 x3).f1.f0) ((rd_T79 x406002 x3).f1.f1) ((rd_T79 x406002 x3).f1.f2) ((rd_T79 x406002 x3).f1.f3) ((rd_T79 x406002 x3).f1.f4) ((rd_T79 x406002 x3).f2.f0) ((rd_T79 x406002 x3).f2.f1) ((rd_T79 x406002 x3).f2.f2)) else ((turnstileref06_Fits.f ((rd_T79 x406002 x3).f1.f0) ((rd_T79 x406002 x3).f1.f1) ((rd_T79 x406002 x3).f1.f2) ((rd_T79 x406002 x3).f1.f3) ((rd_T79 x406002 x3).f1.f4) ((rd_T79 x406002 x3).f2.f0) ((rd_T79 x406002 x3).f2.f1) ((rd_T79 x406002 x3).f2.f2)).bind fun t408 => (turnstileref13_Valid.j2 k x3 (!t408) x406000 x406001 x406002 ((rd_T79 x406002 x3).f0) ((rd_T79 x406002 x3).f1.f0) ((rd_T79 x406002 x3).f1.f1) ((rd_T79 x406002 x3).f1.f2) ((rd_T79 x406002 x3).f1.f3) ((rd_T79 x406002 x3).f1.f4) ((rd_T79 x406002 x3).f2.f0) ((rd_T79 x406002 x3).f2.f1) ((rd_T79 x406002 x3).f2.f2))))) else (none)) else (some true)
def turnstileref13_Valid.j2 : Nat → Int → Bool → Int → Int → List (S79) → ByteArray → Int → Int → Int → Int → Int → Int → Int → Int → Option (Bool)
  | 0, _, _, _, _, _, _, _, _, _, _, _, _, _, _ => none
  | k + 1, x3, x43, x406000, x406001, x406002, x408000, x408001, x408002, x408003, x408004, x408005, x408006, x408007, x408008 => if x43 = true then (some false) else (if x3 > 0 then (if 0 ≤ (wrap64 (x3 - 1)) then (if (wrap64 (x3 - 1)) < (x406002.length : Int) then ((turnstileref07_Before.f k ((rd_T79 x406002 (wrap64 (x3 - 1))).f0) x408000).bind fun t410 => (if t410 = true then (turnstileref13_Valid.l0 k (wrap64 (x3 + 1)) x406000 x406001 x406002) else (some false))) else (none)) else (none)) else (turnstileref13_Valid.l0 k (wrap64 (x3 + 1)) x406000 x406001 x406002))
end
def turnstileref13_Valid.f (k : Nat) (a0_0 : Int) (a0_1 : Int) (l0_2 : List (S79)) : Option (Bool) := if a0_0 > 4611686018427387904 then (turnstileref13_Valid.j0 k true a0_0 a0_1 l0_2) else (turnstileref13_Valid.j0 k (decide ((l0_2.length : Int) > 4096)) a0_0 a0_1 l0_2)
set_option maxHeartbeats 8000000 in
set_option maxRecDepth 100000 in
theorem turnstileref13_Valid.calls (k : Nat) (a0_0 : Int) (a0_1 : Int) (A0_2 : Option Addr) (c0_2 : Nat) (l0_2 : List (S79)) (r : Bool) (w : World) (hr0_2 : Kd.C k79 w A0_2 l0_2.length l0_2) (hc0_2 : l0_2.length ≤ c0_2) (h : turnstileref13_Valid.f k a0_0 a0_1 l0_2 = some r) :
 Calls Tryd.prog 64 #[.agg #[.int .u64 a0_0, .int .u64 a0_1, .slice A0_2 l0_2.length c0_2]] w fun e w' => e = .returned (.bool r) ∧ Below w.heap.size w w' := by
 have hu51 := Tryd.underlying51; have hu79 := Tryd.underlying79; have hu28 := Tryd.underlying28; have hu30 := Tryd.underlying30; have HR0_2 := Aside0.mk hr0_2; have HC0_2 := Aside0.mk hc0_2; clear hr0_2 hc0_2; have HB := Aside0.mk (Below.refl w.heap.size w)
 have H : (if a0_0 > 4611686018427387904 then (turnstileref13_Valid.j0 k true a0_0 a0_1 l0_2) else (turnstileref13_Valid.j0 k (decide ((l0_2.length : Int) > 4096)) a0_0 a0_1 l0_2)) = some r := h
 clear h; have HC2 := Aside0.mk H; clear H
 go_enter Tryd.func64, Tryd.ntmps64
 go_upto_region 1 with (first | ((with_reducible refine gate_dst (N := 1) rfl ?_); (try (refine gate_guard (by rfl) ?_; dsimp only)); refine bx 1 #[.int .u64 a0_0, .int .u64 a0_1, .slice A0_2 l0_2.length c0_2] 51 ?_; intro gb405 hg w3 hbox hb; have BK405 := Aside0.mk (hbox); have GW405 := sz HB hg; have GE405 := sz HB hg; replace HB := bs HB hb; clear hb hbox hg))
 repeat (go_quiet (first | ((with_reducible refine gate_dst (N := 1) rfl ?_); (try (refine gate_guard (by rfl) ?_; dsimp only)); refine bx 1 #[.int .u64 a0_0, .int .u64 a0_1, .slice A0_2 l0_2.length c0_2] 51 ?_; intro gb405 hg w3 hbox hb; have BK405 := Aside0.mk (hbox); have GW405 := sz HB hg; have GE405 := sz HB hg; replace HB := bs HB hb; clear hb hbox hg)); go_upto_region 1 with (first | ((with_reducible refine gate_dst (N := 1) rfl ?_); (try (refine gate_guard (by rfl) ?_; dsimp only)); refine bx 1 #[.int .u64 a0_0, .int .u64 a0_1, .slice A0_2 l0_2.length c0_2] 51 ?_; intro gb405 hg w3 hbox hb; have BK405 := Aside0.mk (hbox); have GW405 := sz HB hg; have GE405 := sz HB hg; replace HB := bs HB hb; clear hb hbox hg)))
 (try simp only [Act.put, List.setIfInBounds_toArray, List.set_cons_zero, List.set_cons_succ])
 go_cut [13] (fun v13 wc => ∃ (kq : Nat) (x13_1 : Bool), v13 = .bool x13_1 ∧ Aside0 (turnstileref13_Valid.j0 kq x13_1 a0_0 a0_1 l0_2 = some r) ∧ Aside0 (kq ≤ k) ∧ Aside0 (wc.heap[gb405]? = some (.cells #[.int .u64 a0_0, .int .u64 a0_1, (.slice A0_2 l0_2.length c0_2)] 51 (0, 0))) ∧ Aside0 (Below w.heap.size w wc))
 case first =>
  have H := HC2.out; clear HC2
  by_cases c4 : a0_0 > 4611686018427387904
  · rw [if_pos c4] at H
    have c4b0 : decide (4611686018427387904 < a0_0) = true := decide_eq_true c4
    clear c4
    (first | rw [c4b0] | (simp only [i64_w, i32_w]; rw [c4b0]) | skip)
    have H' := Aside0.mk H
    clear H
    obtain ⟨hcz5_0, hcz5_1, hcz5_2, hfz5_0, hfz5_1, hfz5_2⟩ := bc3 BK405
    go_wp2
    repeat (go_quiet (fail); try go_wp2)
    go_meet
    case rel => exact ⟨_, (true), rs, H', ⟨by first | omega | exact Nat.le_refl _⟩, ⟨bk BK405⟩, ⟨bw HB⟩⟩
  · rw [if_neg c4] at H
    have c4b0 : decide (4611686018427387904 < a0_0) = false := decide_eq_false c4
    clear c4
    (first | rw [c4b0] | (simp only [i64_w, i32_w]; rw [c4b0]) | skip)
    have H' := Aside0.mk H
    clear H
    obtain ⟨hcz6_0, hcz6_1, hcz6_2, hfz6_0, hfz6_1, hfz6_2⟩ := bc3 BK405
    go_wp2
    repeat (go_quiet (fail); try go_wp2)
    go_meet
    case rel => exact ⟨_, (decide ((l0_2.length : Int) > 4096)), rs, H', ⟨by first | omega | exact Nat.le_refl _⟩, ⟨bk BK405⟩, ⟨bw HB⟩⟩
 case rest =>
  clear HC2
  obtain ⟨kq, x13_1, rfl, HA, HJ1, BK405, HB⟩ := hcut
  cases kq with
  | zero => exact absurd HA.out (by simp [turnstileref13_Valid.j0])
  | succ kj1 =>
   have H := HA.out; clear HA
   simp only [turnstileref13_Valid.j0] at H
   by_cases c7 : x13_1 = true
   · subst c7
     have H1 : (some false) = some r := by rw [if_pos rfl] at H; exact H
     clear H; have H := H1; clear H1
     obtain rfl := Option.some.inj H
     go_wp2
     repeat (go_quiet (fail); try go_wp2)
     go_ret
     exact ⟨re, bw HB⟩
   · replace c7 := Bool.eq_false_iff.mpr c7
     subst c7
     have H1 : (turnstileref13_Valid.l0 kj1 0 a0_0 a0_1 l0_2) = some r := by rw [if_neg (show ¬ (false = true) by decide)] at H; exact H
     clear H; have H := H1; clear H1
     have H' := Aside0.mk H
     clear H
     go_wp2
     repeat (go_quiet (fail); try go_wp2)
     go_loopg [3] kj1 (fun kq v3 w' => ∃ (x3_2 : Int), v3 = .int .i64 x3_2 ∧ Aside0 (turnstileref13_Valid.l0 kq x3_2 a0_0 a0_1 l0_2 = some r) ∧ Aside0 (kq ≤ kj1) ∧ Aside0 (w'.heap[gb405]? = some (.cells #[.int .u64 a0_0, .int .u64 a0_1, (.slice A0_2 l0_2.length c0_2)] 51 (0, 0))) ∧ Aside0 (Below w.heap.size w w'))
     case atStart => exact ⟨(0), rs, H', ⟨Nat.le_refl _⟩, ⟨bk BK405⟩, ⟨bw HB⟩⟩
     case round =>
      clear H'
      obtain ⟨x3_2, rfl, HA, HK2, BK405, HB⟩ := hrel
      cases gk with
      | zero => exact absurd HA.out (by simp [turnstileref13_Valid.l0])
      | succ k2 =>
       have H := HA.out; clear HA
       simp only [turnstileref13_Valid.l0] at H
       by_cases c8 : x3_2 < (l0_2.length : Int)
       · rw [if_pos c8] at H
         have c8b0 : decide (x3_2 < (l0_2.length : Int)) = true := decide_eq_true c8
         clear c8
         by_cases c9 : 0 ≤ x3_2
         · rw [if_pos c9] at H
           have c9b0 : decide (0 ≤ x3_2) = true := decide_eq_true c9
           clear c9; have HC10 := Aside0.mk H; clear H
           obtain ⟨hcz11_0, hcz11_1, hcz11_2, hfz11_0, hfz11_1, hfz11_2⟩ := bc3 BK405
           have p406 : 0 ≤ (x3_2 : Int) := of_decide_eq_true (by first | (with_reducible assumption) | assumption)
           have q406 : x3_2 < (l0_2.length : Int) := of_decide_eq_true (by first | (with_reducible assumption) | assumption)
           obtain ⟨ad406, e406, hx406_0, hx406_1, hx406_2, hx406_3, hx406_4, hx406_5, hx406_6, hx406_7, hx406_8⟩ := at_T79 HR0_2.out x3_2 p406 q406
           cases e406
           replace hx406_0 := (HB.out.cell (World.block_lt_of_cell? w _ hx406_0)).trans hx406_0; replace hx406_1 := (HB.out.cell (World.block_lt_of_cell? w _ hx406_1)).trans hx406_1; replace hx406_2 := (HB.out.cell (World.block_lt_of_cell? w _ hx406_2)).trans hx406_2; replace hx406_3 := (HB.out.cell (World.block_lt_of_cell? w _ hx406_3)).trans hx406_3; replace hx406_4 := (HB.out.cell (World.block_lt_of_cell? w _ hx406_4)).trans hx406_4; replace hx406_5 := (HB.out.cell (World.block_lt_of_cell? w _ hx406_5)).trans hx406_5; replace hx406_6 := (HB.out.cell (World.block_lt_of_cell? w _ hx406_6)).trans hx406_6; replace hx406_7 := (HB.out.cell (World.block_lt_of_cell? w _ hx406_7)).trans hx406_7; replace hx406_8 := (HB.out.cell (World.block_lt_of_cell? w _ hx406_8)).trans hx406_8; replace p406 := eq_true p406; replace q406 := eq_true q406
           go_upto_region 7 with (first | ((with_reducible refine gate_dst (N := 4) rfl ?_); (try (refine gate_guard (by rfl) ?_; dsimp only)); refine bx 4 #[.string (⟨#[]⟩ : ByteArray), .int .i64 0, .int .u64 0, .int .u64 0, .int .u64 0, .int .u64 0, .int .u64 0, .int .u64 0, .int .u64 0] 79 ?_; intro gb407 hg w12 hbox hb; have BK407 := Aside0.mk (hbox); have GW407 := sz HB hg; have GE407 := sz HB hg; have NB405_407 := nl BK405 hg; have NB407_405 := nr BK405 hg; replace BK405 := bb BK405 hb; replace HB := bs HB hb; clear hb hbox hg; have hnb13 := NB407_405.out; have hnc13 := NB405_407.out; have hcz14_0 : w12.cell? ⟨gb407, 0, none⟩ = some (.string (⟨#[]⟩ : ByteArray)) := (blk_cell BK407.out 0).trans rfl; have hcz14_1 : w12.cell? ⟨gb407, 1, none⟩ = some (.int .i64 0) := (blk_cell BK407.out 1).trans rfl; have hcz14_2 : w12.cell? ⟨gb407, 2, none⟩ = some (.int .u64 0) := (blk_cell BK407.out 2).trans rfl; have hcz14_3 : w12.cell? ⟨gb407, 3, none⟩ = some (.int .u64 0) := (blk_cell BK407.out 3).trans rfl; have hcz14_4 : w12.cell? ⟨gb407, 4, none⟩ = some (.int .u64 0) := (blk_cell BK407.out 4).trans rfl; have hcz14_5 : w12.cell? ⟨gb407, 5, none⟩ = some (.int .u64 0) := (blk_cell BK407.out 5).trans rfl; have hcz14_6 : w12.cell? ⟨gb407, 6, none⟩ = some (.int .u64 0) := (blk_cell BK407.out 6).trans rfl; have hcz14_7 : w12.cell? ⟨gb407, 7, none⟩ = some (.int .u64 0) := (blk_cell BK407.out 7).trans rfl; have hcz14_8 : w12.cell? ⟨gb407, 8, none⟩ = some (.int .u64 0) := (blk_cell BK407.out 8).trans rfl; have hfz14_0 := blk_frozen BK407.out 0; have hfz14_1 := blk_frozen BK407.out 1; have hfz14_2 := blk_frozen BK407.out 2; have hfz14_3 := blk_frozen BK407.out 3; have hfz14_4 := blk_frozen BK407.out 4; have hfz14_5 := blk_frozen BK407.out 5; have hfz14_6 := blk_frozen BK407.out 6; have hfz14_7 := blk_frozen BK407.out 7; have hfz14_8 := blk_frozen BK407.out 8))
           repeat (go_quiet (first | ((with_reducible refine gate_dst (N := 4) rfl ?_); (try (refine gate_guard (by rfl) ?_; dsimp only)); refine bx 4 #[.string (⟨#[]⟩ : ByteArray), .int .i64 0, .int .u64 0, .int .u64 0, .int .u64 0, .int .u64 0, .int .u64 0, .int .u64 0, .int .u64 0] 79 ?_; intro gb407 hg w12 hbox hb; have BK407 := Aside0.mk (hbox); have GW407 := sz HB hg; have GE407 := sz HB hg; have NB405_407 := nl BK405 hg; have NB407_405 := nr BK405 hg; replace BK405 := bb BK405 hb; replace HB := bs HB hb; clear hb hbox hg; have hnb13 := NB407_405.out; have hnc13 := NB405_407.out; have hcz14_0 : w12.cell? ⟨gb407, 0, none⟩ = some (.string (⟨#[]⟩ : ByteArray)) := (blk_cell BK407.out 0).trans rfl; have hcz14_1 : w12.cell? ⟨gb407, 1, none⟩ = some (.int .i64 0) := (blk_cell BK407.out 1).trans rfl; have hcz14_2 : w12.cell? ⟨gb407, 2, none⟩ = some (.int .u64 0) := (blk_cell BK407.out 2).trans rfl; have hcz14_3 : w12.cell? ⟨gb407, 3, none⟩ = some (.int .u64 0) := (blk_cell BK407.out 3).trans rfl; have hcz14_4 : w12.cell? ⟨gb407, 4, none⟩ = some (.int .u64 0) := (blk_cell BK407.out 4).trans rfl; have hcz14_5 : w12.cell? ⟨gb407, 5, none⟩ = some (.int .u64 0) := (blk_cell BK407.out 5).trans rfl; have hcz14_6 : w12.cell? ⟨gb407, 6, none⟩ = some (.int .u64 0) := (blk_cell BK407.out 6).trans rfl; have hcz14_7 : w12.cell? ⟨gb407, 7, none⟩ = some (.int .u64 0) := (blk_cell BK407.out 7).trans rfl; have hcz14_8 : w12.cell? ⟨gb407, 8, none⟩ = some (.int .u64 0) := (blk_cell BK407.out 8).trans rfl; have hfz14_0 := blk_frozen BK407.out 0; have hfz14_1 := blk_frozen BK407.out 1; have hfz14_2 := blk_frozen BK407.out 2; have hfz14_3 := blk_frozen BK407.out 3; have hfz14_4 := blk_frozen BK407.out 4; have hfz14_5 := blk_frozen BK407.out 5; have hfz14_6 := blk_frozen BK407.out 6; have hfz14_7 := blk_frozen BK407.out 7; have hfz14_8 := blk_frozen BK407.out 8)); go_upto_region 7 with (first | ((with_reducible refine gate_dst (N := 4) rfl ?_); (try (refine gate_guard (by rfl) ?_; dsimp only)); refine bx 4 #[.string (⟨#[]⟩ : ByteArray), .int .i64 0, .int .u64 0, .int .u64 0, .int .u64 0, .int .u64 0, .int .u64 0, .int .u64 0, .int .u64 0] 79 ?_; intro gb407 hg w12 hbox hb; have BK407 := Aside0.mk (hbox); have GW407 := sz HB hg; have GE407 := sz HB hg; have NB405_407 := nl BK405 hg; have NB407_405 := nr BK405 hg; replace BK405 := bb BK405 hb; replace HB := bs HB hb; clear hb hbox hg; have hnb13 := NB407_405.out; have hnc13 := NB405_407.out; have hcz14_0 : w12.cell? ⟨gb407, 0, none⟩ = some (.string (⟨#[]⟩ : ByteArray)) := (blk_cell BK407.out 0).trans rfl; have hcz14_1 : w12.cell? ⟨gb407, 1, none⟩ = some (.int .i64 0) := (blk_cell BK407.out 1).trans rfl; have hcz14_2 : w12.cell? ⟨gb407, 2, none⟩ = some (.int .u64 0) := (blk_cell BK407.out 2).trans rfl; have hcz14_3 : w12.cell? ⟨gb407, 3, none⟩ = some (.int .u64 0) := (blk_cell BK407.out 3).trans rfl; have hcz14_4 : w12.cell? ⟨gb407, 4, none⟩ = some (.int .u64 0) := (blk_cell BK407.out 4).trans rfl; have hcz14_5 : w12.cell? ⟨gb407, 5, none⟩ = some (.int .u64 0) := (blk_cell BK407.out 5).trans rfl; have hcz14_6 : w12.cell? ⟨gb407, 6, none⟩ = some (.int .u64 0) := (blk_cell BK407.out 6).trans rfl; have hcz14_7 : w12.cell? ⟨gb407, 7, none⟩ = some (.int .u64 0) := (blk_cell BK407.out 7).trans rfl; have hcz14_8 : w12.cell? ⟨gb407, 8, none⟩ = some (.int .u64 0) := (blk_cell BK407.out 8).trans rfl; have hfz14_0 := blk_frozen BK407.out 0; have hfz14_1 := blk_frozen BK407.out 1; have hfz14_2 := blk_frozen BK407.out 2; have hfz14_3 := blk_frozen BK407.out 3; have hfz14_4 := blk_frozen BK407.out 4; have hfz14_5 := blk_frozen BK407.out 5; have hfz14_6 := blk_frozen BK407.out 6; have hfz14_7 := blk_frozen BK407.out 7; have hfz14_8 := blk_frozen BK407.out 8)))
           (try simp only [Act.put, List.setIfInBounds_toArray, List.set_cons_zero, List.set_cons_succ])
           go_cut [43] (fun v43 wc => ∃ (kq : Nat) (x43_9 : Bool), v43 = .bool x43_9 ∧ Aside0 (turnstileref13_Valid.j2 kq x3_2 x43_9 a0_0 a0_1 l0_2 ((rd_T79 l0_2 x3_2).f0) ((rd_T79 l0_2 x3_2).f1.f0) ((rd_T79 l0_2 x3_2).f1.f1) ((rd_T79 l0_2 x3_2).f1.f2) ((rd_T79 l0_2 x3_2).f1.f3) ((rd_T79 l0_2 x3_2).f1.f4) ((rd_T79 l0_2 x3_2).f2.f0) ((rd_T79 l0_2 x3_2).f2.f1) ((rd_T79 l0_2 x3_2).f2.f2) = some r) ∧ Aside0 (kq ≤ k2) ∧ Aside0 (wc.heap[gb405]? = some (.cells #[.int .u64 a0_0, .int .u64 a0_1, (.slice (some ad406) l0_2.length c0_2)] 51 (0, 0))) ∧ Aside0 (wc.heap[gb407]? = some (.cells #[.string ((rd_T79 l0_2 x3_2).f0), .int .i64 ((rd_T79 l0_2 x3_2).f1.f0), .int .u64 ((rd_T79 l0_2 x3_2).f1.f1), .int .u64 ((rd_T79 l0_2 x3_2).f1.f2), .int .u64 ((rd_T79 l0_2 x3_2).f1.f3), .int .u64 ((rd_T79 l0_2 x3_2).f1.f4), .int .u64 ((rd_T79 l0_2 x3_2).f2.f0), .int .u64 ((rd_T79 l0_2 x3_2).f2.f1), .int .u64 ((rd_T79 l0_2 x3_2).f2.f2)] 79 (0, 0))) ∧ Aside0 (Below w.heap.size w wc))
           case first =>
            have H := HC10.out; clear HC10
            by_cases c15 : (((rd_T79 l0_2 x3_2).f0).size : Int) < 1
            · rw [if_pos c15] at H
              have c15b0 : decide ((((rd_T79 l0_2 x3_2).f0).size : Int) < 1) = true := decide_eq_true c15
              have c15b1 : decide (((rd_T79 l0_2 x3_2).f0).size < 1) = true := decide_eq_true (by omega)
              clear c15
              (first | rw [c15b0] | (simp only [i64_w, i32_w]; rw [c15b0]) | skip)
              have H' := Aside0.mk H
              clear H; have hnb16 := NB407_405.out; have hnc16 := NB405_407.out
              have hcz17_0 : w12.cell? ⟨gb407, 0, none⟩ = some (.string (⟨#[]⟩ : ByteArray)) := (blk_cell BK407.out 0).trans rfl
              have hcz17_1 : w12.cell? ⟨gb407, 1, none⟩ = some (.int .i64 0) := (blk_cell BK407.out 1).trans rfl
              have hcz17_2 : w12.cell? ⟨gb407, 2, none⟩ = some (.int .u64 0) := (blk_cell BK407.out 2).trans rfl
              have hcz17_3 : w12.cell? ⟨gb407, 3, none⟩ = some (.int .u64 0) := (blk_cell BK407.out 3).trans rfl
              have hcz17_4 : w12.cell? ⟨gb407, 4, none⟩ = some (.int .u64 0) := (blk_cell BK407.out 4).trans rfl
              have hcz17_5 : w12.cell? ⟨gb407, 5, none⟩ = some (.int .u64 0) := (blk_cell BK407.out 5).trans rfl
              have hcz17_6 : w12.cell? ⟨gb407, 6, none⟩ = some (.int .u64 0) := (blk_cell BK407.out 6).trans rfl
              have hcz17_7 : w12.cell? ⟨gb407, 7, none⟩ = some (.int .u64 0) := (blk_cell BK407.out 7).trans rfl
              have hcz17_8 : w12.cell? ⟨gb407, 8, none⟩ = some (.int .u64 0) := (blk_cell BK407.out 8).trans rfl
              have hfz17_0 := blk_frozen BK407.out 0; have hfz17_1 := blk_frozen BK407.out 1; have hfz17_2 := blk_frozen BK407.out 2; have hfz17_3 := blk_frozen BK407.out 3; have hfz17_4 := blk_frozen BK407.out 4; have hfz17_5 := blk_frozen BK407.out 5; have hfz17_6 := blk_frozen BK407.out 6; have hfz17_7 := blk_frozen BK407.out 7; have hfz17_8 := blk_frozen BK407.out 8
              go_wp2
              repeat (go_quiet (fail); try go_wp2)
              go_meet
              case rel => exact ⟨_, (true), rs, H', ⟨by have := HJ1.out; have := HK2.out; first | omega | exact Nat.le_refl _⟩, ⟨bk BK405⟩, ⟨by (with_reducible repeat (first | refine blk_drewN ?_ _ | refine blk_drew ?_ | refine blk_alloc ?_ _)); refine blk_put (cs := #[.string ((rd_T79 l0_2 x3_2).f0), .int .i64 ((rd_T79 l0_2 x3_2).f1.f0), .int .u64 ((rd_T79 l0_2 x3_2).f1.f1), .int .u64 ((rd_T79 l0_2 x3_2).f1.f2), .int .u64 ((rd_T79 l0_2 x3_2).f1.f3), .int .u64 ((rd_T79 l0_2 x3_2).f1.f4), .int .u64 ((rd_T79 l0_2 x3_2).f2.f0), .int .u64 ((rd_T79 l0_2 x3_2).f2.f1), .int .u64 0]) ?_ 8 _ rfl; (with_reducible repeat (first | refine blk_drewN ?_ _ | refine blk_drew ?_ | refine blk_alloc ?_ _)); refine blk_put (cs := #[.string ((rd_T79 l0_2 x3_2).f0), .int .i64 ((rd_T79 l0_2 x3_2).f1.f0), .int .u64 ((rd_T79 l0_2 x3_2).f1.f1), .int .u64 ((rd_T79 l0_2 x3_2).f1.f2), .int .u64 ((rd_T79 l0_2 x3_2).f1.f3), .int .u64 ((rd_T79 l0_2 x3_2).f1.f4), .int .u64 ((rd_T79 l0_2 x3_2).f2.f0), .int .u64 0, .int .u64 0]) ?_ 7 _ rfl; (with_reducible repeat (first | refine blk_drewN ?_ _ | refine blk_drew ?_ | refine blk_alloc ?_ _)); refine blk_put (cs := #[.string ((rd_T79 l0_2 x3_2).f0), .int .i64 ((rd_T79 l0_2 x3_2).f1.f0), .int .u64 ((rd_T79 l0_2 x3_2).f1.f1), .int .u64 ((rd_T79 l0_2 x3_2).f1.f2), .int .u64 ((rd_T79 l0_2 x3_2).f1.f3), .int .u64 ((rd_T79 l0_2 x3_2).f1.f4), .int .u64 0, .int .u64 0, .int .u64 0]) ?_ 6 _ rfl; (with_reducible repeat (first | refine blk_drewN ?_ _ | refine blk_drew ?_ | refine blk_alloc ?_ _)); refine blk_put (cs := #[.string ((rd_T79 l0_2 x3_2).f0), .int .i64 ((rd_T79 l0_2 x3_2).f1.f0), .int .u64 ((rd_T79 l0_2 x3_2).f1.f1), .int .u64 ((rd_T79 l0_2 x3_2).f1.f2), .int .u64 ((rd_T79 l0_2 x3_2).f1.f3), .int .u64 0, .int .u64 0, .int .u64 0, .int .u64 0]) ?_ 5 _ rfl; (with_reducible repeat (first | refine blk_drewN ?_ _ | refine blk_drew ?_ | refine blk_alloc ?_ _)); refine blk_put (cs := #[.string ((rd_T79 l0_2 x3_2).f0), .int .i64 ((rd_T79 l0_2 x3_2).f1.f0), .int .u64 ((rd_T79 l0_2 x3_2).f1.f1), .int .u64 ((rd_T79 l0_2 x3_2).f1.f2), .int .u64 0, .int .u64 0, .int .u64 0, .int .u64 0, .int .u64 0]) ?_ 4 _ rfl; (with_reducible repeat (first | refine blk_drewN ?_ _ | refine blk_drew ?_ | refine blk_alloc ?_ _)); refine blk_put (cs := #[.string ((rd_T79 l0_2 x3_2).f0), .int .i64 ((rd_T79 l0_2 x3_2).f1.f0), .int .u64 ((rd_T79 l0_2 x3_2).f1.f1), .int .u64 0, .int .u64 0, .int .u64 0, .int .u64 0, .int .u64 0, .int .u64 0]) ?_ 3 _ rfl; (with_reducible repeat (first | refine blk_drewN ?_ _ | refine blk_drew ?_ | refine blk_alloc ?_ _)); refine blk_put (cs := #[.string ((rd_T79 l0_2 x3_2).f0), .int .i64 ((rd_T79 l0_2 x3_2).f1.f0), .int .u64 0, .int .u64 0, .int .u64 0, .int .u64 0, .int .u64 0, .int .u64 0, .int .u64 0]) ?_ 2 _ rfl; (with_reducible repeat (first | refine blk_drewN ?_ _ | refine blk_drew ?_ | refine blk_alloc ?_ _)); refine blk_put (cs := #[.string ((rd_T79 l0_2 x3_2).f0), .int .i64 0, .int .u64 0, .int .u64 0, .int .u64 0, .int .u64 0, .int .u64 0, .int .u64 0, .int .u64 0]) ?_ 1 _ rfl; (with_reducible repeat (first | refine blk_drewN ?_ _ | refine blk_drew ?_ | refine blk_alloc ?_ _)); refine blk_put (cs := #[.string (⟨#[]⟩ : ByteArray), .int .i64 0, .int .u64 0, .int .u64 0, .int .u64 0, .int .u64 0, .int .u64 0, .int .u64 0, .int .u64 0]) ?_ 0 _ rfl; (with_reducible repeat (first | refine blk_drewN ?_ _ | refine blk_drew ?_ | refine blk_alloc ?_ _)); exact BK407.out⟩, ⟨bw HB⟩⟩
            · rw [if_neg c15] at H
              have c15b0 : decide ((((rd_T79 l0_2 x3_2).f0).size : Int) < 1) = false := decide_eq_false c15
              have c15b1 : decide (((rd_T79 l0_2 x3_2).f0).size < 1) = false := decide_eq_false (by omega)
              clear c15
              (first | rw [c15b0] | (simp only [i64_w, i32_w]; rw [c15b0]) | skip)
              by_cases c18 : (((rd_T79 l0_2 x3_2).f0).size : Int) > 64
              · rw [if_pos c18] at H
                have c18b0 : decide (64 < (((rd_T79 l0_2 x3_2).f0).size : Int)) = true := decide_eq_true c18
                have c18b1 : decide (64 < ((rd_T79 l0_2 x3_2).f0).size) = true := decide_eq_true (by omega)
                clear c18
                have H' := Aside0.mk H
                clear H; have hnb19 := NB407_405.out; have hnc19 := NB405_407.out
                have hcz20_0 : w12.cell? ⟨gb407, 0, none⟩ = some (.string (⟨#[]⟩ : ByteArray)) := (blk_cell BK407.out 0).trans rfl
                have hcz20_1 : w12.cell? ⟨gb407, 1, none⟩ = some (.int .i64 0) := (blk_cell BK407.out 1).trans rfl
                have hcz20_2 : w12.cell? ⟨gb407, 2, none⟩ = some (.int .u64 0) := (blk_cell BK407.out 2).trans rfl
                have hcz20_3 : w12.cell? ⟨gb407, 3, none⟩ = some (.int .u64 0) := (blk_cell BK407.out 3).trans rfl
                have hcz20_4 : w12.cell? ⟨gb407, 4, none⟩ = some (.int .u64 0) := (blk_cell BK407.out 4).trans rfl
                have hcz20_5 : w12.cell? ⟨gb407, 5, none⟩ = some (.int .u64 0) := (blk_cell BK407.out 5).trans rfl
                have hcz20_6 : w12.cell? ⟨gb407, 6, none⟩ = some (.int .u64 0) := (blk_cell BK407.out 6).trans rfl
                have hcz20_7 : w12.cell? ⟨gb407, 7, none⟩ = some (.int .u64 0) := (blk_cell BK407.out 7).trans rfl
                have hcz20_8 : w12.cell? ⟨gb407, 8, none⟩ = some (.int .u64 0) := (blk_cell BK407.out 8).trans rfl
                have hfz20_0 := blk_frozen BK407.out 0; have hfz20_1 := blk_frozen BK407.out 1; have hfz20_2 := blk_frozen BK407.out 2; have hfz20_3 := blk_frozen BK407.out 3; have hfz20_4 := blk_frozen BK407.out 4; have hfz20_5 := blk_frozen BK407.out 5; have hfz20_6 := blk_frozen BK407.out 6; have hfz20_7 := blk_frozen BK407.out 7; have hfz20_8 := blk_frozen BK407.out 8
                go_wp2
                repeat (go_quiet (fail); try go_wp2)
                go_meet
                case rel => exact ⟨_, (true), rs, H', ⟨by have := HJ1.out; have := HK2.out; first | omega | exact Nat.le_refl _⟩, ⟨bk BK405⟩, ⟨by (with_reducible repeat (first | refine blk_drewN ?_ _ | refine blk_drew ?_ | refine blk_alloc ?_ _)); refine blk_put (cs := #[.string ((rd_T79 l0_2 x3_2).f0), .int .i64 ((rd_T79 l0_2 x3_2).f1.f0), .int .u64 ((rd_T79 l0_2 x3_2).f1.f1), .int .u64 ((rd_T79 l0_2 x3_2).f1.f2), .int .u64 ((rd_T79 l0_2 x3_2).f1.f3), .int .u64 ((rd_T79 l0_2 x3_2).f1.f4), .int .u64 ((rd_T79 l0_2 x3_2).f2.f0), .int .u64 ((rd_T79 l0_2 x3_2).f2.f1), .int .u64 0]) ?_ 8 _ rfl; (with_reducible repeat (first | refine blk_drewN ?_ _ | refine blk_drew ?_ | refine blk_alloc ?_ _)); refine blk_put (cs := #[.string ((rd_T79 l0_2 x3_2).f0), .int .i64 ((rd_T79 l0_2 x3_2).f1.f0), .int .u64 ((rd_T79 l0_2 x3_2).f1.f1), .int .u64 ((rd_T79 l0_2 x3_2).f1.f2), .int .u64 ((rd_T79 l0_2 x3_2).f1.f3), .int .u64 ((rd_T79 l0_2 x3_2).f1.f4), .int .u64 ((rd_T79 l0_2 x3_2).f2.f0), .int .u64 0, .int .u64 0]) ?_ 7 _ rfl; (with_reducible repeat (first | refine blk_drewN ?_ _ | refine blk_drew ?_ | refine blk_alloc ?_ _)); refine blk_put (cs := #[.string ((rd_T79 l0_2 x3_2).f0), .int .i64 ((rd_T79 l0_2 x3_2).f1.f0), .int .u64 ((rd_T79 l0_2 x3_2).f1.f1), .int .u64 ((rd_T79 l0_2 x3_2).f1.f2), .int .u64 ((rd_T79 l0_2 x3_2).f1.f3), .int .u64 ((rd_T79 l0_2 x3_2).f1.f4), .int .u64 0, .int .u64 0, .int .u64 0]) ?_ 6 _ rfl; (with_reducible repeat (first | refine blk_drewN ?_ _ | refine blk_drew ?_ | refine blk_alloc ?_ _)); refine blk_put (cs := #[.string ((rd_T79 l0_2 x3_2).f0), .int .i64 ((rd_T79 l0_2 x3_2).f1.f0), .int .u64 ((rd_T79 l0_2 x3_2).f1.f1), .int .u64 ((rd_T79 l0_2 x3_2).f1.f2), .int .u64 ((rd_T79 l0_2 x3_2).f1.f3), .int .u64 0, .int .u64 0, .int .u64 0, .int .u64 0]) ?_ 5 _ rfl; (with_reducible repeat (first | refine blk_drewN ?_ _ | refine blk_drew ?_ | refine blk_alloc ?_ _)); refine blk_put (cs := #[.string ((rd_T79 l0_2 x3_2).f0), .int .i64 ((rd_T79 l0_2 x3_2).f1.f0), .int .u64 ((rd_T79 l0_2 x3_2).f1.f1), .int .u64 ((rd_T79 l0_2 x3_2).f1.f2), .int .u64 0, .int .u64 0, .int .u64 0, .int .u64 0, .int .u64 0]) ?_ 4 _ rfl; (with_reducible repeat (first | refine blk_drewN ?_ _ | refine blk_drew ?_ | refine blk_alloc ?_ _)); refine blk_put (cs := #[.string ((rd_T79 l0_2 x3_2).f0), .int .i64 ((rd_T79 l0_2 x3_2).f1.f0), .int .u64 ((rd_T79 l0_2 x3_2).f1.f1), .int .u64 0, .int .u64 0, .int .u64 0, .int .u64 0, .int .u64 0, .int .u64 0]) ?_ 3 _ rfl; (with_reducible repeat (first | refine blk_drewN ?_ _ | refine blk_drew ?_ | refine blk_alloc ?_ _)); refine blk_put (cs := #[.string ((rd_T79 l0_2 x3_2).f0), .int .i64 ((rd_T79 l0_2 x3_2).f1.f0), .int .u64 0, .int .u64 0, .int .u64 0, .int .u64 0, .int .u64 0, .int .u64 0, .int .u64 0]) ?_ 2 _ rfl; (with_reducible repeat (first | refine blk_drewN ?_ _ | refine blk_drew ?_ | refine blk_alloc ?_ _)); refine blk_put (cs := #[.string ((rd_T79 l0_2 x3_2).f0), .int .i64 0, .int .u64 0, .int .u64 0, .int .u64 0, .int .u64 0, .int .u64 0, .int .u64 0, .int .u64 0]) ?_ 1 _ rfl; (with_reducible repeat (first | refine blk_drewN ?_ _ | refine blk_drew ?_ | refine blk_alloc ?_ _)); refine blk_put (cs := #[.string (⟨#[]⟩ : ByteArray), .int .i64 0, .int .u64 0, .int .u64 0, .int .u64 0, .int .u64 0, .int .u64 0, .int .u64 0, .int .u64 0]) ?_ 0 _ rfl; (with_reducible repeat (first | refine blk_drewN ?_ _ | refine blk_drew ?_ | refine blk_alloc ?_ _)); exact BK407.out⟩, ⟨bw HB⟩⟩
              · rw [if_neg c18] at H
                have c18b0 : decide (64 < (((rd_T79 l0_2 x3_2).f0).size : Int)) = false := decide_eq_false c18
                have c18b1 : decide (64 < ((rd_T79 l0_2 x3_2).f0).size) = false := decide_eq_false (by omega)
                clear c18; replace H := Option.bind_eq_some_iff.mp H
                obtain ⟨t408, A210, H⟩ := H
                replace H : (turnstileref13_Valid.j2 k2 x3_2 (!t408) a0_0 a0_1 l0_2 ((rd_T79 l0_2 x3_2).f0) ((rd_T79 l0_2 x3_2).f1.f0) ((rd_T79 l0_2 x3_2).f1.f1) ((rd_T79 l0_2 x3_2).f1.f2) ((rd_T79 l0_2 x3_2).f1.f3) ((rd_T79 l0_2 x3_2).f1.f4) ((rd_T79 l0_2 x3_2).f2.f0) ((rd_T79 l0_2 x3_2).f2.f1) ((rd_T79 l0_2 x3_2).f2.f2)) = some r := H
                have A21 := Aside0.mk A210; clear A210
                have H' := Aside0.mk H
                clear H; have hnb22 := NB407_405.out; have hnc22 := NB405_407.out
                have hcz23_0 : w12.cell? ⟨gb407, 0, none⟩ = some (.string (⟨#[]⟩ : ByteArray)) := (blk_cell BK407.out 0).trans rfl
                have hcz23_1 : w12.cell? ⟨gb407, 1, none⟩ = some (.int .i64 0) := (blk_cell BK407.out 1).trans rfl
                have hcz23_2 : w12.cell? ⟨gb407, 2, none⟩ = some (.int .u64 0) := (blk_cell BK407.out 2).trans rfl
                have hcz23_3 : w12.cell? ⟨gb407, 3, none⟩ = some (.int .u64 0) := (blk_cell BK407.out 3).trans rfl
                have hcz23_4 : w12.cell? ⟨gb407, 4, none⟩ = some (.int .u64 0) := (blk_cell BK407.out 4).trans rfl
                have hcz23_5 : w12.cell? ⟨gb407, 5, none⟩ = some (.int .u64 0) := (blk_cell BK407.out 5).trans rfl
                have hcz23_6 : w12.cell? ⟨gb407, 6, none⟩ = some (.int .u64 0) := (blk_cell BK407.out 6).trans rfl
                have hcz23_7 : w12.cell? ⟨gb407, 7, none⟩ = some (.int .u64 0) := (blk_cell BK407.out 7).trans rfl
                have hcz23_8 : w12.cell? ⟨gb407, 8, none⟩ = some (.int .u64 0) := (blk_cell BK407.out 8).trans rfl
                have hfz23_0 := blk_frozen BK407.out 0; have hfz23_1 := blk_frozen BK407.out 1; have hfz23_2 := blk_frozen BK407.out 2; have hfz23_3 := blk_frozen BK407.out 3; have hfz23_4 := blk_frozen BK407.out 4; have hfz23_5 := blk_frozen BK407.out 5; have hfz23_6 := blk_frozen BK407.out 6; have hfz23_7 := blk_frozen BK407.out 7; have hfz23_8 := blk_frozen BK407.out 8
                go_wp2_with (first | (go_at_call 73; (with_reducible refine (turnstileref06_Fits.calls ((rd_T79 l0_2 x3_2).f1.f0) ((rd_T79 l0_2 x3_2).f1.f1) ((rd_T79 l0_2 x3_2).f1.f2) ((rd_T79 l0_2 x3_2).f1.f3) ((rd_T79 l0_2 x3_2).f1.f4) ((rd_T79 l0_2 x3_2).f2.f0) ((rd_T79 l0_2 x3_2).f2.f1) ((rd_T79 l0_2 x3_2).f2.f2) t408 _ A21.out).mono ?_); rintro e w24 ⟨rfl, hb⟩; have n0_ := bb BK405 hb; have n1_ := Aside0.mk (blk_below (g := gb407) (o := .cells #[.string ((rd_T79 l0_2 x3_2).f0), .int .i64 ((rd_T79 l0_2 x3_2).f1.f0), .int .u64 ((rd_T79 l0_2 x3_2).f1.f1), .int .u64 ((rd_T79 l0_2 x3_2).f1.f2), .int .u64 ((rd_T79 l0_2 x3_2).f1.f3), .int .u64 ((rd_T79 l0_2 x3_2).f1.f4), .int .u64 ((rd_T79 l0_2 x3_2).f2.f0), .int .u64 ((rd_T79 l0_2 x3_2).f2.f1), .int .u64 ((rd_T79 l0_2 x3_2).f2.f2)] 79 (0, 0)) (by (with_reducible repeat (first | refine blk_drewN ?_ _ | refine blk_drew ?_ | refine blk_alloc ?_ _)); refine blk_put (cs := #[.string ((rd_T79 l0_2 x3_2).f0), .int .i64 ((rd_T79 l0_2 x3_2).f1.f0), .int .u64 ((rd_T79 l0_2 x3_2).f1.f1), .int .u64 ((rd_T79 l0_2 x3_2).f1.f2), .int .u64 ((rd_T79 l0_2 x3_2).f1.f3), .int .u64 ((rd_T79 l0_2 x3_2).f1.f4), .int .u64 ((rd_T79 l0_2 x3_2).f2.f0), .int .u64 ((rd_T79 l0_2 x3_2).f2.f1), .int .u64 0]) ?_ 8 _ rfl; (with_reducible repeat (first | refine blk_drewN ?_ _ | refine blk_drew ?_ | refine blk_alloc ?_ _)); refine blk_put (cs := #[.string ((rd_T79 l0_2 x3_2).f0), .int .i64 ((rd_T79 l0_2 x3_2).f1.f0), .int .u64 ((rd_T79 l0_2 x3_2).f1.f1), .int .u64 ((rd_T79 l0_2 x3_2).f1.f2), .int .u64 ((rd_T79 l0_2 x3_2).f1.f3), .int .u64 ((rd_T79 l0_2 x3_2).f1.f4), .int .u64 ((rd_T79 l0_2 x3_2).f2.f0), .int .u64 0, .int .u64 0]) ?_ 7 _ rfl; (with_reducible repeat (first | refine blk_drewN ?_ _ | refine blk_drew ?_ | refine blk_alloc ?_ _)); refine blk_put (cs := #[.string ((rd_T79 l0_2 x3_2).f0), .int .i64 ((rd_T79 l0_2 x3_2).f1.f0), .int .u64 ((rd_T79 l0_2 x3_2).f1.f1), .int .u64 ((rd_T79 l0_2 x3_2).f1.f2), .int .u64 ((rd_T79 l0_2 x3_2).f1.f3), .int .u64 ((rd_T79 l0_2 x3_2).f1.f4), .int .u64 0, .int .u64 0, .int .u64 0]) ?_ 6 _ rfl; (with_reducible repeat (first | refine blk_drewN ?_ _ | refine blk_drew ?_ | refine blk_alloc ?_ _)); refine blk_put (cs := #[.string ((rd_T79 l0_2 x3_2).f0), .int .i64 ((rd_T79 l0_2 x3_2).f1.f0), .int .u64 ((rd_T79 l0_2 x3_2).f1.f1), .int .u64 ((rd_T79 l0_2 x3_2).f1.f2), .int .u64 ((rd_T79 l0_2 x3_2).f1.f3), .int .u64 0, .int .u64 0, .int .u64 0, .int .u64 0]) ?_ 5 _ rfl; (with_reducible repeat (first | refine blk_drewN ?_ _ | refine blk_drew ?_ | refine blk_alloc ?_ _)); refine blk_put (cs := #[.string ((rd_T79 l0_2 x3_2).f0), .int .i64 ((rd_T79 l0_2 x3_2).f1.f0), .int .u64 ((rd_T79 l0_2 x3_2).f1.f1), .int .u64 ((rd_T79 l0_2 x3_2).f1.f2), .int .u64 0, .int .u64 0, .int .u64 0, .int .u64 0, .int .u64 0]) ?_ 4 _ rfl; (with_reducible repeat (first | refine blk_drewN ?_ _ | refine blk_drew ?_ | refine blk_alloc ?_ _)); refine blk_put (cs := #[.string ((rd_T79 l0_2 x3_2).f0), .int .i64 ((rd_T79 l0_2 x3_2).f1.f0), .int .u64 ((rd_T79 l0_2 x3_2).f1.f1), .int .u64 0, .int .u64 0, .int .u64 0, .int .u64 0, .int .u64 0, .int .u64 0]) ?_ 3 _ rfl; (with_reducible repeat (first | refine blk_drewN ?_ _ | refine blk_drew ?_ | refine blk_alloc ?_ _)); refine blk_put (cs := #[.string ((rd_T79 l0_2 x3_2).f0), .int .i64 ((rd_T79 l0_2 x3_2).f1.f0), .int .u64 0, .int .u64 0, .int .u64 0, .int .u64 0, .int .u64 0, .int .u64 0, .int .u64 0]) ?_ 2 _ rfl; (with_reducible repeat (first | refine blk_drewN ?_ _ | refine blk_drew ?_ | refine blk_alloc ?_ _)); refine blk_put (cs := #[.string ((rd_T79 l0_2 x3_2).f0), .int .i64 0, .int .u64 0, .int .u64 0, .int .u64 0, .int .u64 0, .int .u64 0, .int .u64 0, .int .u64 0]) ?_ 1 _ rfl; (with_reducible repeat (first | refine blk_drewN ?_ _ | refine blk_drew ?_ | refine blk_alloc ?_ _)); refine blk_put (cs := #[.string (⟨#[]⟩ : ByteArray), .int .i64 0, .int .u64 0, .int .u64 0, .int .u64 0, .int .u64 0, .int .u64 0, .int .u64 0, .int .u64 0]) ?_ 0 _ rfl; (with_reducible repeat (first | refine blk_drewN ?_ _ | refine blk_drew ?_ | refine blk_alloc ?_ _)); exact BK407.out) hb); have n2_ := bs HB hb; clear BK405; clear BK407; clear HB; have BK405 := n0_; have BK407 := n1_; have HB := n2_; clear n0_ n1_ n2_))
                repeat (go_quiet (first | (go_at_call 73; (with_reducible refine (turnstileref06_Fits.calls ((rd_T79 l0_2 x3_2).f1.f0) ((rd_T79 l0_2 x3_2).f1.f1) ((rd_T79 l0_2 x3_2).f1.f2) ((rd_T79 l0_2 x3_2).f1.f3) ((rd_T79 l0_2 x3_2).f1.f4) ((rd_T79 l0_2 x3_2).f2.f0) ((rd_T79 l0_2 x3_2).f2.f1) ((rd_T79 l0_2 x3_2).f2.f2) t408 _ A21.out).mono ?_); rintro e w24 ⟨rfl, hb⟩; have n0_ := bb BK405 hb; have n1_ := Aside0.mk (blk_below (g := gb407) (o := .cells #[.string ((rd_T79 l0_2 x3_2).f0), .int .i64 ((rd_T79 l0_2 x3_2).f1.f0), .int .u64 ((rd_T79 l0_2 x3_2).f1.f1), .int .u64 ((rd_T79 l0_2 x3_2).f1.f2), .int .u64 ((rd_T79 l0_2 x3_2).f1.f3), .int .u64 ((rd_T79 l0_2 x3_2).f1.f4), .int .u64 ((rd_T79 l0_2 x3_2).f2.f0), .int .u64 ((rd_T79 l0_2 x3_2).f2.f1), .int .u64 ((rd_T79 l0_2 x3_2).f2.f2)] 79 (0, 0)) (by (with_reducible repeat (first | refine blk_drewN ?_ _ | refine blk_drew ?_ | refine blk_alloc ?_ _)); refine blk_put (cs := #[.string ((rd_T79 l0_2 x3_2).f0), .int .i64 ((rd_T79 l0_2 x3_2).f1.f0), .int .u64 ((rd_T79 l0_2 x3_2).f1.f1), .int .u64 ((rd_T79 l0_2 x3_2).f1.f2), .int .u64 ((rd_T79 l0_2 x3_2).f1.f3), .int .u64 ((rd_T79 l0_2 x3_2).f1.f4), .int .u64 ((rd_T79 l0_2 x3_2).f2.f0), .int .u64 ((rd_T79 l0_2 x3_2).f2.f1), .int .u64 0]) ?_ 8 _ rfl; (with_reducible repeat (first | refine blk_drewN ?_ _ | refine blk_drew ?_ | refine blk_alloc ?_ _)); refine blk_put (cs := #[.string ((rd_T79 l0_2 x3_2).f0), .int .i64 ((rd_T79 l0_2 x3_2).f1.f0), .int .u64 ((rd_T79 l0_2 x3_2).f1.f1), .int .u64 ((rd_T79 l0_2 x3_2).f1.f2), .int .u64 ((rd_T79 l0_2 x3_2).f1.f3), .int .u64 ((rd_T79 l0_2 x3_2).f1.f4), .int .u64 ((rd_T79 l0_2 x3_2).f2.f0), .int .u64 0, .int .u64 0]) ?_ 7 _ rfl; (with_reducible repeat (first | refine blk_drewN ?_ _ | refine blk_drew ?_ | refine blk_alloc ?_ _)); refine blk_put (cs := #[.string ((rd_T79 l0_2 x3_2).f0), .int .i64 ((rd_T79 l0_2 x3_2).f1.f0), .int .u64 ((rd_T79 l0_2 x3_2).f1.f1), .int .u64 ((rd_T79 l0_2 x3_2).f1.f2), .int .u64 ((rd_T79 l0_2 x3_2).f1.f3), .int .u64 ((rd_T79 l0_2 x3_2).f1.f4), .int .u64 0, .int .u64 0, .int .u64 0]) ?_ 6 _ rfl; (with_reducible repeat (first | refine blk_drewN ?_ _ | refine blk_drew ?_ | refine blk_alloc ?_ _)); refine blk_put (cs := #[.string ((rd_T79 l0_2 x3_2).f0), .int .i64 ((rd_T79 l0_2 x3_2).f1.f0), .int .u64 ((rd_T79 l0_2 x3_2).f1.f1), .int .u64 ((rd_T79 l0_2 x3_2).f1.f2), .int .u64 ((rd_T79 l0_2 x3_2).f1.f3), .int .u64 0, .int .u64 0, .int .u64 0, .int .u64 0]) ?_ 5 _ rfl; (with_reducible repeat (first | refine blk_drewN ?_ _ | refine blk_drew ?_ | refine blk_alloc ?_ _)); refine blk_put (cs := #[.string ((rd_T79 l0_2 x3_2).f0), .int .i64 ((rd_T79 l0_2 x3_2).f1.f0), .int .u64 ((rd_T79 l0_2 x3_2).f1.f1), .int .u64 ((rd_T79 l0_2 x3_2).f1.f2), .int .u64 0, .int .u64 0, .int .u64 0, .int .u64 0, .int .u64 0]) ?_ 4 _ rfl; (with_reducible repeat (first | refine blk_drewN ?_ _ | refine blk_drew ?_ | refine blk_alloc ?_ _)); refine blk_put (cs := #[.string ((rd_T79 l0_2 x3_2).f0), .int .i64 ((rd_T79 l0_2 x3_2).f1.f0), .int .u64 ((rd_T79 l0_2 x3_2).f1.f1), .int .u64 0, .int .u64 0, .int .u64 0, .int .u64 0, .int .u64 0, .int .u64 0]) ?_ 3 _ rfl; (with_reducible repeat (first | refine blk_drewN ?_ _ | refine blk_drew ?_ | refine blk_alloc ?_ _)); refine blk_put (cs := #[.string ((rd_T79 l0_2 x3_2).f0), .int .i64 ((rd_T79 l0_2 x3_2).f1.f0), .int .u64 0, .int .u64 0, .int .u64 0, .int .u64 0, .int .u64 0, .int .u64 0, .int .u64 0]) ?_ 2 _ rfl; (with_reducible repeat (first | refine blk_drewN ?_ _ | refine blk_drew ?_ | refine blk_alloc ?_ _)); refine blk_put (cs := #[.string ((rd_T79 l0_2 x3_2).f0), .int .i64 0, .int .u64 0, .int .u64 0, .int .u64 0, .int .u64 0, .int .u64 0, .int .u64 0, .int .u64 0]) ?_ 1 _ rfl; (with_reducible repeat (first | refine blk_drewN ?_ _ | refine blk_drew ?_ | refine blk_alloc ?_ _)); refine blk_put (cs := #[.string (⟨#[]⟩ : ByteArray), .int .i64 0, .int .u64 0, .int .u64 0, .int .u64 0, .int .u64 0, .int .u64 0, .int .u64 0, .int .u64 0]) ?_ 0 _ rfl; (with_reducible repeat (first | refine blk_drewN ?_ _ | refine blk_drew ?_ | refine blk_alloc ?_ _)); exact BK407.out) hb); have n2_ := bs HB hb; clear BK405; clear BK407; clear HB; have BK405 := n0_; have BK407 := n1_; have HB := n2_; clear n0_ n1_ n2_)); try go_wp2)
                go_meet
                case rel => exact ⟨_, (!t408), rs, H', ⟨by have := HJ1.out; have := HK2.out; first | omega | exact Nat.le_refl _⟩, ⟨bk BK405⟩, ⟨bk BK407⟩, ⟨bw HB⟩⟩
           case rest =>
            clear HC10
            obtain ⟨kq, x43_9, rfl, HA, HJ9, BK405, BK407, HB⟩ := hcut
            cases kq with
            | zero => exact absurd HA.out (by simp [turnstileref13_Valid.j2])
            | succ kj9 =>
             have H := HA.out; clear HA
             simp only [turnstileref13_Valid.j2] at H
             by_cases c25 : x43_9 = true
             · subst c25
               have H1 : (some false) = some r := by rw [if_pos rfl] at H; exact H
               clear H; have H := H1; clear H1
               obtain rfl := Option.some.inj H
               go_wp2
               repeat (go_quiet (fail); try go_wp2)
               go_ret
               exact ⟨re, bw HB⟩
             · replace c25 := Bool.eq_false_iff.mpr c25
               subst c25
               have H1 : (if x3_2 > 0 then (if 0 ≤ (wrap64 (x3_2 - 1)) then (if (wrap64 (x3_2 - 1)) < (l0_2.length : Int) then ((turnstileref07_Before.f kj9 ((rd_T79 l0_2 (wrap64 (x3_2 - 1))).f0) ((rd_T79 l0_2 x3_2).f0)).bind fun t410 => (if t410 = true then (turnstileref13_Valid.l0 kj9 (wrap64 (x3_2 + 1)) a0_0 a0_1 l0_2) else (some false))) else (none)) else (none)) else (turnstileref13_Valid.l0 kj9 (wrap64 (x3_2 + 1)) a0_0 a0_1 l0_2)) = some r := by rw [if_neg (show ¬ (false = true) by decide)] at H; exact H
               clear H; have H := H1; clear H1
               by_cases c26 : x3_2 > 0
               · rw [if_pos c26] at H
                 have c26b0 : decide (0 < x3_2) = true := decide_eq_true c26
                 clear c26
                 obtain ⟨ji27, hji27⟩ : ∃ j_ : Int, (wrap64 (x3_2 - 1)) = j_ := ⟨_, rfl⟩
                 replace H : (if 0 ≤ (ji27) then (if (ji27) < (l0_2.length : Int) then ((turnstileref07_Before.f kj9 ((rd_T79 l0_2 (ji27)).f0) ((rd_T79 l0_2 x3_2).f0)).bind fun t410 => (if t410 = true then (turnstileref13_Valid.l0 kj9 (wrap64 (x3_2 + 1)) a0_0 a0_1 l0_2) else (some false))) else (none)) else (none)) = some r := by first | (rw [hji27] at H; exact H) | (simp only [hji27] at H ⊢; exact H)
                 have hji27w : (IntKind.i64.wrap (x3_2 - 1)) = ji27 := (i64_w _).trans hji27
                 by_cases c28 : 0 ≤ (ji27)
                 · rw [if_pos c28] at H
                   have c28b0 : decide (0 ≤ (ji27)) = true := decide_eq_true c28
                   clear c28
                   by_cases c29 : (ji27) < (l0_2.length : Int)
                   · rw [if_pos c29] at H
                     have c29b0 : decide ((ji27) < (l0_2.length : Int)) = true := decide_eq_true c29
                     clear c29; replace H := Option.bind_eq_some_iff.mp H
                     obtain ⟨t410, A300, H⟩ := H
                     replace H : (if t410 = true then (turnstileref13_Valid.l0 kj9 (wrap64 (x3_2 + 1)) a0_0 a0_1 l0_2) else (some false)) = some r := H
                     have A30 := Aside0.mk A300; clear A300
                     by_cases c31 : t410 = true
                     · subst c31
                       have H1 : (turnstileref13_Valid.l0 kj9 (wrap64 (x3_2 + 1)) a0_0 a0_1 l0_2) = some r := by rw [if_pos rfl] at H; exact H
                       clear H; have H := H1; clear H1
                       have H' := Aside0.mk H
                       clear H; have hnb32 := NB405_407.out; have hnc32 := NB407_405.out
                       obtain ⟨hcz33_0, hcz33_1, hcz33_2, hfz33_0, hfz33_1, hfz33_2⟩ := bc3 BK405
                       have p409 : 0 ≤ ((ji27) : Int) := of_decide_eq_true (by first | (with_reducible assumption) | assumption)
                       have q409 : (ji27) < (l0_2.length : Int) := of_decide_eq_true (by first | (with_reducible assumption) | assumption)
                       obtain ⟨ad409, e409, hx409_0, hx409_1, hx409_2, hx409_3, hx409_4, hx409_5, hx409_6, hx409_7, hx409_8⟩ := at_T79 HR0_2.out (ji27) p409 q409
                       obtain rfl : ad406 = ad409 := (by injection e409)
                       replace hx409_0 := (HB.out.cell (World.block_lt_of_cell? w _ hx409_0)).trans hx409_0; replace hx409_1 := (HB.out.cell (World.block_lt_of_cell? w _ hx409_1)).trans hx409_1; replace hx409_2 := (HB.out.cell (World.block_lt_of_cell? w _ hx409_2)).trans hx409_2; replace hx409_3 := (HB.out.cell (World.block_lt_of_cell? w _ hx409_3)).trans hx409_3; replace hx409_4 := (HB.out.cell (World.block_lt_of_cell? w _ hx409_4)).trans hx409_4; replace hx409_5 := (HB.out.cell (World.block_lt_of_cell? w _ hx409_5)).trans hx409_5; replace hx409_6 := (HB.out.cell (World.block_lt_of_cell? w _ hx409_6)).trans hx409_6; replace hx409_7 := (HB.out.cell (World.block_lt_of_cell? w _ hx409_7)).trans hx409_7; replace hx409_8 := (HB.out.cell (World.block_lt_of_cell? w _ hx409_8)).trans hx409_8; replace p409 := eq_true p409; replace q409 := eq_true q409
                       have hcz34_0 : wc.cell? ⟨gb407, 0, none⟩ = some (.string ((rd_T79 l0_2 x3_2).f0)) := (blk_cell BK407.out 0).trans rfl
                       have hcz34_1 : wc.cell? ⟨gb407, 1, none⟩ = some (.int .i64 ((rd_T79 l0_2 x3_2).f1.f0)) := (blk_cell BK407.out 1).trans rfl
                       have hcz34_2 : wc.cell? ⟨gb407, 2, none⟩ = some (.int .u64 ((rd_T79 l0_2 x3_2).f1.f1)) := (blk_cell BK407.out 2).trans rfl
                       have hcz34_3 : wc.cell? ⟨gb407, 3, none⟩ = some (.int .u64 ((rd_T79 l0_2 x3_2).f1.f2)) := (blk_cell BK407.out 3).trans rfl
                       have hcz34_4 : wc.cell? ⟨gb407, 4, none⟩ = some (.int .u64 ((rd_T79 l0_2 x3_2).f1.f3)) := (blk_cell BK407.out 4).trans rfl
                       have hcz34_5 : wc.cell? ⟨gb407, 5, none⟩ = some (.int .u64 ((rd_T79 l0_2 x3_2).f1.f4)) := (blk_cell BK407.out 5).trans rfl
                       have hcz34_6 : wc.cell? ⟨gb407, 6, none⟩ = some (.int .u64 ((rd_T79 l0_2 x3_2).f2.f0)) := (blk_cell BK407.out 6).trans rfl
                       have hcz34_7 : wc.cell? ⟨gb407, 7, none⟩ = some (.int .u64 ((rd_T79 l0_2 x3_2).f2.f1)) := (blk_cell BK407.out 7).trans rfl
                       have hcz34_8 : wc.cell? ⟨gb407, 8, none⟩ = some (.int .u64 ((rd_T79 l0_2 x3_2).f2.f2)) := (blk_cell BK407.out 8).trans rfl
                       have hfz34_0 := blk_frozen BK407.out 0; have hfz34_1 := blk_frozen BK407.out 1; have hfz34_2 := blk_frozen BK407.out 2; have hfz34_3 := blk_frozen BK407.out 3; have hfz34_4 := blk_frozen BK407.out 4; have hfz34_5 := blk_frozen BK407.out 5; have hfz34_6 := blk_frozen BK407.out 6; have hfz34_7 := blk_frozen BK407.out 7; have hfz34_8 := blk_frozen BK407.out 8
                       go_wp2_with (first | (go_at_call 74; (with_reducible refine (turnstileref07_Before.calls kj9 ((rd_T79 l0_2 (ji27)).f0) ((rd_T79 l0_2 x3_2).f0) true _ A30.out).mono ?_); rintro e w' ⟨rfl, ⟨nd, rfl⟩⟩; (try first | exact ⟨rfl, _, World.drewN_drewN _ _ _⟩ | exact ⟨rfl, _, Eq.trans (World.drewN_drewN _ _ _) (congrArg (World.drewN _) (Nat.add_assoc _ _ _))⟩)))
                       repeat (go_quiet (first | (go_at_call 74; (with_reducible refine (turnstileref07_Before.calls kj9 ((rd_T79 l0_2 (ji27)).f0) ((rd_T79 l0_2 x3_2).f0) true _ A30.out).mono ?_); rintro e w' ⟨rfl, ⟨nd, rfl⟩⟩; (try first | exact ⟨rfl, _, World.drewN_drewN _ _ _⟩ | exact ⟨rfl, _, Eq.trans (World.drewN_drewN _ _ _) (congrArg (World.drewN _) (Nat.add_assoc _ _ _))⟩))); try go_wp2)
                       go_roundg kj9
                       case measure => have := HJ1.out; have := HK2.out; have := HJ9.out; omega
                       case rel => exact ⟨(wrap64 (x3_2 + 1)), rs, H', ⟨by have := HJ1.out; have := HK2.out; have := HJ9.out; omega⟩, ⟨bk BK405⟩, ⟨bw HB⟩⟩
                     · replace c31 := Bool.eq_false_iff.mpr c31
                       subst c31
                       have H1 : (some false) = some r := by rw [if_neg (show ¬ (false = true) by decide)] at H; exact H
                       clear H; have H := H1; clear H1
                       obtain rfl := Option.some.inj H
                       have hnb35 := NB405_407.out; have hnc35 := NB407_405.out
                       obtain ⟨hcz36_0, hcz36_1, hcz36_2, hfz36_0, hfz36_1, hfz36_2⟩ := bc3 BK405
                       have p409 : 0 ≤ ((ji27) : Int) := of_decide_eq_true (by first | (with_reducible assumption) | assumption)
                       have q409 : (ji27) < (l0_2.length : Int) := of_decide_eq_true (by first | (with_reducible assumption) | assumption)
                       obtain ⟨ad409, e409, hx409_0, hx409_1, hx409_2, hx409_3, hx409_4, hx409_5, hx409_6, hx409_7, hx409_8⟩ := at_T79 HR0_2.out (ji27) p409 q409
                       obtain rfl : ad406 = ad409 := (by injection e409)
                       replace hx409_0 := (HB.out.cell (World.block_lt_of_cell? w _ hx409_0)).trans hx409_0; replace hx409_1 := (HB.out.cell (World.block_lt_of_cell? w _ hx409_1)).trans hx409_1; replace hx409_2 := (HB.out.cell (World.block_lt_of_cell? w _ hx409_2)).trans hx409_2; replace hx409_3 := (HB.out.cell (World.block_lt_of_cell? w _ hx409_3)).trans hx409_3; replace hx409_4 := (HB.out.cell (World.block_lt_of_cell? w _ hx409_4)).trans hx409_4; replace hx409_5 := (HB.out.cell (World.block_lt_of_cell? w _ hx409_5)).trans hx409_5; replace hx409_6 := (HB.out.cell (World.block_lt_of_cell? w _ hx409_6)).trans hx409_6; replace hx409_7 := (HB.out.cell (World.block_lt_of_cell? w _ hx409_7)).trans hx409_7; replace hx409_8 := (HB.out.cell (World.block_lt_of_cell? w _ hx409_8)).trans hx409_8; replace p409 := eq_true p409; replace q409 := eq_true q409
                       have hcz37_0 : wc.cell? ⟨gb407, 0, none⟩ = some (.string ((rd_T79 l0_2 x3_2).f0)) := (blk_cell BK407.out 0).trans rfl
                       have hcz37_1 : wc.cell? ⟨gb407, 1, none⟩ = some (.int .i64 ((rd_T79 l0_2 x3_2).f1.f0)) := (blk_cell BK407.out 1).trans rfl
                       have hcz37_2 : wc.cell? ⟨gb407, 2, none⟩ = some (.int .u64 ((rd_T79 l0_2 x3_2).f1.f1)) := (blk_cell BK407.out 2).trans rfl
                       have hcz37_3 : wc.cell? ⟨gb407, 3, none⟩ = some (.int .u64 ((rd_T79 l0_2 x3_2).f1.f2)) := (blk_cell BK407.out 3).trans rfl
                       have hcz37_4 : wc.cell? ⟨gb407, 4, none⟩ = some (.int .u64 ((rd_T79 l0_2 x3_2).f1.f3)) := (blk_cell BK407.out 4).trans rfl
                       have hcz37_5 : wc.cell? ⟨gb407, 5, none⟩ = some (.int .u64 ((rd_T79 l0_2 x3_2).f1.f4)) := (blk_cell BK407.out 5).trans rfl
                       have hcz37_6 : wc.cell? ⟨gb407, 6, none⟩ = some (.int .u64 ((rd_T79 l0_2 x3_2).f2.f0)) := (blk_cell BK407.out 6).trans rfl
                       have hcz37_7 : wc.cell? ⟨gb407, 7, none⟩ = some (.int .u64 ((rd_T79 l0_2 x3_2).f2.f1)) := (blk_cell BK407.out 7).trans rfl
                       have hcz37_8 : wc.cell? ⟨gb407, 8, none⟩ = some (.int .u64 ((rd_T79 l0_2 x3_2).f2.f2)) := (blk_cell BK407.out 8).trans rfl
                       have hfz37_0 := blk_frozen BK407.out 0; have hfz37_1 := blk_frozen BK407.out 1; have hfz37_2 := blk_frozen BK407.out 2; have hfz37_3 := blk_frozen BK407.out 3; have hfz37_4 := blk_frozen BK407.out 4; have hfz37_5 := blk_frozen BK407.out 5; have hfz37_6 := blk_frozen BK407.out 6; have hfz37_7 := blk_frozen BK407.out 7; have hfz37_8 := blk_frozen BK407.out 8
                       go_wp2_with (first | (go_at_call 74; (with_reducible refine (turnstileref07_Before.calls kj9 ((rd_T79 l0_2 (ji27)).f0) ((rd_T79 l0_2 x3_2).f0) false _ A30.out).mono ?_); rintro e w' ⟨rfl, ⟨nd, rfl⟩⟩; (try first | exact ⟨rfl, _, World.drewN_drewN _ _ _⟩ | exact ⟨rfl, _, Eq.trans (World.drewN_drewN _ _ _) (congrArg (World.drewN _) (Nat.add_assoc _ _ _))⟩)))
                       repeat (go_quiet (first | (go_at_call 74; (with_reducible refine (turnstileref07_Before.calls kj9 ((rd_T79 l0_2 (ji27)).f0) ((rd_T79 l0_2 x3_2).f0) false _ A30.out).mono ?_); rintro e w' ⟨rfl, ⟨nd, rfl⟩⟩; (try first | exact ⟨rfl, _, World.drewN_drewN _ _ _⟩ | exact ⟨rfl, _, Eq.trans (World.drewN_drewN _ _ _) (congrArg (World.drewN _) (Nat.add_assoc _ _ _))⟩))); try go_wp2)
                       go_ret
                       exact ⟨by first | rfl | (simp [errW_none, errW_some] <;> rfl) | (simp only [← hji27]; first | rfl | (simp [errW_none, errW_some] <;> rfl)) | (simp [*, errW_none, errW_some] <;> rfl), bw HB⟩
                   · rw [if_neg c29] at H
                     exact absurd H (by simp)
                 · rw [if_neg c28] at H
                   exact absurd H (by simp)
               · rw [if_neg c26] at H
                 have c26b0 : decide (0 < x3_2) = false := decide_eq_false c26
                 clear c26
                 have H' := Aside0.mk H
                 clear H
                 go_wp2
                 repeat (go_quiet (fail); try go_wp2)
                 go_roundg kj9
                 case measure => have := HJ1.out; have := HK2.out; have := HJ9.out; omega
                 case rel => exact ⟨(wrap64 (x3_2 + 1)), rs, H', ⟨by have := HJ1.out; have := HK2.out; have := HJ9.out; omega⟩, ⟨bk BK405⟩, ⟨bw HB⟩⟩
         · rw [if_neg c9] at H
           exact absurd H (by simp)
       · rw [if_neg c8] at H
         have c8b0 : decide (x3_2 < (l0_2.length : Int)) = false := decide_eq_false c8
         clear c8
         obtain rfl := Option.some.inj H
         obtain ⟨hcz38_0, hcz38_1, hcz38_2, hfz38_0, hfz38_1, hfz38_2⟩ := bc3 BK405
         go_wp2
         repeat (go_quiet (fail); try go_wp2)
         go_ret
         exact ⟨re, bw HB⟩

end Go.Proofs.YtkgjepmminmjjaaDoor.E
