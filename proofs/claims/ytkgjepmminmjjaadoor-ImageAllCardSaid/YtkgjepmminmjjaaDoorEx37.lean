/- Written by the session's own program hyb.py: what functions of the program compute; Lean checks it. -/
import Derived.Test.YtkgjepmminmjjaaDoorEx0
namespace Go.Proofs.YtkgjepmminmjjaaDoor.E
open Go.RowKit Go.Proofs.YtkgjepmminmjjaaDoorW.PrintWords Go.Proofs.YtkgjepmminmjjaaDoorW.PrintLast Go.Proofs.YtkgjepmminmjjaaDoorW.PrintMore Go.Proofs.YtkgjepmminmjjaaDoorW.PrintShort
attribute [local go_sem] run_Add64 run_Sub64
attribute [local go_sem] max2_int min2_int max_two min_two max_three min_three max_four min_four   -- for this text's walks alone
set_option linter.unusedVariables false
set_option linter.unusedSimpArgs false
/-- A state of type 99 at block g of W; what its slices lead to came in by w0. -/
def IsS99 (w0 W : World) (g : Nat) (f0 : List Int) (f1 : Int) (f2 : Bool) : Prop := ∃ A0 c0, W.heap[g]? = some (.cells #[.slice A0 f0.length c0, .int .i64 f1, .bool f2] 99 (0, 0)) ∧ w0.heap.size ≤ g ∧ (Kd.C (Kd.int .u8) w0 A0 f0.length f0 ∧ f0.length ≤ c0)
theorem IsS99.grown {w0 W : World} {g : Nat} {f0 : List Int} {f1 : Int} {f2 : Bool} {W1 : World} {row : Option Nat} (h : IsS99 w0 W g f0 f1 f2) (hw : W.grownBy W1 row) (hne : some g ≠ row) : IsS99 w0 W1 g f0 f1 f2 := by
  obtain ⟨A0, c0, hb, hg, hr0⟩ := h
  exact ⟨A0, c0, blk_grown hb hw hne, hg, hr0⟩
theorem IsS99.kept {w0 W : World} {g : Nat} {f0 : List Int} {f1 : Int} {f2 : Bool} {W1 : World} {S : Nat → Prop} (h : IsS99 w0 W g f0 f1 f2) (hk : Kept W W1 S) (hne : ¬ S g) : IsS99 w0 W1 g f0 f1 f2 := by
  obtain ⟨A0, c0, hb, hg, hr0⟩ := h
  exact ⟨A0, c0, blk_kept hb hk hne, hg, hr0⟩
theorem IsS99.below {w0 W : World} {g : Nat} {f0 : List Int} {f1 : Int} {f2 : Bool} {W1 : World} (h : IsS99 w0 W g f0 f1 f2) (hw : Below W.heap.size W W1) : IsS99 w0 W1 g f0 f1 f2 := h.grown (grown_of_below hw none) (by simp)
theorem IsS99.drewN {w0 W : World} {g : Nat} {f0 : List Int} {f1 : Int} {f2 : Bool} (h : IsS99 w0 W g f0 f1 f2) (m : Nat) : IsS99 w0 (W.drewN m) g f0 f1 f2 := h
theorem IsS99.drew {w0 W : World} {g : Nat} {f0 : List Int} {f1 : Int} {f2 : Bool} (h : IsS99 w0 W g f0 f1 f2) : IsS99 w0 W.drew g f0 f1 f2 := h
theorem IsS99.at_ {w0 W : World} {g : Nat} {f0 : List Int} {f1 : Int} {f2 : Bool} {w' : World} {m : Nat} (hq : W.drewN m = w') (h : IsS99 w0 W g f0 f1 f2) : IsS99 w0 w' g f0 f1 f2 := by subst hq; exact IsS99.drewN h m
theorem IsS99.apart {w0 W : World} {g : Nat} {f0 : List Int} {f1 : Int} {f2 : Bool} {α : Type} {d : Kd α} {e : Nat} {base : Nat} {ok : Nat → Prop} {v : Value} {xs : List α} (h : IsS99 w0 W g f0 f1 f2) (ho : d.R e W base ok v xs) (ht : ∀ q, q ∈ e :: d.E → q ≠ 99) : d.R e W base (fun k => ok k ∧ k ≠ g) v xs := by
  obtain ⟨A0, c0, hb, hg, hr0⟩ := h
  exact Kd.R_types ho hb ht
theorem IsS99.own_ne {w0 W : World} {g : Nat} {f0 : List Int} {f1 : Int} {f2 : Bool} {α : Type} {d : Kd α} {e : Nat} {base : Nat} {ok : Nat → Prop} {v : Value} {xs : List α} (h : IsS99 w0 W g f0 f1 f2) (ho : d.R e W base ok v xs) (ht : e ≠ 99) : some g ≠ v.ownBlock := by
  obtain ⟨A0, c0, hb, hg, hr0⟩ := h
  exact Kd.R_ne ho hb ht
theorem IsS99.lt {w0 W : World} {g : Nat} {f0 : List Int} {f1 : Int} {f2 : Bool} (h : IsS99 w0 W g f0 f1 f2) : g < W.heap.size := by
  obtain ⟨A0, c0, hb, hg, hr0⟩ := h
  exact blk_lt hb
theorem IsS99.ge {w0 W : World} {g : Nat} {f0 : List Int} {f1 : Int} {f2 : Bool} (h : IsS99 w0 W g f0 f1 f2) : w0.heap.size ≤ g := by
  obtain ⟨A0, c0, hb, hg, hr0⟩ := h
  exact hg
theorem IsS99.far {w0 W : World} {g : Nat} {f0 : List Int} {f1 : Int} {f2 : Bool} {p : Addr} (h : IsS99 w0 W g f0 f1 f2) (hne : g ≠ p.block) (u : Value) : IsS99 w0 (W.setCell p u) g f0 f1 f2 := by
  obtain ⟨A0, c0, hb, hg, hr0⟩ := h
  exact ⟨A0, c0, blk_far hb hne u, hg, hr0⟩
theorem cellS99_0 {W : World} {g : Nat} {A0 : Option Addr} {c0 : Nat} {f0 : List Int} {f1 : Int} {f2 : Bool} (h : W.heap[g]? = some (.cells #[.slice A0 f0.length c0, .int .i64 f1, .bool f2] 99 (0, 0))) : W.cell? ⟨g, 0, none⟩ = some (.slice A0 f0.length c0) := (blk_cell h 0).trans rfl
theorem cellS99_1 {W : World} {g : Nat} {A0 : Option Addr} {c0 : Nat} {f0 : List Int} {f1 : Int} {f2 : Bool} (h : W.heap[g]? = some (.cells #[.slice A0 f0.length c0, .int .i64 f1, .bool f2] 99 (0, 0))) : W.cell? ⟨g, 1, none⟩ = some (.int .i64 f1) := (blk_cell h 1).trans rfl
theorem IsS99.set_1 {w0 W : World} {g : Nat} {f0 : List Int} {f1 : Int} {f2 : Bool} (h : IsS99 w0 W g f0 f1 f2) (x : Int) : IsS99 w0 (W.setCell ⟨g, 1, none⟩ (.int .i64 x)) g f0 x f2 := by
  obtain ⟨A0, c0, hb, hg, hr0⟩ := h
  exact ⟨A0, c0, by simpa using blk_set hb 1 (.int .i64 x), hg, hr0⟩
theorem cellS99_2 {W : World} {g : Nat} {A0 : Option Addr} {c0 : Nat} {f0 : List Int} {f1 : Int} {f2 : Bool} (h : W.heap[g]? = some (.cells #[.slice A0 f0.length c0, .int .i64 f1, .bool f2] 99 (0, 0))) : W.cell? ⟨g, 2, none⟩ = some (.bool f2) := (blk_cell h 2).trans rfl
theorem IsS99.set_2 {w0 W : World} {g : Nat} {f0 : List Int} {f1 : Int} {f2 : Bool} (h : IsS99 w0 W g f0 f1 f2) (x : Bool) : IsS99 w0 (W.setCell ⟨g, 2, none⟩ (.bool x)) g f0 f1 x := by
  obtain ⟨A0, c0, hb, hg, hr0⟩ := h
  exact ⟨A0, c0, by simpa using blk_set hb 2 (.bool x), hg, hr0⟩
/-! ### turnstileref11_Cut_Number: function 57 -/
mutual
def turnstileref11_Cut_Number.j0 : Nat → Int → Bool → List Int → Int → Bool → Option (Int × Int × Bool)
  | 0, _, _, _, _, _ => none
  | k + 1, x1, x24, x1000, x1001, x1002 => if x24 = true then (some (0, x1001, true)) else (turnstileref11_Cut_Number.l0 k x1 0 (wrap64 (x1 - 1)) x1000 x1001 x1002)
def turnstileref11_Cut_Number.l0 : Nat → Int → Int → Int → List Int → Int → Bool → Option (Int × Int × Bool)
  | 0, _, _, _, _, _, _ => none
  | k + 1, x1, x5, x6, x1000, x1001, x1002 => if x6 ≥ 0 then (if 0 ≤ (wrap64 (x1001 + x6)) then (if (wrap64 (x1001 + x6)) < (x1000.length : Int) then (turnstileref11_Cut_Number.l0 k x1 (IntKind.u64.wrap ((IntKind.u64.wrap (x5 * 256)) + (IntKind.u64.wrap (rd x1000 (wrap64 (x1001 + x6)))))) (wrap64 (x6 - 1)) x1000 x1001 x1002) else (none)) else (none)) else (some (x5, wrap64 (x1001 + x1), x1002))
end
def turnstileref11_Cut_Number.f (k : Nat) (s0_0 : List Int) (s0_1 : Int) (s0_2 : Bool) (a1 : Int) : Option (Int × Int × Bool) := if s0_2 = true then (turnstileref11_Cut_Number.j0 k a1 true s0_0 s0_1 s0_2) else (turnstileref11_Cut_Number.j0 k a1 (decide ((wrap64 ((s0_0.length : Int) - s0_1)) < a1)) s0_0 s0_1 s0_2)
set_option maxHeartbeats 8000000 in
set_option maxRecDepth 100000 in
theorem turnstileref11_Cut_Number.calls (k : Nat) (g : Nat) (s0_0 : List Int) (s0_1 : Int) (s0_2 : Bool) (a1 : Int) (r1 : Int) (r2 : Int) (r3 : Bool) (w0 w : World) (hI : IsS99 w0 w g s0_0 s0_1 s0_2) (hB : Below w0.heap.size w0 w) (h : turnstileref11_Cut_Number.f k s0_0 s0_1 s0_2 a1 = some (r1, r2, r3)) :
 Calls Tryd.prog 57 #[.pointer (some ⟨g, 0, none⟩), .int .i64 a1] w fun e w' => e = .returned (.int .u64 r1) ∧ IsS99 w0 w' g s0_0 r2 r3 ∧ Below w0.heap.size w0 w' ∧ KeepBut w w' g none := by
 have HI0 := Aside0.mk hI; have HK := Aside0.mk (KeepBut.refl w g none); have HL := Aside0.mk hB.size; clear hI; have HW0 := Aside0.mk hB.size; have HB := Aside0.mk hB; clear hB
 have H : (if s0_2 = true then (turnstileref11_Cut_Number.j0 k a1 true s0_0 s0_1 s0_2) else (turnstileref11_Cut_Number.j0 k a1 (decide ((wrap64 ((s0_0.length : Int) - s0_1)) < a1)) s0_0 s0_1 s0_2)) = some (r1, r2, r3) := h
 clear h; have HC3 := Aside0.mk H; clear H
 go_enter Tryd.func57, Tryd.ntmps57
 go_upto_region 1 with (fail)
 repeat (go_quiet (fail); go_upto_region 1 with (fail))
 go_cut [24] (fun v24 wc => ∃ (kq : Nat) (x24_2 : Bool), v24 = .bool x24_2 ∧ Aside0 (turnstileref11_Cut_Number.j0 kq a1 x24_2 s0_0 s0_1 s0_2 = some (r1, r2, r3)) ∧ Aside0 (kq ≤ k) ∧ Aside0 (IsS99 w0 wc g s0_0 s0_1 s0_2) ∧ Aside0 (KeepBut w wc g none) ∧ Aside0 (Below w0.heap.size w0 wc))
 case first =>
  have H := HC3.out; clear HC3
  by_cases c4 : s0_2 = true
  · subst c4
    have H1 : (turnstileref11_Cut_Number.j0 k a1 true s0_0 s0_1 true) = some (r1, r2, r3) := by rw [if_pos rfl] at H; exact H
    clear H; have H := H1; clear H1
    have H' := Aside0.mk H
    clear H
    obtain ⟨ASz5_0, cSz5_0, HGz5, hgz5, ⟨HSz5_0, HCsz5_0⟩⟩ := HI0.out
    have hcz5_0 := cellS99_0 HGz5; have hcz5_1 := cellS99_1 HGz5; have hcz5_2 := cellS99_2 HGz5; have hfz5_1 := blk_frozen HGz5 1; have hfz5_2 := blk_frozen HGz5 2; clear HGz5 hgz5
    go_wp2
    repeat (go_quiet (fail); try go_wp2)
    go_meet
    case rel => exact ⟨_, (true), rs, H', ⟨by first | omega | exact Nat.le_refl _⟩, ⟨by repeat (first | (with_reducible first | exact HI0.out | apply IsS99.alloc | apply IsS99.drewN | apply IsS99.drew | apply IsS99.set_1 | apply IsS99.set_2) | exact HI0.out)⟩, ⟨by repeat (first | (with_reducible first | exact HK.out | apply KeepBut.set_ | apply keep_drewN | apply keep_drew | apply keep_alloc) | exact HK.out)⟩, ⟨by repeat (first | (with_reducible first | exact HB.out | apply below_alloc | apply pw_below_drewN | apply below_drew1 | refine below_set ?_ (IsS99.ge HI0.out)) | exact HB.out)⟩⟩
  · replace c4 := Bool.eq_false_iff.mpr c4
    subst c4
    have H1 : (turnstileref11_Cut_Number.j0 k a1 (decide ((wrap64 ((s0_0.length : Int) - s0_1)) < a1)) s0_0 s0_1 false) = some (r1, r2, r3) := by rw [if_neg (show ¬ (false = true) by decide)] at H; exact H
    clear H; have H := H1; clear H1
    have H' := Aside0.mk H
    clear H
    obtain ⟨ASz6_0, cSz6_0, HGz6, hgz6, ⟨HSz6_0, HCsz6_0⟩⟩ := HI0.out
    have hcz6_0 := cellS99_0 HGz6; have hcz6_1 := cellS99_1 HGz6; have hcz6_2 := cellS99_2 HGz6; have hfz6_1 := blk_frozen HGz6 1; have hfz6_2 := blk_frozen HGz6 2; clear HGz6 hgz6
    go_wp2
    repeat (go_quiet (fail); try go_wp2)
    go_meet
    case rel => exact ⟨_, (decide ((wrap64 ((s0_0.length : Int) - s0_1)) < a1)), rs, H', ⟨by first | omega | exact Nat.le_refl _⟩, ⟨by repeat (first | (with_reducible first | exact HI0.out | apply IsS99.alloc | apply IsS99.drewN | apply IsS99.drew | apply IsS99.set_1 | apply IsS99.set_2) | exact HI0.out)⟩, ⟨by repeat (first | (with_reducible first | exact HK.out | apply KeepBut.set_ | apply keep_drewN | apply keep_drew | apply keep_alloc) | exact HK.out)⟩, ⟨by repeat (first | (with_reducible first | exact HB.out | apply below_alloc | apply pw_below_drewN | apply below_drew1 | refine below_set ?_ (IsS99.ge HI0.out)) | exact HB.out)⟩⟩
 case rest =>
  clear HC3; (try clear p2); (try clear c4); (try clear c5); (try clear p6); (try clear hcz5_0); (try clear hcz5_1); (try clear hcz5_2); (try clear hcz6_0); (try clear hcz6_1); (try clear hcz6_2); (try clear hfz5_1); (try clear hfz5_2); (try clear hfz6_1); (try clear hfz6_2)
  obtain ⟨kq, x24_2, rfl, HA, HJ2, HI0, HK, HB⟩ := hcut
  cases kq with
  | zero => exact absurd HA.out (by simp [turnstileref11_Cut_Number.j0])
  | succ kj2 =>
   have H := HA.out; clear HA
   simp only [turnstileref11_Cut_Number.j0] at H
   by_cases c7 : x24_2 = true
   · subst c7
     have H1 : (some (0, s0_1, true)) = some (r1, r2, r3) := by rw [if_pos rfl] at H; exact H
     clear H; have H := H1; clear H1
     simp only [Option.some.injEq, Prod.mk.injEq] at H
     obtain ⟨rfl, rfl, rfl⟩ := H
     obtain ⟨ASz8_0, cSz8_0, HGz8, hgz8, ⟨HSz8_0, HCsz8_0⟩⟩ := HI0.out
     have hcz8_0 := cellS99_0 HGz8; have hcz8_1 := cellS99_1 HGz8; have hcz8_2 := cellS99_2 HGz8; have hfz8_1 := blk_frozen HGz8 1; have hfz8_2 := blk_frozen HGz8 2; clear HGz8 hgz8
     go_wp2
     repeat (go_quiet (fail); try go_wp2)
     go_ret
     exact ⟨re, by repeat (first | (with_reducible first | exact HI0.out | apply IsS99.alloc | apply IsS99.drewN | apply IsS99.drew | apply IsS99.set_1 | apply IsS99.set_2) | exact HI0.out), by repeat (first | (with_reducible first | exact HB.out | apply below_alloc | apply pw_below_drewN | apply below_drew1 | refine below_set ?_ (IsS99.ge HI0.out)) | exact HB.out), by repeat (first | (with_reducible first | exact HK.out | apply KeepBut.set_ | apply keep_drewN | apply keep_drew | apply keep_alloc) | exact HK.out)⟩
   · replace c7 := Bool.eq_false_iff.mpr c7
     subst c7
     have H1 : (turnstileref11_Cut_Number.l0 kj2 a1 0 (wrap64 (a1 - 1)) s0_0 s0_1 s0_2) = some (r1, r2, r3) := by rw [if_neg (show ¬ (false = true) by decide)] at H; exact H
     clear H; have H := H1; clear H1
     have H' := Aside0.mk H
     clear H
     go_wp2
     repeat (go_quiet (fail); try go_wp2)
     go_loopg [5, 6] kj2 (fun kq v5 v6 w' => ∃ (x5_2 : Int) (x6_2 : Int), v5 = .int .u64 x5_2 ∧ v6 = .int .i64 x6_2 ∧ Aside0 (turnstileref11_Cut_Number.l0 kq a1 x5_2 x6_2 s0_0 s0_1 s0_2 = some (r1, r2, r3)) ∧ Aside0 (kq ≤ kj2) ∧ Aside0 (IsS99 w0 w' g s0_0 s0_1 s0_2) ∧ Aside0 (KeepBut w w' g none) ∧ Aside0 (Below w0.heap.size w0 w'))
     case atStart => exact ⟨(0), (wrap64 (a1 - 1)), rs, rs, H', ⟨Nat.le_refl _⟩, ⟨by repeat (first | (with_reducible first | exact HI0.out | apply IsS99.alloc | apply IsS99.drewN | apply IsS99.drew | apply IsS99.set_1 | apply IsS99.set_2) | exact HI0.out)⟩, ⟨by repeat (first | (with_reducible first | exact HK.out | apply KeepBut.set_ | apply keep_drewN | apply keep_drew | apply keep_alloc) | exact HK.out)⟩, ⟨by repeat (first | (with_reducible first | exact HB.out | apply below_alloc | apply pw_below_drewN | apply below_drew1 | refine below_set ?_ (IsS99.ge HI0.out)) | exact HB.out)⟩⟩
     case round =>
      clear H'; (try clear p2); (try clear c4); (try clear c5); (try clear p6); (try clear c7); (try clear hcz5_0); (try clear hcz5_1); (try clear hcz5_2); (try clear hcz6_0); (try clear hcz6_1); (try clear hcz6_2); (try clear hcz8_0); (try clear hcz8_1); (try clear hcz8_2); (try clear hfz5_1); (try clear hfz5_2); (try clear hfz6_1); (try clear hfz6_2); (try clear hfz8_1); (try clear hfz8_2); (try clear p2); (try clear p6)
      obtain ⟨x5_2, x6_2, rfl, rfl, HA, HK2, HI0, HK, HB⟩ := hrel
      cases gk with
      | zero => exact absurd HA.out (by simp [turnstileref11_Cut_Number.l0])
      | succ k2 =>
       have H := HA.out; clear HA
       simp only [turnstileref11_Cut_Number.l0] at H
       by_cases c9 : x6_2 ≥ 0
       · rw [if_pos c9] at H
         have c9b0 : decide (0 ≤ x6_2) = true := decide_eq_true c9
         clear c9
         obtain ⟨ji10, hji10⟩ : ∃ j_ : Int, (wrap64 (s0_1 + x6_2)) = j_ := ⟨_, rfl⟩
         replace H : (if 0 ≤ (ji10) then (if (ji10) < (s0_0.length : Int) then (turnstileref11_Cut_Number.l0 k2 a1 (IntKind.u64.wrap ((IntKind.u64.wrap (x5_2 * 256)) + (IntKind.u64.wrap (rd s0_0 (ji10))))) (wrap64 (x6_2 - 1)) s0_0 s0_1 s0_2) else (none)) else (none)) = some (r1, r2, r3) := by first | (rw [hji10] at H; exact H) | (simp only [hji10] at H ⊢; exact H)
         have hji10w : (IntKind.i64.wrap (s0_1 + x6_2)) = ji10 := (i64_w _).trans hji10
         by_cases c11 : 0 ≤ (ji10)
         · rw [if_pos c11] at H
           have c11b0 : decide (0 ≤ (ji10)) = true := decide_eq_true c11
           clear c11
           by_cases c12 : (ji10) < (s0_0.length : Int)
           · rw [if_pos c12] at H
             have c12b0 : decide ((ji10) < (s0_0.length : Int)) = true := decide_eq_true c12
             clear c12
             have H' := Aside0.mk H
             clear H
             obtain ⟨ASz13_0, cSz13_0, HGz13, hgz13, ⟨HSz13_0, HCsz13_0⟩⟩ := HI0.out
             have hcz13_0 := cellS99_0 HGz13; have hcz13_1 := cellS99_1 HGz13; have hcz13_2 := cellS99_2 HGz13; have hfz13_1 := blk_frozen HGz13 1; have hfz13_2 := blk_frozen HGz13 2; clear HGz13 hgz13
             have p449 : 0 ≤ ((ji10) : Int) := of_decide_eq_true (by first | (with_reducible assumption) | assumption)
             have q449 : (ji10) < (s0_0.length : Int) := of_decide_eq_true (by first | (with_reducible assumption) | assumption)
             obtain ⟨ad449, e449, hx449_0⟩ := Kd.at_int HSz13_0 (ji10) p449 q449
             cases e449
             replace hx449_0 := pw_cell_below HB.out hx449_0; replace p449 := eq_true p449; replace q449 := eq_true q449
             go_wp2
             repeat (go_quiet (fail); try go_wp2)
             go_roundg k2
             case measure => have := HJ2.out; have := HK2.out; omega
             case rel => exact ⟨(IntKind.u64.wrap ((IntKind.u64.wrap (x5_2 * 256)) + (IntKind.u64.wrap (rd s0_0 (ji10))))), (wrap64 (x6_2 - 1)), (by first | rfl | (simp; done) | (simp only [← hji10] <;> (first | rfl | simp)) | (simp [*]; done)), rs, H', ⟨by have := HJ2.out; have := HK2.out; omega⟩, ⟨by repeat (first | (with_reducible first | exact HI0.out | apply IsS99.alloc | apply IsS99.drewN | apply IsS99.drew | apply IsS99.set_1 | apply IsS99.set_2) | exact HI0.out)⟩, ⟨by repeat (first | (with_reducible first | exact HK.out | apply KeepBut.set_ | apply keep_drewN | apply keep_drew | apply keep_alloc) | exact HK.out)⟩, ⟨by repeat (first | (with_reducible first | exact HB.out | apply below_alloc | apply pw_below_drewN | apply below_drew1 | refine below_set ?_ (IsS99.ge HI0.out)) | exact HB.out)⟩⟩
           · rw [if_neg c12] at H
             exact absurd H (by simp)
         · rw [if_neg c11] at H
           exact absurd H (by simp)
       · rw [if_neg c9] at H
         have c9b0 : decide (0 ≤ x6_2) = false := decide_eq_false c9
         clear c9
         simp only [Option.some.injEq, Prod.mk.injEq] at H
         obtain ⟨rfl, rfl, rfl⟩ := H
         obtain ⟨ASz14_0, cSz14_0, HGz14, hgz14, ⟨HSz14_0, HCsz14_0⟩⟩ := HI0.out
         have hcz14_0 := cellS99_0 HGz14; have hcz14_1 := cellS99_1 HGz14; have hcz14_2 := cellS99_2 HGz14; have hfz14_1 := blk_frozen HGz14 1; have hfz14_2 := blk_frozen HGz14 2; clear HGz14 hgz14
         go_wp2
         repeat (go_quiet (fail); try go_wp2)
         go_ret
         exact ⟨re, by repeat (first | (with_reducible first | exact HI0.out | apply IsS99.alloc | apply IsS99.drewN | apply IsS99.drew | apply IsS99.set_1 | apply IsS99.set_2) | exact HI0.out), by repeat (first | (with_reducible first | exact HB.out | apply below_alloc | apply pw_below_drewN | apply below_drew1 | refine below_set ?_ (IsS99.ge HI0.out)) | exact HB.out), by repeat (first | (with_reducible first | exact HK.out | apply KeepBut.set_ | apply keep_drewN | apply keep_drew | apply keep_alloc) | exact HK.out)⟩
/-! ### turnstileref11_Cut_Text: function 58 -/
def turnstileref11_Cut_Text.g (s0_0 : List Int) (x at_ : Int) (sh : Bool) : Option (ByteArray × Int × Bool) := if sh = true then some ((⟨#[]⟩ : ByteArray), at_, true) else (if wrap64 ((s0_0.length : Int) - at_) < wrap64 x then some ((⟨#[]⟩ : ByteArray), at_, true) else (if 0 ≤ at_ ∧ at_ ≤ wrap64 (at_ + wrap64 x) ∧ wrap64 (at_ + wrap64 x) ≤ (s0_0.length : Int) then some (strOfNums ((s0_0.take (wrap64 (at_ + wrap64 x)).toNat).drop at_.toNat), wrap64 (at_ + wrap64 x), false) else none))
def turnstileref11_Cut_Text.f (k : Nat) (s0_0 : List Int) (s0_1 : Int) (s0_2 : Bool) : Option (ByteArray × Int × Bool) := (turnstileref11_Cut_Number.f k s0_0 s0_1 s0_2 2).bind fun t => turnstileref11_Cut_Text.g s0_0 t.1 t.2.1 t.2.2
set_option maxHeartbeats 1600000 in
set_option maxRecDepth 100000 in
theorem turnstileref11_Cut_Text.calls (k : Nat) (g : Nat) (s0_0 : List Int) (s0_1 : Int) (s0_2 : Bool) (r1 : ByteArray) (r2 : Int) (r3 : Bool) (w0 w : World) (hI : IsS99 w0 w g s0_0 s0_1 s0_2) (hB : Below w0.heap.size w0 w) (h : turnstileref11_Cut_Text.f k s0_0 s0_1 s0_2 = some (r1, r2, r3)) :
 Calls Tryd.prog 58 #[.pointer (some ⟨g, 0, none⟩)] w fun e w' => e = .returned (.string r1) ∧ IsS99 w0 w' g s0_0 r2 r3 ∧ Below w0.heap.size w0 w' ∧ KeepBut w w' g none := by
 unfold turnstileref11_Cut_Text.f at h
 obtain ⟨⟨x, at_, sh⟩, h1, h⟩ := Option.bind_eq_some_iff.mp h
 have T := turnstileref11_Cut_Number.calls k g s0_0 s0_1 s0_2 2 x at_ sh w0 w hI hB h1
 unfold turnstileref11_Cut_Text.g at h
 dsimp only at h
 have HT := Aside0.mk T; have hu := Tryd.underlying97; have hu99 := Tryd.underlying99; have hu33 := Tryd.underlying33; have hu9 := Tryd.underlying9; have hu26 := Tryd.underlying26; have hu3 := Tryd.underlying3; have hu5 := Tryd.underlying5; clear h1 T hI hB
 by_cases c1 : sh = true
 · subst c1
   rw [if_pos rfl] at h
   simp only [Option.some.injEq, Prod.mk.injEq] at h
   obtain ⟨rfl, rfl, rfl⟩ := h
   go_enter Tryd.func58, Tryd.ntmps58
   go_wp2_with (first | (go_at_call 57; refine HT.out.mono ?_; rintro e w1 ⟨rfl, hI1, hB1, hK1⟩; obtain ⟨A, c, hb, hg, hr⟩ := hI1; have hc2 := cellS99_2 hb; have hf2 : w1.frozen? ⟨g, 2, none⟩ = false := blk_frozen hb 2; have HBK := Aside0.mk hb; have HG := Aside0.mk hg; have HR := Aside0.mk hr; have HBB := Aside0.mk hB1; have HKK := Aside0.mk hK1; clear HT hb hg hr hB1 hK1))
   repeat (go_quiet (fail); try go_wp2)
   go_ret
   exact ⟨rfl, (IsS99.set_2 ⟨A, c, HBK.out, HG.out, HR.out⟩ true), by repeat (first | (with_reducible first | exact HBB.out | apply pw_below_drewN | apply below_drew1 | refine below_set ?_ HG.out) | exact HBB.out), by repeat (first | (with_reducible first | exact HKK.out | apply KeepBut.set_ | apply keep_drewN | apply keep_drew | apply keep_alloc) | exact HKK.out)⟩
 · have e1 : sh = false := by simpa using c1
   subst e1
   rw [if_neg c1] at h
   clear c1
   by_cases c2 : wrap64 ((s0_0.length : Int) - at_) < wrap64 x
   · rw [if_pos c2] at h
     simp only [Option.some.injEq, Prod.mk.injEq] at h
     obtain ⟨rfl, rfl, rfl⟩ := h
     have c2b : decide (wrap64 ((s0_0.length : Int) - at_) < wrap64 x) = true := decide_eq_true c2
     clear c2
     go_enter Tryd.func58, Tryd.ntmps58
     go_wp2_with (first | (go_at_call 57; refine HT.out.mono ?_; rintro e w1 ⟨rfl, hI1, hB1, hK1⟩; obtain ⟨A, c, hb, hg, hr⟩ := hI1; have hc0 := cellS99_0 hb; have hc1 := cellS99_1 hb; have hc2 := cellS99_2 hb; have hf2 : w1.frozen? ⟨g, 2, none⟩ = false := blk_frozen hb 2; have HBK := Aside0.mk hb; have HG := Aside0.mk hg; have HR := Aside0.mk hr; have HBB := Aside0.mk hB1; have HKK := Aside0.mk hK1; clear HT hb hg hr hB1 hK1))
     repeat (go_quiet (fail); try go_wp2)
     go_ret
     exact ⟨rfl, (IsS99.set_2 ⟨A, c, HBK.out, HG.out, HR.out⟩ true), by repeat (first | (with_reducible first | exact HBB.out | apply pw_below_drewN | apply below_drew1 | refine below_set ?_ HG.out) | exact HBB.out), by repeat (first | (with_reducible first | exact HKK.out | apply KeepBut.set_ | apply keep_drewN | apply keep_drew | apply keep_alloc) | exact HKK.out)⟩
   · rw [if_neg c2] at h
     have c2b : decide (wrap64 ((s0_0.length : Int) - at_) < wrap64 x) = false := decide_eq_false c2
     clear c2
     by_cases c3 : 0 ≤ at_ ∧ at_ ≤ wrap64 (at_ + wrap64 x) ∧ wrap64 (at_ + wrap64 x) ≤ (s0_0.length : Int)
     rotate_left
     · rw [if_neg c3] at h
       cases h
     rw [if_pos c3] at h
     obtain ⟨a0, n0, an⟩ := c3
     simp only [Option.some.injEq, Prod.mk.injEq] at h
     obtain ⟨rfl, rfl, rfl⟩ := h
     obtain ⟨hi_, ehi⟩ : ∃ y, y = wrap64 (at_ + wrap64 x) := ⟨_, rfl⟩
     rw [← ehi] at n0 an ⊢
     have hlen : ((s0_0.take hi_.toNat).drop at_.toNat).length = hi_.toNat - at_.toNat := by rw [List.length_drop, List.length_take]; omega
     obtain ⟨i050, hi050, _, hsz50, _⟩ := info_parts info5
     have CUT := Aside0.mk (fun (A : Option Addr) (c : Nat) (hc : s0_0.length ≤ c) => cut_mid (P := Tryd.prog) 33 5 .i64 .i64 Tryd.underlying33 hi050 1 hsz50 A s0_0.length c at_ hi_ a0 n0 an hc)
     have CVT := Aside0.mk (fun (W : World) (A : Option Addr) (c : Nat) (hc : s0_0.length ≤ c) (hr : Kd.C (Kd.int .u8) W A s0_0.length s0_0) => Kd.C_string (P := Tryd.prog) (w := W) (c := c - at_.toNat) Tryd.underlying33 Tryd.underlying5 Tryd.underlying9 (Kd.C_drop (c := c) (m := at_.toNat) (Kd.C_take (m := hi_.toNat) hr (by omega)) (by rw [List.length_take]; omega) (by rw [List.length_take]; omega)))
     have HL := Aside0.mk hlen; have EH := Aside0.mk ehi; clear a0 n0 an hi050 hsz50 hlen
     go_enter Tryd.func58, Tryd.ntmps58
     go_wp2_with (first | (go_at_call 57; refine HT.out.mono ?_; rintro e w1 ⟨rfl, hI1, hB1, hK1⟩; obtain ⟨A, c, hb, hg, hr⟩ := hI1; have hc0 := cellS99_0 hb; have hc1 := cellS99_1 hb; have hc2 := cellS99_2 hb; have hf1 : w1.frozen? ⟨g, 1, none⟩ = false := blk_frozen hb 1; have hcut := CUT.out A c hr.2; have hKC := Kd.C_below hr.1 hB1; have hcvt1 : ∀ n, (convert 33 9 (.slice (if c = at_.toNat then A else A.map (·.add (at_.toNat * 1))) (hi_.toNat - at_.toNat) (c - at_.toNat))).run Tryd.prog (w1.drewN n) = .ok (.string (strOfNums ((s0_0.take hi_.toNat).drop at_.toNat))) (w1.drewN n) := fun n => by { have h_ := CVT.out (w1.drewN n) A c hr.2 (Kd.C_drewN hKC n); rw [HL.out] at h_; exact h_ }; have hcvt2 : ∀ n m, (convert 33 9 (.slice (if c = at_.toNat then A else A.map (·.add (at_.toNat * 1))) (hi_.toNat - at_.toNat) (c - at_.toNat))).run Tryd.prog ((w1.drewN n).drewN m) = .ok (.string (strOfNums ((s0_0.take hi_.toNat).drop at_.toNat))) ((w1.drewN n).drewN m) := fun n m => by { have h_ := CVT.out ((w1.drewN n).drewN m) A c hr.2 (Kd.C_drewN (Kd.C_drewN hKC n) m); rw [HL.out] at h_; exact h_ }; obtain ⟨A2, hA2⟩ : ∃ A2, A2 = (if c = at_.toNat then A else A.map (·.add (at_.toNat * 1))) := ⟨_, rfl⟩; rw [← hA2] at hcut hcvt1 hcvt2; have HBK := Aside0.mk hb; have HG := Aside0.mk hg; have HR := Aside0.mk hr; have HBB := Aside0.mk hB1; have HKK := Aside0.mk hK1; clear HT hb hg hr hB1 hK1 hA2 hKC; have ehi2 := ehi.symm; have ehi3 : IntKind.i64.wrap (at_ + wrap64 x) = hi_ := (i64_w _).trans ehi.symm; clear ehi))
     repeat (go_quiet (fail); try go_wp2)
     go_ret
     exact ⟨rfl, (IsS99.set_1 ⟨A, c, HBK.out, HG.out, HR.out⟩ _), by repeat (first | (with_reducible first | exact HBB.out | apply pw_below_drewN | apply below_drew1 | refine below_set ?_ HG.out) | exact HBB.out), by repeat (first | (with_reducible first | exact HKK.out | apply KeepBut.set_ | apply keep_drewN | apply keep_drew | apply keep_alloc) | exact HKK.out)⟩
end Go.Proofs.YtkgjepmminmjjaaDoor.E
