/- Written by the session's own program hyb.py: what functions of the program compute; Lean checks it. -/
import Derived.Test.YtdoifmefhofnnaaDx0
import Derived.Test.YtdoifmefhofnnaaDx2
namespace Go.Proofs.Ytdoifmefhofnnaa.D
open Go.RowKit Go.Proofs.YtdoifmefhofnnaaW.PrintWords Go.Proofs.YtdoifmefhofnnaaW.PrintLast Go.Proofs.YtdoifmefhofnnaaW.PrintMore Go.Proofs.YtdoifmefhofnnaaW.PrintShort
attribute [local go_sem] run_Add64 run_Sub64
attribute [local go_sem] max2_int min2_int max_two min_two max_three min_three max_four min_four   -- for this text's walks alone
set_option linter.unusedVariables false
set_option linter.unusedSimpArgs false

attribute [local go_sem high] eqA31
/-! ### turnstilelaw24_kept: function 28 -/
mutual
def turnstilelaw24_kept.l0 : Nat → List (S31) → List (S31) → Int → Option (Bool)
  | 0, _, _, _ => none
  | k + 1, x1, x5, x6 => if x6 < (x1.length : Int) then (if 0 ≤ x6 then (if x6 < (x5.length : Int) then (if (!(((rd_T31 x5 x6).f0) == ((rd_T31 x1 x6).f0)) || (!(((rd_T31 x5 x6).f1) == ((rd_T31 x1 x6).f1)))) = true then (some false) else (turnstilelaw24_kept.l0 k x1 x5 (wrap64 (x6 + 1)))) else (none)) else (none)) else (turnstilelaw24_kept.l1 k x1 x5 0)
def turnstilelaw24_kept.l1 : Nat → List (S31) → List (S31) → Int → Option (Bool)
  | 0, _, _, _ => none
  | k + 1, x1, x5, x7 => if x7 < 9 then (if 0 ≤ (wrap64 ((x1.length : Int) + x7)) then (if (wrap64 ((x1.length : Int) + x7)) < (x5.length : Int) then (if (!(((rd_T31 x5 (wrap64 ((x1.length : Int) + x7))).f0) == 77) || (!(((rd_T31 x5 (wrap64 ((x1.length : Int) + x7))).f1) == (IntKind.u64.wrap (x7))))) = true then (some false) else (turnstilelaw24_kept.l1 k x1 x5 (wrap64 (x7 + 1)))) else (none)) else (none)) else (some true)
end
theorem turnstilelaw24_kept.cut_room {P : Program} (t e : TypeId) (kh : IntKind) {i : TypeInfo} (ht : P.underlying t = some (.slice e)) (hi : P.info? e = some i) (A : Option Addr) (n c : Nat) (j : Int) (h0 : 0 ≤ j) (hm : j ≤ c) :
    ∀ W : World, (Instr.slice t (.slice A n c) none (some (.int kh j)) none).run P W = .ok (.slice A j.toNat c) W := by
  intro W
  have hel : P.elem t = e := by simp [Program.elem, ht]
  have hu : P.underlying t = some (.slice (P.elem t)) := by rw [hel]; exact ht
  have ha : (A.map fun x => x.add 0) = A := by cases A <;> simp [Addr.add]
  rw [run_slice_h W t A n c hu kh j h0 (by omega), hel]
  simp [sizeOf, typeInfo, hi, sliced, Result.andThen, ha]
set_option maxHeartbeats 8000000 in
set_option maxRecDepth 100000 in
theorem turnstilelaw24_kept.calls (k : Nat) (A0 : Option Addr) (c0 n : Nat) (y504 : List (S31)) (A1 : Option Addr) (c1 : Nat) (l1 : List (S31)) (r : Bool) (w : World) (hn : n = l1.length) (hr0 : Kd.C k31 w A0 y504.length y504) (hf : y504.length = l1.length + 9) (hm : y504.length ≤ 4611686018427387904) (hc0 : y504.length ≤ c0) (hr1 : Kd.C k31 w A1 l1.length l1) (hc1 : l1.length ≤ c1) (h : turnstilelaw24_kept.l0 k l1 y504 0 = some r) :
    Calls Try.prog 28 #[.slice A0 n c0, .slice A1 l1.length c1] w fun e w' => e = .returned (.bool r) ∧ Drawn0 w w' := by
  subst hn
  have hu31 := Try.underlying31
  have HR507 := Aside0.mk hr0
  have HC0 := Aside0.mk hc0
  have HR1 := Aside0.mk hr1
  have HC1 := Aside0.mk hc1
  obtain ⟨ji4, hji4⟩ : ∃ j_ : Int, (wrap64 ((l1.length : Int) + 9)) = j_ := ⟨_, rfl⟩
  have hji4w : (IntKind.i64.wrap ((l1.length : Int) + 9)) = ji4 := (i64_w _).trans hji4
  have e4 : ji4 = (y504.length : Int) := by rw [← hji4]; unfold wrap64; omega
  have c5b0 : (0 ≤ ji4) = True := eq_true (by omega)
  have c5b1 : decide (0 ≤ ji4) = true := decide_eq_true (by omega)
  have q7 : ji4 ≤ (c0 : Int) := by omega
  obtain ⟨i07, hi07, _, hsz7, _⟩ := info_parts info31
  have hcut7 := turnstilelaw24_kept.cut_room (P := Try.prog) 25 31 .i64 Try.underlying25 hi07 A0 l1.length c0 ji4 (by omega) q7
  have hy7 : y504.length = ji4.toNat := by omega
  rw [← hy7] at hcut7
  have H' := Aside0.mk h
  clear hr0 hc0 hr1 hc1 h hf hm hi07 hsz7 hy7 e4 q7
  go_enter Try.func28, Try.ntmps28
  go_wp2
  repeat (go_quiet (fail); try go_wp2)
  go_loopg [6] k (fun kq v6 w' => ∃ (x6_1 : Int), v6 = .int .i64 x6_1 ∧ Aside0 (turnstilelaw24_kept.l0 kq l1 y504 x6_1 = some r) ∧ Aside0 (kq ≤ k) ∧ Drawn0 w w')
  case atStart => exact ⟨(0), rs, H', ⟨Nat.le_refl _⟩, by repeat (first | exact Drawn0.refl _ | apply Drawn0.step)⟩
  case round =>
    clear H'
    try clear c1
    try clear c2
    try clear p2
    try clear c3
    try clear c3b0
    try clear c3b1
    try clear c3b2
    try clear c5
    try clear c5b0
    try clear c5b1
    try clear c6
    try clear c6b0
    try clear c6b1
    try clear p6
    try clear q7
    try clear q7
    obtain ⟨x6_1, rfl, HA, HK1, ⟨m1, rfl⟩⟩ := hrel
    cases gk with
    | zero => exact absurd HA.out (by simp [turnstilelaw24_kept.l0])
    | succ k1 =>
      have H := HA.out
      clear HA
      simp only [turnstilelaw24_kept.l0] at H
      by_cases c8 : x6_1 < (l1.length : Int)
      · rw [if_pos c8] at H
        have c8b0 : decide (x6_1 < (l1.length : Int)) = true := decide_eq_true c8
        clear c8
        by_cases c9 : 0 ≤ x6_1
        · rw [if_pos c9] at H
          have c9b0 : decide (0 ≤ x6_1) = true := decide_eq_true c9
          clear c9
          by_cases c10 : x6_1 < (y504.length : Int)
          · rw [if_pos c10] at H
            have c10b0 : decide (x6_1 < (y504.length : Int)) = true := decide_eq_true c10
            clear c10
            by_cases c11 : (!(((rd_T31 y504 x6_1).f0) == ((rd_T31 l1 x6_1).f0)) || (!(((rd_T31 y504 x6_1).f1) == ((rd_T31 l1 x6_1).f1)))) = true
            · rw [if_pos c11] at H
              have c11b0 : (!(((rd_T31 y504 x6_1).f0) == ((rd_T31 l1 x6_1).f0)) || (!(((rd_T31 y504 x6_1).f1) == ((rd_T31 l1 x6_1).f1)))) = true := c11
              clear c11
              obtain rfl := Option.some.inj H
              have p508 : 0 ≤ (x6_1 : Int) := of_decide_eq_true (by first | (with_reducible assumption) | assumption)
              have q508 : x6_1 < (y504.length : Int) := of_decide_eq_true (by first | (with_reducible assumption) | assumption)
              obtain ⟨ad508, e508, hx508_0, hx508_1⟩ := at_T31 HR507.out x6_1 p508 q508
              cases e508
              replace p508 := eq_true p508
              replace q508 := eq_true q508
              have p509 : 0 ≤ (x6_1 : Int) := of_decide_eq_true (by first | (with_reducible assumption) | assumption)
              have q509 : x6_1 < (l1.length : Int) := of_decide_eq_true (by first | (with_reducible assumption) | assumption)
              obtain ⟨ad509, e509, hx509_0, hx509_1⟩ := at_T31 HR1.out x6_1 p509 q509
              cases e509
              replace p509 := eq_true p509
              replace q509 := eq_true q509
              go_wp2
              repeat (go_quiet (fail); try go_wp2)
              go_ret
              exact ⟨by first | rfl | (simp; done) | (simp only [← hji4] <;> (first | rfl | simp)) | (simp [*]; done), by repeat (first | exact Drawn0.refl _ | apply Drawn0.step)⟩
            · rw [if_neg c11] at H
              have c11b0 : (!(((rd_T31 y504 x6_1).f0) == ((rd_T31 l1 x6_1).f0)) || (!(((rd_T31 y504 x6_1).f1) == ((rd_T31 l1 x6_1).f1)))) = false := by simpa using c11
              clear c11
              have H' := Aside0.mk H
              clear H
              have p508 : 0 ≤ (x6_1 : Int) := of_decide_eq_true (by first | (with_reducible assumption) | assumption)
              have q508 : x6_1 < (y504.length : Int) := of_decide_eq_true (by first | (with_reducible assumption) | assumption)
              obtain ⟨ad508, e508, hx508_0, hx508_1⟩ := at_T31 HR507.out x6_1 p508 q508
              cases e508
              replace p508 := eq_true p508
              replace q508 := eq_true q508
              have p509 : 0 ≤ (x6_1 : Int) := of_decide_eq_true (by first | (with_reducible assumption) | assumption)
              have q509 : x6_1 < (l1.length : Int) := of_decide_eq_true (by first | (with_reducible assumption) | assumption)
              obtain ⟨ad509, e509, hx509_0, hx509_1⟩ := at_T31 HR1.out x6_1 p509 q509
              cases e509
              replace p509 := eq_true p509
              replace q509 := eq_true q509
              go_wp2
              repeat (go_quiet (fail); try go_wp2)
              go_roundg k1
              case measure => have := HK1.out; omega
              case rel => exact ⟨(wrap64 (x6_1 + 1)), rs, H', ⟨by have := HK1.out; omega⟩, by repeat (first | exact Drawn0.refl _ | apply Drawn0.step)⟩
          · rw [if_neg c10] at H
            exact absurd H (by simp)
        · rw [if_neg c9] at H
          exact absurd H (by simp)
      · rw [if_neg c8] at H
        have c8b0 : decide (x6_1 < (l1.length : Int)) = false := decide_eq_false c8
        clear c8
        have H' := Aside0.mk H
        clear H
        go_wp2
        repeat (go_quiet (fail); try go_wp2)
        go_loopg [7] k1 (fun kq v7 w' => ∃ (x7_2 : Int), v7 = .int .i64 x7_2 ∧ Aside0 (turnstilelaw24_kept.l1 kq l1 y504 x7_2 = some r) ∧ Aside0 (kq ≤ k1) ∧ Drawn0 w w')
        case atStart => exact ⟨(0), rs, H', ⟨Nat.le_refl _⟩, by repeat (first | exact Drawn0.refl _ | apply Drawn0.step)⟩
        case round =>
          clear H'
          try clear c1
          try clear c2
          try clear p2
          try clear c3
          try clear c3b0
          try clear c3b1
          try clear c3b2
          try clear c5
          try clear c5b0
          try clear c5b1
          try clear p5
          try clear q5
          try clear hx5
          try clear c6
          try clear c6b0
          try clear c6b1
          try clear p6
          try clear q7
          try clear c8
          try clear c8b0
          try clear c9
          try clear c9b0
          try clear c10
          try clear c10b0
          try clear c11
          try clear c11b0
          try clear hx508_0
          try clear hx508_1
          try clear hx509_0
          try clear hx509_1
          try clear p2
          try clear p508
          try clear p509
          try clear p6
          try clear q508
          try clear q509
          try clear q7
          obtain ⟨x7_2, rfl, HA, HK2, ⟨m2, rfl⟩⟩ := hrel
          cases gk with
          | zero => exact absurd HA.out (by simp [turnstilelaw24_kept.l1])
          | succ k2 =>
            have H := HA.out
            clear HA
            simp only [turnstilelaw24_kept.l1] at H
            by_cases c12 : x7_2 < 9
            · rw [if_pos c12] at H
              have c12b0 : decide (x7_2 < 9) = true := decide_eq_true c12
              clear c12
              obtain ⟨ji13, hji13⟩ : ∃ j_ : Int, (wrap64 ((l1.length : Int) + x7_2)) = j_ := ⟨_, rfl⟩
              replace H : (if 0 ≤ (ji13) then (if (ji13) < (y504.length : Int) then (if (!(((rd_T31 y504 (ji13)).f0) == 77) || (!(((rd_T31 y504 (ji13)).f1) == (IntKind.u64.wrap (x7_2))))) = true then (some false) else (turnstilelaw24_kept.l1 k2 l1 y504 (wrap64 (x7_2 + 1)))) else (none)) else (none)) = some r := by first | (rw [hji13] at H; exact H) | (simp only [hji13] at H ⊢; exact H)
              have hji13w : (IntKind.i64.wrap ((l1.length : Int) + x7_2)) = ji13 := (i64_w _).trans hji13
              by_cases c14 : 0 ≤ (ji13)
              · rw [if_pos c14] at H
                have c14b0 : decide (0 ≤ (ji13)) = true := decide_eq_true c14
                clear c14
                by_cases c15 : (ji13) < (y504.length : Int)
                · rw [if_pos c15] at H
                  have c15b0 : decide ((ji13) < (y504.length : Int)) = true := decide_eq_true c15
                  clear c15
                  by_cases c16 : (!(((rd_T31 y504 (ji13)).f0) == 77) || (!(((rd_T31 y504 (ji13)).f1) == (IntKind.u64.wrap (x7_2))))) = true
                  · rw [if_pos c16] at H
                    have c16b0 : (!(((rd_T31 y504 (ji13)).f0) == 77) || (!(((rd_T31 y504 (ji13)).f1) == (IntKind.u64.wrap (x7_2))))) = true := c16
                    clear c16
                    obtain rfl := Option.some.inj H
                    have p510 : 0 ≤ ((ji13) : Int) := of_decide_eq_true (by first | (with_reducible assumption) | assumption)
                    have q510 : (ji13) < (y504.length : Int) := of_decide_eq_true (by first | (with_reducible assumption) | assumption)
                    obtain ⟨ad510, e510, hx510_0, hx510_1⟩ := at_T31 HR507.out (ji13) p510 q510
                    cases e510
                    replace p510 := eq_true p510
                    replace q510 := eq_true q510
                    go_wp2
                    repeat (go_quiet (fail); try go_wp2)
                    go_ret
                    exact ⟨by first | rfl | (simp; done) | (simp only [← hji4, ← hji13] <;> (first | rfl | simp)) | (simp [*]; done), by repeat (first | exact Drawn0.refl _ | apply Drawn0.step)⟩
                  · rw [if_neg c16] at H
                    have c16b0 : (!(((rd_T31 y504 (ji13)).f0) == 77) || (!(((rd_T31 y504 (ji13)).f1) == (IntKind.u64.wrap (x7_2))))) = false := by simpa using c16
                    clear c16
                    have H' := Aside0.mk H
                    clear H
                    have p510 : 0 ≤ ((ji13) : Int) := of_decide_eq_true (by first | (with_reducible assumption) | assumption)
                    have q510 : (ji13) < (y504.length : Int) := of_decide_eq_true (by first | (with_reducible assumption) | assumption)
                    obtain ⟨ad510, e510, hx510_0, hx510_1⟩ := at_T31 HR507.out (ji13) p510 q510
                    cases e510
                    replace p510 := eq_true p510
                    replace q510 := eq_true q510
                    go_wp2
                    repeat (go_quiet (fail); try go_wp2)
                    go_roundg k2
                    case measure => have := HK1.out; have := HK2.out; omega
                    case rel => exact ⟨(wrap64 (x7_2 + 1)), rs, H', ⟨by have := HK1.out; have := HK2.out; omega⟩, by repeat (first | exact Drawn0.refl _ | apply Drawn0.step)⟩
                · rw [if_neg c15] at H
                  exact absurd H (by simp)
              · rw [if_neg c14] at H
                exact absurd H (by simp)
            · rw [if_neg c12] at H
              have c12b0 : decide (x7_2 < 9) = false := decide_eq_false c12
              clear c12
              obtain rfl := Option.some.inj H
              go_wp2
              repeat (go_quiet (fail); try go_wp2)
              go_ret
              exact ⟨by first | rfl | (simp; done) | (simp only [← hji4] <;> (first | rfl | simp)) | (simp [*]; done), by repeat (first | exact Drawn0.refl _ | apply Drawn0.step)⟩

end Go.Proofs.Ytdoifmefhofnnaa.D
