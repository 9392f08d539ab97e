/- Written by the session's own program hyb.py: what functions of the program compute; Lean checks it. -/
import Derived.Test.YtokfhdpokemekaaQx0
import Derived.Deep.MidRow
import Derived.DataElems
import Derived.Test.YtokfhdpokemekaaQx40
import Derived.Test.YtokfhdpokemekaaQx44
namespace Go.Proofs.Ytokfhdpokemekaa.Q
open Go.RowKit Go.Proofs.YtokfhdpokemekaaW.PrintWords Go.Proofs.YtokfhdpokemekaaW.PrintLast Go.Proofs.YtokfhdpokemekaaW.PrintMore Go.Proofs.YtokfhdpokemekaaW.PrintShort
attribute [local go_sem] run_Add64 run_Sub64
attribute [local go_sem] max2_int min2_int max_two min_two max_three min_three max_four min_four   -- for this text's walks alone
set_option linter.unusedVariables false
set_option linter.unusedSimpArgs false

/-! ### turnstilelaw17_ReserveAll: function 8 -/
def turnstilelaw17_ReserveAll.l0 : Nat → List (S55) → Bool → Int → Option (Bool)
  | 0, _, _, _ => none
  | k + 1, x0, x3, x4 => if x4 < (x0.length : Int) then (if x3 = true then (if 0 ≤ x4 then ((turnstilelaw17_plays.f k ((rd_T55 x0 x4).f0) ((rd_T55 x0 x4).f1.f0) ((rd_T55 x0 x4).f1.f1) ((rd_T55 x0 x4).f1.f2) ((rd_T55 x0 x4).f1.f3) ((rd_T55 x0 x4).f1.f4) ((rd_T55 x0 x4).f2.f0) ((rd_T55 x0 x4).f2.f1) ((rd_T55 x0 x4).f2.f2) ((rd_T55 x0 x4).f2.f3) ((rd_T55 x0 x4).f2.f4) ((rd_T55 x0 x4).f3.f0) ((rd_T55 x0 x4).f3.f1) ((rd_T55 x0 x4).f3.f2) ((rd_T55 x0 x4).f4.f0) ((rd_T55 x0 x4).f4.f1) ((rd_T55 x0 x4).f4.f2) ((rd_T55 x0 x4).f5) ((rd_T55 x0 x4).f6)).bind fun t684 => (turnstilelaw17_ReserveAll.l0 k x0 t684 (wrap64 (x4 + 1)))) else (none)) else (some x3)) else (some x3)
def turnstilelaw17_ReserveAll.f (k : Nat) (l0 : List (S55)) : Option (Bool) := (turnstilelaw17_awake.f k).bind fun t682 => (turnstilelaw17_ReserveAll.l0 k l0 t682 0)
theorem turnstilelaw17_ReserveAll.mono_l : ∀ k, (∀ y0 y1 y2, LeO (turnstilelaw17_ReserveAll.l0 k y0 y1 y2) (turnstilelaw17_ReserveAll.l0 (k + 1) y0 y1 y2))
  | 0 => fun _ _ _ r h => by simp [turnstilelaw17_ReserveAll.l0] at h
  | k + 1 => by
    have ih0 := turnstilelaw17_ReserveAll.mono_l k
    · intro y0 y1 y2
      unfold turnstilelaw17_ReserveAll.l0
      repeat' first
      | (with_reducible exact ih0 _ _ _)
      | (with_reducible exact turnstilelaw17_awake.mono _)
      | (with_reducible exact turnstilelaw17_plays.mono _ _ _ _ _ _ _ _ _ _ _ _ _ _ _ _ _ _ _ _)
      | (with_reducible exact LeO.refl _)
      | (with_reducible exact LeO.none _)
      | (with_reducible refine LeO.ite ?_ ?_)
      | (with_reducible refine LeO.bind ?_ (fun _ => ?_))
      | exact ih0 _ _ _
      | exact turnstilelaw17_awake.mono _
      | exact turnstilelaw17_plays.mono _ _ _ _ _ _ _ _ _ _ _ _ _ _ _ _ _ _ _ _
      | exact LeO.none _
      | refine LeO.ite ?_ ?_
      | refine LeO.bind ?_ (fun _ => ?_)
theorem turnstilelaw17_ReserveAll.mono : ∀ a0 k, LeO (turnstilelaw17_ReserveAll.f k a0) (turnstilelaw17_ReserveAll.f (k + 1) a0) := by
  intro a0 k
  have ih0 := turnstilelaw17_ReserveAll.mono_l k
  unfold turnstilelaw17_ReserveAll.f
  repeat' first
      | (with_reducible exact ih0 _ _ _)
      | (with_reducible exact turnstilelaw17_awake.mono _)
      | (with_reducible exact turnstilelaw17_plays.mono _ _ _ _ _ _ _ _ _ _ _ _ _ _ _ _ _ _ _ _)
      | (with_reducible exact LeO.refl _)
      | (with_reducible exact LeO.none _)
      | (with_reducible refine LeO.ite ?_ ?_)
      | (with_reducible refine LeO.bind ?_ (fun _ => ?_))
      | exact ih0 _ _ _
      | exact turnstilelaw17_awake.mono _
      | exact turnstilelaw17_plays.mono _ _ _ _ _ _ _ _ _ _ _ _ _ _ _ _ _ _ _ _
      | exact LeO.none _
      | refine LeO.ite ?_ ?_
      | refine LeO.bind ?_ (fun _ => ?_)
theorem ld_row_ {P : Program} (w : World) (ad : Addr) (ty : TypeId) (cs : List Value) (d : TypeDesc) (hc : ∀ j v, cs[j]? = some v → w.cell? (ad.add j) = some v) (hu : P.underlying ty = some d) (hd : d.isRow = true) (hi : (P.info? ty).map (·.size) = some cs.length) :
    (Instr.loadAt ty (.pointer (some ad))).run P w = .ok (.agg cs.toArray) w := by
  have hl : (loadCells ad cs.length).run P w = .ok cs.toArray w := run_loadCells_list (P := P) w ad cs hc
  cases hq : P.info? ty with
  | none => simp [hq] at hi
  | some i =>
    have hs : i.size = cs.length := by simpa [hq] using hi
    have hagg : (isAgg ty).run P w = .ok true w := by
      unfold isAgg
      rw [Sem.run_bind, run_underlying hu w]
      cases d <;> simp_all
    simp [Instr.loadAt, Instr.sureAddr, loadVar, Sem.run_bind, hagg, sizeOf, typeInfo, hq, hs, hl]
theorem wpList_ld_ {P : Program} {ops : Array Oper} {rest : List Oper} {op : Oper} {a : Act} {w : World} {Q : Exit → Act → World → Prop} (hgd : op.guard = none) (ty : TypeId) (x : Operand) (ho : op.op = .load ty x) (p : Addr) (hx : a.eval x = .pointer (some p)) (v : Value)
    (hrun : (Instr.loadAt ty (.pointer (some p))).run P w = .ok v w) (h : wpList P ops Q rest (a.put op.dst v) w) : wpList P ops Q (op :: rest) a w :=
  wpList_plain hgd fun _ hK => by
    unfold Oper.wp execOp
    simp only [ho, hx, Sem.run_bind, hrun, Result.andThen_ok, Sem.run_pure]
    exact hK _ _ h
theorem ld_T55 {w wq : World} {A : Option Addr} {n : Nat} {xs : List S55} (h : Kd.C k55 w A n xs) (hb : Below w.heap.size w wq) (i : Int) (h0 : 0 ≤ i) (h1 : i < n) :
    ∃ ad, A = some ad ∧ (Instr.loadAt 55 (.pointer (some (ad.add (i.toNat * 19))))).run Try.prog wq = .ok (.agg #[.int .i64 ((rd_T55 xs i).f0), .int .u64 ((rd_T55 xs i).f1.f0), .int .u64 ((rd_T55 xs i).f1.f1), .int .i64 ((rd_T55 xs i).f1.f2), .int .i64 ((rd_T55 xs i).f1.f3), .int .i64 ((rd_T55 xs i).f1.f4), .int .i64 ((rd_T55 xs i).f2.f0), .int .u64 ((rd_T55 xs i).f2.f1), .int .u64 ((rd_T55 xs i).f2.f2), .int .u64 ((rd_T55 xs i).f2.f3), .int .u64 ((rd_T55 xs i).f2.f4), .int .u64 ((rd_T55 xs i).f3.f0), .int .u64 ((rd_T55 xs i).f3.f1), .int .u64 ((rd_T55 xs i).f3.f2), .int .u64 ((rd_T55 xs i).f4.f0), .int .u64 ((rd_T55 xs i).f4.f1), .int .u64 ((rd_T55 xs i).f4.f2), .int .u64 ((rd_T55 xs i).f5), .int .u64 ((rd_T55 xs i).f6)]) wq := by
  obtain ⟨ad, c, e, _, hK, hc0⟩ := Kd.C_get h z55 i h0 h1
  have hc : ∀ j u, c[j]? = some u → w.cell? (ad.add (i.toNat * 19 + j)) = some u := hc0
  obtain rfl := k55_open hK
  refine ⟨ad, e, ld_row_ wq _ 55 _ _ (fun j v hv => ?_) Try.underlying55 rfl (by kernel_rfl)⟩
  rw [Addr.add_add]
  have hx := hc j v hv
  exact (hb.cell (World.block_lt_of_cell? w _ hx)).trans hx
set_option maxHeartbeats 8000000 in
set_option maxRecDepth 100000 in
theorem turnstilelaw17_ReserveAll.calls (k : Nat) (A0 : Option Addr) (c0 : Nat) (l0 : List (S55)) (r : Bool) (w : World) (hr0 : Kd.C k55 w A0 l0.length l0) (hc0 : l0.length ≤ c0) (h : turnstilelaw17_ReserveAll.f k l0 = some r) :
    Calls Try.prog 8 #[.slice A0 l0.length c0] w fun e w' => e = .returned (.bool r) ∧ Below w.heap.size w w' := by
  have hu55 := Try.underlying55
  have HR0 := Aside0.mk hr0
  have HC0 := Aside0.mk hc0
  clear hr0 hc0
  have HB := Aside0.mk (Below.refl w.heap.size w)
  have H : ((turnstilelaw17_awake.f k).bind fun t682 => (turnstilelaw17_ReserveAll.l0 k l0 t682 0)) = some r := h
  clear h
  replace H := Option.bind_eq_some_iff.mp H
  obtain ⟨t682, A20, H⟩ := H
  replace H : (turnstilelaw17_ReserveAll.l0 k l0 t682 0) = some r := H
  have A2 := Aside0.mk A20
  clear A20
  have H' := Aside0.mk H
  clear H
  go_enter Try.func8, Try.ntmps8
  go_wp2_with (first | ((with_reducible refine gate_callee (f := 28) rfl ?_); refine gm (some 5) Try.func28 #[] (turnstilelaw17_awake.calls k  t682 _ A2.out) ?_; intro w3 hb; have n0_ := bs HB hb; clear HB; have HB := n0_; clear n0_; (try clear hb); (try clear hb2); (try clear hk); (try clear hi)))
  go_loopg [3, 4] k (fun kq v3 v4 w' => ∃ (x3_1 : Bool) (x4_1 : Int), v3 = .bool x3_1 ∧ v4 = .int .i64 x4_1 ∧ Aside0 (turnstilelaw17_ReserveAll.l0 kq l0 x3_1 x4_1 = some r) ∧ Aside0 (kq ≤ k) ∧ Aside0 (Below w.heap.size w w'))
  case atStart => exact ⟨(t682), (0), rs, rs, H', ⟨Nat.le_refl _⟩, ⟨bw HB⟩⟩
  case round =>
    clear H'
    try clear c2
    try clear p2
    obtain ⟨x3_1, x4_1, rfl, rfl, HA, HK1, HB⟩ := hrel
    cases gk with
    | zero => exact absurd HA.out (by simp [turnstilelaw17_ReserveAll.l0])
    | succ k1 =>
      have H := HA.out
      clear HA
      simp only [turnstilelaw17_ReserveAll.l0] at H
      by_cases c4 : x4_1 < (l0.length : Int)
      · rw [if_pos c4] at H
        have c4b0 : decide (x4_1 < (l0.length : Int)) = true := decide_eq_true c4
        clear c4
        by_cases c5 : x3_1 = true
        · subst c5
          have H1 : (if 0 ≤ x4_1 then ((turnstilelaw17_plays.f k1 ((rd_T55 l0 x4_1).f0) ((rd_T55 l0 x4_1).f1.f0) ((rd_T55 l0 x4_1).f1.f1) ((rd_T55 l0 x4_1).f1.f2) ((rd_T55 l0 x4_1).f1.f3) ((rd_T55 l0 x4_1).f1.f4) ((rd_T55 l0 x4_1).f2.f0) ((rd_T55 l0 x4_1).f2.f1) ((rd_T55 l0 x4_1).f2.f2) ((rd_T55 l0 x4_1).f2.f3) ((rd_T55 l0 x4_1).f2.f4) ((rd_T55 l0 x4_1).f3.f0) ((rd_T55 l0 x4_1).f3.f1) ((rd_T55 l0 x4_1).f3.f2) ((rd_T55 l0 x4_1).f4.f0) ((rd_T55 l0 x4_1).f4.f1) ((rd_T55 l0 x4_1).f4.f2) ((rd_T55 l0 x4_1).f5) ((rd_T55 l0 x4_1).f6)).bind fun t684 => (turnstilelaw17_ReserveAll.l0 k1 l0 t684 (wrap64 (x4_1 + 1)))) else (none)) = some r := by rw [if_pos rfl] at H; exact H
          clear H
          have H := H1
          clear H1
          by_cases c6 : 0 ≤ x4_1
          · rw [if_pos c6] at H
            have c6b0 : decide (0 ≤ x4_1) = true := decide_eq_true c6
            clear c6
            replace H := Option.bind_eq_some_iff.mp H
            obtain ⟨t684, A70, H⟩ := H
            replace H : (turnstilelaw17_ReserveAll.l0 k1 l0 t684 (wrap64 (x4_1 + 1))) = some r := H
            have A7 := Aside0.mk A70
            clear A70
            have H' := Aside0.mk H
            clear H
            have p683 : 0 ≤ (x4_1 : Int) := of_decide_eq_true (by first | (with_reducible assumption) | assumption)
            have q683 : x4_1 < (l0.length : Int) := of_decide_eq_true (by first | (with_reducible assumption) | assumption)
            obtain ⟨ad683, e683, hld683⟩ := ld_T55 HR0.out HB.out x4_1 p683 q683
            cases e683
            have HLD := Aside0.mk hld683
            clear hld683
            replace p683 := eq_true p683
            replace q683 := eq_true q683
            go_wp2_with (first | ((with_reducible refine gate_dst (N := 18) rfl ?_); refine wpList_ld_ rfl 55 (.tmp 17) rfl _ rfl _ HLD.out ?_) | ((with_reducible refine gate_callee (f := 29) rfl ?_); refine gm (some 19) Try.func29 #[.agg #[.int .i64 ((rd_T55 l0 x4_1).f0), .int .u64 ((rd_T55 l0 x4_1).f1.f0), .int .u64 ((rd_T55 l0 x4_1).f1.f1), .int .i64 ((rd_T55 l0 x4_1).f1.f2), .int .i64 ((rd_T55 l0 x4_1).f1.f3), .int .i64 ((rd_T55 l0 x4_1).f1.f4), .int .i64 ((rd_T55 l0 x4_1).f2.f0), .int .u64 ((rd_T55 l0 x4_1).f2.f1), .int .u64 ((rd_T55 l0 x4_1).f2.f2), .int .u64 ((rd_T55 l0 x4_1).f2.f3), .int .u64 ((rd_T55 l0 x4_1).f2.f4), .int .u64 ((rd_T55 l0 x4_1).f3.f0), .int .u64 ((rd_T55 l0 x4_1).f3.f1), .int .u64 ((rd_T55 l0 x4_1).f3.f2), .int .u64 ((rd_T55 l0 x4_1).f4.f0), .int .u64 ((rd_T55 l0 x4_1).f4.f1), .int .u64 ((rd_T55 l0 x4_1).f4.f2), .int .u64 ((rd_T55 l0 x4_1).f5), .int .u64 ((rd_T55 l0 x4_1).f6)]] (turnstilelaw17_plays.calls k1 ((rd_T55 l0 x4_1).f0) ((rd_T55 l0 x4_1).f1.f0) ((rd_T55 l0 x4_1).f1.f1) ((rd_T55 l0 x4_1).f1.f2) ((rd_T55 l0 x4_1).f1.f3) ((rd_T55 l0 x4_1).f1.f4) ((rd_T55 l0 x4_1).f2.f0) ((rd_T55 l0 x4_1).f2.f1) ((rd_T55 l0 x4_1).f2.f2) ((rd_T55 l0 x4_1).f2.f3) ((rd_T55 l0 x4_1).f2.f4) ((rd_T55 l0 x4_1).f3.f0) ((rd_T55 l0 x4_1).f3.f1) ((rd_T55 l0 x4_1).f3.f2) ((rd_T55 l0 x4_1).f4.f0) ((rd_T55 l0 x4_1).f4.f1) ((rd_T55 l0 x4_1).f4.f2) ((rd_T55 l0 x4_1).f5) ((rd_T55 l0 x4_1).f6) t684 _ A7.out) ?_; intro w8 hb; have n0_ := bs HB hb; clear HB; have HB := n0_; clear n0_; (try clear hb); (try clear hb2); (try clear hk); (try clear hi)))
            go_roundg k1
            case measure => have := HK1.out; omega
            case rel => exact ⟨(t684), (wrap64 (x4_1 + 1)), rs, rs, H', ⟨by have := HK1.out; omega⟩, ⟨bw HB⟩⟩
          · rw [if_neg c6] at H
            exact absurd H (by simp)
        · replace c5 := Bool.eq_false_iff.mpr c5
          subst c5
          have H1 : (some false) = some r := by rw [if_neg (show ¬ (false = true) by decide)] at H; exact H
          clear H
          have H := H1
          clear H1
          obtain rfl := Option.some.inj H
          go_wp2
          go_ret
          exact ⟨re, bw HB⟩
      · rw [if_neg c4] at H
        have c4b0 : decide (x4_1 < (l0.length : Int)) = false := decide_eq_false c4
        clear c4
        obtain rfl := Option.some.inj H
        go_wp2
        go_ret
        exact ⟨re, bw HB⟩


end Go.Proofs.Ytokfhdpokemekaa.Q
