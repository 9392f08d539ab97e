/- Written by the session's own program hyb.py: what functions of the program compute; Lean checks it. -/
import Derived.Test.YtkgjepmminmjjaaDoorEx0
import Derived.Test.YtkgjepmminmjjaaDoorEx34
import Derived.Test.YtkgjepmminmjjaaDoorEx35
import Derived.Test.YtkgjepmminmjjaaDoorEx37
import Derived.Test.YtkgjepmminmjjaaDoorEx39
namespace Go.Proofs.YtkgjepmminmjjaaDoor.E
open Go.RowKit Go.Proofs.YtkgjepmminmjjaaDoorW.PrintWords Go.Proofs.YtkgjepmminmjjaaDoorW.PrintLast Go.Proofs.YtkgjepmminmjjaaDoorW.PrintMore Go.Proofs.YtkgjepmminmjjaaDoorW.PrintShort
attribute [local go_sem] run_Add64 run_Sub64
attribute [local go_sem] max2_int min2_int max_two min_two max_three min_three max_four min_four   -- for this text's walks alone
set_option linter.unusedVariables false
set_option linter.unusedSimpArgs false
/-! ### turnstileref14_Decode: function 45 -/
def turnstileref14_Decode.sm (k : Nat) (xs : List Int) (a : Int) : Option Int := (turnstileref11_Cut_Number.f k xs a false 4).bind fun t => some t.1
theorem turnstileref14_Decode.sum_ (k : Nat) (A1 : Option Addr) (c1 n : Nat) (l1 : List Int) (r : Int) (w : World) (hn : l1.length = n) (hr1 : Kd.C (Kd.int .u8) w A1 l1.length l1) (hc1 : l1.length ≤ c1) (h : turnstileref02_Sum.f k l1 = some r) :
    Calls Tryd.prog 65 #[.slice A1 n c1] w fun e w' => e = .returned (.int .u32 r) ∧ Drawn0 w w' := by
  subst hn
  exact turnstileref02_Sum.calls k A1 c1 l1 r w hr1 hc1 h
theorem turnstileref14_Decode.far9R {W : World} {g e base : Nat} {ok : Nat → Prop} {v : Value} {xs : List S79} (h : Kd.R k79 e W base ok v xs) (hok : ∀ k, ok k → k ≠ g) (b0 b1 b2 b3 b4 b5 b6 b7 b8 : Value) :
    Kd.R k79 e (((((((((W.setCell ⟨g, 0, none⟩ b0).setCell ⟨g, 1, none⟩ b1).setCell ⟨g, 2, none⟩ b2).setCell ⟨g, 3, none⟩ b3).setCell ⟨g, 4, none⟩ b4).setCell ⟨g, 5, none⟩ b5).setCell ⟨g, 6, none⟩ b6).setCell ⟨g, 7, none⟩ b7).setCell ⟨g, 8, none⟩ b8) base ok v xs :=
  Kd.R_far (p := ⟨g, 8, none⟩) (Kd.R_far (p := ⟨g, 7, none⟩) (Kd.R_far (p := ⟨g, 6, none⟩) (Kd.R_far (p := ⟨g, 5, none⟩) (Kd.R_far (p := ⟨g, 4, none⟩) (Kd.R_far (p := ⟨g, 3, none⟩) (Kd.R_far (p := ⟨g, 2, none⟩) (Kd.R_far (p := ⟨g, 1, none⟩) (Kd.R_far (p := ⟨g, 0, none⟩) (h) hok b0) hok b1) hok b2) hok b3) hok b4) hok b5) hok b6) hok b7) hok b8
theorem turnstileref14_Decode.far9I {w W : World} {g g' : Nat} {xs : List Int} {a : Int} {s : Bool} (h : IsS99 w W g xs a s) (n : g ≠ g') (b0 b1 b2 b3 b4 b5 b6 b7 b8 : Value) :
    IsS99 w (((((((((W.setCell ⟨g', 0, none⟩ b0).setCell ⟨g', 1, none⟩ b1).setCell ⟨g', 2, none⟩ b2).setCell ⟨g', 3, none⟩ b3).setCell ⟨g', 4, none⟩ b4).setCell ⟨g', 5, none⟩ b5).setCell ⟨g', 6, none⟩ b6).setCell ⟨g', 7, none⟩ b7).setCell ⟨g', 8, none⟩ b8) g xs a s :=
  IsS99.far (p := ⟨g', 8, none⟩) (IsS99.far (p := ⟨g', 7, none⟩) (IsS99.far (p := ⟨g', 6, none⟩) (IsS99.far (p := ⟨g', 5, none⟩) (IsS99.far (p := ⟨g', 4, none⟩) (IsS99.far (p := ⟨g', 3, none⟩) (IsS99.far (p := ⟨g', 2, none⟩) (IsS99.far (p := ⟨g', 1, none⟩) (IsS99.far (p := ⟨g', 0, none⟩) (h) n b0) n b1) n b2) n b3) n b4) n b5) n b6) n b7) n b8
theorem turnstileref14_Decode.set9 {w W : World} {g : Nat} (h : Below w.heap.size w W) (n : w.heap.size ≤ g) (b0 b1 b2 b3 b4 b5 b6 b7 b8 : Value) :
    Below w.heap.size w (((((((((W.setCell ⟨g, 0, none⟩ b0).setCell ⟨g, 1, none⟩ b1).setCell ⟨g, 2, none⟩ b2).setCell ⟨g, 3, none⟩ b3).setCell ⟨g, 4, none⟩ b4).setCell ⟨g, 5, none⟩ b5).setCell ⟨g, 6, none⟩ b6).setCell ⟨g, 7, none⟩ b7).setCell ⟨g, 8, none⟩ b8) :=
  below_set (below_set (below_set (below_set (below_set (below_set (below_set (below_set (below_set h n) n) n) n) n) n) n) n) n
theorem turnstileref14_Decode.st9 {ops : Array Oper} {rest : List Oper} {o : Oper} {a : Act} {Q : Exit → Act → World → Prop} {W : World} {g : Nat} {a0 a1 a2 a3 a4 a5 a6 a7 a8 : Value} (b0 b1 b2 b3 b4 b5 b6 b7 b8 : Value) (B : W.heap[g]? = some (.cells #[a0, a1, a2, a3, a4, a5, a6, a7, a8] 79 (0, 0)))
    (h : ∀ W', W' = (((((((((W.setCell ⟨g, 0, none⟩ b0).setCell ⟨g, 1, none⟩ b1).setCell ⟨g, 2, none⟩ b2).setCell ⟨g, 3, none⟩ b3).setCell ⟨g, 4, none⟩ b4).setCell ⟨g, 5, none⟩ b5).setCell ⟨g, 6, none⟩ b6).setCell ⟨g, 7, none⟩ b7).setCell ⟨g, 8, none⟩ b8) → wpList Tryd.prog ops Q rest a W') (ho : o.op = .store 79 (.tmp 9) (.tmp 84) := by rfl) (hx : a.eval (.tmp 9) = .pointer (some ⟨g, 0, none⟩) := by rfl) (hy : a.eval (.tmp 84) = .agg #[b0, b1, b2, b3, b4, b5, b6, b7, b8] := by rfl) (h1 : (#[b0, b1, b2, b3, b4, b5, b6, b7, b8] : Array Value).all (·.oneCell') = true := by first | kernel_rfl | simp [Value.oneCell']) (hg : o.guard = none := by rfl) (hd : o.dst = none := by rfl) : wpList Tryd.prog ops Q (o :: rest) a W :=
  store_event hg ho hd (run_row_ 79 (.tmp 9) (.tmp 84) #[b0, b1, b2, b3, b4, b5, b6, b7, b8] B ho hx hy (Nat.le_refl _) (by kernel_rfl) h1) (fun w' e => h w' e)
theorem turnstileref14_Decode.ld_row_ {P : Program} (w : World) (ad : Addr) (ty : TypeId) (cs : List Value) (d : TypeDesc) (hc : ∀ j v, cs[j]? = some v → w.cell? (ad.add j) = some v) (hu : P.underlying ty = some d) (hd : d.isRow = true) (hi : (P.info? ty).map (·.size) = some cs.length) :
    (Instr.loadAt ty (.pointer (some ad))).run P w = .ok (.agg cs.toArray) w := by
  have hl : (loadCells ad cs.length).run P w = .ok cs.toArray w := run_loadCells_list (P := P) w ad cs hc
  cases hq : P.info? ty with
  | none => simp [hq] at hi
  | some i =>
    have hs : i.size = cs.length := by simpa [hq] using hi
    have hagg : (isAgg ty).run P w = .ok true w := by
      unfold isAgg
      rw [Sem.run_bind, run_underlying hu w]
      cases d <;> simp_all
    simp [Instr.loadAt, Instr.sureAddr, loadVar, Sem.run_bind, hagg, sizeOf, typeInfo, hq, hs, hl]
theorem turnstileref14_Decode.ld_ {P : Program} {ops : Array Oper} {rest : List Oper} {op : Oper} {a : Act} {w : World} {Q : Exit → Act → World → Prop} (hgd : op.guard = none) (ty : TypeId) (x : Operand) (ho : op.op = .load ty x) (p : Addr) (hx : a.eval x = .pointer (some p)) (v : Value)
    (hrun : (Instr.loadAt ty (.pointer (some p))).run P w = .ok v w) (h : wpList P ops Q rest (a.put op.dst v) w) : wpList P ops Q (op :: rest) a w :=
  wpList_plain hgd fun _ hK => by
    unfold Oper.wp execOp
    simp only [ho, hx, Sem.run_bind, hrun, Result.andThen_ok, Sem.run_pure]
    exact hK _ _ h
theorem turnstileref14_Decode.ld9 {W : World} {g : Nat} {s : ByteArray} {c0 c1 c2 c3 c4 d0 d1 d2 : Int} (B : W.heap[g]? = some (.cells #[.string s, .int .i64 c0, .int .u64 c1, .int .u64 c2, .int .u64 c3, .int .u64 c4, .int .u64 d0, .int .u64 d1, .int .u64 d2] 79 (0, 0))) : (Instr.loadAt 79 (.pointer (some ⟨g, 0, none⟩))).run Tryd.prog W = .ok (.agg #[.string s, .int .i64 c0, .int .u64 c1, .int .u64 c2, .int .u64 c3, .int .u64 c4, .int .u64 d0, .int .u64 d1, .int .u64 d2]) W := by
  refine turnstileref14_Decode.ld_row_ W ⟨g, 0, none⟩ 79 (#[.string s, .int .i64 c0, .int .u64 c1, .int .u64 c2, .int .u64 c3, .int .u64 c4, .int .u64 d0, .int .u64 d1, .int .u64 d2] : Array Value).toList _ (fun j v hv => ?_) Tryd.underlying79 rfl (by kernel_rfl)
  have e : (⟨g, 0, none⟩ : Addr).add j = ⟨g, j, none⟩ := by unfold Addr.add; split <;> simp_all
  rw [e, blk_cell B j]
  rw [← Array.getElem?_toList]
  exact hv
theorem turnstileref14_Decode.bs9 {oi : Oper} {act : Act} (x : Operand) {s : ByteArray} {c0 c1 c2 c3 c4 d0 d1 d2 : Int} (w : World) (ho : oi.op = .buildSlice 49 1 #[(0, x)]) (hx : act.eval x = .agg #[.string s, .int .i64 c0, .int .u64 c1, .int .u64 c2, .int .u64 c3, .int .u64 c4, .int .u64 d0, .int .u64 d1, .int .u64 d2]) :
    (execOp act.eval oi).run Tryd.prog w = .ok (.value (.slice (some ⟨w.heap.size, 0, none⟩) 1 1)) (w.alloc (.cells #[.string s, .int .i64 c0, .int .u64 c1, .int .u64 c2, .int .u64 c3, .int .u64 c4, .int .u64 d0, .int .u64 d1, .int .u64 d2] 79)) := by
  have hu := Tryd.underlying49
  unfold execOp
  simp only [ho, List.map_toArray, List.map_cons, List.map_nil, hx]
  go_simp
def turnstileref14_Decode.T6 : Bool × List (List Nat × List Nat) := (true, [([], []), ([0], [0]), ([], []), ([], []), ([3], [3]), ([4], [4]), ([2, 5], [2, 5]), ([6, 1], [6]), ([7], [7]), ([1, 8], [1, 8])])
def turnstileref14_Decode.B6 : List Nat := [0, 1, 0, 0, 8, 24, 60, 127, 255, 511]
theorem turnstileref14_Decode.tab6 : rtab .any (opsOf Tryd.f45 6) = turnstileref14_Decode.T6 := by kernel_rfl
theorem turnstileref14_Decode.bits6 : waitsOk turnstileref14_Decode.T6.2 turnstileref14_Decode.B6 = true := by kernel_rfl
mutual
def turnstileref14_Decode.j0 : Nat → List Int → Bool → Option (Int × Int × (List (S79)) × Int)
  | 0, _, _ => none
  | k + 1, x0, x37 => if x37 = true then (some (0, 0, ([] : List (S79)), 3)) else (if 0 ≤ (wrap64 ((x0.length : Int) - 4)) then (if (wrap64 ((x0.length : Int) - 4)) ≤ (x0.length : Int) then ((turnstileref14_Decode.sm k x0 (wrap64 ((x0.length : Int) - 4))).bind fun t485 => ((turnstileref02_Sum.f k (x0.take ((wrap64 ((x0.length : Int) - 4)) : Int).toNat)).bind fun t487 => (if t485 = (IntKind.u64.wrap (t487)) then ((turnstileref11_Cut_Number.f k (x0.take ((wrap64 ((x0.length : Int) - 4)) : Int).toNat) 4 false 8).bind fun bt494 => ((turnstileref11_Cut_Number.f k (x0.take ((wrap64 ((x0.length : Int) - 4)) : Int).toNat) bt494.2.1 bt494.2.2 8).bind fun bt497 => ((turnstileref11_Cut_Number.f k (x0.take ((wrap64 ((x0.length : Int) - 4)) : Int).toNat) bt497.2.1 bt497.2.2 4).bind fun bt500 => (if bt500.1 > 4096 then (some (0, 0, ([] : List (S79)), 3)) else (turnstileref14_Decode.l0 k x0 bt500.1 0 (x0.take ((wrap64 ((x0.length : Int) - 4)) : Int).toNat) bt500.2.1 bt500.2.2 bt494.1 bt497.1 (([] : List (S79)))))))) else (some (0, 0, ([] : List (S79)), 5))))) else (none)) else (none))
def turnstileref14_Decode.l0 : Nat → List Int → Int → Int → List Int → Int → Bool → Int → Int → List (S79) → Option (Int × Int × (List (S79)) × Int)
  | 0, _, _, _, _, _, _, _, _, _ => none
  | k + 1, x0, x7, x8, x490000, x490001, x490002, x494000, x494001, x494002 => if x8 < x7 then ((turnstileref14_entry.f k x490000 x490001 x490002).bind fun bt503 => (if bt503.2.2.2.2.2.2.2.2.2.1 = 0 then (if x494002.length < 1759218604441 then (turnstileref14_Decode.l0 k x0 x7 (IntKind.u64.wrap (x8 + 1)) x490000 bt503.2.2.2.2.2.2.2.2.2.2.1 bt503.2.2.2.2.2.2.2.2.2.2.2 x494000 x494001 (x494002 ++ [(⟨bt503.1, (⟨bt503.2.1, bt503.2.2.1, bt503.2.2.2.1, bt503.2.2.2.2.1, bt503.2.2.2.2.2.1⟩ : S28), (⟨bt503.2.2.2.2.2.2.1, bt503.2.2.2.2.2.2.2.1, bt503.2.2.2.2.2.2.2.2.1⟩ : S30)⟩ : S79)])) else (none)) else (some (0, 0, ([] : List (S79)), bt503.2.2.2.2.2.2.2.2.2.1)))) else ((turnstileref13_Valid.f k x494000 x494001 x494002).bind fun t519 => (if x490001 = (wrap64 ((x0.length : Int) - 4)) then (if t519 = true then (some (x494000, x494001, x494002, 0)) else (some (0, 0, ([] : List (S79)), 3))) else (some (0, 0, ([] : List (S79)), 3))))
end
def turnstileref14_Decode.f (k : Nat) (l0 : List Int) : Option (Int × Int × (List (S79)) × Int) := if (l0.length : Int) < 28 then (some (0, 0, ([] : List (S79)), 2)) else (if 0 < (l0.length : Int) then (if (rd l0 0) = 84 then (if 1 < (l0.length : Int) then (if (rd l0 1) = 73 then (if 2 < (l0.length : Int) then (if (rd l0 2) = 48 then (if 3 < (l0.length : Int) then (turnstileref14_Decode.j0 k l0 ((rd l0 3) != 49)) else (none)) else (turnstileref14_Decode.j0 k l0 true)) else (none)) else (turnstileref14_Decode.j0 k l0 true)) else (none)) else (turnstileref14_Decode.j0 k l0 true)) else (none))
set_option maxHeartbeats 8000000 in
set_option maxRecDepth 100000 in
theorem turnstileref14_Decode.calls (k : Nat) (A0 : Option Addr) (c0 : Nat) (l0 : List Int) (r1 : Int) (r2 : Int) (r3 : List (S79)) (r4 : Int) (w : World) (hr0 : Kd.C (Kd.int .u8) w A0 l0.length l0) (hc0 : l0.length ≤ c0) (h : turnstileref14_Decode.f k l0 = some (r1, r2, r3, r4)) :
 Calls Tryd.prog 45 #[.slice A0 l0.length c0] w fun e w' => ∃ v2_ : Value, e = .returned (.tuple #[.agg #[.int .u64 r1, .int .u64 r2, v2_], .int .i64 r4]) ∧ Kd.R k79 79 w' w.heap.size (fun _ => True) v2_ r3 ∧ Below w.heap.size w w' := by
 have hu51 := Tryd.underlying51; have hu99 := Tryd.underlying99; have hu79 := Tryd.underlying79; have HR0 := Aside0.mk hr0; have HC0 := Aside0.mk hc0; clear hr0 hc0; have HB := Aside0.mk (Below.refl w.heap.size w)
 have H : (if (l0.length : Int) < 28 then (some (0, 0, ([] : List (S79)), 2)) else (if 0 < (l0.length : Int) then (if (rd l0 0) = 84 then (if 1 < (l0.length : Int) then (if (rd l0 1) = 73 then (if 2 < (l0.length : Int) then (if (rd l0 2) = 48 then (if 3 < (l0.length : Int) then (turnstileref14_Decode.j0 k l0 ((rd l0 3) != 49)) else (none)) else (turnstileref14_Decode.j0 k l0 true)) else (none)) else (turnstileref14_Decode.j0 k l0 true)) else (none)) else (turnstileref14_Decode.j0 k l0 true)) else (none))) = some (r1, r2, r3, r4) := h
 clear h
 by_cases c2 : (l0.length : Int) < 28
 · rw [if_pos c2] at H
   have c2b0 : decide ((l0.length : Int) < 28) = true := decide_eq_true c2
   have c2b1 : decide (l0.length < 28) = true := decide_eq_true (by omega)
   clear c2
   simp only [Option.some.injEq, Prod.mk.injEq] at H
   obtain ⟨rfl, rfl, rfl, rfl⟩ := H
   go_enter Tryd.func45, Tryd.ntmps45
   go_wp2_with (first | ((with_reducible refine gate_dst (N := 2) rfl ?_); refine bx 2 #[.int .u64 0, .int .u64 0, .slice none 0 0] 51 ?_; intro gb479 hg w3 hbox hb; have BK479 := Aside0.mk (hbox); have GW479 := sz HB hg; have GE479 := sz HB hg; replace HB := bs HB hb; clear hb hbox hg; obtain ⟨hcz4_0, hcz4_1, hcz4_2, hfz4_0, hfz4_1, hfz4_2⟩ := bc3 BK479))
   repeat (go_quiet (fail); try go_wp2)
   refine bodyPost_ret (results_ct rfl _ _ gb479 51 #[.int .u64 0, .int .u64 0, .slice none 0 0] (0, 0) _ rfl (bk BK479) Tryd.underlying51 rfl (by kernel_rfl)) rfl ?_
   exact ⟨_, re, by first | exact Kd.R_nil _ _ _ _ _ | exact Kd.N_nil _ _ _ _ _ | exact Kd.V_nil _ _ _ _ _ | exact Kd.Q_nil _ _ _ _ _ | exact Kd.S_nil _ _ _ _ _, bw HB⟩
 · rw [if_neg c2] at H
   have c2b0 : decide ((l0.length : Int) < 28) = false := decide_eq_false c2
   have c2b1 : decide (l0.length < 28) = false := decide_eq_false (by omega)
   clear c2; have HC5 := Aside0.mk H; clear H
   go_enter Tryd.func45, Tryd.ntmps45
   go_upto_region 3 with (first | ((with_reducible refine gate_dst (N := 2) rfl ?_); refine bx 2 #[.int .u64 0, .int .u64 0, .slice none 0 0] 51 ?_; intro gb479 hg w6 hbox hb; have BK479 := Aside0.mk (hbox); have GW479 := sz HB hg; have GE479 := sz HB hg; replace HB := bs HB hb; clear hb hbox hg))
   repeat (go_quiet (fail); try go_wp2)
   (try simp only [Act.put, List.setIfInBounds_toArray, List.set_cons_zero, List.set_cons_succ])
   go_cut [37] (fun v37 wc => ∃ (kq : Nat) (x37_4 : Bool), v37 = .bool x37_4 ∧ Aside0 (turnstileref14_Decode.j0 kq l0 x37_4 = some (r1, r2, r3, r4)) ∧ Aside0 (kq ≤ k) ∧ Aside0 (wc.heap[gb479]? = some (.cells #[.int .u64 0, .int .u64 0, (.slice none 0 0)] 51 (0, 0))) ∧ Aside0 (Below w.heap.size w wc))
   case first =>
    have H := HC5.out; clear HC5
    by_cases c7 : 0 < (l0.length : Int)
    · rw [if_pos c7] at H
      have c7b0 : decide (0 < (l0.length : Int)) = true := decide_eq_true c7
      have c7b1 : decide (0 < l0.length) = true := decide_eq_true (by omega)
      clear c7
      (first | rw [c7b0] | (simp only [i64_w, i32_w]; rw [c7b0]) | skip)
      by_cases c8 : (rd l0 0) = 84
      · rw [if_pos c8] at H
        have c8b0 : ((rd l0 0) == 84) = true := beq_iff_eq.mpr c8
        have c8b1 : ((rd l0 0) != 84) = false := bne_eq_false_iff_eq.mpr c8
        clear c8
        by_cases c9 : 1 < (l0.length : Int)
        · rw [if_pos c9] at H
          have c9b0 : decide (1 < (l0.length : Int)) = true := decide_eq_true c9
          have c9b1 : decide (1 < l0.length) = true := decide_eq_true (by omega)
          clear c9
          by_cases c10 : (rd l0 1) = 73
          · rw [if_pos c10] at H
            have c10b0 : ((rd l0 1) == 73) = true := beq_iff_eq.mpr c10
            have c10b1 : ((rd l0 1) != 73) = false := bne_eq_false_iff_eq.mpr c10
            clear c10
            by_cases c11 : 2 < (l0.length : Int)
            · rw [if_pos c11] at H
              have c11b0 : decide (2 < (l0.length : Int)) = true := decide_eq_true c11
              have c11b1 : decide (2 < l0.length) = true := decide_eq_true (by omega)
              clear c11
              by_cases c12 : (rd l0 2) = 48
              · rw [if_pos c12] at H
                have c12b0 : ((rd l0 2) == 48) = true := beq_iff_eq.mpr c12
                have c12b1 : ((rd l0 2) != 48) = false := bne_eq_false_iff_eq.mpr c12
                clear c12
                by_cases c13 : 3 < (l0.length : Int)
                · rw [if_pos c13] at H
                  have c13b0 : decide (3 < (l0.length : Int)) = true := decide_eq_true c13
                  have c13b1 : decide (3 < l0.length) = true := decide_eq_true (by omega)
                  clear c13
                  have H' := Aside0.mk H
                  clear H
                  have p480 : 0 ≤ (0 : Int) := (by omega)
                  have q480 : 0 < (l0.length : Int) := of_decide_eq_true (by first | (with_reducible assumption) | assumption)
                  obtain ⟨ad480, e480, hx480_0⟩ := Kd.at_int HR0.out 0 p480 q480
                  cases e480
                  have qi480 : (0 < l0.length) = True := eq_true (by omega)
                  (try rw [show ((0 : Int)).toNat = 0 from rfl] at hx480_0)
                  (try rw [Addr.add_zero'] at hx480_0)
                  replace hx480_0 := (HB.out.cell (World.block_lt_of_cell? w _ hx480_0)).trans hx480_0; replace p480 := eq_true p480; replace q480 := eq_true q480
                  have p481 : 0 ≤ (1 : Int) := (by omega)
                  have q481 : 1 < (l0.length : Int) := of_decide_eq_true (by first | (with_reducible assumption) | assumption)
                  obtain ⟨ad481, e481, hx481_0⟩ := Kd.at_int HR0.out 1 p481 q481
                  obtain rfl : ad480 = ad481 := (by injection e481)
                  (try simp only [show (1 : Int).toNat = 1 from rfl, Nat.reduceMul, Nat.reduceEqDiff, Go.Addr.add, ↓reduceIte] at hx481_0)
                  have qi481 : (1 < l0.length) = True := eq_true (by omega)
                  (try rw [show ((1 : Int)).toNat = 1 from rfl] at hx481_0)
                  replace hx481_0 := (HB.out.cell (World.block_lt_of_cell? w _ hx481_0)).trans hx481_0; replace p481 := eq_true p481; replace q481 := eq_true q481
                  have p482 : 0 ≤ (2 : Int) := (by omega)
                  have q482 : 2 < (l0.length : Int) := of_decide_eq_true (by first | (with_reducible assumption) | assumption)
                  obtain ⟨ad482, e482, hx482_0⟩ := Kd.at_int HR0.out 2 p482 q482
                  obtain rfl : ad480 = ad482 := (by injection e482)
                  (try simp only [show (2 : Int).toNat = 2 from rfl, Nat.reduceMul, Nat.reduceEqDiff, Go.Addr.add, ↓reduceIte] at hx482_0)
                  have qi482 : (2 < l0.length) = True := eq_true (by omega)
                  (try rw [show ((2 : Int)).toNat = 2 from rfl] at hx482_0)
                  replace hx482_0 := (HB.out.cell (World.block_lt_of_cell? w _ hx482_0)).trans hx482_0; replace p482 := eq_true p482; replace q482 := eq_true q482
                  have p483 : 0 ≤ (3 : Int) := (by omega)
                  have q483 : 3 < (l0.length : Int) := of_decide_eq_true (by first | (with_reducible assumption) | assumption)
                  obtain ⟨ad483, e483, hx483_0⟩ := Kd.at_int HR0.out 3 p483 q483
                  obtain rfl : ad480 = ad483 := (by injection e483)
                  (try simp only [show (3 : Int).toNat = 3 from rfl, Nat.reduceMul, Nat.reduceEqDiff, Go.Addr.add, ↓reduceIte] at hx483_0)
                  have qi483 : (3 < l0.length) = True := eq_true (by omega)
                  (try rw [show ((3 : Int)).toNat = 3 from rfl] at hx483_0)
                  replace hx483_0 := (HB.out.cell (World.block_lt_of_cell? w _ hx483_0)).trans hx483_0; replace p483 := eq_true p483; replace q483 := eq_true q483
                  go_wp2
                  repeat (go_quiet (fail); try go_wp2)
                  go_meet
                  case rel => exact ⟨_, (((rd l0 3) != 49)), rs, H', ⟨by first | omega | exact Nat.le_refl _⟩, ⟨bk BK479⟩, ⟨bw HB⟩⟩
                · rw [if_neg c13] at H
                  exact absurd H (by simp)
              · rw [if_neg c12] at H
                have c12b0 : ((rd l0 2) == 48) = false := beq_eq_false_iff_ne.mpr c12
                have c12b1 : ((rd l0 2) != 48) = true := bne_iff_ne.mpr c12
                have H' := Aside0.mk H
                clear H
                have p480 : 0 ≤ (0 : Int) := (by omega)
                have q480 : 0 < (l0.length : Int) := of_decide_eq_true (by first | (with_reducible assumption) | assumption)
                obtain ⟨ad480, e480, hx480_0⟩ := Kd.at_int HR0.out 0 p480 q480
                cases e480
                have qi480 : (0 < l0.length) = True := eq_true (by omega)
                (try rw [show ((0 : Int)).toNat = 0 from rfl] at hx480_0)
                (try rw [Addr.add_zero'] at hx480_0)
                replace hx480_0 := (HB.out.cell (World.block_lt_of_cell? w _ hx480_0)).trans hx480_0; replace p480 := eq_true p480; replace q480 := eq_true q480
                have p481 : 0 ≤ (1 : Int) := (by omega)
                have q481 : 1 < (l0.length : Int) := of_decide_eq_true (by first | (with_reducible assumption) | assumption)
                obtain ⟨ad481, e481, hx481_0⟩ := Kd.at_int HR0.out 1 p481 q481
                obtain rfl : ad480 = ad481 := (by injection e481)
                (try simp only [show (1 : Int).toNat = 1 from rfl, Nat.reduceMul, Nat.reduceEqDiff, Go.Addr.add, ↓reduceIte] at hx481_0)
                have qi481 : (1 < l0.length) = True := eq_true (by omega)
                (try rw [show ((1 : Int)).toNat = 1 from rfl] at hx481_0)
                replace hx481_0 := (HB.out.cell (World.block_lt_of_cell? w _ hx481_0)).trans hx481_0; replace p481 := eq_true p481; replace q481 := eq_true q481
                have p482 : 0 ≤ (2 : Int) := (by omega)
                have q482 : 2 < (l0.length : Int) := of_decide_eq_true (by first | (with_reducible assumption) | assumption)
                obtain ⟨ad482, e482, hx482_0⟩ := Kd.at_int HR0.out 2 p482 q482
                obtain rfl : ad480 = ad482 := (by injection e482)
                (try simp only [show (2 : Int).toNat = 2 from rfl, Nat.reduceMul, Nat.reduceEqDiff, Go.Addr.add, ↓reduceIte] at hx482_0)
                have qi482 : (2 < l0.length) = True := eq_true (by omega)
                (try rw [show ((2 : Int)).toNat = 2 from rfl] at hx482_0)
                replace hx482_0 := (HB.out.cell (World.block_lt_of_cell? w _ hx482_0)).trans hx482_0; replace p482 := eq_true p482; replace q482 := eq_true q482
                go_wp2
                repeat (go_quiet (fail); try go_wp2)
                go_meet
                case rel => exact ⟨_, (true), rs, H', ⟨by first | omega | exact Nat.le_refl _⟩, ⟨bk BK479⟩, ⟨bw HB⟩⟩
            · rw [if_neg c11] at H
              exact absurd H (by simp)
          · rw [if_neg c10] at H
            have c10b0 : ((rd l0 1) == 73) = false := beq_eq_false_iff_ne.mpr c10
            have c10b1 : ((rd l0 1) != 73) = true := bne_iff_ne.mpr c10
            have H' := Aside0.mk H
            clear H
            have p480 : 0 ≤ (0 : Int) := (by omega)
            have q480 : 0 < (l0.length : Int) := of_decide_eq_true (by first | (with_reducible assumption) | assumption)
            obtain ⟨ad480, e480, hx480_0⟩ := Kd.at_int HR0.out 0 p480 q480
            cases e480
            have qi480 : (0 < l0.length) = True := eq_true (by omega)
            (try rw [show ((0 : Int)).toNat = 0 from rfl] at hx480_0)
            (try rw [Addr.add_zero'] at hx480_0)
            replace hx480_0 := (HB.out.cell (World.block_lt_of_cell? w _ hx480_0)).trans hx480_0; replace p480 := eq_true p480; replace q480 := eq_true q480
            have p481 : 0 ≤ (1 : Int) := (by omega)
            have q481 : 1 < (l0.length : Int) := of_decide_eq_true (by first | (with_reducible assumption) | assumption)
            obtain ⟨ad481, e481, hx481_0⟩ := Kd.at_int HR0.out 1 p481 q481
            obtain rfl : ad480 = ad481 := (by injection e481)
            (try simp only [show (1 : Int).toNat = 1 from rfl, Nat.reduceMul, Nat.reduceEqDiff, Go.Addr.add, ↓reduceIte] at hx481_0)
            have qi481 : (1 < l0.length) = True := eq_true (by omega)
            (try rw [show ((1 : Int)).toNat = 1 from rfl] at hx481_0)
            replace hx481_0 := (HB.out.cell (World.block_lt_of_cell? w _ hx481_0)).trans hx481_0; replace p481 := eq_true p481; replace q481 := eq_true q481
            go_wp2
            repeat (go_quiet (fail); try go_wp2)
            go_meet
            case rel => exact ⟨_, (true), rs, H', ⟨by first | omega | exact Nat.le_refl _⟩, ⟨bk BK479⟩, ⟨bw HB⟩⟩
        · rw [if_neg c9] at H
          exact absurd H (by simp)
      · rw [if_neg c8] at H
        have c8b0 : ((rd l0 0) == 84) = false := beq_eq_false_iff_ne.mpr c8
        have c8b1 : ((rd l0 0) != 84) = true := bne_iff_ne.mpr c8
        have H' := Aside0.mk H
        clear H
        have p480 : 0 ≤ (0 : Int) := (by omega)
        have q480 : 0 < (l0.length : Int) := of_decide_eq_true (by first | (with_reducible assumption) | assumption)
        obtain ⟨ad480, e480, hx480_0⟩ := Kd.at_int HR0.out 0 p480 q480
        cases e480
        have qi480 : (0 < l0.length) = True := eq_true (by omega)
        (try rw [show ((0 : Int)).toNat = 0 from rfl] at hx480_0)
        (try rw [Addr.add_zero'] at hx480_0)
        replace hx480_0 := (HB.out.cell (World.block_lt_of_cell? w _ hx480_0)).trans hx480_0; replace p480 := eq_true p480; replace q480 := eq_true q480
        go_wp2
        repeat (go_quiet (fail); try go_wp2)
        go_meet
        case rel => exact ⟨_, (true), rs, H', ⟨by first | omega | exact Nat.le_refl _⟩, ⟨bk BK479⟩, ⟨bw HB⟩⟩
    · rw [if_neg c7] at H
      exact absurd H (by simp)
   case rest => as_aux_lemma =>
    clear HC5
    obtain ⟨kq, x37_4, rfl, HA, HJ4, BK479, HB⟩ := hcut
    cases kq with
    | zero => exact absurd HA.out (by simp [turnstileref14_Decode.j0])
    | succ kj4 =>
     have H := HA.out; clear HA
     simp only [turnstileref14_Decode.j0] at H
     by_cases c14 : x37_4 = true
     · subst c14
       have H1 : (some (0, 0, ([] : List (S79)), 3)) = some (r1, r2, r3, r4) := by rw [if_pos rfl] at H; exact H
       clear H; have H := H1; clear H1
       simp only [Option.some.injEq, Prod.mk.injEq] at H
       obtain ⟨rfl, rfl, rfl, rfl⟩ := H
       obtain ⟨hcz15_0, hcz15_1, hcz15_2, hfz15_0, hfz15_1, hfz15_2⟩ := bc3 BK479
       go_wp2
       repeat (go_quiet (fail); try go_wp2)
       refine bodyPost_ret (results_ct rfl _ _ gb479 51 #[.int .u64 0, .int .u64 0, .slice none 0 0] (0, 0) _ rfl (bk BK479) Tryd.underlying51 rfl (by kernel_rfl)) rfl ?_
       exact ⟨_, re, by first | exact Kd.R_nil _ _ _ _ _ | exact Kd.N_nil _ _ _ _ _ | exact Kd.V_nil _ _ _ _ _ | exact Kd.Q_nil _ _ _ _ _ | exact Kd.S_nil _ _ _ _ _, bw HB⟩
     · replace c14 := Bool.eq_false_iff.mpr c14
       subst c14
       have H1 : (if 0 ≤ (wrap64 ((l0.length : Int) - 4)) then (if (wrap64 ((l0.length : Int) - 4)) ≤ (l0.length : Int) then ((turnstileref14_Decode.sm kj4 l0 (wrap64 ((l0.length : Int) - 4))).bind fun t485 => ((turnstileref02_Sum.f kj4 (l0.take ((wrap64 ((l0.length : Int) - 4)) : Int).toNat)).bind fun t487 => (if t485 = (IntKind.u64.wrap (t487)) then ((turnstileref11_Cut_Number.f kj4 (l0.take ((wrap64 ((l0.length : Int) - 4)) : Int).toNat) 4 false 8).bind fun bt494 => ((turnstileref11_Cut_Number.f kj4 (l0.take ((wrap64 ((l0.length : Int) - 4)) : Int).toNat) bt494.2.1 bt494.2.2 8).bind fun bt497 => ((turnstileref11_Cut_Number.f kj4 (l0.take ((wrap64 ((l0.length : Int) - 4)) : Int).toNat) bt497.2.1 bt497.2.2 4).bind fun bt500 => (if bt500.1 > 4096 then (some (0, 0, ([] : List (S79)), 3)) else (turnstileref14_Decode.l0 kj4 l0 bt500.1 0 (l0.take ((wrap64 ((l0.length : Int) - 4)) : Int).toNat) bt500.2.1 bt500.2.2 bt494.1 bt497.1 (([] : List (S79)))))))) else (some (0, 0, ([] : List (S79)), 5))))) else (none)) else (none)) = some (r1, r2, r3, r4) := by rw [if_neg (show ¬ (false = true) by decide)] at H; exact H
       clear H; have H := H1; clear H1
       obtain ⟨ji16, hji16⟩ : ∃ j_ : Int, (wrap64 ((l0.length : Int) - 4)) = j_ := ⟨_, rfl⟩
       replace H : (if 0 ≤ (ji16) then (if (ji16) ≤ (l0.length : Int) then ((turnstileref14_Decode.sm kj4 l0 (ji16)).bind fun t485 => ((turnstileref02_Sum.f kj4 (l0.take ((ji16) : Int).toNat)).bind fun t487 => (if t485 = (IntKind.u64.wrap (t487)) then ((turnstileref11_Cut_Number.f kj4 (l0.take ((ji16) : Int).toNat) 4 false 8).bind fun bt494 => ((turnstileref11_Cut_Number.f kj4 (l0.take ((ji16) : Int).toNat) bt494.2.1 bt494.2.2 8).bind fun bt497 => ((turnstileref11_Cut_Number.f kj4 (l0.take ((ji16) : Int).toNat) bt497.2.1 bt497.2.2 4).bind fun bt500 => (if bt500.1 > 4096 then (some (0, 0, ([] : List (S79)), 3)) else (turnstileref14_Decode.l0 kj4 l0 bt500.1 0 (l0.take ((ji16) : Int).toNat) bt500.2.1 bt500.2.2 bt494.1 bt497.1 (([] : List (S79)))))))) else (some (0, 0, ([] : List (S79)), 5))))) else (none)) else (none)) = some (r1, r2, r3, r4) := by first | (rw [hji16] at H; exact H) | (simp only [hji16] at H ⊢; exact H)
       have hji16w : (IntKind.i64.wrap ((l0.length : Int) - 4)) = ji16 := (i64_w _).trans hji16
       by_cases c17 : 0 ≤ (ji16)
       · rw [if_pos c17] at H
         have c17b0 := eq_true c17
         have c17b1 : decide (0 ≤ (ji16)) = true := decide_eq_true c17
         clear c17
         by_cases c18 : (ji16) ≤ (l0.length : Int)
         · rw [if_pos c18] at H
           have c18b0 := eq_true c18
           have c18b1 : decide ((ji16) ≤ (l0.length : Int)) = true := decide_eq_true c18
           clear c18; replace H := Option.bind_eq_some_iff.mp H
           obtain ⟨t485, A190, H⟩ := H
           replace H : ((turnstileref02_Sum.f kj4 (l0.take ((ji16) : Int).toNat)).bind fun t487 => (if t485 = (IntKind.u64.wrap (t487)) then ((turnstileref11_Cut_Number.f kj4 (l0.take ((ji16) : Int).toNat) 4 false 8).bind fun bt494 => ((turnstileref11_Cut_Number.f kj4 (l0.take ((ji16) : Int).toNat) bt494.2.1 bt494.2.2 8).bind fun bt497 => ((turnstileref11_Cut_Number.f kj4 (l0.take ((ji16) : Int).toNat) bt497.2.1 bt497.2.2 4).bind fun bt500 => (if bt500.1 > 4096 then (some (0, 0, ([] : List (S79)), 3)) else (turnstileref14_Decode.l0 kj4 l0 bt500.1 0 (l0.take ((ji16) : Int).toNat) bt500.2.1 bt500.2.2 bt494.1 bt497.1 (([] : List (S79)))))))) else (some (0, 0, ([] : List (S79)), 5)))) = some (r1, r2, r3, r4) := H
           have A19 := Aside0.mk A190; clear A190; have c20b0 := eq_true (of_decide_eq_true (by first | (with_reducible assumption) | assumption) : 0 ≤ (ji16)); have c21b0 := eq_true (of_decide_eq_true (by first | (with_reducible assumption) | assumption) : (ji16) ≤ (l0.length : Int)); replace H := Option.bind_eq_some_iff.mp H
           obtain ⟨t487, A220, H⟩ := H
           replace H : (if t485 = (IntKind.u64.wrap (t487)) then ((turnstileref11_Cut_Number.f kj4 (l0.take ((ji16) : Int).toNat) 4 false 8).bind fun bt494 => ((turnstileref11_Cut_Number.f kj4 (l0.take ((ji16) : Int).toNat) bt494.2.1 bt494.2.2 8).bind fun bt497 => ((turnstileref11_Cut_Number.f kj4 (l0.take ((ji16) : Int).toNat) bt497.2.1 bt497.2.2 4).bind fun bt500 => (if bt500.1 > 4096 then (some (0, 0, ([] : List (S79)), 3)) else (turnstileref14_Decode.l0 kj4 l0 bt500.1 0 (l0.take ((ji16) : Int).toNat) bt500.2.1 bt500.2.2 bt494.1 bt497.1 (([] : List (S79)))))))) else (some (0, 0, ([] : List (S79)), 5))) = some (r1, r2, r3, r4) := H
           have A22 := Aside0.mk A220; clear A220
           obtain ⟨⟨q1_, q2_, q3_⟩, hq_, he_⟩ := Option.bind_eq_some_iff.mp (show (turnstileref11_Cut_Number.f kj4 l0 ji16 false 4).bind (fun t => some t.1) = some t485 from A19.out)
           have he2_ : t485 = q1_ := (Option.some.inj he_).symm
           subst he2_
           have HNUM := Aside0.mk hq_; clear hq_ he_
           obtain ⟨i5_, hi5_, _, hs5_, _⟩ := info_parts info5
           obtain ⟨hcut6_, hA6_, hC6_⟩ := print_take_of (P := Tryd.prog) (Value.int .u8) 0 33 5 .i64 Tryd.underlying33 hi5_ hs5_ A0 c0 l0 ji16 (of_decide_eq_true c17b1) (of_decide_eq_true c18b1) HC0.out
           have HR488 := Aside0.mk (Kd.C_of_reads (h1 := fun _ => rfl) (hA6_ _ (Kd.reads_of_C HR0.out)))
           have HC488 := Aside0.mk hC6_; clear hA6_ hC6_ hi5_ hs5_; have HR486 := HR488; have HC486 := HC488
           have HTL_ : Aside0 ((l0.take ji16.toNat).length = ji16.toNat) := ⟨by have h1_ := of_decide_eq_true c17b1; have h2_ := of_decide_eq_true c18b1; rw [List.length_take]; omega⟩
           have H6_ := Aside0.mk H; clear H
           go_upto_region 6 with (first | ((with_reducible refine gate_dst (N := 44) rfl ?_); refine bx 44 #[.slice A0 l0.length c0, .int .i64 ji16, .bool false] 99 ?_; intro gl_ hgl_ wl_ hbl_ hwl_; have n0_ := bb BK479 hwl_; have n1_ := bs HB hwl_; have BL_ := Aside0.mk hbl_; have n2_ := sz HB hgl_; have n3_ := nr BK479 hgl_; clear BK479 HB; have BK479 := n0_; have HB := n1_; have GL_ := n2_; have NL_ := n3_; clear n0_ n1_ n2_ n3_ hbl_ hwl_ hgl_))
           have hl_ : IsS99 w wl_ gl_ l0 ji16 false := ⟨A0, c0, BL_.out, GL_.out, HR0.out, HC0.out⟩
           have n0_ := Aside0.mk (blk_drew BK479.out); have n1_ := Aside0.mk (below_drew1 HB.out); have HL_ := Aside0.mk hl_.drew; clear BK479 HB BL_ hl_; have BK479 := n0_; have HB := n1_; clear n0_ n1_
           refine start_ (n := 10) (S := fun _ => True) (ds := []) #[false, false, false, false, false, false, false, false, false, false] (by kernel_rfl) rfl rfl trivial (fun hHeld => ?_); refine with_tabW turnstileref14_Decode.tab6 turnstileref14_Decode.bits6 (fun HT_ HW_ => ?_)
           generalize wl_.drew = W5_ at BK479 HB HL_ hHeld ⊢
           refine chain_ (fuel := 4) [(0, 0, some 45), (2, 0, some 47), (3, 0, some 48), (4, 0, some 49), (5, 0, some 50), (6, 0, some 51)] #[true, false, true, true, true, true, true, false, false, false] HT_.out HW_.out (by kernel_rfl) (fun _ _ _ _ _ h => h) (Or.inl (by decide)) rfl ?_
           refine lkP ?_; refine lkP ?_; refine lkP ?_; refine lkP ?_; refine lkP ?_; refine lkP ?_; refine .nil ?_
           refine one_ (i := 1) (N := some 46) #[true, true, true, true, true, true, true, false, false, false] rfl rfl (one_of HT_.out (by kernel_rfl)) (by decide) (fun K hK => ?_)
           refine ge Tryd.func57 #[.pointer (some ⟨gl_, 0, none⟩), .int .i64 4] ?_
           refine (turnstileref11_Cut_Number.calls kj4 gl_ l0 ji16 false 4 t485 q2_ q3_ w _ HL_.out HB.out HNUM.out).mono ?_
           rintro e_ W8_ ⟨rfl, _, hb_, hk_⟩
           refine ⟨_, rfl, ?_⟩
           have n0_ := Aside0.mk (hk_.blk BK479.out NL_.out.symm (by simp)); clear BK479 HB HL_; have BK479 := n0_; have HB := Aside0.mk hb_; clear n0_ hb_ hk_
           refine hK.out _ _ trivial (fun hHeld => ?_)
           clear hK K
           refine norm_ (a' := ?_) ?_ ?_
           rotate_left
           · show Act.put _ (some 46) _ = _
             simp only [Act.put, List.setIfInBounds_toArray, List.set_cons_zero, List.set_cons_succ, i64_w, i32_w]
             rfl
           refine one_ (i := 7) (N := some 52) #[true, true, true, true, true, true, true, true, false, false] rfl rfl (one_of HT_.out (by kernel_rfl)) (by decide) (fun K hK => ?_)
           refine ge Tryd.func65 #[.slice A0 ji16.toNat c0] ?_
           refine (turnstileref14_Decode.sum_ kj4 _ _ ji16.toNat (l0.take ji16.toNat) t487 _ HTL_.out (Kd.C_below HR486.out HB.out) HC486.out A22.out).mono ?_
           rintro e_ W9_ ⟨rfl, ⟨nd_, rfl⟩⟩
           refine ⟨_, rfl, ?_⟩
           have n0_ := Aside0.mk (blk_drewN BK479.out nd_); have n1_ := Aside0.mk (pw_below_drewN HB.out nd_); clear BK479 HB; have BK479 := n0_; have HB := n1_; clear n0_ n1_
           refine hK.out _ _ trivial (fun hHeld => ?_)
           clear hK K
           generalize W8_.drewN nd_ = W10_ at BK479 HB hHeld ⊢
           refine norm_ (a' := ?_) ?_ ?_
           rotate_left
           · show Act.put _ (some 52) _ = _
             simp only [Act.put, List.setIfInBounds_toArray, List.set_cons_zero, List.set_cons_succ, i64_w, i32_w]
             rfl
           refine chain_ (fuel := 0) [(8, 0, some 53), (9, 0, some 54)] #[true, true, true, true, true, true, true, true, true, true] HT_.out HW_.out (by kernel_rfl) (fun _ _ _ _ _ h => h) (Or.inl (by decide)) rfl ?_
           refine lkP ?_; refine lkP ?_; refine .nil ?_
           refine done_ (done_of HT_.out (by kernel_rfl)) ?_
           clear HT_ HW_ hHeld hcut6_; have H := H6_.out; clear H6_
           have HCUT6 : Aside0 True := ⟨trivial⟩
           by_cases c23 : t485 = (IntKind.u64.wrap (t487))
           · rw [if_pos c23] at H
             have c23b0 : (t485 == (IntKind.u64.wrap (t487))) = true := beq_iff_eq.mpr c23
             have c23b1 : (t485 != (IntKind.u64.wrap (t487))) = false := bne_eq_false_iff_eq.mpr c23
             clear c23; have c24b0 := eq_true (of_decide_eq_true (by first | (with_reducible assumption) | assumption) : 0 ≤ (ji16)); have c25b0 := eq_true (of_decide_eq_true (by first | (with_reducible assumption) | assumption) : (ji16) ≤ (l0.length : Int))
             obtain ⟨y490, hy490⟩ : ∃ y_ : List (S79), y_ = (([] : List (S79))) := ⟨_, rfl⟩
             replace H : ((turnstileref11_Cut_Number.f kj4 (l0.take ((ji16) : Int).toNat) 4 false 8).bind fun bt494 => ((turnstileref11_Cut_Number.f kj4 (l0.take ((ji16) : Int).toNat) bt494.2.1 bt494.2.2 8).bind fun bt497 => ((turnstileref11_Cut_Number.f kj4 (l0.take ((ji16) : Int).toNat) bt497.2.1 bt497.2.2 4).bind fun bt500 => (if bt500.1 > 4096 then (some (0, 0, ([] : List (S79)), 3)) else (turnstileref14_Decode.l0 kj4 l0 bt500.1 0 (l0.take ((ji16) : Int).toNat) bt500.2.1 bt500.2.2 bt494.1 bt497.1 y490))))) = some (r1, r2, r3, r4) := by first | (rw [hy490]; with_reducible exact H) | (have H2_ := (Option.bind_some _ _).symm.trans H; rw [hy490]; with_reducible exact H2_) | (have H2_ := (Option.bind_some _ _).symm.trans H; with_reducible exact H2_) | with_reducible exact H | (rw [hy490]; exact H) | exact H
             have Ny490 := Aside0.mk hy490; clear hy490; replace H := Option.bind_eq_some_iff.mp H
             obtain ⟨⟨t494, t495, t496⟩, A260, H⟩ := H
             replace H : ((turnstileref11_Cut_Number.f kj4 (l0.take ((ji16) : Int).toNat) t495 t496 8).bind fun bt497 => ((turnstileref11_Cut_Number.f kj4 (l0.take ((ji16) : Int).toNat) bt497.2.1 bt497.2.2 4).bind fun bt500 => (if bt500.1 > 4096 then (some (0, 0, ([] : List (S79)), 3)) else (turnstileref14_Decode.l0 kj4 l0 bt500.1 0 (l0.take ((ji16) : Int).toNat) bt500.2.1 bt500.2.2 t494 bt497.1 y490)))) = some (r1, r2, r3, r4) := H
             have A26 := Aside0.mk A260; clear A260; replace H := Option.bind_eq_some_iff.mp H
             obtain ⟨⟨t497, t498, t499⟩, A270, H⟩ := H
             replace H : ((turnstileref11_Cut_Number.f kj4 (l0.take ((ji16) : Int).toNat) t498 t499 4).bind fun bt500 => (if bt500.1 > 4096 then (some (0, 0, ([] : List (S79)), 3)) else (turnstileref14_Decode.l0 kj4 l0 bt500.1 0 (l0.take ((ji16) : Int).toNat) bt500.2.1 bt500.2.2 t494 t497 y490))) = some (r1, r2, r3, r4) := H
             have A27 := Aside0.mk A270; clear A270; replace H := Option.bind_eq_some_iff.mp H
             obtain ⟨⟨t500, t501, t502⟩, A280, H⟩ := H
             replace H : (if t500 > 4096 then (some (0, 0, ([] : List (S79)), 3)) else (turnstileref14_Decode.l0 kj4 l0 t500 0 (l0.take ((ji16) : Int).toNat) t501 t502 t494 t497 y490)) = some (r1, r2, r3, r4) := H
             have A28 := Aside0.mk A280; clear A280
             by_cases c29 : t500 > 4096
             · rw [if_pos c29] at H
               have c29b0 : decide (4096 < t500) = true := decide_eq_true c29
               clear c29
               simp only [Option.some.injEq, Prod.mk.injEq] at H
               obtain ⟨rfl, rfl, rfl, rfl⟩ := H
               obtain ⟨i030, hi030, _, hsz30, _⟩ := info_parts info5
               obtain ⟨A30, hcut30, hA30, hC30⟩ := print_drop_of (P := Tryd.prog) (Value.int .u8) 0 33 5 .i64 Tryd.underlying33 hi030 hsz30 A0 c0 l0 (ji16) (of_decide_eq_true (by first | (with_reducible assumption) | assumption)) (of_decide_eq_true (by first | (with_reducible assumption) | assumption)) HC0.out
               have HR484 := Aside0.mk (Kd.C_of_reads (h1 := fun _ => rfl) (hA30 _ (Kd.reads_of_C HR0.out)))
               have HC484 := Aside0.mk hC30; clear hA30 hC30 hi030 hsz30
               obtain ⟨i032, hi032, _, hsz32, _⟩ := info_parts info5
               obtain ⟨hcut32, hA32, hC32⟩ := print_take_of (P := Tryd.prog) (Value.int .u8) 0 33 5 .i64 Tryd.underlying33 hi032 hsz32 A0 c0 l0 (ji16) (of_decide_eq_true (by first | (with_reducible assumption) | assumption)) (of_decide_eq_true (by first | (with_reducible assumption) | assumption)) HC0.out
               have HR488 := Aside0.mk (Kd.C_of_reads (h1 := fun _ => rfl) (hA32 _ (Kd.reads_of_C HR0.out)))
               have HC488 := Aside0.mk hC32; clear hA32 hC32 hi032 hsz32
               (first | rw [c23b1] | skip)
               go_wp2_with (first | ((with_reducible refine gate_dst (N := 62) rfl ?_); refine bx 62 #[.slice A0 (l0.take ((ji16) : Int).toNat).length c0, .int .i64 4, .bool false] 99 ?_; intro gb489 hg w33 hbox hb; have BK489 := Aside0.mk (hbox); have GW489 := sz HB hg; have GE489 := sz HB hg; have NB479_489 := nl BK479 hg; have NB489_479 := nr BK479 hg; replace BK479 := bb BK479 hb; replace HB := bs HB hb; clear hb hbox hg) | ((with_reducible refine gate_dst (N := 63) rfl ?_); refine Kd.R_lit k79 _ 79 ?hg (N := 63) ?hd (xs := ([] : List (S79))) (inner := []) (ok := fun _ => True) (okp := fun _ => True) ?hr ?hp (fun _ hk => hk) trivial (Below.refl _ _) (Nat.le_refl _) (by simp) ?_; (case hd => rfl); (case hg => rfl); (case hr => first | (go_simp; done) | (go_simp; rfl)); (case hp => exact (Reps.none _ _)); intro v491 w34 ho35 hb hg_ hnew_; clear hg_ hnew_; (first | rw [← Ny490.out] at ho35 | (simp only [Int.reduceToNat] at ho35; rw [← Ny490.out] at ho35)); have HO492 := Aside0.mk (Kd.R_lower ho35 (below_size (bw HB))); replace BK479 := bb BK479 hb; replace BK489 := bb BK489 hb; replace HB := bs HB hb; clear hb ho35; obtain ⟨Ao36, co36, eo36⟩ := Kd.R_slice HO492.out; subst eo36) | ((with_reducible refine gate_dst (N := 6) rfl ?_); refine bx 6 #[.int .u64 0, .int .u64 0, .slice none 0 0] 51 ?_; intro gb493 hg w37 hbox hb; have BK493 := Aside0.mk (hbox); have GW493 := sz HB hg; have GE493 := sz HB hg; have NB479_493 := nl BK479 hg; have NB493_479 := nr BK479 hg; have NB489_493 := nl BK489 hg; have NB493_489 := nr BK489 hg; replace HO492 := Aside0.mk (Kd.R_below (ro HO492) hb); replace BK479 := bb BK479 hb; replace BK489 := bb BK489 hb; replace HB := bs HB hb; clear hb hbox hg; have hnb38 := NB493_479.out; have hnc38 := NB479_493.out; have hnb39 := NB493_489.out; have hnc39 := NB489_493.out; obtain ⟨hcz40_0, hcz40_1, hcz40_2, hfz40_0, hfz40_1, hfz40_2⟩ := bc3 BK493) | (go_at_call 57; (with_reducible refine (turnstileref11_Cut_Number.calls kj4 gb489 (l0.take ((ji16) : Int).toNat) 4 false 8 t494 t495 t496 w _ ?side1 ?side2 A26.out).mono ?_); (case side1 => exact ⟨_, _, by (with_reducible repeat (first | refine blk_drewN ?_ _ | refine blk_drew ?_ | refine blk_alloc ?_ _)); refine blk_far ?_ NB489_493.out _; (with_reducible repeat (first | refine blk_drewN ?_ _ | refine blk_drew ?_ | refine blk_alloc ?_ _)); refine blk_far ?_ NB489_493.out _; (with_reducible repeat (first | refine blk_drewN ?_ _ | refine blk_drew ?_ | refine blk_alloc ?_ _)); refine blk_far ?_ NB489_493.out _; (with_reducible repeat (first | refine blk_drewN ?_ _ | refine blk_drew ?_ | refine blk_alloc ?_ _)); exact BK489.out, GE489.out, ⟨HR488.out, HC488.out⟩⟩); (case side2 => repeat (first | (with_reducible first | exact HB.out | apply below_alloc | apply pw_below_drewN | apply below_drew1 | refine below_set ?_ (IsS99.ge HI489.out) | refine below_set ?_ GE479.out | refine below_set ?_ GE493.out) | exact HB.out)); rintro e w41 ⟨rfl, hi, hb, hk⟩; have n0_ := Aside0.mk (KeepBut.blk hk (g' := gb479) (o := .cells #[.int .u64 0, .int .u64 0, .slice none 0 0] 51 (0, 0)) (bk BK479) NB479_489.out (by simp)); have n1_ := Aside0.mk (Kd.R_mono (Kd.R_keep (IsS99.apart (show IsS99 w _ gb489 (l0.take ((ji16) : Int).toNat) 4 false from by repeat (first | (with_reducible first | exact ⟨A0, c0, BK489.out, GE489.out, HR488.out, HC488.out⟩ | apply IsS99.alloc | apply IsS99.drewN | apply IsS99.drew | apply IsS99.set_1 | apply IsS99.set_2 | refine IsS99.far ?_ NB489_479.out _ | refine IsS99.far ?_ NB489_493.out _) | exact ⟨A0, c0, BK489.out, GE489.out, HR488.out, HC488.out⟩)) (by (with_reducible repeat (first | apply Kd.R_alloc | apply Kd.R_drewN | apply Kd.R_drew)); exact (Kd.R_mono (Kd.R_far (p := ⟨gb493, 2, none⟩) (Kd.R_far (p := ⟨gb493, 1, none⟩) (Kd.R_far (p := ⟨gb493, 0, none⟩) (Kd.R_types HO492.out BK493.out (by decide)) (fun _ hk => hk.2) (.int .u64 0)) (fun _ hk => hk.2) (.int .u64 0)) (fun _ hk => hk.2) (.slice Ao36 y490.length co36)) (fun _ h_ => h_.1))) (by decide)) hk (fun _ h => h.2)) (fun _ h => h.1)); have n2_ := Aside0.mk (KeepBut.blk hk (g' := gb493) (o := .cells #[.int .u64 0, .int .u64 0, .slice Ao36 y490.length co36] 51 (0, 0)) (bk BK493) NB493_489.out (by simp)); have n3_ := Aside0.mk (hb); have n4_ := Aside0.mk (hi); clear BK479; clear HO492; clear BK493; clear HB; have BK479 := n0_; have HO492 := n1_; have BK493 := n2_; have HB := n3_; have HI489 := n4_; clear n0_ n1_ n2_ n3_ n4_; obtain ⟨hcz42_0, hcz42_1, hcz42_2, hfz42_0, hfz42_1, hfz42_2⟩ := bc3 BK493) | (go_at_call 57; (with_reducible refine (turnstileref11_Cut_Number.calls kj4 gb489 (l0.take ((ji16) : Int).toNat) t495 t496 8 t497 t498 t499 w _ ?side1 ?side2 A27.out).mono ?_); (case side1 => repeat (first | (with_reducible first | exact HI489.out | apply IsS99.alloc | apply IsS99.drewN | apply IsS99.drew | apply IsS99.set_1 | apply IsS99.set_2 | refine IsS99.far ?_ NB489_479.out _ | refine IsS99.far ?_ NB489_493.out _) | exact HI489.out)); (case side2 => repeat (first | (with_reducible first | exact HB.out | apply below_alloc | apply pw_below_drewN | apply below_drew1 | refine below_set ?_ (IsS99.ge HI489.out) | refine below_set ?_ GE479.out | refine below_set ?_ GE493.out) | exact HB.out)); rintro e w43 ⟨rfl, hi, hb, hk⟩; have n0_ := Aside0.mk (KeepBut.blk hk (g' := gb479) (o := .cells #[.int .u64 0, .int .u64 0, .slice none 0 0] 51 (0, 0)) (bk BK479) NB479_489.out (by simp)); have n1_ := Aside0.mk (Kd.R_mono (Kd.R_keep (IsS99.apart (show IsS99 w _ gb489 (l0.take ((ji16) : Int).toNat) t495 t496 from by repeat (first | (with_reducible first | exact HI489.out | apply IsS99.alloc | apply IsS99.drewN | apply IsS99.drew | apply IsS99.set_1 | apply IsS99.set_2 | refine IsS99.far ?_ NB489_479.out _ | refine IsS99.far ?_ NB489_493.out _) | exact HI489.out)) (by (with_reducible repeat (first | apply Kd.R_alloc | apply Kd.R_drewN | apply Kd.R_drew)); exact (Kd.R_mono (Kd.R_far (p := ⟨gb493, 0, none⟩) (Kd.R_types HO492.out BK493.out (by decide)) (fun _ hk => hk.2) (.int .u64 t494)) (fun _ h_ => h_.1))) (by decide)) hk (fun _ h => h.2)) (fun _ h => h.1)); have n2_ := Aside0.mk (KeepBut.blk hk (g' := gb493) (o := .cells #[.int .u64 t494, .int .u64 0, .slice Ao36 y490.length co36] 51 (0, 0)) (bk BK493) NB493_489.out (by simp)); have n3_ := Aside0.mk (hb); have n4_ := Aside0.mk (hi); clear BK479; clear HO492; clear BK493; clear HB; clear HI489; have BK479 := n0_; have HO492 := n1_; have BK493 := n2_; have HB := n3_; have HI489 := n4_; clear n0_ n1_ n2_ n3_ n4_; obtain ⟨hcz44_0, hcz44_1, hcz44_2, hfz44_0, hfz44_1, hfz44_2⟩ := bc3 BK493) | (go_at_call 57; (with_reducible refine (turnstileref11_Cut_Number.calls kj4 gb489 (l0.take ((ji16) : Int).toNat) t498 t499 4 t500 t501 t502 w _ ?side1 ?side2 A28.out).mono ?_); (case side1 => repeat (first | (with_reducible first | exact HI489.out | apply IsS99.alloc | apply IsS99.drewN | apply IsS99.drew | apply IsS99.set_1 | apply IsS99.set_2 | refine IsS99.far ?_ NB489_479.out _ | refine IsS99.far ?_ NB489_493.out _) | exact HI489.out)); (case side2 => repeat (first | (with_reducible first | exact HB.out | apply below_alloc | apply pw_below_drewN | apply below_drew1 | refine below_set ?_ (IsS99.ge HI489.out) | refine below_set ?_ GE479.out | refine below_set ?_ GE493.out) | exact HB.out)); rintro e w45 ⟨rfl, hi, hb, hk⟩; have n0_ := Aside0.mk (KeepBut.blk hk (g' := gb479) (o := .cells #[.int .u64 0, .int .u64 0, .slice none 0 0] 51 (0, 0)) (bk BK479) NB479_489.out (by simp)); have n1_ := Aside0.mk (Kd.R_mono (Kd.R_keep (IsS99.apart (show IsS99 w _ gb489 (l0.take ((ji16) : Int).toNat) t498 t499 from by repeat (first | (with_reducible first | exact HI489.out | apply IsS99.alloc | apply IsS99.drewN | apply IsS99.drew | apply IsS99.set_1 | apply IsS99.set_2 | refine IsS99.far ?_ NB489_479.out _ | refine IsS99.far ?_ NB489_493.out _) | exact HI489.out)) (by (with_reducible repeat (first | apply Kd.R_alloc | apply Kd.R_drewN | apply Kd.R_drew)); exact (Kd.R_mono (Kd.R_far (p := ⟨gb493, 1, none⟩) (Kd.R_types HO492.out BK493.out (by decide)) (fun _ hk => hk.2) (.int .u64 t497)) (fun _ h_ => h_.1))) (by decide)) hk (fun _ h => h.2)) (fun _ h => h.1)); have n2_ := Aside0.mk (KeepBut.blk hk (g' := gb493) (o := .cells #[.int .u64 t494, .int .u64 t497, .slice Ao36 y490.length co36] 51 (0, 0)) (bk BK493) NB493_489.out (by simp)); have n3_ := Aside0.mk (hb); have n4_ := Aside0.mk (hi); clear BK479; clear HO492; clear BK493; clear HB; clear HI489; have BK479 := n0_; have HO492 := n1_; have BK493 := n2_; have HB := n3_; have HI489 := n4_; clear n0_ n1_ n2_ n3_ n4_; have hnb46 := NB479_489.out; have hnc46 := NB489_479.out; obtain ⟨hcz47_0, hcz47_1, hcz47_2, hfz47_0, hfz47_1, hfz47_2⟩ := bc3 BK479))
               refine bodyPost_ret (results_ct rfl _ _ gb479 51 #[.int .u64 0, .int .u64 0, .slice none 0 0] (0, 0) _ rfl (bk BK479) Tryd.underlying51 rfl (by kernel_rfl)) rfl ?_
               exact ⟨_, by first | rfl | (simp [errW_none, errW_some] <;> rfl) | (simp only [← hji16]; first | rfl | (simp [errW_none, errW_some] <;> rfl)) | (simp [*, errW_none, errW_some] <;> rfl), by first | exact Kd.R_nil _ _ _ _ _ | exact Kd.N_nil _ _ _ _ _ | exact Kd.V_nil _ _ _ _ _ | exact Kd.Q_nil _ _ _ _ _ | exact Kd.S_nil _ _ _ _ _, by repeat (first | (with_reducible first | exact HB.out | apply below_alloc | apply pw_below_drewN | apply below_drew1 | refine below_set ?_ (IsS99.ge HI489.out) | refine below_set ?_ GE479.out | refine below_set ?_ GE493.out) | exact HB.out)⟩
             · rw [if_neg c29] at H
               have c29b0 : decide (4096 < t500) = false := decide_eq_false c29
               clear c29
               have H' := Aside0.mk H
               clear H
               obtain ⟨i048, hi048, _, hsz48, _⟩ := info_parts info5
               obtain ⟨A48, hcut48, hA48, hC48⟩ := print_drop_of (P := Tryd.prog) (Value.int .u8) 0 33 5 .i64 Tryd.underlying33 hi048 hsz48 A0 c0 l0 (ji16) (of_decide_eq_true (by first | (with_reducible assumption) | assumption)) (of_decide_eq_true (by first | (with_reducible assumption) | assumption)) HC0.out
               have HR484 := Aside0.mk (Kd.C_of_reads (h1 := fun _ => rfl) (hA48 _ (Kd.reads_of_C HR0.out)))
               have HC484 := Aside0.mk hC48; clear hA48 hC48 hi048 hsz48
               obtain ⟨i050, hi050, _, hsz50, _⟩ := info_parts info5
               obtain ⟨hcut50, hA50, hC50⟩ := print_take_of (P := Tryd.prog) (Value.int .u8) 0 33 5 .i64 Tryd.underlying33 hi050 hsz50 A0 c0 l0 (ji16) (of_decide_eq_true (by first | (with_reducible assumption) | assumption)) (of_decide_eq_true (by first | (with_reducible assumption) | assumption)) HC0.out
               have HR488 := Aside0.mk (Kd.C_of_reads (h1 := fun _ => rfl) (hA50 _ (Kd.reads_of_C HR0.out)))
               have HC488 := Aside0.mk hC50; clear hA50 hC50 hi050 hsz50
               (first | rw [c23b1] | skip)
               go_wp2_with (first | ((with_reducible refine gate_dst (N := 62) rfl ?_); refine bx 62 #[.slice A0 (l0.take ((ji16) : Int).toNat).length c0, .int .i64 4, .bool false] 99 ?_; intro gb489 hg w51 hbox hb; have BK489 := Aside0.mk (hbox); have GW489 := sz HB hg; have GE489 := sz HB hg; have NB479_489 := nl BK479 hg; have NB489_479 := nr BK479 hg; replace BK479 := bb BK479 hb; replace HB := bs HB hb; clear hb hbox hg) | ((with_reducible refine gate_dst (N := 63) rfl ?_); refine Kd.R_lit k79 _ 79 ?hg (N := 63) ?hd (xs := ([] : List (S79))) (inner := []) (ok := fun _ => True) (okp := fun _ => True) ?hr ?hp (fun _ hk => hk) trivial (Below.refl _ _) (Nat.le_refl _) (by simp) ?_; (case hd => rfl); (case hg => rfl); (case hr => first | (go_simp; done) | (go_simp; rfl)); (case hp => exact (Reps.none _ _)); intro v491 w52 ho53 hb hg_ hnew_; clear hg_ hnew_; (first | rw [← Ny490.out] at ho53 | (simp only [Int.reduceToNat] at ho53; rw [← Ny490.out] at ho53)); have HO492 := Aside0.mk (Kd.R_lower ho53 (below_size (bw HB))); replace BK479 := bb BK479 hb; replace BK489 := bb BK489 hb; replace HB := bs HB hb; clear hb ho53; obtain ⟨Ao54, co54, eo54⟩ := Kd.R_slice HO492.out; subst eo54) | ((with_reducible refine gate_dst (N := 6) rfl ?_); refine bx 6 #[.int .u64 0, .int .u64 0, .slice none 0 0] 51 ?_; intro gb493 hg w55 hbox hb; have BK493 := Aside0.mk (hbox); have GW493 := sz HB hg; have GE493 := sz HB hg; have NB479_493 := nl BK479 hg; have NB493_479 := nr BK479 hg; have NB489_493 := nl BK489 hg; have NB493_489 := nr BK489 hg; replace HO492 := Aside0.mk (Kd.R_below (ro HO492) hb); replace BK479 := bb BK479 hb; replace BK489 := bb BK489 hb; replace HB := bs HB hb; clear hb hbox hg; have hnb56 := NB493_479.out; have hnc56 := NB479_493.out; have hnb57 := NB493_489.out; have hnc57 := NB489_493.out; obtain ⟨hcz58_0, hcz58_1, hcz58_2, hfz58_0, hfz58_1, hfz58_2⟩ := bc3 BK493) | (go_at_call 57; (with_reducible refine (turnstileref11_Cut_Number.calls kj4 gb489 (l0.take ((ji16) : Int).toNat) 4 false 8 t494 t495 t496 w _ ?side1 ?side2 A26.out).mono ?_); (case side1 => exact ⟨_, _, by (with_reducible repeat (first | refine blk_drewN ?_ _ | refine blk_drew ?_ | refine blk_alloc ?_ _)); refine blk_far ?_ NB489_493.out _; (with_reducible repeat (first | refine blk_drewN ?_ _ | refine blk_drew ?_ | refine blk_alloc ?_ _)); refine blk_far ?_ NB489_493.out _; (with_reducible repeat (first | refine blk_drewN ?_ _ | refine blk_drew ?_ | refine blk_alloc ?_ _)); refine blk_far ?_ NB489_493.out _; (with_reducible repeat (first | refine blk_drewN ?_ _ | refine blk_drew ?_ | refine blk_alloc ?_ _)); exact BK489.out, GE489.out, ⟨HR488.out, HC488.out⟩⟩); (case side2 => repeat (first | (with_reducible first | exact HB.out | apply below_alloc | apply pw_below_drewN | apply below_drew1 | refine below_set ?_ (IsS99.ge HI489.out) | refine below_set ?_ GE479.out | refine below_set ?_ GE493.out) | exact HB.out)); rintro e w59 ⟨rfl, hi, hb, hk⟩; have n0_ := Aside0.mk (KeepBut.blk hk (g' := gb479) (o := .cells #[.int .u64 0, .int .u64 0, .slice none 0 0] 51 (0, 0)) (bk BK479) NB479_489.out (by simp)); have n1_ := Aside0.mk (Kd.R_mono (Kd.R_keep (IsS99.apart (show IsS99 w _ gb489 (l0.take ((ji16) : Int).toNat) 4 false from by repeat (first | (with_reducible first | exact ⟨A0, c0, BK489.out, GE489.out, HR488.out, HC488.out⟩ | apply IsS99.alloc | apply IsS99.drewN | apply IsS99.drew | apply IsS99.set_1 | apply IsS99.set_2 | refine IsS99.far ?_ NB489_479.out _ | refine IsS99.far ?_ NB489_493.out _) | exact ⟨A0, c0, BK489.out, GE489.out, HR488.out, HC488.out⟩)) (by (with_reducible repeat (first | apply Kd.R_alloc | apply Kd.R_drewN | apply Kd.R_drew)); exact (Kd.R_mono (Kd.R_far (p := ⟨gb493, 2, none⟩) (Kd.R_far (p := ⟨gb493, 1, none⟩) (Kd.R_far (p := ⟨gb493, 0, none⟩) (Kd.R_types HO492.out BK493.out (by decide)) (fun _ hk => hk.2) (.int .u64 0)) (fun _ hk => hk.2) (.int .u64 0)) (fun _ hk => hk.2) (.slice Ao54 y490.length co54)) (fun _ h_ => h_.1))) (by decide)) hk (fun _ h => h.2)) (fun _ h => h.1)); have n2_ := Aside0.mk (KeepBut.blk hk (g' := gb493) (o := .cells #[.int .u64 0, .int .u64 0, .slice Ao54 y490.length co54] 51 (0, 0)) (bk BK493) NB493_489.out (by simp)); have n3_ := Aside0.mk (hb); have n4_ := Aside0.mk (hi); clear BK479; clear HO492; clear BK493; clear HB; have BK479 := n0_; have HO492 := n1_; have BK493 := n2_; have HB := n3_; have HI489 := n4_; clear n0_ n1_ n2_ n3_ n4_; obtain ⟨hcz60_0, hcz60_1, hcz60_2, hfz60_0, hfz60_1, hfz60_2⟩ := bc3 BK493) | (go_at_call 57; (with_reducible refine (turnstileref11_Cut_Number.calls kj4 gb489 (l0.take ((ji16) : Int).toNat) t495 t496 8 t497 t498 t499 w _ ?side1 ?side2 A27.out).mono ?_); (case side1 => repeat (first | (with_reducible first | exact HI489.out | apply IsS99.alloc | apply IsS99.drewN | apply IsS99.drew | apply IsS99.set_1 | apply IsS99.set_2 | refine IsS99.far ?_ NB489_479.out _ | refine IsS99.far ?_ NB489_493.out _) | exact HI489.out)); (case side2 => repeat (first | (with_reducible first | exact HB.out | apply below_alloc | apply pw_below_drewN | apply below_drew1 | refine below_set ?_ (IsS99.ge HI489.out) | refine below_set ?_ GE479.out | refine below_set ?_ GE493.out) | exact HB.out)); rintro e w61 ⟨rfl, hi, hb, hk⟩; have n0_ := Aside0.mk (KeepBut.blk hk (g' := gb479) (o := .cells #[.int .u64 0, .int .u64 0, .slice none 0 0] 51 (0, 0)) (bk BK479) NB479_489.out (by simp)); have n1_ := Aside0.mk (Kd.R_mono (Kd.R_keep (IsS99.apart (show IsS99 w _ gb489 (l0.take ((ji16) : Int).toNat) t495 t496 from by repeat (first | (with_reducible first | exact HI489.out | apply IsS99.alloc | apply IsS99.drewN | apply IsS99.drew | apply IsS99.set_1 | apply IsS99.set_2 | refine IsS99.far ?_ NB489_479.out _ | refine IsS99.far ?_ NB489_493.out _) | exact HI489.out)) (by (with_reducible repeat (first | apply Kd.R_alloc | apply Kd.R_drewN | apply Kd.R_drew)); exact (Kd.R_mono (Kd.R_far (p := ⟨gb493, 0, none⟩) (Kd.R_types HO492.out BK493.out (by decide)) (fun _ hk => hk.2) (.int .u64 t494)) (fun _ h_ => h_.1))) (by decide)) hk (fun _ h => h.2)) (fun _ h => h.1)); have n2_ := Aside0.mk (KeepBut.blk hk (g' := gb493) (o := .cells #[.int .u64 t494, .int .u64 0, .slice Ao54 y490.length co54] 51 (0, 0)) (bk BK493) NB493_489.out (by simp)); have n3_ := Aside0.mk (hb); have n4_ := Aside0.mk (hi); clear BK479; clear HO492; clear BK493; clear HB; clear HI489; have BK479 := n0_; have HO492 := n1_; have BK493 := n2_; have HB := n3_; have HI489 := n4_; clear n0_ n1_ n2_ n3_ n4_; obtain ⟨hcz62_0, hcz62_1, hcz62_2, hfz62_0, hfz62_1, hfz62_2⟩ := bc3 BK493) | (go_at_call 57; (with_reducible refine (turnstileref11_Cut_Number.calls kj4 gb489 (l0.take ((ji16) : Int).toNat) t498 t499 4 t500 t501 t502 w _ ?side1 ?side2 A28.out).mono ?_); (case side1 => repeat (first | (with_reducible first | exact HI489.out | apply IsS99.alloc | apply IsS99.drewN | apply IsS99.drew | apply IsS99.set_1 | apply IsS99.set_2 | refine IsS99.far ?_ NB489_479.out _ | refine IsS99.far ?_ NB489_493.out _) | exact HI489.out)); (case side2 => repeat (first | (with_reducible first | exact HB.out | apply below_alloc | apply pw_below_drewN | apply below_drew1 | refine below_set ?_ (IsS99.ge HI489.out) | refine below_set ?_ GE479.out | refine below_set ?_ GE493.out) | exact HB.out)); rintro e w63 ⟨rfl, hi, hb, hk⟩; have n0_ := Aside0.mk (KeepBut.blk hk (g' := gb479) (o := .cells #[.int .u64 0, .int .u64 0, .slice none 0 0] 51 (0, 0)) (bk BK479) NB479_489.out (by simp)); have n1_ := Aside0.mk (Kd.R_mono (Kd.R_keep (IsS99.apart (show IsS99 w _ gb489 (l0.take ((ji16) : Int).toNat) t498 t499 from by repeat (first | (with_reducible first | exact HI489.out | apply IsS99.alloc | apply IsS99.drewN | apply IsS99.drew | apply IsS99.set_1 | apply IsS99.set_2 | refine IsS99.far ?_ NB489_479.out _ | refine IsS99.far ?_ NB489_493.out _) | exact HI489.out)) (by (with_reducible repeat (first | apply Kd.R_alloc | apply Kd.R_drewN | apply Kd.R_drew)); exact (Kd.R_mono (Kd.R_far (p := ⟨gb493, 1, none⟩) (Kd.R_types HO492.out BK493.out (by decide)) (fun _ hk => hk.2) (.int .u64 t497)) (fun _ h_ => h_.1))) (by decide)) hk (fun _ h => h.2)) (fun _ h => h.1)); have n2_ := Aside0.mk (KeepBut.blk hk (g' := gb493) (o := .cells #[.int .u64 t494, .int .u64 t497, .slice Ao54 y490.length co54] 51 (0, 0)) (bk BK493) NB493_489.out (by simp)); have n3_ := Aside0.mk (hb); have n4_ := Aside0.mk (hi); clear BK479; clear HO492; clear BK493; clear HB; clear HI489; have BK479 := n0_; have HO492 := n1_; have BK493 := n2_; have HB := n3_; have HI489 := n4_; clear n0_ n1_ n2_ n3_ n4_))
               go_loopg [8] kj4 (fun kq v8 w' => ∃ (x8_2 : Int) (x480000_2 : Int) (x480001_2 : Int) (x490001_2 : Int) (x490002_2 : Bool) (x494002_2 : List (S79)) (u494002 : Value), v8 = .int .u64 x8_2 ∧ Aside0 (turnstileref14_Decode.l0 kq l0 t500 x8_2 (l0.take ((ji16) : Int).toNat) x490001_2 x490002_2 t494 t497 x494002_2 = some (r1, r2, r3, r4)) ∧ Aside0 (kq ≤ kj4) ∧ Aside0 (Kd.R k79 79 w' w.heap.size (fun _ => True) u494002 x494002_2) ∧ Aside0 (w'.heap[gb479]? = some (.cells #[.int .u64 x480000_2, .int .u64 x480001_2, (.slice none 0 0)] 51 (0, 0))) ∧ Aside0 (w'.heap[gb493]? = some (.cells #[.int .u64 t494, .int .u64 t497, u494002] 51 (0, 0))) ∧ Aside0 (IsS99 w w' gb489 (l0.take ((ji16) : Int).toNat) x490001_2 x490002_2) ∧ Aside0 (Below w.heap.size w w'))
               case atStart => exact ⟨(0), (0), (0), (t501), (t502), (y490), (.slice Ao54 y490.length co54), rs, H', ⟨Nat.le_refl _⟩, ⟨ro HO492⟩, ⟨bk BK479⟩, ⟨bk BK493⟩, ⟨by repeat (first | (with_reducible first | exact HI489.out | apply IsS99.alloc | apply IsS99.drewN | apply IsS99.drew | apply IsS99.set_1 | apply IsS99.set_2 | refine IsS99.far ?_ NB489_479.out _ | refine IsS99.far ?_ NB489_493.out _) | exact HI489.out)⟩, ⟨by repeat (first | (with_reducible first | exact HB.out | apply below_alloc | apply pw_below_drewN | apply below_drew1 | refine below_set ?_ (IsS99.ge HI489.out) | refine below_set ?_ GE479.out | refine below_set ?_ GE493.out) | exact HB.out)⟩⟩
               case round =>
                clear H'
                obtain ⟨x8_2, x480000_2, x480001_2, x490001_2, x490002_2, x494002_2, u494002, rfl, HA, HK2, HO_494002, BK479, BK493, HI489, HB⟩ := hrel
                cases gk with
                | zero => exact absurd HA.out (by simp [turnstileref14_Decode.l0])
                | succ k2 =>
                 have H := HA.out; clear HA
                 simp only [turnstileref14_Decode.l0] at H
                 by_cases c64 : x8_2 < t500
                 · rw [if_pos c64] at H
                   have c64b0 : decide (x8_2 < t500) = true := decide_eq_true c64
                   clear c64; replace H := Option.bind_eq_some_iff.mp H
                   obtain ⟨⟨t503, t504, t505, t506, t507, t508, t509, t510, t511, t512, t513, t514⟩, A650, H⟩ := H
                   replace H : (if t512 = 0 then (if x494002_2.length < 1759218604441 then (turnstileref14_Decode.l0 k2 l0 t500 (IntKind.u64.wrap (x8_2 + 1)) (l0.take ((ji16) : Int).toNat) t513 t514 t494 t497 (x494002_2 ++ [(⟨t503, (⟨t504, t505, t506, t507, t508⟩ : S28), (⟨t509, t510, t511⟩ : S30)⟩ : S79)])) else (none)) else (some (0, 0, ([] : List (S79)), t512))) = some (r1, r2, r3, r4) := H
                   have A65 := Aside0.mk A650; clear A650
                   by_cases c66 : t512 = 0
                   · rw [if_pos c66] at H
                     have c66b0 : (t512 == 0) = true := beq_iff_eq.mpr c66
                     have c66b1 : (t512 != 0) = false := bne_eq_false_iff_eq.mpr c66
                     clear c66
                     by_cases c67 : x494002_2.length < 1759218604441
                     · rw [if_pos c67] at H
                       have LMc67 := Aside0.mk c67; clear c67
                       obtain ⟨y516, hy516⟩ : ∃ y_ : List (S79), y_ = (x494002_2 ++ [(⟨t503, (⟨t504, t505, t506, t507, t508⟩ : S28), (⟨t509, t510, t511⟩ : S30)⟩ : S79)]) := ⟨_, rfl⟩
                       replace H : (turnstileref14_Decode.l0 k2 l0 t500 (IntKind.u64.wrap (x8_2 + 1)) (l0.take ((ji16) : Int).toNat) t513 t514 t494 t497 y516) = some (r1, r2, r3, r4) := by first | (rw [hy516]; with_reducible exact H) | (have H2_ := (Option.bind_some _ _).symm.trans H; rw [hy516]; with_reducible exact H2_) | (have H2_ := (Option.bind_some _ _).symm.trans H; with_reducible exact H2_) | with_reducible exact H | (rw [hy516]; exact H) | exact H
                       have Ny516 := Aside0.mk hy516; clear hy516
                       have H' := Aside0.mk H
                       clear H
                       go_upto_region 19 with (first | (go_at_call 66; (with_reducible refine (turnstileref14_entry.calls k2 gb489 (l0.take ((ji16) : Int).toNat) x490001_2 x490002_2 t503 t504 t505 t506 t507 t508 t509 t510 t511 t512 t513 t514 w _ ?side1 ?side2 A65.out).mono ?_); (case side1 => repeat (first | (with_reducible first | exact HI489.out | apply IsS99.alloc | apply IsS99.drewN | apply IsS99.drew | apply IsS99.set_1 | apply IsS99.set_2 | refine IsS99.far ?_ NB489_479.out _ | refine IsS99.far ?_ NB489_493.out _) | exact HI489.out)); (case side2 => repeat (first | (with_reducible first | exact HB.out | apply below_alloc | apply pw_below_drewN | apply below_drew1 | refine below_set ?_ (IsS99.ge HI489.out) | refine below_set ?_ GE479.out | refine below_set ?_ GE493.out) | exact HB.out)); rintro e w68 ⟨rfl, hi, hb, hk⟩; have n0_ := Aside0.mk (Kd.R_mono (Kd.R_keep (IsS99.apart (show IsS99 w _ gb489 (l0.take ((ji16) : Int).toNat) x490001_2 x490002_2 from by repeat (first | (with_reducible first | exact HI489.out | apply IsS99.alloc | apply IsS99.drewN | apply IsS99.drew | apply IsS99.set_1 | apply IsS99.set_2 | refine IsS99.far ?_ NB489_479.out _ | refine IsS99.far ?_ NB489_493.out _) | exact HI489.out)) (ro HO_494002) (by decide)) hk (fun _ h => h.2)) (fun _ h => h.1)); have n1_ := Aside0.mk (KeepBut.blk hk (g' := gb479) (o := .cells #[.int .u64 x480000_2, .int .u64 x480001_2, .slice none 0 0] 51 (0, 0)) (bk BK479) NB479_489.out (by simp)); have n2_ := Aside0.mk (KeepBut.blk hk (g' := gb493) (o := .cells #[.int .u64 t494, .int .u64 t497, u494002] 51 (0, 0)) (bk BK493) NB493_489.out (by simp)); have n3_ := Aside0.mk (hb); have n4_ := Aside0.mk (hi); clear HO_494002; clear BK479; clear BK493; clear HB; clear HI489; have HO_494002 := n0_; have BK479 := n1_; have BK493 := n2_; have HB := n3_; have HI489 := n4_; clear n0_ n1_ n2_ n3_ n4_) | ((with_reducible refine gate_dst (N := 9) rfl ?_); refine bx 9 #[.string (⟨#[]⟩ : ByteArray), .int .i64 0, .int .u64 0, .int .u64 0, .int .u64 0, .int .u64 0, .int .u64 0, .int .u64 0, .int .u64 0] 79 ?_; intro gb515 hg w69 hbox hb; have n0_ := Aside0.mk (Kd.R_below (Kd.R_elderB (ro HO_494002) gb515 (Nat.le_of_eq hg.symm)) hb); have n1_ := bb BK479 hb; have n2_ := bb BK493 hb; have n3_ := Aside0.mk (IsS99.below (by repeat (first | (with_reducible first | exact HI489.out | apply IsS99.alloc | apply IsS99.drewN | apply IsS99.drew | apply IsS99.set_1 | apply IsS99.set_2 | refine IsS99.far ?_ NB489_479.out _ | refine IsS99.far ?_ NB489_493.out _) | exact HI489.out)) hb); have n4_ := Aside0.mk (below_step (by repeat (first | (with_reducible first | exact HB.out | apply below_alloc | apply pw_below_drewN | apply below_drew1 | refine below_set ?_ (IsS99.ge HI489.out) | refine below_set ?_ GE479.out | refine below_set ?_ GE493.out) | exact HB.out)) hb); have n5_ := Aside0.mk (hbox); have n6_ := Aside0.mk ((by rw [hg]; exact (below_size (by repeat (first | (with_reducible first | exact HB.out | apply below_alloc | apply pw_below_drewN | apply below_drew1 | refine below_set ?_ (IsS99.ge HI489.out) | refine below_set ?_ GE479.out | refine below_set ?_ GE493.out) | exact HB.out))) : w.heap.size ≤ gb515)); have n7_ := Aside0.mk ((by rw [hg]; exact (below_size (by repeat (first | (with_reducible first | exact HB.out | apply below_alloc | apply pw_below_drewN | apply below_drew1 | refine below_set ?_ (IsS99.ge HI489.out) | refine below_set ?_ GE479.out | refine below_set ?_ GE493.out) | exact HB.out))) : w.heap.size ≤ gb515)); have n8_ := nl BK479 hg; have n9_ := nr BK479 hg; have n10_ := nl BK493 hg; have n11_ := nr BK493 hg; have n12_ := Aside0.mk ((by rw [hg]; exact Nat.ne_of_lt (IsS99.lt (show IsS99 w _ gb489 (l0.take ((ji16) : Int).toNat) t513 t514 from by repeat (first | (with_reducible first | exact HI489.out | apply IsS99.alloc | apply IsS99.drewN | apply IsS99.drew | apply IsS99.set_1 | apply IsS99.set_2 | refine IsS99.far ?_ NB489_479.out _ | refine IsS99.far ?_ NB489_493.out _) | exact HI489.out))) : gb489 ≠ gb515)); have n13_ := Aside0.mk ((by rw [hg]; exact Nat.ne_of_gt (IsS99.lt (show IsS99 w _ gb489 (l0.take ((ji16) : Int).toNat) t513 t514 from by repeat (first | (with_reducible first | exact HI489.out | apply IsS99.alloc | apply IsS99.drewN | apply IsS99.drew | apply IsS99.set_1 | apply IsS99.set_2 | refine IsS99.far ?_ NB489_479.out _ | refine IsS99.far ?_ NB489_493.out _) | exact HI489.out))) : gb515 ≠ gb489)); clear HO_494002; clear BK479; clear BK493; clear HI489; clear HB; have HO_494002 := n0_; have BK479 := n1_; have BK493 := n2_; have HI489 := n3_; have HB := n4_; have BK515 := n5_; have GW515 := n6_; have GE515 := n7_; have NB479_515 := n8_; have NB515_479 := n9_; have NB493_515 := n10_; have NB515_493 := n11_; have NB489_515 := n12_; have NB515_489 := n13_; clear n0_ n1_ n2_ n3_ n4_ n5_ n6_ n7_ n8_ n9_ n10_ n11_ n12_ n13_; clear hb hbox hg) | ((with_reducible refine gate_store (t := 79) (p := 9) (v := .tmp 84) rfl ?_); have n0_ := Aside0.mk (turnstileref14_Decode.far9R HO_494002.out (fun k_ h_ => h_.2) (.string t503) (.int .i64 t504) (.int .u64 t505) (.int .u64 t506) (.int .u64 t507) (.int .u64 t508) (.int .u64 t509) (.int .u64 t510) (.int .u64 t511)); have n1_ := Aside0.mk (far9_ (b0 := .string t503) (b1 := .int .i64 t504) (b2 := .int .u64 t505) (b3 := .int .u64 t506) (b4 := .int .u64 t507) (b5 := .int .u64 t508) (b6 := .int .u64 t509) (b7 := .int .u64 t510) (b8 := .int .u64 t511) BK479.out NB479_515.out); have n2_ := Aside0.mk (far9_ (b0 := .string t503) (b1 := .int .i64 t504) (b2 := .int .u64 t505) (b3 := .int .u64 t506) (b4 := .int .u64 t507) (b5 := .int .u64 t508) (b6 := .int .u64 t509) (b7 := .int .u64 t510) (b8 := .int .u64 t511) BK493.out NB493_515.out); have n3_ := Aside0.mk (turnstileref14_Decode.far9I HI489.out NB489_515.out (.string t503) (.int .i64 t504) (.int .u64 t505) (.int .u64 t506) (.int .u64 t507) (.int .u64 t508) (.int .u64 t509) (.int .u64 t510) (.int .u64 t511)); have n4_ := Aside0.mk (turnstileref14_Decode.set9 HB.out GE515.out (.string t503) (.int .i64 t504) (.int .u64 t505) (.int .u64 t506) (.int .u64 t507) (.int .u64 t508) (.int .u64 t509) (.int .u64 t510) (.int .u64 t511)); have n5_ := Aside0.mk (put9_ (b0 := .string t503) (b1 := .int .i64 t504) (b2 := .int .u64 t505) (b3 := .int .u64 t506) (b4 := .int .u64 t507) (b5 := .int .u64 t508) (b6 := .int .u64 t509) (b7 := .int .u64 t510) (b8 := .int .u64 t511) BK515.out); refine turnstileref14_Decode.st9 (.string t503) (.int .i64 t504) (.int .u64 t505) (.int .u64 t506) (.int .u64 t507) (.int .u64 t508) (.int .u64 t509) (.int .u64 t510) (.int .u64 t511) BK515.out ?_; intro W9_ hW9_; rw [← hW9_] at n0_ n1_ n2_ n3_ n4_ n5_; clear hW9_; clear HO_494002 BK479 BK493 HI489 HB BK515; have HO_494002 := n0_; have BK479 := n1_; have BK493 := n2_; have HI489 := n3_; have HB := n4_; have BK515 := n5_; clear n0_ n1_ n2_ n3_ n4_ n5_))
                       go_upto_region 21 with fail
                       obtain ⟨z0_, z1_, z2_, y0_, y1_, y2_⟩ := bc3 BK493
                       go_wp2_with (first | ((with_reducible refine gate_dst (N := 92) rfl ?_); refine turnstileref14_Decode.ld_ rfl 79 (.tmp 9) rfl _ rfl _ (turnstileref14_Decode.ld9 BK515.out) ?_) | ((with_reducible refine gate_dst (N := 93) rfl ?_); refine Kd.event_run rfl (turnstileref14_Decode.bs9 (.tmp 92) _ rfl rfl) ?_) | ((with_reducible refine gate_builtin (b := .append) (xs := #[.tmp 91, .tmp 93]) rfl ?_); at_builtin; refine Kd.R_append k79 (w0 := w) w.heap.size rfl (.tmp 91) (.tmp 93) 49 79 (.agg #[(.string ⟨#[]⟩), (.int .i64 0), (.int .u64 0), (.int .u64 0), (.int .u64 0), (.int .u64 0), (.int .u64 0), (.int .u64 0), (.int .u64 0)]) 80 rfl Tryd.underlying49 info79 rfl (by decide) (by omega) u494002 x494002_2 (⟨t503, (⟨t504, t505, t506, t507, t508⟩ : S28), (⟨t509, t510, t511⟩ : S30)⟩ : S79) [.string t503, .int .i64 t504, .int .u64 t505, .int .u64 t506, .int .u64 t507, .int .u64 t508, .int .u64 t509, .int .u64 t510, .int .u64 t511] (fun k_ => k_ ≠ gb515) (fun _ => False) rfl (by first | (go_simp; done) | (go_simp; rfl)) ?aP (fun _ hk => hk.elim) ?aF ?aO ?aB ?aS ?aL ?_; (case aP => exact k79_mkM _ _ _ (⟨t503, (⟨t504, t505, t506, t507, t508⟩ : S28), (⟨t509, t510, t511⟩ : S30)⟩ : S79)); (case aB => exact (by repeat (first | exact HB.out | apply below_alloc))); (case aF => exact (fun k_ hk => Kd.freshB (g := gb515) (o := .cells #[.string t503, .int .i64 t504, .int .u64 t505, .int .u64 t506, .int .u64 t507, .int .u64 t508, .int .u64 t509, .int .u64 t510, .int .u64 t511] 79 (0, 0)) (bk BK515) k_ hk)); (case aO => exact Kd.R_mono (ro HO_494002) (fun _ h_ => h_.2)); (case aS => exact (below_size (by repeat (first | exact HB.out | apply below_alloc)))); (case aL => have := LMc67.out; omega); intro v517 w77_ ho hb hg hat; rw [← Ny516.out] at ho; have n0_ := Aside0.mk (blk_grown (bk BK479) hg (Kd.R_ne HO_494002.out BK479.out (by decide))); have n1_ := Aside0.mk (blk_grown (bk BK493) hg (Kd.R_ne HO_494002.out BK493.out (by decide))); have n2_ := Aside0.mk (IsS99.grown (by repeat (first | exact HI489.out | apply IsS99.alloc)) hg (IsS99.own_ne HI489.out HO_494002.out (by decide))); have n4_ := Aside0.mk (hb); have n5_ := Aside0.mk (ho); clear BK479; clear BK493; clear HI489; clear BK515; clear HB; clear HO_494002; have BK479 := n0_; have BK493 := n1_; have HI489 := n2_; have HB := n4_; have HO518 := n5_; clear n0_ n1_ n2_ n4_ n5_; clear ho hb hg hat z0_ z1_ z2_ y0_ y1_ y2_; obtain ⟨Ao78, co78, eo78⟩ := Kd.R_slice HO518.out; subst eo78; obtain ⟨hcz79_0, hcz79_1, hcz79_2, hfz79_0, hfz79_1, hfz79_2⟩ := bc3 BK493))
                       go_roundg k2
                       case measure => have := HJ4.out; have := HK2.out; omega
                       case rel => exact ⟨(IntKind.u64.wrap (x8_2 + 1)), (x480000_2), (x480001_2), (t513), (t514), (y516), (.slice Ao78 y516.length co78), rs, H', ⟨by have := HJ4.out; have := HK2.out; omega⟩, ⟨by (with_reducible repeat (first | apply Kd.R_alloc | apply Kd.R_drewN | apply Kd.R_drew)); exact Kd.R_mono (Kd.R_far (p := ⟨gb493, 2, none⟩) (Kd.R_types HO518.out BK493.out (by decide)) (fun _ hk => hk.2) (.slice Ao78 y516.length co78)) (fun _ hk => trivial)⟩, ⟨bk BK479⟩, ⟨bk BK493⟩, ⟨by repeat (first | (with_reducible first | exact HI489.out | apply IsS99.alloc | apply IsS99.drewN | apply IsS99.drew | apply IsS99.set_1 | apply IsS99.set_2 | refine IsS99.far ?_ NB489_479.out _ | refine IsS99.far ?_ NB489_493.out _ | refine IsS99.far ?_ NB489_515.out _) | exact HI489.out)⟩, ⟨by repeat (first | (with_reducible first | exact HB.out | apply below_alloc | apply pw_below_drewN | apply below_drew1 | refine below_set ?_ (IsS99.ge HI489.out) | refine below_set ?_ GE479.out | refine below_set ?_ GE493.out | refine below_set ?_ GE515.out) | exact HB.out)⟩⟩
                     · rw [if_neg c67] at H
                       exact absurd H (by simp)
                   · rw [if_neg c66] at H
                     have c66b0 : (t512 == 0) = false := beq_eq_false_iff_ne.mpr c66
                     have c66b1 : (t512 != 0) = true := bne_iff_ne.mpr c66
                     simp only [Option.some.injEq, Prod.mk.injEq] at H
                     obtain ⟨rfl, rfl, rfl, rfl⟩ := H
                     go_upto_region 19 with (first | (go_at_call 66; (with_reducible refine (turnstileref14_entry.calls k2 gb489 (l0.take ((ji16) : Int).toNat) x490001_2 x490002_2 t503 t504 t505 t506 t507 t508 t509 t510 t511 t512 t513 t514 w _ ?side1 ?side2 A65.out).mono ?_); (case side1 => repeat (first | (with_reducible first | exact HI489.out | apply IsS99.alloc | apply IsS99.drewN | apply IsS99.drew | apply IsS99.set_1 | apply IsS99.set_2 | refine IsS99.far ?_ NB489_479.out _ | refine IsS99.far ?_ NB489_493.out _) | exact HI489.out)); (case side2 => repeat (first | (with_reducible first | exact HB.out | apply below_alloc | apply pw_below_drewN | apply below_drew1 | refine below_set ?_ (IsS99.ge HI489.out) | refine below_set ?_ GE479.out | refine below_set ?_ GE493.out) | exact HB.out)); rintro e w80 ⟨rfl, hi, hb, hk⟩; have n0_ := Aside0.mk (Kd.R_mono (Kd.R_keep (IsS99.apart (show IsS99 w _ gb489 (l0.take ((ji16) : Int).toNat) x490001_2 x490002_2 from by repeat (first | (with_reducible first | exact HI489.out | apply IsS99.alloc | apply IsS99.drewN | apply IsS99.drew | apply IsS99.set_1 | apply IsS99.set_2 | refine IsS99.far ?_ NB489_479.out _ | refine IsS99.far ?_ NB489_493.out _) | exact HI489.out)) (ro HO_494002) (by decide)) hk (fun _ h => h.2)) (fun _ h => h.1)); have n1_ := Aside0.mk (KeepBut.blk hk (g' := gb479) (o := .cells #[.int .u64 x480000_2, .int .u64 x480001_2, .slice none 0 0] 51 (0, 0)) (bk BK479) NB479_489.out (by simp)); have n2_ := Aside0.mk (KeepBut.blk hk (g' := gb493) (o := .cells #[.int .u64 t494, .int .u64 t497, u494002] 51 (0, 0)) (bk BK493) NB493_489.out (by simp)); have n3_ := Aside0.mk (hb); have n4_ := Aside0.mk (hi); clear HO_494002; clear BK479; clear BK493; clear HB; clear HI489; have HO_494002 := n0_; have BK479 := n1_; have BK493 := n2_; have HB := n3_; have HI489 := n4_; clear n0_ n1_ n2_ n3_ n4_) | ((with_reducible refine gate_dst (N := 9) rfl ?_); refine bx 9 #[.string (⟨#[]⟩ : ByteArray), .int .i64 0, .int .u64 0, .int .u64 0, .int .u64 0, .int .u64 0, .int .u64 0, .int .u64 0, .int .u64 0] 79 ?_; intro gb515 hg w81 hbox hb; have n0_ := Aside0.mk (Kd.R_below (Kd.R_elderB (ro HO_494002) gb515 (Nat.le_of_eq hg.symm)) hb); have n1_ := bb BK479 hb; have n2_ := bb BK493 hb; have n3_ := Aside0.mk (IsS99.below (by repeat (first | (with_reducible first | exact HI489.out | apply IsS99.alloc | apply IsS99.drewN | apply IsS99.drew | apply IsS99.set_1 | apply IsS99.set_2 | refine IsS99.far ?_ NB489_479.out _ | refine IsS99.far ?_ NB489_493.out _) | exact HI489.out)) hb); have n4_ := Aside0.mk (below_step (by repeat (first | (with_reducible first | exact HB.out | apply below_alloc | apply pw_below_drewN | apply below_drew1 | refine below_set ?_ (IsS99.ge HI489.out) | refine below_set ?_ GE479.out | refine below_set ?_ GE493.out) | exact HB.out)) hb); have n5_ := Aside0.mk (hbox); have n6_ := Aside0.mk ((by rw [hg]; exact (below_size (by repeat (first | (with_reducible first | exact HB.out | apply below_alloc | apply pw_below_drewN | apply below_drew1 | refine below_set ?_ (IsS99.ge HI489.out) | refine below_set ?_ GE479.out | refine below_set ?_ GE493.out) | exact HB.out))) : w.heap.size ≤ gb515)); have n7_ := Aside0.mk ((by rw [hg]; exact (below_size (by repeat (first | (with_reducible first | exact HB.out | apply below_alloc | apply pw_below_drewN | apply below_drew1 | refine below_set ?_ (IsS99.ge HI489.out) | refine below_set ?_ GE479.out | refine below_set ?_ GE493.out) | exact HB.out))) : w.heap.size ≤ gb515)); have n8_ := nl BK479 hg; have n9_ := nr BK479 hg; have n10_ := nl BK493 hg; have n11_ := nr BK493 hg; have n12_ := Aside0.mk ((by rw [hg]; exact Nat.ne_of_lt (IsS99.lt (show IsS99 w _ gb489 (l0.take ((ji16) : Int).toNat) t513 t514 from by repeat (first | (with_reducible first | exact HI489.out | apply IsS99.alloc | apply IsS99.drewN | apply IsS99.drew | apply IsS99.set_1 | apply IsS99.set_2 | refine IsS99.far ?_ NB489_479.out _ | refine IsS99.far ?_ NB489_493.out _) | exact HI489.out))) : gb489 ≠ gb515)); have n13_ := Aside0.mk ((by rw [hg]; exact Nat.ne_of_gt (IsS99.lt (show IsS99 w _ gb489 (l0.take ((ji16) : Int).toNat) t513 t514 from by repeat (first | (with_reducible first | exact HI489.out | apply IsS99.alloc | apply IsS99.drewN | apply IsS99.drew | apply IsS99.set_1 | apply IsS99.set_2 | refine IsS99.far ?_ NB489_479.out _ | refine IsS99.far ?_ NB489_493.out _) | exact HI489.out))) : gb515 ≠ gb489)); clear HO_494002; clear BK479; clear BK493; clear HI489; clear HB; have HO_494002 := n0_; have BK479 := n1_; have BK493 := n2_; have HI489 := n3_; have HB := n4_; have BK515 := n5_; have GW515 := n6_; have GE515 := n7_; have NB479_515 := n8_; have NB515_479 := n9_; have NB493_515 := n10_; have NB515_493 := n11_; have NB489_515 := n12_; have NB515_489 := n13_; clear n0_ n1_ n2_ n3_ n4_ n5_ n6_ n7_ n8_ n9_ n10_ n11_ n12_ n13_; clear hb hbox hg) | ((with_reducible refine gate_store (t := 79) (p := 9) (v := .tmp 84) rfl ?_); have n0_ := Aside0.mk (turnstileref14_Decode.far9R HO_494002.out (fun k_ h_ => h_.2) (.string t503) (.int .i64 t504) (.int .u64 t505) (.int .u64 t506) (.int .u64 t507) (.int .u64 t508) (.int .u64 t509) (.int .u64 t510) (.int .u64 t511)); have n1_ := Aside0.mk (far9_ (b0 := .string t503) (b1 := .int .i64 t504) (b2 := .int .u64 t505) (b3 := .int .u64 t506) (b4 := .int .u64 t507) (b5 := .int .u64 t508) (b6 := .int .u64 t509) (b7 := .int .u64 t510) (b8 := .int .u64 t511) BK479.out NB479_515.out); have n2_ := Aside0.mk (far9_ (b0 := .string t503) (b1 := .int .i64 t504) (b2 := .int .u64 t505) (b3 := .int .u64 t506) (b4 := .int .u64 t507) (b5 := .int .u64 t508) (b6 := .int .u64 t509) (b7 := .int .u64 t510) (b8 := .int .u64 t511) BK493.out NB493_515.out); have n3_ := Aside0.mk (turnstileref14_Decode.far9I HI489.out NB489_515.out (.string t503) (.int .i64 t504) (.int .u64 t505) (.int .u64 t506) (.int .u64 t507) (.int .u64 t508) (.int .u64 t509) (.int .u64 t510) (.int .u64 t511)); have n4_ := Aside0.mk (turnstileref14_Decode.set9 HB.out GE515.out (.string t503) (.int .i64 t504) (.int .u64 t505) (.int .u64 t506) (.int .u64 t507) (.int .u64 t508) (.int .u64 t509) (.int .u64 t510) (.int .u64 t511)); have n5_ := Aside0.mk (put9_ (b0 := .string t503) (b1 := .int .i64 t504) (b2 := .int .u64 t505) (b3 := .int .u64 t506) (b4 := .int .u64 t507) (b5 := .int .u64 t508) (b6 := .int .u64 t509) (b7 := .int .u64 t510) (b8 := .int .u64 t511) BK515.out); refine turnstileref14_Decode.st9 (.string t503) (.int .i64 t504) (.int .u64 t505) (.int .u64 t506) (.int .u64 t507) (.int .u64 t508) (.int .u64 t509) (.int .u64 t510) (.int .u64 t511) BK515.out ?_; intro W9_ hW9_; rw [← hW9_] at n0_ n1_ n2_ n3_ n4_ n5_; clear hW9_; clear HO_494002 BK479 BK493 HI489 HB BK515; have HO_494002 := n0_; have BK479 := n1_; have BK493 := n2_; have HI489 := n3_; have HB := n4_; have BK515 := n5_; clear n0_ n1_ n2_ n3_ n4_ n5_))
                     obtain ⟨z0_, z1_, z2_, y0_, y1_, y2_⟩ := bc3 BK479
                     go_wp2
                     refine bodyPost_ret (results_ct rfl _ _ gb479 51 #[.int .u64 0, .int .u64 0, .slice none 0 0] (0, 0) _ rfl (bk BK479) Tryd.underlying51 rfl (by kernel_rfl)) rfl ?_
                     exact ⟨_, by first | rfl | (simp [errW_none, errW_some] <;> rfl) | (simp only [← hji16]; first | rfl | (simp [errW_none, errW_some] <;> rfl)) | (simp [*, errW_none, errW_some] <;> rfl), by first | exact Kd.R_nil _ _ _ _ _ | exact Kd.N_nil _ _ _ _ _ | exact Kd.V_nil _ _ _ _ _ | exact Kd.Q_nil _ _ _ _ _ | exact Kd.S_nil _ _ _ _ _, by repeat (first | (with_reducible first | exact HB.out | apply below_alloc | apply pw_below_drewN | apply below_drew1 | refine below_set ?_ (IsS99.ge HI489.out) | refine below_set ?_ GE479.out | refine below_set ?_ GE493.out | refine below_set ?_ GE515.out) | exact HB.out)⟩
                 · rw [if_neg c64] at H
                   have c64b0 : decide (x8_2 < t500) = false := decide_eq_false c64
                   clear c64; replace H := Option.bind_eq_some_iff.mp H
                   obtain ⟨t519, A890, H⟩ := H
                   replace H : (if x490001_2 = (wrap64 ((l0.length : Int) - 4)) then (if t519 = true then (some (t494, t497, x494002_2, 0)) else (some (0, 0, ([] : List (S79)), 3))) else (some (0, 0, ([] : List (S79)), 3))) = some (r1, r2, r3, r4) := H
                   have A89 := Aside0.mk A890; clear A890
                   by_cases c90 : x490001_2 = (wrap64 ((l0.length : Int) - 4))
                   · rw [if_pos c90] at H
                     have c90b0 : (x490001_2 == (wrap64 ((l0.length : Int) - 4))) = true := beq_iff_eq.mpr c90
                     have c90b1 : (x490001_2 != (wrap64 ((l0.length : Int) - 4))) = false := bne_eq_false_iff_eq.mpr c90
                     have c90d0 := c90b0; have c90d1 := c90b1; rw [hji16] at c90d0 c90d1; clear c90
                     by_cases c91 : t519 = true
                     · subst c91
                       have H1 : (some (t494, t497, x494002_2, 0)) = some (r1, r2, r3, r4) := by rw [if_pos rfl] at H; exact H
                       clear H; have H := H1; clear H1
                       simp only [Option.some.injEq, Prod.mk.injEq] at H
                       obtain ⟨rfl, rfl, rfl, rfl⟩ := H
                       have hnb92 := NB493_479.out; have hnc92 := NB479_493.out; have hnb93 := NB493_489.out; have hnc93 := NB489_493.out
                       obtain ⟨hcz94_0, hcz94_1, hcz94_2, hfz94_0, hfz94_1, hfz94_2⟩ := bc3 BK493
                       obtain ⟨Ao95, co95, eo95⟩ := Kd.R_slice HO_494002.out
                       subst eo95
                       go_wp2_with (first | (go_at_call 64; (with_reducible refine (turnstileref13_Valid.calls k2 t494 t497 _ _ x494002_2 true _ ?side1 ?side2 A89.out).mono ?_); (case side1 => exact co (Kd.R_reads' HO_494002.out).2.2); (case side2 => exact (Kd.R_reads' HO_494002.out).2.1); rintro e w96 ⟨rfl, hb⟩; have n0_ := Aside0.mk (Kd.R_below (ro HO_494002) hb); have n1_ := bb BK479 hb; have n2_ := bb BK493 hb; have n3_ := Aside0.mk (IsS99.below (by repeat (first | (with_reducible first | exact HI489.out | apply IsS99.alloc | apply IsS99.drewN | apply IsS99.drew | apply IsS99.set_1 | apply IsS99.set_2 | refine IsS99.far ?_ NB489_479.out _ | refine IsS99.far ?_ NB489_493.out _) | exact HI489.out)) hb); have n4_ := Aside0.mk (below_step (by repeat (first | (with_reducible first | exact HB.out | apply below_alloc | apply pw_below_drewN | apply below_drew1 | refine below_set ?_ (IsS99.ge HI489.out) | refine below_set ?_ GE479.out | refine below_set ?_ GE493.out) | exact HB.out)) hb); clear HO_494002; clear BK479; clear BK493; clear HI489; clear HB; have HO_494002 := n0_; have BK479 := n1_; have BK493 := n2_; have HI489 := n3_; have HB := n4_; clear n0_ n1_ n2_ n3_ n4_; obtain ⟨ASz97_0, cSz97_0, HGz97, hgz97, ⟨HSz97_0, HCsz97_0⟩⟩ := HI489.out; have hcz97_0 := cellS99_0 HGz97; have hcz97_1 := cellS99_1 HGz97; have hcz97_2 := cellS99_2 HGz97; have hfz97_1 := blk_frozen HGz97 1; have hfz97_2 := blk_frozen HGz97 2; clear HGz97 hgz97; obtain ⟨hcz98_0, hcz98_1, hcz98_2, hfz98_0, hfz98_1, hfz98_2⟩ := bc3 BK493; have hnb99 := NB479_489.out; have hnc99 := NB489_479.out; obtain ⟨hcz100_0, hcz100_1, hcz100_2, hfz100_0, hfz100_1, hfz100_2⟩ := bc3 BK479))
                       repeat (go_quiet (fail); try go_wp2)
                       refine bodyPost_ret (results_ct rfl _ _ gb479 51 #[.int .u64 t494, .int .u64 t497, .slice Ao95 x494002_2.length co95] (0, 0) _ rfl (bk BK479) Tryd.underlying51 rfl (by kernel_rfl)) rfl ?_
                       exact ⟨_, by first | rfl | (simp [errW_none, errW_some] <;> rfl) | (simp only [← hji16]; first | rfl | (simp [errW_none, errW_some] <;> rfl)) | (simp [*, errW_none, errW_some] <;> rfl), by (with_reducible repeat (first | apply Kd.R_alloc | apply Kd.R_drewN | apply Kd.R_drew)); exact Kd.R_mono (Kd.R_far (p := ⟨gb479, 2, none⟩) (Kd.R_far (p := ⟨gb479, 1, none⟩) (Kd.R_far (p := ⟨gb479, 0, none⟩) (Kd.R_types HO_494002.out BK479.out (by decide)) (fun _ hk => hk.2) (.int .u64 t494)) (fun _ hk => hk.2) (.int .u64 t497)) (fun _ hk => hk.2) (.slice Ao95 x494002_2.length co95)) (fun _ hk => trivial), by repeat (first | (with_reducible first | exact HB.out | apply below_alloc | apply pw_below_drewN | apply below_drew1 | refine below_set ?_ (IsS99.ge HI489.out) | refine below_set ?_ GE479.out | refine below_set ?_ GE493.out) | exact HB.out)⟩
                     · replace c91 := Bool.eq_false_iff.mpr c91
                       subst c91
                       have H1 : (some (0, 0, ([] : List (S79)), 3)) = some (r1, r2, r3, r4) := by rw [if_neg (show ¬ (false = true) by decide)] at H; exact H
                       clear H; have H := H1; clear H1
                       simp only [Option.some.injEq, Prod.mk.injEq] at H
                       obtain ⟨rfl, rfl, rfl, rfl⟩ := H
                       have hnb101 := NB493_479.out; have hnc101 := NB479_493.out; have hnb102 := NB493_489.out; have hnc102 := NB489_493.out
                       obtain ⟨hcz103_0, hcz103_1, hcz103_2, hfz103_0, hfz103_1, hfz103_2⟩ := bc3 BK493
                       obtain ⟨Ao104, co104, eo104⟩ := Kd.R_slice HO_494002.out
                       subst eo104
                       go_wp2_with (first | (go_at_call 64; (with_reducible refine (turnstileref13_Valid.calls k2 t494 t497 _ _ x494002_2 false _ ?side1 ?side2 A89.out).mono ?_); (case side1 => exact co (Kd.R_reads' HO_494002.out).2.2); (case side2 => exact (Kd.R_reads' HO_494002.out).2.1); rintro e w105 ⟨rfl, hb⟩; have n0_ := Aside0.mk (Kd.R_below (ro HO_494002) hb); have n1_ := bb BK479 hb; have n2_ := bb BK493 hb; have n3_ := Aside0.mk (IsS99.below (by repeat (first | (with_reducible first | exact HI489.out | apply IsS99.alloc | apply IsS99.drewN | apply IsS99.drew | apply IsS99.set_1 | apply IsS99.set_2 | refine IsS99.far ?_ NB489_479.out _ | refine IsS99.far ?_ NB489_493.out _) | exact HI489.out)) hb); have n4_ := Aside0.mk (below_step (by repeat (first | (with_reducible first | exact HB.out | apply below_alloc | apply pw_below_drewN | apply below_drew1 | refine below_set ?_ (IsS99.ge HI489.out) | refine below_set ?_ GE479.out | refine below_set ?_ GE493.out) | exact HB.out)) hb); clear HO_494002; clear BK479; clear BK493; clear HI489; clear HB; have HO_494002 := n0_; have BK479 := n1_; have BK493 := n2_; have HI489 := n3_; have HB := n4_; clear n0_ n1_ n2_ n3_ n4_; obtain ⟨ASz106_0, cSz106_0, HGz106, hgz106, ⟨HSz106_0, HCsz106_0⟩⟩ := HI489.out; have hcz106_0 := cellS99_0 HGz106; have hcz106_1 := cellS99_1 HGz106; have hcz106_2 := cellS99_2 HGz106; have hfz106_1 := blk_frozen HGz106 1; have hfz106_2 := blk_frozen HGz106 2; clear HGz106 hgz106; have hnb107 := NB479_489.out; have hnc107 := NB489_479.out; obtain ⟨hcz108_0, hcz108_1, hcz108_2, hfz108_0, hfz108_1, hfz108_2⟩ := bc3 BK479))
                       repeat (go_quiet (fail); try go_wp2)
                       refine bodyPost_ret (results_ct rfl _ _ gb479 51 #[.int .u64 0, .int .u64 0, .slice none 0 0] (0, 0) _ rfl (bk BK479) Tryd.underlying51 rfl (by kernel_rfl)) rfl ?_
                       exact ⟨_, by first | rfl | (simp [errW_none, errW_some] <;> rfl) | (simp only [← hji16]; first | rfl | (simp [errW_none, errW_some] <;> rfl)) | (simp [*, errW_none, errW_some] <;> rfl), by first | exact Kd.R_nil _ _ _ _ _ | exact Kd.N_nil _ _ _ _ _ | exact Kd.V_nil _ _ _ _ _ | exact Kd.Q_nil _ _ _ _ _ | exact Kd.S_nil _ _ _ _ _, by repeat (first | (with_reducible first | exact HB.out | apply below_alloc | apply pw_below_drewN | apply below_drew1 | refine below_set ?_ (IsS99.ge HI489.out) | refine below_set ?_ GE479.out | refine below_set ?_ GE493.out) | exact HB.out)⟩
                   · rw [if_neg c90] at H
                     have c90b0 : (x490001_2 == (wrap64 ((l0.length : Int) - 4))) = false := beq_eq_false_iff_ne.mpr c90
                     have c90b1 : (x490001_2 != (wrap64 ((l0.length : Int) - 4))) = true := bne_iff_ne.mpr c90
                     have c90d0 := c90b0; have c90d1 := c90b1; rw [hji16] at c90d0 c90d1
                     simp only [Option.some.injEq, Prod.mk.injEq] at H
                     obtain ⟨rfl, rfl, rfl, rfl⟩ := H
                     have hnb109 := NB493_479.out; have hnc109 := NB479_493.out; have hnb110 := NB493_489.out; have hnc110 := NB489_493.out
                     obtain ⟨hcz111_0, hcz111_1, hcz111_2, hfz111_0, hfz111_1, hfz111_2⟩ := bc3 BK493
                     obtain ⟨Ao112, co112, eo112⟩ := Kd.R_slice HO_494002.out
                     subst eo112
                     go_wp2_with (first | (go_at_call 64; (with_reducible refine (turnstileref13_Valid.calls k2 t494 t497 _ _ x494002_2 t519 _ ?side1 ?side2 A89.out).mono ?_); (case side1 => exact co (Kd.R_reads' HO_494002.out).2.2); (case side2 => exact (Kd.R_reads' HO_494002.out).2.1); rintro e w113 ⟨rfl, hb⟩; have n0_ := Aside0.mk (Kd.R_below (ro HO_494002) hb); have n1_ := bb BK479 hb; have n2_ := bb BK493 hb; have n3_ := Aside0.mk (IsS99.below (by repeat (first | (with_reducible first | exact HI489.out | apply IsS99.alloc | apply IsS99.drewN | apply IsS99.drew | apply IsS99.set_1 | apply IsS99.set_2 | refine IsS99.far ?_ NB489_479.out _ | refine IsS99.far ?_ NB489_493.out _) | exact HI489.out)) hb); have n4_ := Aside0.mk (below_step (by repeat (first | (with_reducible first | exact HB.out | apply below_alloc | apply pw_below_drewN | apply below_drew1 | refine below_set ?_ (IsS99.ge HI489.out) | refine below_set ?_ GE479.out | refine below_set ?_ GE493.out) | exact HB.out)) hb); clear HO_494002; clear BK479; clear BK493; clear HI489; clear HB; have HO_494002 := n0_; have BK479 := n1_; have BK493 := n2_; have HI489 := n3_; have HB := n4_; clear n0_ n1_ n2_ n3_ n4_; obtain ⟨ASz114_0, cSz114_0, HGz114, hgz114, ⟨HSz114_0, HCsz114_0⟩⟩ := HI489.out; have hcz114_0 := cellS99_0 HGz114; have hcz114_1 := cellS99_1 HGz114; have hcz114_2 := cellS99_2 HGz114; have hfz114_1 := blk_frozen HGz114 1; have hfz114_2 := blk_frozen HGz114 2; clear HGz114 hgz114; have hnb115 := NB479_489.out; have hnc115 := NB489_479.out; obtain ⟨hcz116_0, hcz116_1, hcz116_2, hfz116_0, hfz116_1, hfz116_2⟩ := bc3 BK479))
                     repeat (go_quiet (fail); try go_wp2)
                     refine bodyPost_ret (results_ct rfl _ _ gb479 51 #[.int .u64 0, .int .u64 0, .slice none 0 0] (0, 0) _ rfl (bk BK479) Tryd.underlying51 rfl (by kernel_rfl)) rfl ?_
                     exact ⟨_, by first | rfl | (simp [errW_none, errW_some] <;> rfl) | (simp only [← hji16]; first | rfl | (simp [errW_none, errW_some] <;> rfl)) | (simp [*, errW_none, errW_some] <;> rfl), by first | exact Kd.R_nil _ _ _ _ _ | exact Kd.N_nil _ _ _ _ _ | exact Kd.V_nil _ _ _ _ _ | exact Kd.Q_nil _ _ _ _ _ | exact Kd.S_nil _ _ _ _ _, by repeat (first | (with_reducible first | exact HB.out | apply below_alloc | apply pw_below_drewN | apply below_drew1 | refine below_set ?_ (IsS99.ge HI489.out) | refine below_set ?_ GE479.out | refine below_set ?_ GE493.out) | exact HB.out)⟩
           · rw [if_neg c23] at H
             have c23b0 : (t485 == (IntKind.u64.wrap (t487))) = false := beq_eq_false_iff_ne.mpr c23
             have c23b1 : (t485 != (IntKind.u64.wrap (t487))) = true := bne_iff_ne.mpr c23
             simp only [Option.some.injEq, Prod.mk.injEq] at H
             obtain ⟨rfl, rfl, rfl, rfl⟩ := H
             obtain ⟨i0117, hi0117, _, hsz117, _⟩ := info_parts info5
             obtain ⟨A117, hcut117, hA117, hC117⟩ := print_drop_of (P := Tryd.prog) (Value.int .u8) 0 33 5 .i64 Tryd.underlying33 hi0117 hsz117 A0 c0 l0 (ji16) (of_decide_eq_true (by first | (with_reducible assumption) | assumption)) (of_decide_eq_true (by first | (with_reducible assumption) | assumption)) HC0.out
             have HR484 := Aside0.mk (Kd.C_of_reads (h1 := fun _ => rfl) (hA117 _ (Kd.reads_of_C HR0.out)))
             have HC484 := Aside0.mk hC117; clear hA117 hC117 hi0117 hsz117
             obtain ⟨hcz119_0, hcz119_1, hcz119_2, hfz119_0, hfz119_1, hfz119_2⟩ := bc3 BK479
             (first | rw [c23b1] | skip)
             go_wp2
             refine bodyPost_ret (results_ct rfl _ _ gb479 51 #[.int .u64 0, .int .u64 0, .slice none 0 0] (0, 0) _ rfl (bk BK479) Tryd.underlying51 rfl (by kernel_rfl)) rfl ?_
             exact ⟨_, by first | rfl | (simp [errW_none, errW_some] <;> rfl) | (simp only [← hji16]; first | rfl | (simp [errW_none, errW_some] <;> rfl)) | (simp [*, errW_none, errW_some] <;> rfl), by first | exact Kd.R_nil _ _ _ _ _ | exact Kd.N_nil _ _ _ _ _ | exact Kd.V_nil _ _ _ _ _ | exact Kd.Q_nil _ _ _ _ _ | exact Kd.S_nil _ _ _ _ _, bw HB⟩
         · rw [if_neg c18] at H
           exact absurd H (by simp)
       · rw [if_neg c17] at H
         exact absurd H (by simp)
end Go.Proofs.YtkgjepmminmjjaaDoor.E
