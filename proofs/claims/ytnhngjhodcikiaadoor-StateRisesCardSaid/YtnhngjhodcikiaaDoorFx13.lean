/- Written by the session's own program hyb.py: what functions of the program compute; Lean checks it. -/
import Derived.Test.YtnhngjhodcikiaaDoorFx0
import Derived.Test.YtnhngjhodcikiaaDoorFx12
import Derived.Test.YtnhngjhodcikiaaDoorWMaps
namespace Go.Proofs.YtnhngjhodcikiaaDoor.F
open Go.RowKit Go.Proofs.YtnhngjhodcikiaaDoorW.PrintWords Go.Proofs.YtnhngjhodcikiaaDoorW.PrintLast Go.Proofs.YtnhngjhodcikiaaDoorW.PrintMore Go.Proofs.YtnhngjhodcikiaaDoorW.PrintShort
attribute [local go_sem] run_Add64 run_Sub64
attribute [local go_sem] max2_int min2_int max_two min_two max_three min_three max_four min_four   -- for this text's walks alone
set_option linter.unusedVariables false
set_option linter.unusedSimpArgs false

/-! ### policy_rules_12: function 68 -/
def policy_rules_12.f (a0_0 : Int) (a0_1 : Int) (a0_2 : Int) (a1_0 : Int) (a1_1 : Int) (a1_2 : Int) : Option (Bool) := if a1_1 < a0_1 then (some true) else (if a1_1 = a0_1 then (some (decide (a1_2 ≤ a0_2))) else (some false))
set_option maxHeartbeats 8000000 in
set_option maxRecDepth 100000 in
theorem policy_rules_12.calls (a0_0 : Int) (a0_1 : Int) (a0_2 : Int) (a1_0 : Int) (a1_1 : Int) (a1_2 : Int) (r : Bool) (w : World) (h : policy_rules_12.f a0_0 a0_1 a0_2 a1_0 a1_1 a1_2 = some r) :
    Calls Tryd.prog 68 #[.agg #[.int .u64 a0_0, .int .u64 a0_1, .int .u64 a0_2], .agg #[.int .u64 a1_0, .int .u64 a1_1, .int .u64 a1_2]] w fun e w' => e = .returned (.bool r) ∧ Below w.heap.size w w' := by
  have hu37 := Tryd.underlying37
  have HB := Aside0.mk (Below.refl w.heap.size w)
  have H : (if a1_1 < a0_1 then (some true) else (if a1_1 = a0_1 then (some (decide (a1_2 ≤ a0_2))) else (some false))) = some r := h
  clear h
  by_cases c3 : a1_1 < a0_1
  · rw [if_pos c3] at H
    have c3b0 : decide (a1_1 < a0_1) = true := decide_eq_true c3
    clear c3
    obtain rfl := Option.some.inj H
    go_enter Tryd.func68, Tryd.ntmps68
    go_wp2_with (first | ((with_reducible refine gate_dst (N := 2) rfl ?_); refine bx 2 #[.int .u64 a0_0, .int .u64 a0_1, .int .u64 a0_2] 37 ?_; intro gb214 hg w4 hbox hb; have n0_ := bs HB hb; have n1_ := Aside0.mk (hbox); have n2_ := sz HB hg; have n3_ := sz HB hg; clear HB; have HB := n0_; have BK214 := n1_; have GW214 := n2_; have GE214 := n3_; clear n0_ n1_ n2_ n3_; clear hb hbox hg) | ((with_reducible refine gate_dst (N := 3) rfl ?_); refine bx 3 #[.int .u64 a1_0, .int .u64 a1_1, .int .u64 a1_2] 37 ?_; intro gb215 hg w5 hbox hb; have n0_ := bb BK214 hb; have n1_ := bs HB hb; have n2_ := Aside0.mk (hbox); have n3_ := sz HB hg; have n4_ := sz HB hg; have n5_ := nl BK214 hg; have n6_ := nr BK214 hg; clear BK214; clear HB; have BK214 := n0_; have HB := n1_; have BK215 := n2_; have GW215 := n3_; have GE215 := n4_; have NB214_215 := n5_; have NB215_214 := n6_; clear n0_ n1_ n2_ n3_ n4_ n5_ n6_; clear hb hbox hg; have hnb6 := NB215_214.out; have hnc6 := NB214_215.out; obtain ⟨hcz7_0, hcz7_1, hcz7_2, hfz7_0, hfz7_1, hfz7_2⟩ := bc3 BK215; obtain ⟨hcz8_0, hcz8_1, hcz8_2, hfz8_0, hfz8_1, hfz8_2⟩ := bc3 BK214))
    go_ret
    exact ⟨re, bw HB⟩
  · rw [if_neg c3] at H
    have c3b0 : decide (a1_1 < a0_1) = false := decide_eq_false c3
    clear c3
    by_cases c9 : a1_1 = a0_1
    · rw [if_pos c9] at H
      have c9b0 : (a1_1 == a0_1) = true := beq_iff_eq.mpr c9
      have c9b1 : (a1_1 != a0_1) = false := bne_eq_false_iff_eq.mpr c9
      clear c9
      obtain rfl := Option.some.inj H
      go_enter Tryd.func68, Tryd.ntmps68
      go_wp2_with (first | ((with_reducible refine gate_dst (N := 2) rfl ?_); refine bx 2 #[.int .u64 a0_0, .int .u64 a0_1, .int .u64 a0_2] 37 ?_; intro gb214 hg w10 hbox hb; have n0_ := bs HB hb; have n1_ := Aside0.mk (hbox); have n2_ := sz HB hg; have n3_ := sz HB hg; clear HB; have HB := n0_; have BK214 := n1_; have GW214 := n2_; have GE214 := n3_; clear n0_ n1_ n2_ n3_; clear hb hbox hg) | ((with_reducible refine gate_dst (N := 3) rfl ?_); refine bx 3 #[.int .u64 a1_0, .int .u64 a1_1, .int .u64 a1_2] 37 ?_; intro gb215 hg w11 hbox hb; have n0_ := bb BK214 hb; have n1_ := bs HB hb; have n2_ := Aside0.mk (hbox); have n3_ := sz HB hg; have n4_ := sz HB hg; have n5_ := nl BK214 hg; have n6_ := nr BK214 hg; clear BK214; clear HB; have BK214 := n0_; have HB := n1_; have BK215 := n2_; have GW215 := n3_; have GE215 := n4_; have NB214_215 := n5_; have NB215_214 := n6_; clear n0_ n1_ n2_ n3_ n4_ n5_ n6_; clear hb hbox hg; have hnb12 := NB215_214.out; have hnc12 := NB214_215.out; obtain ⟨hcz13_0, hcz13_1, hcz13_2, hfz13_0, hfz13_1, hfz13_2⟩ := bc3 BK215; obtain ⟨hcz14_0, hcz14_1, hcz14_2, hfz14_0, hfz14_1, hfz14_2⟩ := bc3 BK214))
      go_ret
      exact ⟨re, bw HB⟩
    · rw [if_neg c9] at H
      have c9b0 : (a1_1 == a0_1) = false := beq_eq_false_iff_ne.mpr c9
      have c9b1 : (a1_1 != a0_1) = true := bne_iff_ne.mpr c9
      obtain rfl := Option.some.inj H
      go_enter Tryd.func68, Tryd.ntmps68
      go_wp2_with (first | ((with_reducible refine gate_dst (N := 2) rfl ?_); refine bx 2 #[.int .u64 a0_0, .int .u64 a0_1, .int .u64 a0_2] 37 ?_; intro gb214 hg w15 hbox hb; have n0_ := bs HB hb; have n1_ := Aside0.mk (hbox); have n2_ := sz HB hg; have n3_ := sz HB hg; clear HB; have HB := n0_; have BK214 := n1_; have GW214 := n2_; have GE214 := n3_; clear n0_ n1_ n2_ n3_; clear hb hbox hg) | ((with_reducible refine gate_dst (N := 3) rfl ?_); refine bx 3 #[.int .u64 a1_0, .int .u64 a1_1, .int .u64 a1_2] 37 ?_; intro gb215 hg w16 hbox hb; have n0_ := bb BK214 hb; have n1_ := bs HB hb; have n2_ := Aside0.mk (hbox); have n3_ := sz HB hg; have n4_ := sz HB hg; have n5_ := nl BK214 hg; have n6_ := nr BK214 hg; clear BK214; clear HB; have BK214 := n0_; have HB := n1_; have BK215 := n2_; have GW215 := n3_; have GE215 := n4_; have NB214_215 := n5_; have NB215_214 := n6_; clear n0_ n1_ n2_ n3_ n4_ n5_ n6_; clear hb hbox hg; have hnb17 := NB215_214.out; have hnc17 := NB214_215.out; obtain ⟨hcz18_0, hcz18_1, hcz18_2, hfz18_0, hfz18_1, hfz18_2⟩ := bc3 BK215; obtain ⟨hcz19_0, hcz19_1, hcz19_2, hfz19_0, hfz19_1, hfz19_2⟩ := bc3 BK214))
      go_ret
      exact ⟨re, bw HB⟩

/-! ### policy_rules: function 48 -/
-- NEEDS WMaps
def policy_rules.map : Array MapEntry := #[⟨.int .i64 1, .agg #[.func (.func 51) #[] #[], .func (.func 52) #[] #[], .func (.func 53) #[] #[], .func (.func 55) #[] #[], .func (.func 57) #[] #[], .func (.func 59) #[] #[]], 0⟩, ⟨.int .i64 2, .agg #[.func (.func 60) #[] #[], .func (.func 61) #[] #[], .func (.func 62) #[] #[], .func (.func 64) #[] #[], .func (.func 66) #[] #[], .func (.func 68) #[] #[]], 1⟩]
set_option maxHeartbeats 1600000 in
set_option maxRecDepth 100000 in
theorem policy_rules.calls (w : World) : Calls Tryd.prog 48 #[] w fun e w' => ∃ g, e = .returned (.map (some g)) ∧ w.heap.size ≤ g ∧ w'.heap[g]? = some (.map policy_rules.map 2) ∧ Below w.heap.size w w' := by
  have hu82 := Tryd.underlying80
  have HB := Aside0.mk (Below.refl w.heap.size w)
  go_enter Tryd.func48, Tryd.ntmps48
  go_wp2_with (first | (with_reducible refine map_event 1 (t := 91) rfl ?_; intro g hg w1 hm hb; have GE : w.heap.size ≤ g := (by rw [hg]; exact Nat.le_refl _); clear hg) | (refine insert_event (w0 := w) (g := g) (t := 91) 1 rfl Tryd.underlying91 Tryd.underlying3 rfl rfl hm rfl hb GE ?_; intro w2 hm2 hb2) | (refine insert_event (w0 := w) (g := g) (t := 91) 2 rfl Tryd.underlying91 Tryd.underlying3 rfl rfl hm2 rfl hb2 GE ?_; intro w3 hm3 hb3))
  go_ret
  exact ⟨g, rfl, GE, hm3, hb3⟩
theorem policy_rules.look1 {w : World} {g : Nat} (hm : w.heap[g]? = some (.map policy_rules.map 2)) : (Instr.lookup 91 (.map (some g)) (.int .i64 1) true).run Tryd.prog w = .ok (.tuple #[.agg #[.func (.func 51) #[] #[], .func (.func 52) #[] #[], .func (.func 53) #[] #[], .func (.func 55) #[] #[], .func (.func 57) #[] #[], .func (.func 59) #[] #[]], .bool true]) w :=
  run_lookup_int Tryd.underlying91 Tryd.underlying3 hm 1 (i := 0) (by rfl)
theorem policy_rules.look2 {w : World} {g : Nat} (hm : w.heap[g]? = some (.map policy_rules.map 2)) : (Instr.lookup 91 (.map (some g)) (.int .i64 2) true).run Tryd.prog w = .ok (.tuple #[.agg #[.func (.func 60) #[] #[], .func (.func 61) #[] #[], .func (.func 62) #[] #[], .func (.func 64) #[] #[], .func (.func 66) #[] #[], .func (.func 68) #[] #[]], .bool true]) w :=
  run_lookup_int Tryd.underlying91 Tryd.underlying3 hm 2 (i := 1) (by rfl)
theorem policy_rules.look0 {w : World} {g : Nat} (hm : w.heap[g]? = some (.map policy_rules.map 2)) {n : Int} (h1 : n ≠ 1) (h2 : n ≠ 2) : (Instr.lookup 91 (.map (some g)) (.int .i64 n) true).run Tryd.prog w = .ok (.tuple #[.agg #[.nilFunc, .nilFunc, .nilFunc, .nilFunc, .nilFunc, .nilFunc], .bool false]) w :=
  run_lookup_int_none Tryd.underlying91 Tryd.underlying3 hm n (by kernel_rfl) (by
    have e1 : (n == 1) = false := by simpa using h1
    have e2 : (n == 2) = false := by simpa using h2
    show (match some (n == 1) with
      | some true => some (some (0, (Value.agg #[.func (.func 51) #[] #[], .func (.func 52) #[] #[], .func (.func 53) #[] #[], .func (.func 55) #[] #[], .func (.func 57) #[] #[], .func (.func 59) #[] #[]])))
      | some false => (match some (n == 2) with
        | some true => some (some (1, (Value.agg #[.func (.func 60) #[] #[], .func (.func 61) #[] #[], .func (.func 62) #[] #[], .func (.func 64) #[] #[], .func (.func 66) #[] #[], .func (.func 68) #[] #[]])))
        | some false => some none
        | none => none)
      | none => none) = some none
    rw [e1]
    show (match some (n == 2) with
        | some true => some (some (1, (Value.agg #[.func (.func 60) #[] #[], .func (.func 61) #[] #[], .func (.func 62) #[] #[], .func (.func 64) #[] #[], .func (.func 66) #[] #[], .func (.func 68) #[] #[]])))
        | some false => some none
        | none => none) = some none
    rw [e2])
theorem bc6_ {w : World} {g : Nat} {t : TypeId} {a b c d e f : Value} (B : w.heap[g]? = some (.cells #[a, b, c, d, e, f] t (0, 0))) : w.cell? ⟨g, 0, none⟩ = some a ∧ w.cell? ⟨g, 1, none⟩ = some b ∧ w.cell? ⟨g, 2, none⟩ = some c ∧ w.cell? ⟨g, 3, none⟩ = some d ∧ w.cell? ⟨g, 4, none⟩ = some e ∧ w.cell? ⟨g, 5, none⟩ = some f :=
  ⟨(blk_cell B 0).trans rfl, (blk_cell B 1).trans rfl, (blk_cell B 2).trans rfl, (blk_cell B 3).trans rfl, (blk_cell B 4).trans rfl, (blk_cell B 5).trans rfl⟩
theorem bc5_ {w : World} {g : Nat} {t : TypeId} {a b c d e : Value} (B : w.heap[g]? = some (.cells #[a, b, c, d, e] t (0, 0))) : w.cell? ⟨g, 0, none⟩ = some a ∧ w.cell? ⟨g, 1, none⟩ = some b ∧ w.cell? ⟨g, 2, none⟩ = some c ∧ w.cell? ⟨g, 3, none⟩ = some d ∧ w.cell? ⟨g, 4, none⟩ = some e :=
  ⟨(blk_cell B 0).trans rfl, (blk_cell B 1).trans rfl, (blk_cell B 2).trans rfl, (blk_cell B 3).trans rfl, (blk_cell B 4).trans rfl⟩
theorem put6_ {w : World} {g : Nat} {t : TypeId} {a b c d e f a' b' c' d' e' f' : Value} (B : w.heap[g]? = some (.cells #[a, b, c, d, e, f] t (0, 0))) :
    ((((((w.setCell ⟨g, 0, none⟩ a').setCell ⟨g, 1, none⟩ b').setCell ⟨g, 2, none⟩ c').setCell ⟨g, 3, none⟩ d').setCell ⟨g, 4, none⟩ e').setCell ⟨g, 5, none⟩ f').heap[g]? = some (.cells #[a', b', c', d', e', f'] t (0, 0)) :=
  blk_put (blk_put (blk_put (blk_put (blk_put (blk_put B 0 a' rfl) 1 b' rfl) 2 c' rfl) 3 d' rfl) 4 e' rfl) 5 f' rfl
theorem far6_ {w : World} {g g' : Nat} {t : TypeId} {cs : Array Value} {a' b' c' d' e' f' : Value} (B : w.heap[g]? = some (.cells cs t (0, 0))) (h : g ≠ g') :
    ((((((w.setCell ⟨g', 0, none⟩ a').setCell ⟨g', 1, none⟩ b').setCell ⟨g', 2, none⟩ c').setCell ⟨g', 3, none⟩ d').setCell ⟨g', 4, none⟩ e').setCell ⟨g', 5, none⟩ f').heap[g]? = some (.cells cs t (0, 0)) :=
  blk_far (blk_far (blk_far (blk_far (blk_far (blk_far B h _) h _) h _) h _) h _) h _
theorem set6_ {w W : World} {g : Nat} {a' b' c' d' e' f' : Value} (h : Below w.heap.size w W) (hg : w.heap.size ≤ g) :
    Below w.heap.size w ((((((W.setCell ⟨g, 0, none⟩ a').setCell ⟨g, 1, none⟩ b').setCell ⟨g, 2, none⟩ c').setCell ⟨g, 3, none⟩ d').setCell ⟨g, 4, none⟩ e').setCell ⟨g, 5, none⟩ f') :=
  below_set (below_set (below_set (below_set (below_set (below_set h hg) hg) hg) hg) hg) hg
theorem put3_ {w : World} {g : Nat} {t : TypeId} {a b c a' b' c' : Value} (B : w.heap[g]? = some (.cells #[a, b, c] t (0, 0))) : (((w.setCell ⟨g, 0, none⟩ a').setCell ⟨g, 1, none⟩ b').setCell ⟨g, 2, none⟩ c').heap[g]? = some (.cells #[a', b', c'] t (0, 0)) :=
  blk_put (blk_put (blk_put B 0 a' rfl) 1 b' rfl) 2 c' rfl
theorem far3_ {w : World} {g g' : Nat} {t : TypeId} {cs : Array Value} {a' b' c' : Value} (B : w.heap[g]? = some (.cells cs t (0, 0))) (h : g ≠ g') : (((w.setCell ⟨g', 0, none⟩ a').setCell ⟨g', 1, none⟩ b').setCell ⟨g', 2, none⟩ c').heap[g]? = some (.cells cs t (0, 0)) :=
  blk_far (blk_far (blk_far B h _) h _) h _
theorem set3_ {w W : World} {g : Nat} {a' b' c' : Value} (h : Below w.heap.size w W) (hg : w.heap.size ≤ g) : Below w.heap.size w (((W.setCell ⟨g, 0, none⟩ a').setCell ⟨g, 1, none⟩ b').setCell ⟨g, 2, none⟩ c') :=
  below_set (below_set (below_set h hg) hg) hg

end Go.Proofs.YtnhngjhodcikiaaDoor.F
