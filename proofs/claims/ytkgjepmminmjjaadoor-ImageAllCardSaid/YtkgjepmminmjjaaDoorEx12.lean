/- Written by the session's own program hyb.py: what functions of the program compute; Lean checks it. -/
import Derived.Test.YtkgjepmminmjjaaDoorEx0
import Derived.Test.YtkgjepmminmjjaaDoorEx11
import Derived.Test.YtkgjepmminmjjaaDoorWMaps
namespace Go.Proofs.YtkgjepmminmjjaaDoor.E
open Go.RowKit Go.Proofs.YtkgjepmminmjjaaDoorW.PrintWords Go.Proofs.YtkgjepmminmjjaaDoorW.PrintLast Go.Proofs.YtkgjepmminmjjaaDoorW.PrintMore Go.Proofs.YtkgjepmminmjjaaDoorW.PrintShort
attribute [local go_sem] run_Add64 run_Sub64
attribute [local go_sem] max2_int min2_int max_two min_two max_three min_three max_four min_four   -- for this text's walks alone
set_option linter.unusedVariables false
set_option linter.unusedSimpArgs false
/-! ### policy_rules: function 71 -/
-- NEEDS WMaps
def policy_rules.map : Array MapEntry := #[⟨.int .i64 1, .agg #[.func (.func 76) #[] #[], .func (.func 77) #[] #[], .func (.func 78) #[] #[], .func (.func 80) #[] #[], .func (.func 82) #[] #[], .func (.func 84) #[] #[]], 0⟩, ⟨.int .i64 2, .agg #[.func (.func 85) #[] #[], .func (.func 86) #[] #[], .func (.func 87) #[] #[], .func (.func 89) #[] #[], .func (.func 91) #[] #[], .func (.func 93) #[] #[]], 1⟩]
set_option maxHeartbeats 1600000 in
set_option maxRecDepth 100000 in
theorem policy_rules.calls (w : World) : Calls Tryd.prog 71 #[] w fun e w' => ∃ g, e = .returned (.map (some g)) ∧ w.heap.size ≤ g ∧ w'.heap[g]? = some (.map policy_rules.map 2) ∧ Below w.heap.size w w' := by
  have hu82 := Tryd.underlying108
  have HB := Aside0.mk (Below.refl w.heap.size w)
  go_enter Tryd.func71, Tryd.ntmps71
  go_wp2_with (first | (with_reducible refine map_event 1 (t := 121) rfl ?_; intro g hg w1 hm hb; have GE : w.heap.size ≤ g := (by rw [hg]; exact Nat.le_refl _); clear hg) | (refine insert_event (w0 := w) (g := g) (t := 121) 1 rfl Tryd.underlying121 Tryd.underlying3 rfl rfl hm rfl hb GE ?_; intro w2 hm2 hb2) | (refine insert_event (w0 := w) (g := g) (t := 121) 2 rfl Tryd.underlying121 Tryd.underlying3 rfl rfl hm2 rfl hb2 GE ?_; intro w3 hm3 hb3))
  go_ret
  exact ⟨g, rfl, GE, hm3, hb3⟩
theorem policy_rules.look1 {w : World} {g : Nat} (hm : w.heap[g]? = some (.map policy_rules.map 2)) : (Instr.lookup 121 (.map (some g)) (.int .i64 1) true).run Tryd.prog w = .ok (.tuple #[.agg #[.func (.func 76) #[] #[], .func (.func 77) #[] #[], .func (.func 78) #[] #[], .func (.func 80) #[] #[], .func (.func 82) #[] #[], .func (.func 84) #[] #[]], .bool true]) w :=
  run_lookup_int Tryd.underlying121 Tryd.underlying3 hm 1 (i := 0) (by rfl)
theorem policy_rules.look2 {w : World} {g : Nat} (hm : w.heap[g]? = some (.map policy_rules.map 2)) : (Instr.lookup 121 (.map (some g)) (.int .i64 2) true).run Tryd.prog w = .ok (.tuple #[.agg #[.func (.func 85) #[] #[], .func (.func 86) #[] #[], .func (.func 87) #[] #[], .func (.func 89) #[] #[], .func (.func 91) #[] #[], .func (.func 93) #[] #[]], .bool true]) w :=
  run_lookup_int Tryd.underlying121 Tryd.underlying3 hm 2 (i := 1) (by rfl)
theorem policy_rules.look0 {w : World} {g : Nat} (hm : w.heap[g]? = some (.map policy_rules.map 2)) {n : Int} (h1 : n ≠ 1) (h2 : n ≠ 2) : (Instr.lookup 121 (.map (some g)) (.int .i64 n) true).run Tryd.prog w = .ok (.tuple #[.agg #[.nilFunc, .nilFunc, .nilFunc, .nilFunc, .nilFunc, .nilFunc], .bool false]) w :=
  run_lookup_int_none Tryd.underlying121 Tryd.underlying3 hm n (by kernel_rfl) (by
    have e1 : (n == 1) = false := by simpa using h1
    have e2 : (n == 2) = false := by simpa using h2
    show (match some (n == 1) with
      | some true => some (some (0, (Value.agg #[.func (.func 76) #[] #[], .func (.func 77) #[] #[], .func (.func 78) #[] #[], .func (.func 80) #[] #[], .func (.func 82) #[] #[], .func (.func 84) #[] #[]])))
      | some false => (match some (n == 2) with
        | some true => some (some (1, (Value.agg #[.func (.func 85) #[] #[], .func (.func 86) #[] #[], .func (.func 87) #[] #[], .func (.func 89) #[] #[], .func (.func 91) #[] #[], .func (.func 93) #[] #[]])))
        | some false => some none
        | none => none)
      | none => none) = some none
    rw [e1]
    show (match some (n == 2) with
        | some true => some (some (1, (Value.agg #[.func (.func 85) #[] #[], .func (.func 86) #[] #[], .func (.func 87) #[] #[], .func (.func 89) #[] #[], .func (.func 91) #[] #[], .func (.func 93) #[] #[]])))
        | some false => some none
        | none => none) = some none
    rw [e2])
theorem bc6_ {w : World} {g : Nat} {t : TypeId} {a b c d e f : Value} (B : w.heap[g]? = some (.cells #[a, b, c, d, e, f] t (0, 0))) : w.cell? ⟨g, 0, none⟩ = some a ∧ w.cell? ⟨g, 1, none⟩ = some b ∧ w.cell? ⟨g, 2, none⟩ = some c ∧ w.cell? ⟨g, 3, none⟩ = some d ∧ w.cell? ⟨g, 4, none⟩ = some e ∧ w.cell? ⟨g, 5, none⟩ = some f :=
  ⟨(blk_cell B 0).trans rfl, (blk_cell B 1).trans rfl, (blk_cell B 2).trans rfl, (blk_cell B 3).trans rfl, (blk_cell B 4).trans rfl, (blk_cell B 5).trans rfl⟩
theorem bc5_ {w : World} {g : Nat} {t : TypeId} {a b c d e : Value} (B : w.heap[g]? = some (.cells #[a, b, c, d, e] t (0, 0))) : w.cell? ⟨g, 0, none⟩ = some a ∧ w.cell? ⟨g, 1, none⟩ = some b ∧ w.cell? ⟨g, 2, none⟩ = some c ∧ w.cell? ⟨g, 3, none⟩ = some d ∧ w.cell? ⟨g, 4, none⟩ = some e :=
  ⟨(blk_cell B 0).trans rfl, (blk_cell B 1).trans rfl, (blk_cell B 2).trans rfl, (blk_cell B 3).trans rfl, (blk_cell B 4).trans rfl⟩
theorem put6_ {w : World} {g : Nat} {t : TypeId} {a b c d e f a' b' c' d' e' f' : Value} (B : w.heap[g]? = some (.cells #[a, b, c, d, e, f] t (0, 0))) :
    ((((((w.setCell ⟨g, 0, none⟩ a').setCell ⟨g, 1, none⟩ b').setCell ⟨g, 2, none⟩ c').setCell ⟨g, 3, none⟩ d').setCell ⟨g, 4, none⟩ e').setCell ⟨g, 5, none⟩ f').heap[g]? = some (.cells #[a', b', c', d', e', f'] t (0, 0)) :=
  blk_put (blk_put (blk_put (blk_put (blk_put (blk_put B 0 a' rfl) 1 b' rfl) 2 c' rfl) 3 d' rfl) 4 e' rfl) 5 f' rfl
theorem far6_ {w : World} {g g' : Nat} {t : TypeId} {cs : Array Value} {a' b' c' d' e' f' : Value} (B : w.heap[g]? = some (.cells cs t (0, 0))) (h : g ≠ g') :
    ((((((w.setCell ⟨g', 0, none⟩ a').setCell ⟨g', 1, none⟩ b').setCell ⟨g', 2, none⟩ c').setCell ⟨g', 3, none⟩ d').setCell ⟨g', 4, none⟩ e').setCell ⟨g', 5, none⟩ f').heap[g]? = some (.cells cs t (0, 0)) :=
  blk_far (blk_far (blk_far (blk_far (blk_far (blk_far B h _) h _) h _) h _) h _) h _
theorem set6_ {w W : World} {g : Nat} {a' b' c' d' e' f' : Value} (h : Below w.heap.size w W) (hg : w.heap.size ≤ g) :
    Below w.heap.size w ((((((W.setCell ⟨g, 0, none⟩ a').setCell ⟨g, 1, none⟩ b').setCell ⟨g, 2, none⟩ c').setCell ⟨g, 3, none⟩ d').setCell ⟨g, 4, none⟩ e').setCell ⟨g, 5, none⟩ f') :=
  below_set (below_set (below_set (below_set (below_set (below_set h hg) hg) hg) hg) hg) hg
end Go.Proofs.YtkgjepmminmjjaaDoor.E
