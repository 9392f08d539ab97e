/- Written by the session's own program hyb.py: what functions of the program compute; Lean checks it. -/
import Derived.Test.YtdoifmefhofnnaaDx0
import Derived.Test.YtdoifmefhofnnaaDx13
import Derived.Test.YtdoifmefhofnnaaWMaps
namespace Go.Proofs.Ytdoifmefhofnnaa.D
open Go.RowKit Go.Proofs.YtdoifmefhofnnaaW.PrintWords Go.Proofs.YtdoifmefhofnnaaW.PrintLast Go.Proofs.YtdoifmefhofnnaaW.PrintMore Go.Proofs.YtdoifmefhofnnaaW.PrintShort
attribute [local go_sem] run_Add64 run_Sub64
attribute [local go_sem] max2_int min2_int max_two min_two max_three min_three max_four min_four   -- for this text's walks alone
set_option linter.unusedVariables false
set_option linter.unusedSimpArgs false
/-! ### policy_rules: function 48 -/
-- NEEDS WMaps
def policy_rules.map : Array MapEntry := #[⟨.int .i64 1, .agg #[.func (.func 56) #[] #[], .func (.func 57) #[] #[], .func (.func 58) #[] #[], .func (.func 60) #[] #[], .func (.func 62) #[] #[], .func (.func 64) #[] #[]], 0⟩, ⟨.int .i64 2, .agg #[.func (.func 65) #[] #[], .func (.func 66) #[] #[], .func (.func 67) #[] #[], .func (.func 69) #[] #[], .func (.func 71) #[] #[], .func (.func 73) #[] #[]], 1⟩]
set_option maxHeartbeats 1600000 in
set_option maxRecDepth 100000 in
theorem policy_rules.calls (w : World) : Calls Try.prog 48 #[] w fun e w' => ∃ g, e = .returned (.map (some g)) ∧ w.heap.size ≤ g ∧ w'.heap[g]? = some (.map policy_rules.map 2) ∧ Below w.heap.size w w' := by
  have hu82 := Try.underlying102
  have HB := Aside0.mk (Below.refl w.heap.size w)
  go_enter Try.func48, Try.ntmps48
  go_wp2_with (first | (with_reducible refine map_event 1 (t := 119) rfl ?_; intro g hg w1 hm hb; have GE : w.heap.size ≤ g := (by rw [hg]; exact Nat.le_refl _); clear hg) | (refine insert_event (w0 := w) (g := g) (t := 119) 1 rfl Try.underlying119 Try.underlying3 rfl rfl hm rfl hb GE ?_; intro w2 hm2 hb2) | (refine insert_event (w0 := w) (g := g) (t := 119) 2 rfl Try.underlying119 Try.underlying3 rfl rfl hm2 rfl hb2 GE ?_; intro w3 hm3 hb3))
  go_ret
  exact ⟨g, rfl, GE, hm3, hb3⟩
theorem policy_rules.look1 {w : World} {g : Nat} (hm : w.heap[g]? = some (.map policy_rules.map 2)) : (Instr.lookup 119 (.map (some g)) (.int .i64 1) true).run Try.prog w = .ok (.tuple #[.agg #[.func (.func 56) #[] #[], .func (.func 57) #[] #[], .func (.func 58) #[] #[], .func (.func 60) #[] #[], .func (.func 62) #[] #[], .func (.func 64) #[] #[]], .bool true]) w :=
  run_lookup_int Try.underlying119 Try.underlying3 hm 1 (i := 0) (by rfl)
theorem policy_rules.look2 {w : World} {g : Nat} (hm : w.heap[g]? = some (.map policy_rules.map 2)) : (Instr.lookup 119 (.map (some g)) (.int .i64 2) true).run Try.prog w = .ok (.tuple #[.agg #[.func (.func 65) #[] #[], .func (.func 66) #[] #[], .func (.func 67) #[] #[], .func (.func 69) #[] #[], .func (.func 71) #[] #[], .func (.func 73) #[] #[]], .bool true]) w :=
  run_lookup_int Try.underlying119 Try.underlying3 hm 2 (i := 1) (by rfl)
theorem policy_rules.look0 {w : World} {g : Nat} (hm : w.heap[g]? = some (.map policy_rules.map 2)) {n : Int} (h1 : n ≠ 1) (h2 : n ≠ 2) : (Instr.lookup 119 (.map (some g)) (.int .i64 n) true).run Try.prog w = .ok (.tuple #[.agg #[.nilFunc, .nilFunc, .nilFunc, .nilFunc, .nilFunc, .nilFunc], .bool false]) w :=
  run_lookup_int_none Try.underlying119 Try.underlying3 hm n (by kernel_rfl) (by
    have e1 : (n == 1) = false := by simpa using h1
    have e2 : (n == 2) = false := by simpa using h2
    show (match some (n == 1) with
      | some true => some (some (0, (Value.agg #[.func (.func 56) #[] #[], .func (.func 57) #[] #[], .func (.func 58) #[] #[], .func (.func 60) #[] #[], .func (.func 62) #[] #[], .func (.func 64) #[] #[]])))
      | some false => (match some (n == 2) with
        | some true => some (some (1, (Value.agg #[.func (.func 65) #[] #[], .func (.func 66) #[] #[], .func (.func 67) #[] #[], .func (.func 69) #[] #[], .func (.func 71) #[] #[], .func (.func 73) #[] #[]])))
        | some false => some none
        | none => none)
      | none => none) = some none
    rw [e1]
    show (match some (n == 2) with
        | some true => some (some (1, (Value.agg #[.func (.func 65) #[] #[], .func (.func 66) #[] #[], .func (.func 67) #[] #[], .func (.func 69) #[] #[], .func (.func 71) #[] #[], .func (.func 73) #[] #[]])))
        | some false => some none
        | none => none) = some none
    rw [e2])
theorem bc6_ {w : World} {g : Nat} {t : TypeId} {a b c d e f : Value} (B : w.heap[g]? = some (.cells #[a, b, c, d, e, f] t (0, 0))) : w.cell? ⟨g, 0, none⟩ = some a ∧ w.cell? ⟨g, 1, none⟩ = some b ∧ w.cell? ⟨g, 2, none⟩ = some c ∧ w.cell? ⟨g, 3, none⟩ = some d ∧ w.cell? ⟨g, 4, none⟩ = some e ∧ w.cell? ⟨g, 5, none⟩ = some f :=
  ⟨(blk_cell B 0).trans rfl, (blk_cell B 1).trans rfl, (blk_cell B 2).trans rfl, (blk_cell B 3).trans rfl, (blk_cell B 4).trans rfl, (blk_cell B 5).trans rfl⟩
theorem bc5_ {w : World} {g : Nat} {t : TypeId} {a b c d e : Value} (B : w.heap[g]? = some (.cells #[a, b, c, d, e] t (0, 0))) : w.cell? ⟨g, 0, none⟩ = some a ∧ w.cell? ⟨g, 1, none⟩ = some b ∧ w.cell? ⟨g, 2, none⟩ = some c ∧ w.cell? ⟨g, 3, none⟩ = some d ∧ w.cell? ⟨g, 4, none⟩ = some e :=
  ⟨(blk_cell B 0).trans rfl, (blk_cell B 1).trans rfl, (blk_cell B 2).trans rfl, (blk_cell B 3).trans rfl, (blk_cell B 4).trans rfl⟩
theorem put6_ {w : World} {g : Nat} {t : TypeId} {a b c d e f a' b' c' d' e' f' : Value} (B : w.heap[g]? = some (.cells #[a, b, c, d, e, f] t (0, 0))) :
    ((((((w.setCell ⟨g, 0, none⟩ a').setCell ⟨g, 1, none⟩ b').setCell ⟨g, 2, none⟩ c').setCell ⟨g, 3, none⟩ d').setCell ⟨g, 4, none⟩ e').setCell ⟨g, 5, none⟩ f').heap[g]? = some (.cells #[a', b', c', d', e', f'] t (0, 0)) :=
  blk_put (blk_put (blk_put (blk_put (blk_put (blk_put B 0 a' rfl) 1 b' rfl) 2 c' rfl) 3 d' rfl) 4 e' rfl) 5 f' rfl
theorem far6_ {w : World} {g g' : Nat} {t : TypeId} {cs : Array Value} {a' b' c' d' e' f' : Value} (B : w.heap[g]? = some (.cells cs t (0, 0))) (h : g ≠ g') :
    ((((((w.setCell ⟨g', 0, none⟩ a').setCell ⟨g', 1, none⟩ b').setCell ⟨g', 2, none⟩ c').setCell ⟨g', 3, none⟩ d').setCell ⟨g', 4, none⟩ e').setCell ⟨g', 5, none⟩ f').heap[g]? = some (.cells cs t (0, 0)) :=
  blk_far (blk_far (blk_far (blk_far (blk_far (blk_far B h _) h _) h _) h _) h _) h _
theorem set6_ {w W : World} {g : Nat} {a' b' c' d' e' f' : Value} (h : Below w.heap.size w W) (hg : w.heap.size ≤ g) :
    Below w.heap.size w ((((((W.setCell ⟨g, 0, none⟩ a').setCell ⟨g, 1, none⟩ b').setCell ⟨g, 2, none⟩ c').setCell ⟨g, 3, none⟩ d').setCell ⟨g, 4, none⟩ e').setCell ⟨g, 5, none⟩ f') :=
  below_set (below_set (below_set (below_set (below_set (below_set h hg) hg) hg) hg) hg) hg
end Go.Proofs.Ytdoifmefhofnnaa.D
