/- Written by hand: maps with whole numbers as keys, made by the call: what a write of a new key and a look-up do. -/
import Derived.Test.YtnhngjhodcikiaaDoorWShort
import Derived.MapKept
import Derived.Laws.EntriesVeiled
import Derived.Deep.RegionWith
import Derived.Deep.RegionHeld3
namespace Go.Proofs.YtnhngjhodcikiaaDoorW.PrintShort
open Go.RowKit
set_option linter.unusedVariables false
section
variable {P : Program} {w : World} {t k e : TypeId} {g : Nat} {es : Array MapEntry} {clock : Nat} {ik : IntKind}
theorem run_insert_int (ht : P.underlying t = some (.map k e)) (hk : P.underlying k = some (.int ik)) (hb : w.heap[g]? = some (.map es clock)) (n : Int) (v : Value)
    (hnot : Instr.findNow (.int ik) (.int ik n) es.toList 0 = some none) :
    (Instr.mapUpdate t (.map (some g)) (.int ik n) v).run P w = .ok () { w with heap := w.heap.setIfInBounds g (.map (es.push ⟨.int ik n, v, clock⟩) (clock + 1)) } := by
  have h1 := MapKept.run_checkKey (w := w) hk (k := .int ik n) rfl false 9999
  have h2 := MapKept.run_findKey (w := w) hk hnot
  simp [Instr.mapUpdate, run_underlying ht, MapKept.run_getObj_map hb, h1, h2, MapKept.run_setObj_map _ hb, Result.andThen]
theorem run_lookup_int (ht : P.underlying t = some (.map k e)) (hk : P.underlying k = some (.int ik)) (hb : w.heap[g]? = some (.map es clock)) (n : Int) {i : Nat} {v : Value}
    (hat : Instr.findNow (.int ik) (.int ik n) es.toList 0 = some (some (i, v))) :
    (Instr.lookup t (.map (some g)) (.int ik n) true).run P w = .ok (.tuple #[v, .bool true]) w := by
  have h1 := fun b => MapKept.run_checkKey (w := w) hk (k := .int ik n) rfl b 9999
  have h2 := MapKept.run_findKey (w := w) hk hat
  simp [Instr.lookup, run_underlying ht, MapKept.run_getObj_map hb, h1, h2, Result.andThen]
theorem run_lookup_int_none (ht : P.underlying t = some (.map k e)) (hk : P.underlying k = some (.int ik)) (hb : w.heap[g]? = some (.map es clock)) (n : Int) {z : Value}
    (hz : (zeroValue e).run P w = .ok z w) (hat : Instr.findNow (.int ik) (.int ik n) es.toList 0 = some none) :
    (Instr.lookup t (.map (some g)) (.int ik n) true).run P w = .ok (.tuple #[z, .bool false]) w := by
  have h1 := fun b => MapKept.run_checkKey (w := w) hk (k := .int ik n) rfl b 9999
  have h2 := MapKept.run_findKey (w := w) hk hat
  simp [Instr.lookup, run_underlying ht, MapKept.run_getObj_map hb, h1, h2, hz, Result.andThen]
/-- A block of the call's own is written anew: nothing below the base changes. -/
theorem below_block {w0 W : World} (h : Below w0.heap.size w0 W) (hg : w0.heap.size ≤ g) (o : Obj) : Below w0.heap.size w0 { W with heap := W.heap.setIfInBounds g o } :=
  ⟨h.os, h.tape, h.output, by simpa using h.size, fun i hi => by
    have hne : g ≠ i := by omega
    show (W.heap.setIfInBounds g o)[i]? = _
    rw [Array.getElem?_setIfInBounds_ne hne]
    exact h.block i hi⟩
end
section
variable {P : Program} {ops : Array Oper} {rest : List Oper} {o : Oper} {a : Act} {Q : Exit → Act → World → Prop} {W : World}
open Go.Proofs.YtnhngjhodcikiaaDoorW.PrintWords
/-- A map is made. -/
theorem map_event (N : Tmp) {t : TypeId} (ho : o.op = .makeMap t none) (h : ∀ g, g = W.heap.size → ∀ w1, w1.heap[g]? = some (.map #[] 0) → Below W.heap.size W w1 → wpList P ops Q rest (a.put o.dst (.map (some g))) w1)
    (hgd : o.guard = none := by rfl) (hd : o.dst = some N := by rfl) : wpList P ops Q (o :: rest) a W := by
  have hrun : (execOp a.eval o).run P W = .ok (.value (.map (some W.heap.size))) (W.alloc (.map #[] 0)) := by
    unfold execOp
    simp [ho, run_makeMap, Result.andThen]
  exact Kd.event_run hgd hrun (h _ rfl _ (blk_new W _) (below_alloc (Below.refl _ _) _))
/-- A new key is written into a map of the call's own. -/
theorem insert_event {w0 : World} {t k e : TypeId} {g : Nat} {es : Array MapEntry} {clock : Nat} {ik : IntKind} {m q x : Operand} (n : Int) (ho : o.op = .insert t m q x)
    (ht : P.underlying t = some (.map k e)) (hk : P.underlying k = some (.int ik)) (hm : a.eval m = .map (some g)) (hq : a.eval q = .int ik n)
    (hb : W.heap[g]? = some (.map es clock)) (hnot : Instr.findNow (.int ik) (.int ik n) es.toList 0 = some none) (HB : Below w0.heap.size w0 W) (hg : w0.heap.size ≤ g)
    (h : ∀ w', w'.heap[g]? = some (.map (es.push ⟨.int ik n, a.eval x, clock⟩) (clock + 1)) → Below w0.heap.size w0 w' → wpList P ops Q rest a w')
    (hgd : o.guard = none := by rfl) (hN : o.dst = none := by rfl) : wpList P ops Q (o :: rest) a W := by
  have hrun : (execOp a.eval o).run P W = .ok .skip { W with heap := W.heap.setIfInBounds g (.map (es.push ⟨.int ik n, a.eval x, clock⟩) (clock + 1)) } := by
    unfold execOp
    simp [ho, hm, hq, run_insert_int ht hk hb n (a.eval x) hnot, Result.andThen]
  refine wpList_plain hgd fun K hK => ?_
  unfold Oper.wp
  rw [hrun]
  show K (a.put o.dst undef) _
  rw [hN]
  refine hK _ _ (h _ ?_ (below_block HB hg _))
  show (W.heap.setIfInBounds g _)[g]? = _
  have := blk_lt hb
  simp [this]
end
end Go.Proofs.YtnhngjhodcikiaaDoorW.PrintShort
