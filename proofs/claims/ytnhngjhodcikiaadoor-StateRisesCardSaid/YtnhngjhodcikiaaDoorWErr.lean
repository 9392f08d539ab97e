/- Written by hand: the program's errors, told as numbers: 0 is nil, n the n-th sentinel of the seat's list; what the package variables hold ('Sent'), and the two steps that read them. -/
import Derived.Test.YtnhngjhodcikiaaDoorProg
import Derived.Test.YtnhngjhodcikiaaDoorWShort
import Derived.LaidEql
namespace Go.Proofs.YtnhngjhodcikiaaDoorW.PrintWords
open Go.RowKit
set_option linter.unusedVariables false
set_option linter.unusedSectionVars false
/-- Where the sentinels lie, and how many of the list are known. -/
class Errs where
  at_ : Int → Addr
  lim : Int
  five : 3 ≤ lim
/-- All of the list are known. -/
class ErrsAll [Errs] : Prop where
  all : 15 ≤ Errs.lim
def errW [Errs] (n : Int) : Value := match n with
  | .ofNat 0 => .nilIface
  | n => .iface 120 (.pointer (some (Errs.at_ n)))
theorem errW_none [Errs] : errW 0 = .nilIface := rfl
theorem errW_some [Errs] : errW 1 = .iface 120 (.pointer (some (Errs.at_ 1))) := rfl
theorem errW_pos [Errs] {n : Int} (h : 1 ≤ n) : errW n = .iface 120 (.pointer (some (Errs.at_ n))) := by
  match n, h with
  | .ofNat 0, h => exact absurd h (by decide)
  | .ofNat (k + 1), _ => rfl
theorem errW_cells [Errs] (n : Int) : (errW n).oneCell' = true := by
  unfold errW
  split <;> rfl
@[go_sem] theorem errW_cells_ [Errs] (n : Int) : (errW n).cells = #[errW n] := by
  unfold errW
  split <;> rfl
@[go_sem] theorem run_store_errW [Errs] (P : Program) (w : World) (a : Addr) (m : Mode) (n : Int) : (store a (errW n) m).run P w = stored P w a (errW n) m := run_store P w a _ m (errW_cells n)
/-- The n-th sentinel's variable. -/
def eglob (n : Int) : Nat := [0, 0, 2, 1, 3, 4, 5, 14, 6, 7, 8, 9, 10, 11, 12, 13].getD n.toNat 0
/-- What the seat's tables hold (where it has some). -/
def tabL : List Int := []
def Tabs (W : World) : Prop := True
theorem Tabs.kept {w W : World} (h : Tabs w) (hc : ∀ (p : Addr) (v : Value), w.cell? p = some v → W.cell? p = some v) : Tabs W := by
  first | exact trivial | exact fun k hk => hc _ _ (h k hk)
structure Sent [Errs] (W : World) : Prop where
  cell : ∀ n : Int, 1 ≤ n → n ≤ Errs.lim → W.cell? ⟨eglob n, 0, none⟩ = some (errW n)
  row : ∀ n : Int, 1 ≤ n → n ≤ Errs.lim → ∃ c t, W.heap[(Errs.at_ n).block]? = some (.cells c t (0, 0))
  inj : ∀ n m : Int, 1 ≤ n → n ≤ Errs.lim → 1 ≤ m → m ≤ Errs.lim → Errs.at_ n = Errs.at_ m → n = m
  tabs : Tabs W
theorem Sent.kept [Errs] {w W : World} (h : Sent w) (hk : ∀ (i : Nat) (o : Obj), w.heap[i]? = some o → W.heap[i]? = some o) (hc : ∀ (p : Addr) (v : Value), w.cell? p = some v → W.cell? p = some v) : Sent W :=
  ⟨fun n h1 h2 => hc _ _ (h.cell n h1 h2), fun n h1 h2 => by obtain ⟨c, t, e⟩ := h.row n h1 h2; exact ⟨c, t, hk _ _ e⟩, h.inj, h.tabs.kept hc⟩
theorem Sent.below [Errs] {w W : World} (h : Sent w) (hb : Below w.heap.size w W) : Sent W :=
  h.kept (fun _ _ e => blk_below e hb) (fun _ _ e => pw_cell_below hb e)
theorem Sent.drew [Errs] {w : World} (h : Sent w) : Sent w.drew := ⟨h.cell, h.row, h.inj, h.tabs⟩
theorem Sent.drewN [Errs] {w : World} (h : Sent w) (n : Nat) : Sent (w.drewN n) := ⟨h.cell, h.row, h.inj, h.tabs⟩
theorem Sent.drawn [Errs] {w W : World} (h : Sent w) (hd : Drawn0 w W) : Sent W := h.below hd.below
theorem sent_cell [Errs] {W : World} (n : Int) (g : Nat) (h : Sent W) (h1 : 1 ≤ n := by decide) (h2 : n ≤ Errs.lim := by (have := Errs.five; omega)) (hg : eglob n = g := by rfl) : W.cell? ⟨g, 0, none⟩ = some (errW n) := hg ▸ h.cell n h1 h2
/-- The sentinels at the world at hand, nothing having been made. -/
theorem sd [Errs] {w W : World} (HE : Aside0 (Sent w)) (h : Sent w → Sent W := by intro h_; repeat (first | exact h_ | refine Sent.drewN ?_ _ | refine Sent.drew ?_)) : Sent W := h HE.out
section
variable {ops : Array Oper} {rest : List Oper} {o : Oper} {a : Act} {Q : Exit → Act → World → Prop} {W : World}
theorem ld_err [Errs] (n : Int) (g : Nat) (hS : Sent W) (h : wpList Tryd.prog ops Q rest (a.put o.dst (errW n)) W)
    (hgd : o.guard = none := by rfl) (ho : o.op = .load 46 (.global g) := by rfl) (h1 : 1 ≤ n := by decide) (h2 : n ≤ Errs.lim := by (have := Errs.five; omega)) (hg : eglob n = g := by rfl) : wpList Tryd.prog ops Q (o :: rest) a W := by
  have hc := sent_cell n g hS h1 h2 hg
  refine Kd.event_run hgd ?_ h
  rw [errW_pos h1] at hc ⊢
  simp only [execOp, ho]
  go_simp
theorem equal_run [Errs] {n m : Int} (hS : Sent W) (h0 : 0 ≤ n) (hn : n ≤ Errs.lim) (h1 : 1 ≤ m) (hm : m ≤ Errs.lim) : (Op.equal 46 (errW n) (errW m)).run Tryd.prog W = .ok (n == m) W := by
  have hi := Tryd.underlying46
  have hp := Tryd.underlying120
  obtain ⟨i, hinfo, hcomp⟩ := Option.map_eq_some_iff.1 (show (Tryd.prog.info? 120).map (·.comparable) = some true by kernel_rfl)
  obtain ⟨j, hte, hsz⟩ := Option.map_eq_some_iff.1 (show (Tryd.prog.info? 138).map (·.size) = some 1 by kernel_rfl)
  rw [errW_pos h1]
  by_cases e : n = 0
  · subst e
    rw [show ((0 : Int) == m) = false from beq_eq_false_iff_ne.2 (by omega)]
    have h : ∀ d : Nat, (Op.equalIn (d + 1) 46 .nilIface (.iface 120 (.pointer (some (Errs.at_ m))))).run Tryd.prog W = .ok false W := fun d => by simp [Op.equalIn, run_underlying hi]
    exact h 9999
  rw [errW_pos (show 1 ≤ n by omega)]
  by_cases e2 : n = m
  · subst e2
    rw [beq_self_eq_true]
    exact run_equalIn_iface_ptr_same W 9998 _ hi hp hinfo hcomp hte
  · rw [beq_eq_false_iff_ne.2 e2]
    obtain ⟨c1, t1, r1⟩ := hS.row n (by omega) hn
    obtain ⟨c2, t2, r2⟩ := hS.row m h1 hm
    exact run_equalIn_iface_ptr_other W 9998 hi hp hinfo hcomp hte (by omega) (fun e3 => e2 (hS.inj n m (by omega) hn h1 hm e3)) r1 r2
theorem equal_nil [Errs] {n : Int} (h0 : 0 ≤ n) : (Op.equal 46 (errW n) .nilIface).run Tryd.prog W = .ok (n == 0) W := by
  have hi : Tryd.prog.underlying 46 = some (.interface (Tryd.prog.methodsAt 46)) := by kernel_rfl
  by_cases e : n = 0
  · subst e
    exact run_equal_nil_nil _ _ hi
  · rw [errW_pos (show 1 ≤ n by omega), beq_eq_false_iff_ne.2 e]
    exact run_equal_held_nil _ _ _ _ hi
theorem bin_err [Errs] (v : Value) (b : Bool) {n : Int} (h : (Op.equal 46 (errW n) v).run Tryd.prog W = .ok b W) (hv : v = .nilIface ∨ ∃ t x, v = .iface t x) : (binOp .eql 46 (errW n) v).run Tryd.prog W = .ok (.bool b) W ∧ (binOp .neq 46 (errW n) v).run Tryd.prog W = .ok (.bool (!b)) W := by
  have hc : errW n = .nilIface ∨ ∃ t x, errW n = .iface t x := by
    unfold errW
    split
    · exact Or.inl rfl
    · exact Or.inr ⟨_, _, rfl⟩
  generalize errW n = u at *
  rcases hv with rfl | ⟨t, x, rfl⟩ <;> rcases hc with rfl | ⟨t', x', rfl⟩ <;> simp [binOp, h]
theorem guard_run [Errs] {op : BinOp} {x y : Operand} {n m : Int} (h1 : 1 ≤ m) : (eqGuard op 46 x y (errW n) (errW m)).run Tryd.prog W = .ok () W := by
  rw [errW_pos h1]
  unfold eqGuard
  cases op <;> simp
  all_goals (unfold errW; split <;> simp)
theorem guard_nil [Errs] {op : BinOp} {x : Operand} {v : Value} {n : Int} : (eqGuard op 46 x (.const v) (errW n) .nilIface).run Tryd.prog W = .ok () W := by
  unfold eqGuard
  have hc : errW n = .nilIface ∨ ∃ t x, errW n = .iface t x := by
    unfold errW
    split
    · exact Or.inl rfl
    · exact Or.inr ⟨_, _, rfl⟩
  generalize errW n = u at *
  rcases hc with rfl | ⟨t', x', rfl⟩ <;> cases op <;> simp
/-- Two errors compared, the second a sentinel. -/
theorem eq_err [Errs] (n m : Int) {x y : Operand} {t2 : TypeId} (b : Bool) (hS : Sent W) (h : wpList Tryd.prog ops Q rest (a.put o.dst (.bool b)) W)
    (hb : (n == m) = b := by rfl) (h0 : 0 ≤ n := by first | exact of_decide_eq_true (by with_reducible assumption) | decide | omega) (hn : n ≤ Errs.lim := by (have := Errs.five; omega)) (h1 : 1 ≤ m := by decide) (hm : m ≤ Errs.lim := by (have := Errs.five; omega))
    (hgd : o.guard = none := by rfl) (ho : o.op = .binOp .eql 46 x y t2 := by rfl) (hx : a.eval x = errW n := by rfl) (hy : a.eval y = errW m := by rfl) : wpList Tryd.prog ops Q (o :: rest) a W := by
  subst hb
  refine Kd.event_run hgd ?_ h
  simp only [execOp, ho, hx, hy, Sem.run_bind, guard_run h1, Result.andThen_ok, (bin_err (errW m) _ (equal_run hS h0 hn h1 hm) (Or.inr ⟨_, _, errW_pos h1⟩)).1]
  rfl
theorem ne_err [Errs] (n m : Int) {x y : Operand} {t2 : TypeId} (b : Bool) (hS : Sent W) (h : wpList Tryd.prog ops Q rest (a.put o.dst (.bool b)) W)
    (hb : (n != m) = b := by rfl) (h0 : 0 ≤ n := by first | exact of_decide_eq_true (by with_reducible assumption) | decide | omega) (hn : n ≤ Errs.lim := by (have := Errs.five; omega)) (h1 : 1 ≤ m := by decide) (hm : m ≤ Errs.lim := by (have := Errs.five; omega))
    (hgd : o.guard = none := by rfl) (ho : o.op = .binOp .neq 46 x y t2 := by rfl) (hx : a.eval x = errW n := by rfl) (hy : a.eval y = errW m := by rfl) : wpList Tryd.prog ops Q (o :: rest) a W := by
  subst hb
  refine Kd.event_run hgd ?_ h
  simp only [execOp, ho, hx, hy, Sem.run_bind, guard_run h1, Result.andThen_ok, (bin_err (errW m) _ (equal_run hS h0 hn h1 hm) (Or.inr ⟨_, _, errW_pos h1⟩)).2]
  rfl
/-- An error held against nil. -/
theorem eqn_err [Errs] (n : Int) {x : Operand} {t2 : TypeId} (b : Bool) (h : wpList Tryd.prog ops Q rest (a.put o.dst (.bool b)) W)
    (hb : (n == 0) = b := by rfl) (h0 : 0 ≤ n := by first | exact of_decide_eq_true (by with_reducible assumption) | decide | omega)
    (hgd : o.guard = none := by rfl) (ho : o.op = .binOp .eql 46 x (.const .nilIface) t2 := by rfl) (hx : a.eval x = errW n := by rfl) : wpList Tryd.prog ops Q (o :: rest) a W := by
  subst hb
  refine Kd.event_run hgd ?_ h
  simp only [execOp, ho, hx, show a.eval (.const .nilIface) = .nilIface from rfl, Sem.run_bind, guard_nil, Result.andThen_ok, (bin_err .nilIface _ (equal_nil h0) (Or.inl rfl)).1]
  rfl
theorem nen_err [Errs] (n : Int) {x : Operand} {t2 : TypeId} (b : Bool) (h : wpList Tryd.prog ops Q rest (a.put o.dst (.bool b)) W)
    (hb : (n != 0) = b := by rfl) (h0 : 0 ≤ n := by first | exact of_decide_eq_true (by with_reducible assumption) | decide | omega)
    (hgd : o.guard = none := by rfl) (ho : o.op = .binOp .neq 46 x (.const .nilIface) t2 := by rfl) (hx : a.eval x = errW n := by rfl) : wpList Tryd.prog ops Q (o :: rest) a W := by
  subst hb
  refine Kd.event_run hgd ?_ h
  simp only [execOp, ho, hx, show a.eval (.const .nilIface) = .nilIface from rfl, Sem.run_bind, guard_nil, Result.andThen_ok, (bin_err .nilIface _ (equal_nil h0) (Or.inl rfl)).2]
  rfl
theorem eqr [Errs] {W : World} {a : Act} {o : Oper} (n m : Int) {x y : Operand} {t2 : TypeId} {b : Bool} (hS : Sent W) (hb : (n == m) = b) (h0 : 0 ≤ n) (hn : n ≤ Errs.lim) (h1 : 1 ≤ m) (hm : m ≤ Errs.lim) (ho : o.op = .binOp .eql 46 x y t2 := by rfl) (hx : a.eval x = errW n := by rfl) (hy : a.eval y = errW m := by rfl) : (execOp a.eval o).run Tryd.prog W = .ok (.value (.bool b)) W := by
  subst hb
  simp only [execOp, ho, hx, hy, Sem.run_bind, guard_run h1, Result.andThen_ok, (bin_err (errW m) _ (equal_run hS h0 hn h1 hm) (Or.inr ⟨_, _, errW_pos h1⟩)).1]
  rfl
theorem ner [Errs] {W : World} {a : Act} {o : Oper} (n m : Int) {x y : Operand} {t2 : TypeId} {b : Bool} (hS : Sent W) (hb : (n != m) = b) (h0 : 0 ≤ n) (hn : n ≤ Errs.lim) (h1 : 1 ≤ m) (hm : m ≤ Errs.lim) (ho : o.op = .binOp .neq 46 x y t2 := by rfl) (hx : a.eval x = errW n := by rfl) (hy : a.eval y = errW m := by rfl) : (execOp a.eval o).run Tryd.prog W = .ok (.value (.bool b)) W := by
  subst hb
  simp only [execOp, ho, hx, hy, Sem.run_bind, guard_run h1, Result.andThen_ok, (bin_err (errW m) _ (equal_run hS h0 hn h1 hm) (Or.inr ⟨_, _, errW_pos h1⟩)).2]
  rfl
theorem eqnr [Errs] {W : World} {a : Act} {o : Oper} (n : Int) {x : Operand} {t2 : TypeId} {b : Bool} (hb : (n == 0) = b) (h0 : 0 ≤ n) (ho : o.op = .binOp .eql 46 x (.const .nilIface) t2 := by rfl) (hx : a.eval x = errW n := by rfl) : (execOp a.eval o).run Tryd.prog W = .ok (.value (.bool b)) W := by
  subst hb
  simp only [execOp, ho, hx, show a.eval (.const .nilIface) = .nilIface from rfl, Sem.run_bind, guard_nil, Result.andThen_ok, (bin_err .nilIface _ (equal_nil h0) (Or.inl rfl)).1]
  rfl
theorem nenr [Errs] {W : World} {a : Act} {o : Oper} (n : Int) {x : Operand} {t2 : TypeId} {b : Bool} (hb : (n != 0) = b) (h0 : 0 ≤ n) (ho : o.op = .binOp .neq 46 x (.const .nilIface) t2 := by rfl) (hx : a.eval x = errW n := by rfl) : (execOp a.eval o).run Tryd.prog W = .ok (.value (.bool b)) W := by
  subst hb
  simp only [execOp, ho, hx, show a.eval (.const .nilIface) = .nilIface from rfl, Sem.run_bind, guard_nil, Result.andThen_ok, (bin_err .nilIface _ (equal_nil h0) (Or.inl rfl)).2]
  rfl
theorem seq_step {P : Program} (b : Bool) (hrun : (execOp a.eval o).run P W = .ok (.value (.bool b)) W) (h : wpList P ops Q rest (a.put o.dst (.bool b)) W) (hgd : o.guard = none := by rfl) : wpList P ops Q (o :: rest) a W := Kd.event_run hgd hrun h
end
end Go.Proofs.YtnhngjhodcikiaaDoorW.PrintWords
