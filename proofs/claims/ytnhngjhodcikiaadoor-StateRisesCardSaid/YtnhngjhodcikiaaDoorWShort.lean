/- Written by hand: short forms of steps that the walks take over and over; each leaves to a tactic what the walk would spell out. -/
import Derived.Deep.MidRow
import Derived.Test.YtnhngjhodcikiaaDoorWAll
namespace Go.Proofs.YtnhngjhodcikiaaDoorW.PrintShort
open Go.RowKit Go.Proofs.YtnhngjhodcikiaaDoorW.PrintWords Go.Proofs.YtnhngjhodcikiaaDoorW.PrintLast Go.Proofs.YtnhngjhodcikiaaDoorW.PrintMore
set_option linter.unusedVariables false
section
variable {w W0 W w0 w1 w2 : World} {g g' : Nat} {o o0 : Obj}
/-- Nothing below the base has changed, through the steps since HB. -/
theorem bw (HB : Aside0 (Below w.heap.size w W0))
    (h : Below w.heap.size w W0 → Below w.heap.size w W := by intro h_; repeat (first | (with_reducible first | exact h_ | apply below_alloc | apply pw_below_drewN | apply below_drew1 | refine below_set ?_ (Aside0.out (by assumption))) | exact h_)) :
    Below w.heap.size w W := h HB.out
theorem bs (HB : Aside0 (Below w.heap.size w W0)) (k : Below W.heap.size W w2)
    (h : Below w.heap.size w W0 → Below w.heap.size w W := by intro h_; repeat (first | (with_reducible first | exact h_ | apply below_alloc | apply pw_below_drewN | apply below_drew1 | refine below_set ?_ (Aside0.out (by assumption))) | exact h_)) :
    Aside0 (Below w.heap.size w w2) := ⟨below_step (h HB.out) k⟩
theorem sz (HB : Aside0 (Below w.heap.size w W0)) (hg : g = W.heap.size)
    (h : Below w.heap.size w W0 → Below w.heap.size w W := by intro h_; repeat (first | (with_reducible first | exact h_ | apply below_alloc | apply pw_below_drewN | apply below_drew1 | refine below_set ?_ (Aside0.out (by assumption))) | exact h_)) :
    Aside0 (w.heap.size ≤ g) := ⟨by rw [hg]; exact below_size (h HB.out)⟩
/-- A block reads so still, through the steps since B. -/
theorem bk (B : Aside0 (w0.heap[g]? = some o0))
    (h : w0.heap[g]? = some o0 → W.heap[g]? = some o := by intro h_; repeat (first | (with_reducible first | exact h_ | refine blk_drewN ?_ _ | refine blk_drew ?_ | refine blk_alloc ?_ _) | refine blk_far ?_ (Aside0.out (by assumption)) _ | apply blk_put | rfl | (simp only [Int.add_zero, Int.zero_add]; rfl))) :
    W.heap[g]? = some o := h B.out
theorem bb (B : Aside0 (w0.heap[g]? = some o0)) (hb : Below W.heap.size W w1)
    (h : w0.heap[g]? = some o0 → W.heap[g]? = some o0 := by intro h_; repeat (first | (with_reducible first | exact h_ | refine blk_drewN ?_ _ | refine blk_drew ?_ | refine blk_alloc ?_ _) | refine blk_far ?_ (Aside0.out (by assumption)) _ | apply blk_put | rfl | (simp only [Int.add_zero, Int.zero_add]; rfl))) :
    Aside0 (w1.heap[g]? = some o0) := ⟨blk_below (h B.out) hb⟩
theorem bbp (o : Obj) (B : Aside0 (w0.heap[g]? = some o0)) (hb : Below W.heap.size W w1)
    (h : w0.heap[g]? = some o0 → W.heap[g]? = some o := by intro h_; repeat (first | (with_reducible first | exact h_ | refine blk_drewN ?_ _ | refine blk_drew ?_ | refine blk_alloc ?_ _) | refine blk_far ?_ (Aside0.out (by assumption)) _ | apply blk_put | rfl | (simp only [Int.add_zero, Int.zero_add]; rfl))) :
    Aside0 (w1.heap[g]? = some o) := ⟨blk_below (h B.out) hb⟩
theorem nl (B : Aside0 (w0.heap[g]? = some o0)) (hg : g' = W.heap.size)
    (h : w0.heap[g]? = some o0 → W.heap[g]? = some o0 := by intro h_; repeat (first | (with_reducible first | exact h_ | refine blk_drewN ?_ _ | refine blk_drew ?_ | refine blk_alloc ?_ _) | refine blk_far ?_ (Aside0.out (by assumption)) _ | apply blk_put | rfl | (simp only [Int.add_zero, Int.zero_add]; rfl))) :
    Aside0 (g ≠ g') := ⟨by rw [hg]; exact Nat.ne_of_lt (blk_lt (h B.out))⟩
theorem nlp (o : Obj) (B : Aside0 (w0.heap[g]? = some o0)) (hg : g' = W.heap.size)
    (h : w0.heap[g]? = some o0 → W.heap[g]? = some o := by intro h_; repeat (first | (with_reducible first | exact h_ | refine blk_drewN ?_ _ | refine blk_drew ?_ | refine blk_alloc ?_ _) | refine blk_far ?_ (Aside0.out (by assumption)) _ | apply blk_put | rfl | (simp only [Int.add_zero, Int.zero_add]; rfl))) :
    Aside0 (g ≠ g') := ⟨by rw [hg]; exact Nat.ne_of_lt (blk_lt (h B.out))⟩
theorem nr (B : Aside0 (w0.heap[g]? = some o0)) (hg : g' = W.heap.size)
    (h : w0.heap[g]? = some o0 → W.heap[g]? = some o0 := by intro h_; repeat (first | (with_reducible first | exact h_ | refine blk_drewN ?_ _ | refine blk_drew ?_ | refine blk_alloc ?_ _) | refine blk_far ?_ (Aside0.out (by assumption)) _ | apply blk_put | rfl | (simp only [Int.add_zero, Int.zero_add]; rfl))) :
    Aside0 (g' ≠ g) := ⟨by rw [hg]; exact Nat.ne_of_gt (blk_lt (h B.out))⟩
theorem nrp (o : Obj) (B : Aside0 (w0.heap[g]? = some o0)) (hg : g' = W.heap.size)
    (h : w0.heap[g]? = some o0 → W.heap[g]? = some o := by intro h_; repeat (first | (with_reducible first | exact h_ | refine blk_drewN ?_ _ | refine blk_drew ?_ | refine blk_alloc ?_ _) | refine blk_far ?_ (Aside0.out (by assumption)) _ | apply blk_put | rfl | (simp only [Int.add_zero, Int.zero_add]; rfl))) :
    Aside0 (g' ≠ g) := ⟨by rw [hg]; exact Nat.ne_of_gt (blk_lt (h B.out))⟩
/-- A cell reads so still, orders having been drawn. -/
theorem pcell_at {n : Nat} {p : Addr} {v : Value} (h : w.drewN n = w1) (c : w.cell? p = some v) : w1.cell? p = some v := h ▸ c
theorem pfrozen_at {n : Nat} {p : Addr} (h : w.drewN n = w1) (c : w.frozen? p = false) : w1.frozen? p = false := h ▸ c
/-- What is returned. -/
theorem re {p : Prop} (h : p := by first | rfl | (simp [errW_none, errW_some] <;> rfl) | (simp [*, errW_none, errW_some] <;> rfl)) : p := h
theorem rs {p : Prop} (h : p := by first | rfl | (simp; done) | (simp [*]; done) | (simp [*, Int.tdiv_eq_ediv_of_nonneg]; done)) : p := h
end
section
variable {P : Program} {ops : Array Oper} {rest : List Oper} {o oi : Oper} {a : Act} {Q : Exit → Act → World → Prop}
theorem bx {W : World} (N : Tmp) (cs : Array Value) (t : TypeId)
    (h : ∀ g, g = W.heap.size → ∀ w1, w1.heap[g]? = some (.cells cs t (0, 0)) → Below W.heap.size W w1 → wpList P ops Q rest (a.put o.dst (.pointer (some ⟨g, 0, none⟩))) w1)
    (hgd : o.guard = none := by rfl) (hd : o.dst = some N := by rfl)
    (hrun : (execOp a.eval o).run P W = .ok (.value (.pointer (some ⟨W.heap.size, 0, none⟩))) (W.alloc (.cells cs t (0, 0))) := by first | (go_simp; done) | (go_simp; rfl)) :
    wpList P ops Q (o :: rest) a W := box_event hgd hd hrun h
theorem gl {w : World} (N : Option Tmp) {f : FuncId} {fn : Func} {as : Array Operand} {ts : Array TypeId} (hf : P.funcs[f]? = some fn) (args : Array Value)
    (h : Calls P f args w fun e w' => ∃ v, e = .returned v ∧ wpList P ops Q rest (a.put N v) w')
    (hd : oi.dst = N := by rfl) (hg : oi.guard = none := by rfl) (hname : (fn.name == "runtime.NumGoroutine") = false := by kernel_rfl) (hb : fn.body.isSome = true := by rfl)
    (hop : oi.op = .call { callee := .value (.func f), args := as, argTypes := ts } := by rfl)
    (hargs : as.map a.eval = args := by (try simp only [List.map_toArray, List.map_cons, List.map_nil]); first | done | rfl | (simp only [List.length_drop, List.length_take]; rfl)) :
    wpList P ops Q (oi :: rest) a w := goesL_ N hd hg hf hname hb args hop hargs h
theorem ge {N : Option Tmp} {w : World} {K : Act → World → Prop} {f : FuncId} {fn : Func} {as : Array Operand} {ts : Array TypeId} (hf : P.funcs[f]? = some fn) (args : Array Value)
    (h : Calls P f args w fun e w' => ∃ v, e = .returned v ∧ K (a.put N v) w')
    (hname : (fn.name == "runtime.NumGoroutine") = false := by kernel_rfl) (hb : fn.body.isSome = true := by rfl)
    (hw : Region.wanted oi (yielded ops a.tmps) = true := by rfl) (hN : oi.dst = N := by rfl)
    (hop : oi.op = .call { callee := .value (.func f), args := as, argTypes := ts } := by rfl)
    (hargs : as.map a.eval = args := by (try simp only [List.map_toArray, List.map_cons, List.map_nil]); first | done | rfl | (simp only [List.length_drop, List.length_take]; rfl)) :
    if Region.wanted oi (yielded ops a.tmps) = true then Oper.wp P oi a w K Q else K (a.put N undef) w := goes_ hf hname hb args hw hN hop hargs h
/-- A call by its contract, in a plain region. -/
theorem gm {w : World} {v : Value} (N : Option Tmp) {f : FuncId} {fn : Func} {as : Array Operand} {ts : Array TypeId} (hf : P.funcs[f]? = some fn) (args : Array Value)
    (c : Calls P f args w fun e w' => e = .returned v ∧ Below w.heap.size w w')
    (h : ∀ w', Below w.heap.size w w' → wpList P ops Q rest (a.put N v) w')
    (hd : oi.dst = N := by rfl) (hg : oi.guard = none := by rfl) (hname : (fn.name == "runtime.NumGoroutine") = false := by kernel_rfl) (hb : fn.body.isSome = true := by rfl)
    (hop : oi.op = .call { callee := .value (.func f), args := as, argTypes := ts } := by rfl)
    (hargs : as.map a.eval = args := by (try simp only [List.map_toArray, List.map_cons, List.map_nil]); first | done | rfl | (simp only [List.length_drop, List.length_take]; rfl)) :
    wpList P ops Q (oi :: rest) a w := goesL_ N hd hg hf hname hb args hop hargs (c.mono fun e w' he => ⟨v, he.1, h w' he.2⟩)
end
section
variable {w : World} {g : Nat} {t : TypeId} {a b c d e f i : Value}
/-- What the cells of a block read, and that none is frozen. -/
theorem bc1 (B : Aside0 (w.heap[g]? = some (.cells #[a] t (0, 0)))) : w.cell? ⟨g, 0, none⟩ = some a ∧ w.frozen? ⟨g, 0, none⟩ = false := ⟨(blk_cell B.out 0).trans rfl, blk_frozen B.out 0⟩
theorem bc2 (B : Aside0 (w.heap[g]? = some (.cells #[a, b] t (0, 0)))) : w.cell? ⟨g, 0, none⟩ = some a ∧ w.cell? ⟨g, 1, none⟩ = some b ∧ w.frozen? ⟨g, 0, none⟩ = false ∧ w.frozen? ⟨g, 1, none⟩ = false := ⟨(blk_cell B.out 0).trans rfl, (blk_cell B.out 1).trans rfl, blk_frozen B.out 0, blk_frozen B.out 1⟩
theorem bc3 (B : Aside0 (w.heap[g]? = some (.cells #[a, b, c] t (0, 0)))) : w.cell? ⟨g, 0, none⟩ = some a ∧ w.cell? ⟨g, 1, none⟩ = some b ∧ w.cell? ⟨g, 2, none⟩ = some c ∧ w.frozen? ⟨g, 0, none⟩ = false ∧ w.frozen? ⟨g, 1, none⟩ = false ∧ w.frozen? ⟨g, 2, none⟩ = false := ⟨(blk_cell B.out 0).trans rfl, (blk_cell B.out 1).trans rfl, (blk_cell B.out 2).trans rfl, blk_frozen B.out 0, blk_frozen B.out 1, blk_frozen B.out 2⟩
theorem bc4 (B : Aside0 (w.heap[g]? = some (.cells #[a, b, c, d] t (0, 0)))) : w.cell? ⟨g, 0, none⟩ = some a ∧ w.cell? ⟨g, 1, none⟩ = some b ∧ w.cell? ⟨g, 2, none⟩ = some c ∧ w.cell? ⟨g, 3, none⟩ = some d ∧ w.frozen? ⟨g, 0, none⟩ = false ∧ w.frozen? ⟨g, 1, none⟩ = false ∧ w.frozen? ⟨g, 2, none⟩ = false ∧ w.frozen? ⟨g, 3, none⟩ = false := ⟨(blk_cell B.out 0).trans rfl, (blk_cell B.out 1).trans rfl, (blk_cell B.out 2).trans rfl, (blk_cell B.out 3).trans rfl, blk_frozen B.out 0, blk_frozen B.out 1, blk_frozen B.out 2, blk_frozen B.out 3⟩
theorem bc5 (B : Aside0 (w.heap[g]? = some (.cells #[a, b, c, d, e] t (0, 0)))) : w.cell? ⟨g, 0, none⟩ = some a ∧ w.cell? ⟨g, 1, none⟩ = some b ∧ w.cell? ⟨g, 2, none⟩ = some c ∧ w.cell? ⟨g, 3, none⟩ = some d ∧ w.cell? ⟨g, 4, none⟩ = some e ∧ w.frozen? ⟨g, 0, none⟩ = false ∧ w.frozen? ⟨g, 1, none⟩ = false ∧ w.frozen? ⟨g, 2, none⟩ = false ∧ w.frozen? ⟨g, 3, none⟩ = false ∧ w.frozen? ⟨g, 4, none⟩ = false := ⟨(blk_cell B.out 0).trans rfl, (blk_cell B.out 1).trans rfl, (blk_cell B.out 2).trans rfl, (blk_cell B.out 3).trans rfl, (blk_cell B.out 4).trans rfl, blk_frozen B.out 0, blk_frozen B.out 1, blk_frozen B.out 2, blk_frozen B.out 3, blk_frozen B.out 4⟩
theorem bc11 {a0 a1 a2 a3 a4 a5 a6 a7 a8 a9 a10 : Value} (B : Aside0 (w.heap[g]? = some (.cells #[a0, a1, a2, a3, a4, a5, a6, a7, a8, a9, a10] t (0, 0)))) : w.cell? ⟨g, 0, none⟩ = some a0 ∧ w.cell? ⟨g, 1, none⟩ = some a1 ∧ w.cell? ⟨g, 2, none⟩ = some a2 ∧ w.cell? ⟨g, 3, none⟩ = some a3 ∧ w.cell? ⟨g, 4, none⟩ = some a4 ∧ w.cell? ⟨g, 5, none⟩ = some a5 ∧ w.cell? ⟨g, 6, none⟩ = some a6 ∧ w.cell? ⟨g, 7, none⟩ = some a7 ∧ w.cell? ⟨g, 8, none⟩ = some a8 ∧ w.cell? ⟨g, 9, none⟩ = some a9 ∧ w.cell? ⟨g, 10, none⟩ = some a10 ∧ w.frozen? ⟨g, 0, none⟩ = false ∧ w.frozen? ⟨g, 1, none⟩ = false ∧ w.frozen? ⟨g, 2, none⟩ = false ∧ w.frozen? ⟨g, 3, none⟩ = false ∧ w.frozen? ⟨g, 4, none⟩ = false ∧ w.frozen? ⟨g, 5, none⟩ = false ∧ w.frozen? ⟨g, 6, none⟩ = false ∧ w.frozen? ⟨g, 7, none⟩ = false ∧ w.frozen? ⟨g, 8, none⟩ = false ∧ w.frozen? ⟨g, 9, none⟩ = false ∧ w.frozen? ⟨g, 10, none⟩ = false := ⟨(blk_cell B.out 0).trans rfl, (blk_cell B.out 1).trans rfl, (blk_cell B.out 2).trans rfl, (blk_cell B.out 3).trans rfl, (blk_cell B.out 4).trans rfl, (blk_cell B.out 5).trans rfl, (blk_cell B.out 6).trans rfl, (blk_cell B.out 7).trans rfl, (blk_cell B.out 8).trans rfl, (blk_cell B.out 9).trans rfl, (blk_cell B.out 10).trans rfl, blk_frozen B.out 0, blk_frozen B.out 1, blk_frozen B.out 2, blk_frozen B.out 3, blk_frozen B.out 4, blk_frozen B.out 5, blk_frozen B.out 6, blk_frozen B.out 7, blk_frozen B.out 8, blk_frozen B.out 9, blk_frozen B.out 10⟩
end
section
variable {α : Type} {d : Kd α} {e base : Nat} {ok : Nat → Prop} {v : Value} {xs : List α} {W0 W : World} {A : Option Addr} {n : Nat}
/-- A row reads so still, behind what was allocated and drawn. -/
theorem ro (H : Aside0 (Kd.R d e W0 base ok v xs)) (h : Kd.R d e W0 base ok v xs → Kd.R d e W base ok v xs := by intro h_; (with_reducible repeat (first | apply Kd.R_alloc | apply Kd.R_drewN | apply Kd.R_drew)); exact h_) : Kd.R d e W base ok v xs := h H.out
theorem qo (H : Aside0 (Kd.Q d e W0 base ok v xs)) (h : Kd.Q d e W0 base ok v xs → Kd.Q d e W base ok v xs := by intro h_; (with_reducible repeat (first | apply Kd.Q_alloc | apply Kd.Q_drewN | apply Kd.Q_drew)); exact h_) : Kd.Q d e W base ok v xs := h H.out
theorem so (H : Aside0 (Kd.S d e W0 base ok v xs)) (h : Kd.S d e W0 base ok v xs → Kd.S d e W base ok v xs := by intro h_; (with_reducible repeat (first | apply Kd.S_alloc | apply Kd.S_drewN | apply Kd.S_drew)); exact h_) : Kd.S d e W base ok v xs := h H.out
theorem vo (H : Aside0 (Kd.V d e W0 base ok v xs)) (h : Kd.V d e W0 base ok v xs → Kd.V d e W base ok v xs := by intro h_; (with_reducible repeat (first | apply Kd.V_alloc | apply Kd.V_drewN | apply Kd.V_drew)); exact h_) : Kd.V d e W base ok v xs := h H.out
theorem no (H : Aside0 (Kd.N d e W0 base ok v xs)) (h : Kd.N d e W0 base ok v xs → Kd.N d e W base ok v xs := by intro h_; (with_reducible repeat (first | apply Kd.N_alloc | apply Kd.N_drewN | apply Kd.N_drew)); exact h_) : Kd.N d e W base ok v xs := h H.out
theorem co (h0 : Kd.C d W0 A n xs) (h : Kd.C d W0 A n xs → Kd.C d W A n xs := by intro h_; repeat (first | exact h_ | (with_reducible refine Kd.C_alloc ?_ _) | (with_reducible refine Kd.C_drewN ?_ _) | (with_reducible refine Kd.C_drew ?_))) : Kd.C d W A n xs := h h0
end
/-- Nine stores, one behind the other, into one block. -/
theorem put9_ {w : World} {g : Nat} {t : TypeId} {a0 a1 a2 a3 a4 a5 a6 a7 a8 b0 b1 b2 b3 b4 b5 b6 b7 b8 : Value} (B : w.heap[g]? = some (.cells #[a0, a1, a2, a3, a4, a5, a6, a7, a8] t (0, 0))) :
    (((((((((w.setCell ⟨g, 0, none⟩ b0).setCell ⟨g, 1, none⟩ b1).setCell ⟨g, 2, none⟩ b2).setCell ⟨g, 3, none⟩ b3).setCell ⟨g, 4, none⟩ b4).setCell ⟨g, 5, none⟩ b5).setCell ⟨g, 6, none⟩ b6).setCell ⟨g, 7, none⟩ b7).setCell ⟨g, 8, none⟩ b8).heap[g]? = some (.cells #[b0, b1, b2, b3, b4, b5, b6, b7, b8] t (0, 0)) := by
  have e : (((((((((#[a0, a1, a2, a3, a4, a5, a6, a7, a8].setIfInBounds 0 b0).setIfInBounds 1 b1).setIfInBounds 2 b2).setIfInBounds 3 b3).setIfInBounds 4 b4).setIfInBounds 5 b5).setIfInBounds 6 b6).setIfInBounds 7 b7).setIfInBounds 8 b8) = #[b0, b1, b2, b3, b4, b5, b6, b7, b8] := by simp
  rw [← e]
  exact blk_set (blk_set (blk_set (blk_set (blk_set (blk_set (blk_set (blk_set (blk_set B 0 b0) 1 b1) 2 b2) 3 b3) 4 b4) 5 b5) 6 b6) 7 b7) 8 b8
theorem far9_ {w : World} {g g' : Nat} {t : TypeId} {cs : Array Value} {b0 b1 b2 b3 b4 b5 b6 b7 b8 : Value} (B : w.heap[g]? = some (.cells cs t (0, 0))) (h : g ≠ g') :
    (((((((((w.setCell ⟨g', 0, none⟩ b0).setCell ⟨g', 1, none⟩ b1).setCell ⟨g', 2, none⟩ b2).setCell ⟨g', 3, none⟩ b3).setCell ⟨g', 4, none⟩ b4).setCell ⟨g', 5, none⟩ b5).setCell ⟨g', 6, none⟩ b6).setCell ⟨g', 7, none⟩ b7).setCell ⟨g', 8, none⟩ b8).heap[g]? = some (.cells cs t (0, 0)) :=
  blk_far (blk_far (blk_far (blk_far (blk_far (blk_far (blk_far (blk_far (blk_far B h _) h _) h _) h _) h _) h _) h _) h _) h _
/-- A store of a row of any length into a block that is known. -/
theorem run_row_ {P : Program} {oi : Oper} {a : Act} {w : World} {g : Nat} {t : TypeId} {os : Array Value} (ty : TypeId) (x y : Operand) (cells : Array Value) (B : w.heap[g]? = some (.cells os t (0, 0))) (ho : oi.op = .store ty x y) (hx : a.eval x = .pointer (some ⟨g, 0, none⟩)) (hy : a.eval y = .agg cells) (hs : cells.size ≤ os.size) (hi : (P.info? ty).map (·.size) = some cells.size) (h1 : cells.all (·.oneCell') = true) : (execOp a.eval oi).run P w = .ok .skip (w.setCells g 0 cells.toList) := by
  unfold execOp
  simp only [ho, hx, hy, Instr.storeAt, Instr.sureAddr, Sem.run_bind, Sem.run_pure, Result.andThen_ok, run_storeVar_mid w g 0 ty cells (fun j hj => ⟨by rw [blk_cell B]; simp; omega, blk_frozen B _⟩) hi h1]
/-! A row of steps of a region that draws its order: each is an operation that comes up by itself (0: it yields in every world; 1: it reads what S tells; 2: it is not carried out). -/
section
variable {P : Program} {ops : Array Oper} {Q : Exit → Act → World → Prop} {md : Region.Mode} {S : World → Prop} {ds : List Nat} {T : Bool × List (List Nat × List Nat)} {B : List Nat}
inductive Chain (P : Program) (ops : Array Oper) (S : World → Prop) (C : Act → Prop) : List (Nat × Nat × Option Tmp) → Act → Prop
  | nil {a : Act} (h : C a) : Chain P ops S C [] a
  | pur {i : Nat} {N : Option Tmp} {L : List (Nat × Nat × Option Tmp)} {oi : Oper} {v : Value} {a : Act} (hi : ops[i]? = some oi) (hN : oi.dst = N) (hy : Yields P ops oi v a) (h : Chain P ops S C L (a.put N v)) : Chain P ops S C ((i, 0, N) :: L) a
  | tak {i : Nat} {N : Option Tmp} {L : List (Nat × Nat × Option Tmp)} {oi : Oper} {v : Value} {a : Act} (hi : ops[i]? = some oi) (hN : oi.dst = N) (hy : YieldsIf P ops S oi v a) (h : Chain P ops S C L (a.put N v)) : Chain P ops S C ((i, 1, N) :: L) a
  | off {i : Nat} {N : Option Tmp} {L : List (Nat × Nat × Option Tmp)} {oi : Oper} {a : Act} (hi : ops[i]? = some oi) (hN : oi.dst = N) (hw : Region.wanted oi (yielded ops a.tmps) = false) (h : Chain P ops S C L (a.put N undef)) : Chain P ops S C ((i, 2, N) :: L) a
def chainT (T : Bool × List (List Nat × List Nat)) (B : List Nat) (ds : List Nat) : List Bool → List Bool → List (Nat × Nat × Option Tmp) → Bool
  | l, l', [] => l == l'
  | l, l', (i, k, _) :: L => (if k == 1 then takeW T B ds l (l.set i true) i else anyT T l (l.set i true) i) && chainT T B ds (l.set i true) l' L
theorem hq_ (hQ : ∀ c (a : Act) (N : Tmp) (v : Value) w, Q (.panic c) (a.put (some N) v) w → Q (.panic c) a w) (N : Option Tmp) (v : Value) : ∀ c (a : Act) w, Q (.panic c) (a.put N v) w → Q (.panic c) a w := fun c a w h => by
  cases N with
  | none => exact h
  | some N => exact hQ c a N v w h
theorem chain_ {fuel m : Nat} {l : Array Bool} {a : Act} {w : World} (L : List (Nat × Nat × Option Tmp)) (l' : Array Bool) (hT : rtab md ops = T) (hB : waitsOk T.2 B = true)
    (hc : chainT T B ds l.toList l'.toList L = true) (hQ : ∀ c (a : Act) (N : Tmp) (v : Value) w, Q (.panic c) (a.put (some N) v) w → Q (.panic c) a w) (hS : (∀ x ∈ L, x.2.1 ≠ 1) ∨ S w) (hf : m = fuel + L.length)
    (h : Chain P ops S (fun a' => wpAnyLast P md ops Q S ds fuel l' a' w) L a) : wpAnyLast P md ops Q S ds m l a w := by
  induction h generalizing l m with
  | nil h =>
    simp only [chainT, beq_iff_eq] at hc
    have e : l = l' := Array.ext' hc
    subst e hf
    exact h
  | @pur i N L oi v a hi hN hy h ih =>
    simp only [chainT, Bool.and_eq_true, if_neg (show ¬ ((0 : Nat) == 1) = true by decide)] at hc
    subst hf hN
    have e : (l.setIfInBounds i true).toList = l.toList.set i true := Array.toList_setIfInBounds ..
    exact pure_ (l.setIfInBounds i true) hi rfl (any_of hT (by rw [e]; exact hc.1)) (hq_ hQ _ _) hy rfl
      (ih (by rw [e]; exact hc.2) (hS.imp (fun h x hx => h x (List.mem_cons_of_mem _ hx)) id) rfl)
  | @tak i N L oi v a hi hN hy h ih =>
    simp only [chainT, Bool.and_eq_true, if_pos (show ((1 : Nat) == 1) = true by decide)] at hc
    subst hf hN
    have e : (l.setIfInBounds i true).toList = l.toList.set i true := Array.toList_setIfInBounds ..
    have hs : S w := by
      rcases hS with h | h
      · exact absurd rfl (h _ (List.mem_cons_self ..))
      · exact h
    exact take_ (l.setIfInBounds i true) hi rfl (take_ofW hT hB (by rw [e]; exact hc.1)) (hq_ hQ _ _) hy hs rfl
      (ih (by rw [e]; exact hc.2) (Or.inr hs) rfl)
  | @off i N L oi a hi hN hw h ih =>
    simp only [chainT, Bool.and_eq_true, if_neg (show ¬ ((2 : Nat) == 1) = true by decide)] at hc
    subst hf hN
    have e : (l.setIfInBounds i true).toList = l.toList.set i true := Array.toList_setIfInBounds ..
    exact pure_ (l.setIfInBounds i true) hi rfl (any_of hT (by rw [e]; exact hc.1)) (hq_ hQ _ _) (Or.inr ⟨hw, rfl⟩) rfl
      (ih (by rw [e]; exact hc.2) (hS.imp (fun h x hx => h x (List.mem_cons_of_mem _ hx)) id) rfl)
variable {C : Act → Prop} {L : List (Nat × Nat × Option Tmp)} {i : Nat} {N : Option Tmp} {oi : Oper} {v : Value} {a a' : Act}
theorem lkP (h : Chain P ops S C L a') (hi : ops[i]? = some oi := by exact rfl) (hN : oi.dst = N := by exact rfl) (hw : Region.wanted oi (yielded ops a.tmps) = true := by rfl)
    (hy : ∀ w, (execOp a.eval oi).run P w = .ok (.value v) w := by intro w'; go_simp; with_reducible rfl)
    (ha : a.put N v = a' := by first | (simp only [Act.put, List.setIfInBounds_toArray, List.set_cons_zero, List.set_cons_succ, i64_w, i32_w]; rfl) | rfl) : Chain P ops S C ((i, 0, N) :: L) a := by
  subst ha
  exact .pur hi hN (Or.inl ⟨hw, hy⟩) h
theorem lkT (h : Chain P ops S C L a') (hi : ops[i]? = some oi := by exact rfl) (hN : oi.dst = N := by exact rfl) (hw : Region.wanted oi (yielded ops a.tmps) = true := by rfl)
    (hy : ∀ w, S w → (execOp a.eval oi).run P w = .ok (.value v) w := by intro w' hs_; repeat (have s_ := hs_.1; replace hs_ := hs_.2); go_simp; with_reducible rfl)
    (ha : a.put N v = a' := by first | (simp only [Act.put, List.setIfInBounds_toArray, List.set_cons_zero, List.set_cons_succ, i64_w, i32_w]; rfl) | rfl) : Chain P ops S C ((i, 1, N) :: L) a := by
  subst ha
  exact .tak hi hN (Or.inl ⟨hw, hy⟩) h
theorem lkO (h : Chain P ops S C L a') (hi : ops[i]? = some oi := by exact rfl) (hN : oi.dst = N := by exact rfl) (hw : Region.wanted oi (yielded ops a.tmps) = false := by rfl)
    (ha : a.put N undef = a' := by first | (simp only [Act.put, List.setIfInBounds_toArray, List.set_cons_zero, List.set_cons_succ, i64_w, i32_w]; rfl) | rfl) : Chain P ops S C ((i, 2, N) :: L) a := by
  subst ha
  exact .off hi hN hw h
end
@[go_sem] theorem sg_u32 : IntKind.u32.signed = false := rfl
@[go_sem] theorem mx_u32 : IntKind.u32.max = 4294967295 := rfl
end Go.Proofs.YtnhngjhodcikiaaDoorW.PrintShort
