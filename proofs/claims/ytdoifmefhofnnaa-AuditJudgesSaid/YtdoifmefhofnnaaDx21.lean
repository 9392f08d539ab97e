/- Written by the session's own program hyb.py: what functions of the program compute; Lean checks it. -/
import Derived.Test.YtdoifmefhofnnaaDx0
import Derived.Test.YtdoifmefhofnnaaDx17
import Derived.Maps.Own
import Derived.Maps.OwnSet
import Derived.Test.YtdoifmefhofnnaaWMaps
namespace Go.Proofs.Ytdoifmefhofnnaa.D
open Go.RowKit Go.Proofs.YtdoifmefhofnnaaW.PrintWords Go.Proofs.YtdoifmefhofnnaaW.PrintLast Go.Proofs.YtdoifmefhofnnaaW.PrintMore Go.Proofs.YtdoifmefhofnnaaW.PrintShort
attribute [local go_sem] run_Add64 run_Sub64
attribute [local go_sem] max2_int min2_int max_two min_two max_three min_three max_four min_four   -- for this text's walks alone
set_option linter.unusedVariables false
set_option linter.unusedSimpArgs false
/-! ### audit_grid: function 39 -/
-- NEEDS WMaps
-- NEEDSLIB Derived.Maps.Own
-- NEEDSLIB Derived.Maps.OwnSet
open Go.Maps in
def gr.enc (t : Int × Int × Int) : DataW Unit := .agg [.lit (.int .u64 t.1), .lit (.int .u64 t.2.1), .lit (.int .u64 t.2.2)]
def gr.R (v : Value) : Option (DataW Unit × List MemPlace) := match v with
  | .agg cs => (match cs.toList with
    | [.int .u64 a, .int .u64 b, .int .u64 c] => some (gr.enc (a, b, c), [])
    | _ => none)
  | _ => none
theorem gr.R_mk (a b c : Int) : gr.R (.agg #[.int .u64 a, .int .u64 b, .int .u64 c]) = some (gr.enc (a, b, c), []) := rfl
theorem gr.R_inv {v : Value} {t : Int × Int × Int} {ps : List MemPlace} (h : gr.R v = some (gr.enc t, ps)) : v = .agg #[.int .u64 t.1, .int .u64 t.2.1, .int .u64 t.2.2] := by
  unfold gr.R at h
  split at h
  · rename_i cs
    split at h
    · rename_i a b c e
      simp only [gr.enc, Option.some.injEq, Prod.mk.injEq, DataW.agg.injEq, List.cons.injEq, DataW.lit.injEq, Lit.int.injEq] at h
      obtain ⟨⟨⟨_, h1⟩, ⟨_, h2⟩, ⟨_, h3⟩, _⟩, _⟩ := h
      subst h1 h2 h3
      congr 1
      apply Array.toList_inj.1
      exact e
    · cases h
  · cases h
def gr.MapN (w : World) (gm n : Nat) (m : Int → Int × Int × Int) : Prop := ∃ D : DataW Unit, w.ownsMap Try.prog 22 gr.R gm n D ∧ ∀ x, (Lit.int .u64 x).wf = true → D.atKey (.int .u64 x) (gr.enc (0, 0, 0)) = gr.enc (m x)
theorem gr.of_u (u : Int) : audit_of.f u = some (u, 0, 0) := rfl
theorem gr.zeroE (w : World) : (zeroValue 76).run Try.prog w = .ok (.agg #[.int .u64 0, .int .u64 0, .int .u64 0]) w := by kernel_rfl
theorem gr.look {w : World} {gm n : Nat} {m : Int → Int × Int × Int} (h : gr.MapN w gm n m) (x : Int) (hx : (Lit.int .u64 x).wf = true) :
    (Instr.lookup 107 (.map (some gm)) (.int .u64 x) false).run Try.prog w = .ok (.agg #[.int .u64 (m x).1, .int .u64 (m x).2.1, .int .u64 (m x).2.2]) w := by
  obtain ⟨D, hD, hm⟩ := h
  obtain ⟨v, ps, hr, hR⟩ := hD.lookup (Go.Maps.int_keyed Try.underlying22) Try.underlying107 (gr.zeroE w) (zd := gr.enc (0, 0, 0)) (zp := []) (gr.R_mk 0 0 0) (Go.Maps.keyOf_int_mk Try.underlying22 hx)
  rw [hm x hx] at hR
  rw [gr.R_inv hR] at hr
  exact hr
def gr.upd (m : Int → Int × Int × Int) (x : Int) (t : Int × Int × Int) : Int → Int × Int × Int := fun y => if y = x then t else m y
theorem gr.put {w' : World} {gm n : Nat} {m : Int → Int × Int × Int} {D : DataW Unit} {x : Int} {t : Int × Int × Int} (hx : (Lit.int .u64 x).wf = true) (hi : Go.Maps.IsMap D)
    (hm : ∀ y, (Lit.int .u64 y).wf = true → D.atKey (.int .u64 y) (gr.enc (0, 0, 0)) = gr.enc (m y)) (ho : w'.ownsMap Try.prog 22 gr.R gm n (D.put (.int .u64 x) (gr.enc t))) : gr.MapN w' gm n (gr.upd m x t) := by
  refine ⟨_, ho, fun y hy => ?_⟩
  unfold gr.upd
  by_cases e : y = x
  · subst e
    rw [if_pos rfl]
    exact Go.Maps.atKey_put_same hi (Go.Maps.Keyed.key (Go.Maps.int_keyed (P := Try.prog) Try.underlying22) (Go.Maps.keyOf_int_mk Try.underlying22 hy)) _ _
  · rw [if_neg e, Go.Maps.atKey_put_other (by intro h; injection h with _ h; exact e h)]
    exact hm y hy
/-- All that is known of the world between the steps. -/
structure gr.I (w : World) (gm n : Nat) (m : Int → Int × Int × Int) (gp gl g4 g5 g6 : Nat) (p0 p1 p2 p3 p4 l0 l1 l2 at_ u last : Int) (W : World) : Prop where
  grown : w.grownBy W (some gm)
  map : gr.MapN W gm n m
  bp : W.heap[gp]? = some (.cells #[.int .i64 p0, .int .u64 p1, .int .u64 p2, .int .u64 p3, .int .u64 p4] 24 (0, 0))
  bl : W.heap[gl]? = some (.cells #[.int .u64 l0, .int .u64 l1, .int .u64 l2] 76 (0, 0))
  b4 : W.heap[g4]? = some (.cells #[.map (some gm), .int .u64 last] 109 (0, 0))
  b5 : W.heap[g5]? = some (.cells #[.int .u64 at_, .int .u64 u] 31 (0, 0))
  b6 : W.heap[g6]? = some (.cells #[.map none, .int .u64 0] 109 (0, 0))
section
variable {w W W2 : World} {gm n gp gl g4 g5 g6 g : Nat} {m : Int → Int × Int × Int} {p0 p1 p2 p3 p4 l0 l1 l2 at_ u last : Int}
theorem gr.MapN_same (h : gr.MapN W gm n m) (e : W2.heap[gm]? = W.heap[gm]?) : gr.MapN W2 gm n m := by
  obtain ⟨D, ⟨es, clock, hb, F, hs, hD⟩, hm⟩ := h
  exact ⟨D, ⟨es, clock, e.trans hb, F, hs, hD⟩, hm⟩
theorem gr.MapN_lt (h : gr.MapN W gm n m) : gm < W.heap.size := by
  obtain ⟨D, hD, _⟩ := h
  exact hD.lt
theorem gr.MapN_ne (h : gr.MapN W gm n m) {cs : Array Value} {t : TypeId} {fr : Nat × Nat} (hb : W.heap[g]? = some (.cells cs t fr)) : g ≠ gm := by
  rintro rfl
  obtain ⟨D, ⟨es, clock, hc, _⟩, _⟩ := h
  rw [hc] at hb
  cases hb
theorem gr.I_below (h : gr.I w gm n m gp gl g4 g5 g6 p0 p1 p2 p3 p4 l0 l1 l2 at_ u last W) (k : Below W.heap.size W W2) : gr.I w gm n m gp gl g4 g5 g6 p0 p1 p2 p3 p4 l0 l1 l2 at_ u last W2 :=
  ⟨⟨k.os.trans h.grown.os, k.tape.trans h.grown.tape, k.output.trans h.grown.output, Nat.le_trans h.grown.size k.size, fun i hi hr => (k.block i (Nat.lt_of_lt_of_le hi h.grown.size)).trans (h.grown.block i hi hr)⟩,
    gr.MapN_same h.map (k.block gm (gr.MapN_lt h.map)), blk_below h.bp k, blk_below h.bl k, blk_below h.b4 k, blk_below h.b5 k, blk_below h.b6 k⟩
theorem gr.I_drew (h : gr.I w gm n m gp gl g4 g5 g6 p0 p1 p2 p3 p4 l0 l1 l2 at_ u last W) : gr.I w gm n m gp gl g4 g5 g6 p0 p1 p2 p3 p4 l0 l1 l2 at_ u last W.drew := gr.I_below h (below_drew1 (Below.refl _ _))
/-- A new block lies apart. -/
def gr.A (w : World) (gp gl g4 g5 g6 g : Nat) : Prop := w.heap.size ≤ g ∧ gp ≠ g ∧ gl ≠ g ∧ g4 ≠ g ∧ g5 ≠ g ∧ g6 ≠ g
theorem gr.I_apart (h : gr.I w gm n m gp gl g4 g5 g6 p0 p1 p2 p3 p4 l0 l1 l2 at_ u last W) (hg : g = W.heap.size) : gr.A w gp gl g4 g5 g6 g := by
  subst hg
  exact ⟨h.grown.size, Nat.ne_of_lt (blk_lt h.bp), Nat.ne_of_lt (blk_lt h.bl), Nat.ne_of_lt (blk_lt h.b4), Nat.ne_of_lt (blk_lt h.b5), Nat.ne_of_lt (blk_lt h.b6)⟩
theorem gr.I_set (h : gr.I w gm n m gp gl g4 g5 g6 p0 p1 p2 p3 p4 l0 l1 l2 at_ u last W) (ha : gr.A w gp gl g4 g5 g6 g) (hm : gm ≠ g) (i : Nat) (v : Value) : gr.I w gm n m gp gl g4 g5 g6 p0 p1 p2 p3 p4 l0 l1 l2 at_ u last (W.setCell ⟨g, i, none⟩ v) := by
  obtain ⟨a1, a2, a3, a4, a5, a6⟩ := ha
  refine ⟨⟨h.grown.os, h.grown.tape, h.grown.output, ?_, fun k hk hr => ?_⟩, gr.MapN_same h.map (Below.heap_setCell W ⟨g, i, none⟩ v gm hm), blk_far h.bp a2 v, blk_far h.bl a3 v, blk_far h.b4 a4 v, blk_far h.b5 a5 v, blk_far h.b6 a6 v⟩
  · have := h.grown.size
    unfold World.setCell
    simpa using this
  · rw [Below.heap_setCell W ⟨g, i, none⟩ v k (by show k ≠ g; omega)]
    exact h.grown.block k hk hr
theorem gr.I_put {x : Int} {t : Int × Int × Int} {D : DataW Unit} {n' : Nat} (h : gr.I w gm n m gp gl g4 g5 g6 p0 p1 p2 p3 p4 l0 l1 l2 at_ u last W) (hx : (Lit.int .u64 x).wf = true) (hD : W.ownsMap Try.prog 22 gr.R gm n D)
    (hm : ∀ y, (Lit.int .u64 y).wf = true → D.atKey (.int .u64 y) (gr.enc (0, 0, 0)) = gr.enc (m y)) (ho : W2.ownsMap Try.prog 22 gr.R gm n' (D.put (.int .u64 x) (gr.enc t))) (hg : W.grownBy W2 (some gm)) :
    gr.I w gm n' (gr.upd m x t) gp gl g4 g5 g6 p0 p1 p2 p3 p4 l0 l1 l2 at_ u last W2 := by
  have keep : ∀ {k : Nat} {cs : Array Value} {ty : TypeId} {fr : Nat × Nat}, W.heap[k]? = some (.cells cs ty fr) → W2.heap[k]? = some (.cells cs ty fr) := fun {k cs ty fr} hb =>
    (hg.block k (blk_lt hb) (by intro e; exact gr.MapN_ne h.map hb (Option.some.inj e))).trans hb
  exact ⟨⟨hg.os.trans h.grown.os, hg.tape.trans h.grown.tape, hg.output.trans h.grown.output, Nat.le_trans h.grown.size hg.size, fun i hi hr => (hg.block i (Nat.lt_of_lt_of_le hi h.grown.size) hr).trans (h.grown.block i hi hr)⟩,
    gr.put hx hD.isMap hm ho, keep h.bp, keep h.bl, keep h.b4, keep h.b5, keep h.b6⟩
theorem gr.GM_set {w W : World} {gm n g : Nat} {m : Int → Int × Int × Int} (h1 : w.grownBy W (some gm)) (h2 : gr.MapN W gm n m) (hg : w.heap.size ≤ g) (hm : gm ≠ g) (i : Nat) (v : Value) : w.grownBy (W.setCell ⟨g, i, none⟩ v) (some gm) ∧ gr.MapN (W.setCell ⟨g, i, none⟩ v) gm n m := by
  refine ⟨⟨h1.os, h1.tape, h1.output, ?_, fun k hk hr => ?_⟩, gr.MapN_same h2 (Below.heap_setCell W ⟨g, i, none⟩ v gm hm)⟩
  · have := h1.size
    unfold World.setCell
    simpa using this
  · rw [Below.heap_setCell W ⟨g, i, none⟩ v k (by show k ≠ g; omega)]
    exact h1.block k hk hr
theorem gr.I_last (h : gr.I w gm n m gp gl g4 g5 g6 p0 p1 p2 p3 p4 l0 l1 l2 at_ u last W) (hg : w.heap.size ≤ g4) (hm : gm ≠ g4) (h1 : gp ≠ g4) (h2 : gl ≠ g4) (h3 : g5 ≠ g4) (h4 : g6 ≠ g4) (y : Int) :
    gr.I w gm n m gp gl g4 g5 g6 p0 p1 p2 p3 p4 l0 l1 l2 at_ u y (W.setCell ⟨g4, 1, none⟩ (.int .u64 y)) :=
  ⟨(gr.GM_set h.grown h.map hg hm 1 _).1, (gr.GM_set h.grown h.map hg hm 1 _).2, blk_far h.bp h1 _, blk_far h.bl h2 _, blk_put h.b4 1 _ rfl, blk_far h.b5 h3 _, blk_far h.b6 h4 _⟩
end
def gr.T2 : Bool × List (List Nat × List Nat) := (true, [([], []), ([0], [0]), ([], []), ([1, 2], [1, 2]), ([], []), ([4], [4]), ([5], [5]), ([3, 6, 6], [3, 6]), ([], []), ([8, 7, 7, 0, 1, 2, 3, 4, 5, 6, 7, 8], [7, 8])])
def gr.B2 : List Nat := [0, 1, 0, 7, 0, 16, 48, 127, 0, 511]
theorem gr.tab2 : rtab .any (opsOf Try.f55 2) = gr.T2 := by kernel_rfl
theorem gr.bits2 : waitsOk gr.T2.2 gr.B2 = true := by kernel_rfl
def gr.T5 : Bool × List (List Nat × List Nat) := (true, [([], []), ([], []), ([], []), ([1, 2], [1, 2]), ([3], [3]), ([0, 3, 0], [0]), ([4, 5, 0, 1, 2, 3, 4, 5], [4])])
def gr.B5 : List Nat := [0, 0, 0, 6, 14, 15, 63]
theorem gr.tab5 : rtab .any (opsOf Try.f55 5) = gr.T5 := by kernel_rfl
theorem gr.bits5 : waitsOk gr.T5.2 gr.B5 = true := by kernel_rfl
set_option maxHeartbeats 4000000 in
set_option maxRecDepth 100000 in
theorem gr.one (gm n gp gl : Nat) (m : Int → Int × Int × Int) (p0 p1 p2 p3 p4 l0 l1 l2 at_ u last x s0 s1 s2 lm : Int) (b : Bool) (w : World) (hgp : w.heap[gp]? = some (.cells #[.int .i64 p0, .int .u64 p1, .int .u64 p2, .int .u64 p3, .int .u64 p4] 24 (0, 0))) (hgl : w.heap[gl]? = some (.cells #[.int .u64 l0, .int .u64 l1, .int .u64 l2] 76 (0, 0))) (hm : gr.MapN w gm n m) (hn : n < maxLen) (hp : p4 ≠ 0) (hX : IntKind.u64.wrap (Int.tdiv at_ p4) = x) (hXw : (Lit.int .u64 x).wf = true)
    (hL : (if last < x then x else last) = lm) (hF : audit_plus.f (m x).1 (m x).2.1 (m x).2.2 u 0 0 = some (s0, s1, s2)) (hG : audit_above.f s0 s1 s2 l0 l1 l2 = some b) :
    Calls Try.prog 55 #[.agg #[.map (some gm), .int .u64 last], .agg #[.int .u64 at_, .int .u64 u], .pointer (some ⟨gp, 0, none⟩), .pointer (some ⟨gl, 0, none⟩)] w fun e w' => e = .returned (.tuple #[.agg #[.map (some gm), .int .u64 lm], .bool (!b)]) ∧ w.grownBy w' (some gm) ∧ gr.MapN w' gm (n + 1) (gr.upd m x (s0, s1, s2)) := by
  have F := Aside0.mk hF
  have G := Aside0.mk hG
  have HX := Aside0.mk hXw
  have HN := Aside0.mk hn
  have HM := Aside0.mk hm
  have BKgp := Aside0.mk hgp
  have BKgl := Aside0.mk hgl
  have HB := Aside0.mk (Below.refl w.heap.size w)
  have hu := Try.underlying109
  have hp0 : (p4 == 0) = false := beq_eq_false_iff_ne.mpr hp
  have hp1 := eq_false hp
  have hp2 : (p4 != 0) = true := bne_iff_ne.mpr hp
  have NB := Aside0.mk hp
  clear hp
  clear hF hG hXw hn hm hgp hgl
  go_enter Try.func55, Try.ntmps55
  go_upto_region 2 with (first | ((with_reducible refine gate_dst (N := 4) rfl ?_); refine bx 4 #[.map (some gm), .int .u64 last] 109 ?_; intro g4 hg w_g4 hbox hb; have n_gp := bb BKgp hb; have e1_gp := nl BKgp hg; have e2_gp := nr BKgp hg; have n_gl := bb BKgl hb; have e1_gl := nl BKgl hg; have e2_gl := nr BKgl hg; have n0_ := bs HB hb; have GEg4 := sz HB hg; clear HB BKgp BKgl; have HB := n0_; clear n0_; have BKgp := n_gp; clear n_gp; have NEgp_g4 := e1_gp; have NEg4_gp := e2_gp; clear e1_gp e2_gp; have BKgl := n_gl; clear n_gl; have NEgl_g4 := e1_gl; have NEg4_gl := e2_gl; clear e1_gl e2_gl; have BKg4 := Aside0.mk hbox; clear hb hbox hg) | ((with_reducible refine gate_dst (N := 5) rfl ?_); refine bx 5 #[.int .u64 at_, .int .u64 u] 31 ?_; intro g5 hg w_g5 hbox hb; have n_gp := bb BKgp hb; have e1_gp := nl BKgp hg; have e2_gp := nr BKgp hg; have n_gl := bb BKgl hb; have e1_gl := nl BKgl hg; have e2_gl := nr BKgl hg; have n_g4 := bb BKg4 hb; have e1_g4 := nl BKg4 hg; have e2_g4 := nr BKg4 hg; have n0_ := bs HB hb; have GEg5 := sz HB hg; clear HB BKgp BKgl BKg4; have HB := n0_; clear n0_; have BKgp := n_gp; clear n_gp; have NEgp_g5 := e1_gp; have NEg5_gp := e2_gp; clear e1_gp e2_gp; have BKgl := n_gl; clear n_gl; have NEgl_g5 := e1_gl; have NEg5_gl := e2_gl; clear e1_gl e2_gl; have BKg4 := n_g4; clear n_g4; have NEg4_g5 := e1_g4; have NEg5_g4 := e2_g4; clear e1_g4 e2_g4; have BKg5 := Aside0.mk hbox; clear hb hbox hg) | ((with_reducible refine gate_dst (N := 6) rfl ?_); refine bx 6 #[.map none, .int .u64 0] 109 ?_; intro g6 hg w_g6 hbox hb; have n_gp := bb BKgp hb; have e1_gp := nl BKgp hg; have e2_gp := nr BKgp hg; have n_gl := bb BKgl hb; have e1_gl := nl BKgl hg; have e2_gl := nr BKgl hg; have n_g4 := bb BKg4 hb; have e1_g4 := nl BKg4 hg; have e2_g4 := nr BKg4 hg; have n_g5 := bb BKg5 hb; have e1_g5 := nl BKg5 hg; have e2_g5 := nr BKg5 hg; have n0_ := bs HB hb; have GEg6 := sz HB hg; clear HB BKgp BKgl BKg4 BKg5; have HB := n0_; clear n0_; have BKgp := n_gp; clear n_gp; have NEgp_g6 := e1_gp; have NEg6_gp := e2_gp; clear e1_gp e2_gp; have BKgl := n_gl; clear n_gl; have NEgl_g6 := e1_gl; have NEg6_gl := e2_gl; clear e1_gl e2_gl; have BKg4 := n_g4; clear n_g4; have NEg4_g6 := e1_g4; have NEg6_g4 := e2_g4; clear e1_g4 e2_g4; have BKg5 := n_g5; clear n_g5; have NEg5_g6 := e1_g5; have NEg6_g5 := e2_g5; clear e1_g5 e2_g5; have BKg6 := Aside0.mk hbox; clear hb hbox hg; obtain ⟨hcg4a_0, hcg4a_1, hfg4a_0, hfg4a_1⟩ := bc2 BKg4; obtain ⟨hcg5a_0, hcg5a_1, hfg5a_0, hfg5a_1⟩ := bc2 BKg5; obtain ⟨hcgpa_0, hcgpa_1, hcgpa_2, hcgpa_3, hcgpa_4, hfgpa_0, hfgpa_1, hfgpa_2, hfgpa_3, hfgpa_4⟩ := bc5 BKgp))
  have HI : Aside0 (gr.I w gm n m gp gl g4 g5 g6 p0 p1 p2 p3 p4 l0 l1 l2 at_ u last w_g6) := ⟨⟨⟨HB.out.os, HB.out.tape, HB.out.output, HB.out.size, fun k hk _ => HB.out.block k hk⟩, gr.MapN_same HM.out (HB.out.block gm (gr.MapN_lt HM.out)), BKgp.out, BKgl.out, BKg4.out, BKg5.out, BKg6.out⟩⟩
  have GG6 := GEg6
  have MG : gm < w.heap.size := gr.MapN_lt HM.out
  have GM := Aside0.mk MG
  clear HM HB MG BKgp BKgl BKg4 BKg5 BKg6
  have HI := Aside0.mk (gr.I_drew HI.out)
  refine start_ (n := 10) (S := fun w' => w'.cell? ⟨g4, 0, none⟩ = some (.map (some gm)) ∧ w'.cell? ⟨g5, 1, none⟩ = some (.int .u64 u) ∧ (Instr.lookup 107 (.map (some gm)) (.int .u64 x) false).run Try.prog w' = .ok (.agg #[.int .u64 (m x).1, .int .u64 (m x).2.1, .int .u64 (m x).2.2]) w') (ds := []) #[false, false, false, false, false, false, false, false, false, false] (by kernel_rfl) rfl rfl ⟨(blk_cell HI.out.b4 0).trans rfl, (blk_cell HI.out.b5 1).trans rfl, gr.look HI.out.map x HX.out⟩ (fun hHeld => ?_); refine with_tabW gr.tab2 gr.bits2 (fun HT_ HW_ => ?_)
  clear hcg4a_0 hcg4a_1 hfg4a_0 hfg4a_1 hcg5a_0 hcg5a_1 hfg5a_0 hfg5a_1 hcgpa_0 hcgpa_1 hcgpa_2 hcgpa_3 hcgpa_4 hfgpa_0 hfgpa_1 hfgpa_2 hfgpa_3 hfgpa_4
  generalize w_g6.drew = w1 at HI hHeld ⊢
  refine chain_ (fuel := 4) [(0, 0, some 15), (2, 0, some 17), (4, 0, some 19), (1, 1, some 16), (3, 1, some 18), (5, 1, some 20)] #[true, true, true, true, true, true, false, false, false, false] HT_.out HW_.out (by kernel_rfl) (fun _ _ _ _ _ h => h) (Or.inr hHeld) rfl ?_
  (iterate 3 refine lkP ?_); (iterate 3 refine lkT ?_); refine .nil ?_
  refine join_ (σ := Nat) 1 #[true, true, true, true, true, true, true, true, true, false] (fun s_ => [(21, .agg #[.int .u64 u, .int .u64 0, .int .u64 0]), (22, .agg #[.int .u64 s0, .int .u64 s1, .int .u64 s2]), (9, .pointer (some ⟨s_, 0, none⟩))]) (fun s_ w' => (w'.cell? ⟨g4, 0, none⟩ = some (.map (some gm)) ∧ w'.cell? ⟨g5, 1, none⟩ = some (.int .u64 u) ∧ (Instr.lookup 107 (.map (some gm)) (.int .u64 x) false).run Try.prog w' = .ok (.agg #[.int .u64 (m x).1, .int .u64 (m x).2.1, .int .u64 (m x).2.2]) w') ∧ gr.I w gm n m gp gl g4 g5 g6 p0 p1 p2 p3 p4 l0 l1 l2 at_ u last w' ∧ w'.heap[s_]? = some (.cells #[.int .u64 0, .int .u64 0, .int .u64 0] 76 (0, 0)) ∧ gr.A w gp gl g4 g5 g6 s_) ?_ ?_
  rotate_left
  · intro hCont
    refine two_ (i := 6) (j := 8) (Ni := some 21) (Nj := some 9) #[true, true, true, true, true, true, true, false, false, false] #[true, true, true, true, true, true, false, false, true, false] rfl rfl rfl rfl (two_of HT_.out (by kernel_rfl)) (by decide) (by decide) (fun K hK => ?_) (fun K hK => ?_)
    · skip
      refine ge Try.func40 #[.int .u64 u] ?_
      with_reducible refine (audit_of.calls u u 0 0 _ (gr.of_u u)).mono ?_
      rintro e wv ⟨rfl, hb⟩
      refine ⟨_, rfl, ?_⟩
      have HI := Aside0.mk (gr.I_below HI.out hb)
      clear hb
      refine hK.out _ _ ⟨(blk_cell HI.out.b4 0).trans rfl, (blk_cell HI.out.b5 1).trans rfl, gr.look HI.out.map x HX.out⟩ (fun hHeld => ?_)
      clear hK K
      refine norm_ (a' := ?_) ?_ ?_
      rotate_left
      · show Act.put _ (some 21) _ = _
        simp only [Act.put, List.setIfInBounds_toArray, List.set_cons_zero, List.set_cons_succ, i64_w, i32_w]
        rfl
      refine two_ (i := 7) (j := 8) (Ni := some 22) (Nj := some 9) #[true, true, true, true, true, true, true, true, false, false] #[true, true, true, true, true, true, true, false, true, false] rfl rfl rfl rfl (two_of HT_.out (by kernel_rfl)) (by decide) (by decide) (fun K hK => ?_) (fun K hK => ?_)
      · skip
        refine ge Try.func52 #[.agg #[.int .u64 (m x).1, .int .u64 (m x).2.1, .int .u64 (m x).2.2], .agg #[.int .u64 u, .int .u64 0, .int .u64 0]] ?_
        with_reducible refine (audit_plus.calls _ _ _ u 0 0 s0 s1 s2 _ F.out).mono ?_
        rintro e wv ⟨rfl, hb⟩
        refine ⟨_, rfl, ?_⟩
        have HI := Aside0.mk (gr.I_below HI.out hb)
        clear hb
        refine hK.out _ _ ⟨(blk_cell HI.out.b4 0).trans rfl, (blk_cell HI.out.b5 1).trans rfl, gr.look HI.out.map x HX.out⟩ (fun hHeld => ?_)
        clear hK K
        refine norm_ (a' := ?_) ?_ ?_
        rotate_left
        · show Act.put _ (some 22) _ = _
          simp only [Act.put, List.setIfInBounds_toArray, List.set_cons_zero, List.set_cons_succ, i64_w, i32_w]
          rfl
        refine one_ (i := 8) (N := some 9) #[true, true, true, true, true, true, true, true, true, false] rfl rfl (one_of HT_.out (by kernel_rfl)) (by decide) (fun K hK => ?_)
        refine box_step ?c1hg (N := 9) ?c1hd (cs := #[.int .u64 0, .int .u64 0, .int .u64 0]) (t := 76) ?c1hr ?_; (case c1hd => rfl); (case c1hg => rfl); (case c1hr => first | (go_simp; done) | (go_simp; rfl))
        intro g9 hg wv hbox hb
        have HA := Aside0.mk (gr.I_apart HI.out hg)
        have HI := Aside0.mk (gr.I_below HI.out hb)
        have BK9 := Aside0.mk hbox
        clear hb hbox hg
        refine hK.out _ _ ⟨(blk_cell HI.out.b4 0).trans rfl, (blk_cell HI.out.b5 1).trans rfl, gr.look HI.out.map x HX.out⟩ (fun hHeld => ?_)
        clear hK K
        refine norm_ (a' := ?_) ?_ ?_
        rotate_left
        · show Act.put _ (some 9) _ = _
          simp only [Act.put, List.setIfInBounds_toArray, List.set_cons_zero, List.set_cons_succ, i64_w, i32_w]
          rfl
        exact norm_ (by simp only [putAll, Act.put, List.setIfInBounds_toArray, List.set_cons_zero, List.set_cons_succ]) (hCont g9 _ ⟨hHeld, HI.out, bk BK9, HA.out⟩)
      · skip
        refine box_step ?c2hg (N := 9) ?c2hd (cs := #[.int .u64 0, .int .u64 0, .int .u64 0]) (t := 76) ?c2hr ?_; (case c2hd => rfl); (case c2hg => rfl); (case c2hr => first | (go_simp; done) | (go_simp; rfl))
        intro g9 hg wv hbox hb
        have HA := Aside0.mk (gr.I_apart HI.out hg)
        have HI := Aside0.mk (gr.I_below HI.out hb)
        have BK9 := Aside0.mk hbox
        clear hb hbox hg
        refine hK.out _ _ ⟨(blk_cell HI.out.b4 0).trans rfl, (blk_cell HI.out.b5 1).trans rfl, gr.look HI.out.map x HX.out⟩ (fun hHeld => ?_)
        clear hK K
        refine norm_ (a' := ?_) ?_ ?_
        rotate_left
        · show Act.put _ (some 9) _ = _
          simp only [Act.put, List.setIfInBounds_toArray, List.set_cons_zero, List.set_cons_succ, i64_w, i32_w]
          rfl
        refine one_ (i := 7) (N := some 22) #[true, true, true, true, true, true, true, true, true, false] rfl rfl (one_of HT_.out (by kernel_rfl)) (by decide) (fun K hK => ?_)
        refine ge Try.func52 #[.agg #[.int .u64 (m x).1, .int .u64 (m x).2.1, .int .u64 (m x).2.2], .agg #[.int .u64 u, .int .u64 0, .int .u64 0]] ?_
        with_reducible refine (audit_plus.calls _ _ _ u 0 0 s0 s1 s2 _ F.out).mono ?_
        rintro e wv ⟨rfl, hb⟩
        refine ⟨_, rfl, ?_⟩
        have HI := Aside0.mk (gr.I_below HI.out hb)
        have BK9 := bb BK9 hb
        clear hb
        refine hK.out _ _ ⟨(blk_cell HI.out.b4 0).trans rfl, (blk_cell HI.out.b5 1).trans rfl, gr.look HI.out.map x HX.out⟩ (fun hHeld => ?_)
        clear hK K
        refine norm_ (a' := ?_) ?_ ?_
        rotate_left
        · show Act.put _ (some 22) _ = _
          simp only [Act.put, List.setIfInBounds_toArray, List.set_cons_zero, List.set_cons_succ, i64_w, i32_w]
          rfl
        exact norm_ (by simp only [putAll, Act.put, List.setIfInBounds_toArray, List.set_cons_zero, List.set_cons_succ]) (hCont g9 _ ⟨hHeld, HI.out, bk BK9, HA.out⟩)
    · skip
      refine box_step ?c3hg (N := 9) ?c3hd (cs := #[.int .u64 0, .int .u64 0, .int .u64 0]) (t := 76) ?c3hr ?_; (case c3hd => rfl); (case c3hg => rfl); (case c3hr => first | (go_simp; done) | (go_simp; rfl))
      intro g9 hg wv hbox hb
      have HA := Aside0.mk (gr.I_apart HI.out hg)
      have HI := Aside0.mk (gr.I_below HI.out hb)
      have BK9 := Aside0.mk hbox
      clear hb hbox hg
      refine hK.out _ _ ⟨(blk_cell HI.out.b4 0).trans rfl, (blk_cell HI.out.b5 1).trans rfl, gr.look HI.out.map x HX.out⟩ (fun hHeld => ?_)
      clear hK K
      refine norm_ (a' := ?_) ?_ ?_
      rotate_left
      · show Act.put _ (some 9) _ = _
        simp only [Act.put, List.setIfInBounds_toArray, List.set_cons_zero, List.set_cons_succ, i64_w, i32_w]
        rfl
      refine one_ (i := 6) (N := some 21) #[true, true, true, true, true, true, true, false, true, false] rfl rfl (one_of HT_.out (by kernel_rfl)) (by decide) (fun K hK => ?_)
      refine ge Try.func40 #[.int .u64 u] ?_
      with_reducible refine (audit_of.calls u u 0 0 _ (gr.of_u u)).mono ?_
      rintro e wv ⟨rfl, hb⟩
      refine ⟨_, rfl, ?_⟩
      have HI := Aside0.mk (gr.I_below HI.out hb)
      have BK9 := bb BK9 hb
      clear hb
      refine hK.out _ _ ⟨(blk_cell HI.out.b4 0).trans rfl, (blk_cell HI.out.b5 1).trans rfl, gr.look HI.out.map x HX.out⟩ (fun hHeld => ?_)
      clear hK K
      refine norm_ (a' := ?_) ?_ ?_
      rotate_left
      · show Act.put _ (some 21) _ = _
        simp only [Act.put, List.setIfInBounds_toArray, List.set_cons_zero, List.set_cons_succ, i64_w, i32_w]
        rfl
      refine one_ (i := 7) (N := some 22) #[true, true, true, true, true, true, true, true, true, false] rfl rfl (one_of HT_.out (by kernel_rfl)) (by decide) (fun K hK => ?_)
      refine ge Try.func52 #[.agg #[.int .u64 (m x).1, .int .u64 (m x).2.1, .int .u64 (m x).2.2], .agg #[.int .u64 u, .int .u64 0, .int .u64 0]] ?_
      with_reducible refine (audit_plus.calls _ _ _ u 0 0 s0 s1 s2 _ F.out).mono ?_
      rintro e wv ⟨rfl, hb⟩
      refine ⟨_, rfl, ?_⟩
      have HI := Aside0.mk (gr.I_below HI.out hb)
      have BK9 := bb BK9 hb
      clear hb
      refine hK.out _ _ ⟨(blk_cell HI.out.b4 0).trans rfl, (blk_cell HI.out.b5 1).trans rfl, gr.look HI.out.map x HX.out⟩ (fun hHeld => ?_)
      clear hK K
      refine norm_ (a' := ?_) ?_ ?_
      rotate_left
      · show Act.put _ (some 22) _ = _
        simp only [Act.put, List.setIfInBounds_toArray, List.set_cons_zero, List.set_cons_succ, i64_w, i32_w]
        rfl
      exact norm_ (by simp only [putAll, Act.put, List.setIfInBounds_toArray, List.set_cons_zero, List.set_cons_succ]) (hCont g9 _ ⟨hHeld, HI.out, bk BK9, HA.out⟩)
  rintro g9 w6 ⟨hHeld, hI_, h9_, hA_⟩
  have HI := Aside0.mk hI_
  have BK9 := Aside0.mk h9_
  have HA := Aside0.mk hA_
  have NM : gm ≠ g9 := Nat.ne_of_lt (Nat.lt_of_lt_of_le GM.out hA_.1)
  have N4 := hA_.2.2.2.1
  have N5 := hA_.2.2.2.2.1
  clear hI_ h9_ hA_
  refine norm_ (a' := ?_) ?_ ?_
  rotate_left
  · simp only [putAll, Act.put, List.setIfInBounds_toArray, List.set_cons_zero, List.set_cons_succ]
    rfl
  refine one_ (i := 9) (N := none) #[true, true, true, true, true, true, true, true, true, true] rfl rfl (one_of HT_.out (by kernel_rfl)) (by decide) (fun K hK => ?_)
  obtain ⟨hs0, hs1, hs2, hf0, hf1, hf2⟩ := bc3 BK9
  refine skip_ (w1 := ?_) (by rfl) rfl ?_ ?_
  rotate_left
  · go_simp
    rfl
  have HI := Aside0.mk (gr.I_set (gr.I_set (gr.I_set HI.out HA.out NM 0 (.int .u64 s0)) HA.out NM 1 (.int .u64 s1)) HA.out NM 2 (.int .u64 s2))
  have BK9 := Aside0.mk (blk_put (blk_put (blk_put BK9.out 0 (.int .u64 s0) rfl) 1 (.int .u64 s1) rfl) 2 (.int .u64 s2) rfl)
  refine hK.out _ _ ⟨(blk_cell HI.out.b4 0).trans rfl, (blk_cell HI.out.b5 1).trans rfl, gr.look HI.out.map x HX.out⟩ (fun hHeld => ?_)
  clear hK K hs0 hs1 hs2 hf0 hf1 hf2
  refine done_ (done_of HT_.out (by kernel_rfl)) ?_
  generalize ((w6.setCell ⟨g9, 0, none⟩ (.int .u64 s0)).setCell ⟨g9, 1, none⟩ (.int .u64 s1)).setCell ⟨g9, 2, none⟩ (.int .u64 s2) = w7 at HI BK9 hHeld ⊢
  clear hHeld HT_ HW_
  have hc4 := bc2 ⟨HI.out.b4⟩
  obtain ⟨hc40, hc41, hf40, hf41⟩ := hc4
  obtain ⟨hc90, hc91, hc92, hf90, hf91, hf92⟩ := bc3 BK9
  go_upto_region 5 with (at_mapUpdate; obtain ⟨Dm, hB3, hB4⟩ := HI.out.map; refine wpList_mapUpdate_own _ rfl _ _ _ 107 rfl 22 76 (Go.Maps.int_keyed Try.underlying22) Try.underlying107 gr.R gm n Dm rfl hB3 HN.out _ _ _ rfl rfl (Go.Maps.keyOf_int_mk Try.underlying22 HX.out) (gr.enc (s0, s1, s2)) [] rfl ?_; intro w8 hown1 hgrow1; have HI8 := Aside0.mk (gr.I_put HI.out HX.out hB3 hB4 hown1 hgrow1); have BK98 := Aside0.mk ((hgrow1.block g9 (blk_lt BK9.out) (by intro e; exact NM (Option.some.inj e).symm)).trans BK9.out); clear HI BK9 hB3 hB4 hown1 hgrow1 hc40 hc41 hf40 hf41 hc90 hc91 hc92 hf90 hf91 hf92; have HI := HI8; have BK9 := BK98; clear HI8 BK98; obtain ⟨hc40, hc41, hf40, hf41⟩ := bc2 ⟨HI.out.b4⟩)
  have NM4 : gm ≠ g4 := (gr.MapN_ne HI.out.map HI.out.b4).symm
  have HI := Aside0.mk (gr.I_last HI.out GEg4.out NM4 NEgp_g4.out NEgl_g4.out NEg5_g4.out NEg6_g4.out lm)
  have BK9 := Aside0.mk (blk_far BK9.out (p := ⟨g4, 1, none⟩) (Ne.symm N4) (.int .u64 lm))
  generalize w8.setCell ⟨g4, 1, none⟩ (.int .u64 lm) = w9 at HI BK9 ⊢
  clear hc40 hc41 hf40 hf41
  have HI := Aside0.mk (gr.I_drew HI.out)
  have BK9 := Aside0.mk (blk_drew BK9.out)
  refine start_ (n := 7) (S := fun w' => w'.cell? ⟨g4, 0, none⟩ = some (.map (some gm)) ∧ w'.cell? ⟨g4, 1, none⟩ = some (.int .u64 lm) ∧ w'.cell? ⟨g9, 0, none⟩ = some (.int .u64 s0) ∧ w'.cell? ⟨g9, 1, none⟩ = some (.int .u64 s1) ∧ w'.cell? ⟨g9, 2, none⟩ = some (.int .u64 s2) ∧ w'.cell? ⟨gl, 0, none⟩ = some (.int .u64 l0) ∧ w'.cell? ⟨gl, 1, none⟩ = some (.int .u64 l1) ∧ w'.cell? ⟨gl, 2, none⟩ = some (.int .u64 l2)) (ds := []) #[false, false, false, false, false, false, false] (by kernel_rfl) rfl rfl ⟨(blk_cell HI.out.b4 0).trans rfl, (blk_cell HI.out.b4 1).trans rfl, (blk_cell BK9.out 0).trans rfl, (blk_cell BK9.out 1).trans rfl, (blk_cell BK9.out 2).trans rfl, (blk_cell HI.out.bl 0).trans rfl, (blk_cell HI.out.bl 1).trans rfl, (blk_cell HI.out.bl 2).trans rfl⟩ (fun hHeld => ?_); refine with_tabW gr.tab5 gr.bits5 (fun HT_ HW_ => ?_)
  generalize w9.drew = w10 at HI BK9 hHeld ⊢
  refine chain_ (fuel := 4) [(0, 1, some 32), (1, 1, some 33), (2, 1, some 34)] #[true, true, true, false, false, false, false] HT_.out HW_.out (by kernel_rfl) (fun _ _ _ _ _ h => h) (Or.inr hHeld) rfl ?_
  (iterate 3 refine lkT ?_); refine .nil ?_
  refine one_ (i := 3) (N := some 35) #[true, true, true, true, false, false, false] rfl rfl (one_of HT_.out (by kernel_rfl)) (by decide) (fun K hK => ?_)
  refine ge Try.func51 #[.agg #[.int .u64 s0, .int .u64 s1, .int .u64 s2], .agg #[.int .u64 l0, .int .u64 l1, .int .u64 l2]] ?_
  with_reducible refine (audit_above.calls s0 s1 s2 l0 l1 l2 b _ G.out).mono ?_
  rintro e wv ⟨rfl, hb⟩
  refine ⟨_, rfl, ?_⟩
  have HI := Aside0.mk (gr.I_below HI.out hb)
  have BK9 := bb BK9 hb
  clear hb
  refine hK.out _ _ ⟨(blk_cell HI.out.b4 0).trans rfl, (blk_cell HI.out.b4 1).trans rfl, (blk_cell BK9.out 0).trans rfl, (blk_cell BK9.out 1).trans rfl, (blk_cell BK9.out 2).trans rfl, (blk_cell HI.out.bl 0).trans rfl, (blk_cell HI.out.bl 1).trans rfl, (blk_cell HI.out.bl 2).trans rfl⟩ (fun hHeld => ?_)
  clear hK K
  refine norm_ (a' := ?_) ?_ ?_
  rotate_left
  · show Act.put _ (some 35) _ = _
    simp only [Act.put, List.setIfInBounds_toArray, List.set_cons_zero, List.set_cons_succ, i64_w, i32_w]
    rfl
  refine chain_ (fuel := 2) [(4, 0, some 36)] #[true, true, true, true, true, false, false] HT_.out HW_.out (by kernel_rfl) (fun _ _ _ _ _ h => h) (Or.inl (by decide)) rfl ?_
  refine lkP ?_; refine .nil ?_
  refine one_ (i := 5) (N := none) #[true, true, true, true, true, true, false] rfl rfl (one_of HT_.out (by kernel_rfl)) (by decide) (fun K hK => ?_)
  obtain ⟨hs0, hs1, hf0, hf1⟩ := bc2 ⟨HI.out.b6⟩
  refine skip_ (w1 := ?_) (by rfl) rfl ?_ ?_
  rotate_left
  · go_simp
    rfl
  have NG46 := NEg4_g6.out
  have NGl6 := NEgl_g6.out
  have N96 : g9 ≠ g6 := (HA.out.2.2.2.2.2).symm
  refine hK.out _ _ ⟨(cell_far (p := ⟨g6, _, none⟩) NG46 _).trans ((cell_far (p := ⟨g6, _, none⟩) NG46 _).trans (hHeld.1)), (cell_far (p := ⟨g6, _, none⟩) NG46 _).trans ((cell_far (p := ⟨g6, _, none⟩) NG46 _).trans (hHeld.2.1)), (cell_far (p := ⟨g6, _, none⟩) N96 _).trans ((cell_far (p := ⟨g6, _, none⟩) N96 _).trans (hHeld.2.2.1)), (cell_far (p := ⟨g6, _, none⟩) N96 _).trans ((cell_far (p := ⟨g6, _, none⟩) N96 _).trans (hHeld.2.2.2.1)), (cell_far (p := ⟨g6, _, none⟩) N96 _).trans ((cell_far (p := ⟨g6, _, none⟩) N96 _).trans (hHeld.2.2.2.2.1)), (cell_far (p := ⟨g6, _, none⟩) NGl6 _).trans ((cell_far (p := ⟨g6, _, none⟩) NGl6 _).trans (hHeld.2.2.2.2.2.1)), (cell_far (p := ⟨g6, _, none⟩) NGl6 _).trans ((cell_far (p := ⟨g6, _, none⟩) NGl6 _).trans (hHeld.2.2.2.2.2.2.1)), (cell_far (p := ⟨g6, _, none⟩) NGl6 _).trans ((cell_far (p := ⟨g6, _, none⟩) NGl6 _).trans (hHeld.2.2.2.2.2.2.2))⟩ (fun hHeld => ?_)
  clear hK K
  refine chain_ (fuel := 0) [(6, 0, some 7)] #[true, true, true, true, true, true, true] HT_.out HW_.out (by kernel_rfl) (fun _ _ _ _ _ h => h) (Or.inl (by decide)) rfl ?_
  refine lkP ?_; refine .nil ?_
  refine done_ (done_of HT_.out (by kernel_rfl)) ?_
  have M6 : gm ≠ g6 := (gr.MapN_ne HI.out.map HI.out.b6).symm
  have E1 := gr.GM_set HI.out.grown HI.out.map GG6.out M6 0 (.map (some gm))
  have E2 := gr.GM_set E1.1 E1.2 GG6.out M6 1 (.int .u64 lm)
  have B6 := blk_put (blk_put HI.out.b6 0 (.map (some gm)) rfl) 1 (.int .u64 lm) rfl
  clear hs0 hs1 hf0 hf1 hHeld E1
  try go_wp2
  refine bodyPost_ret (results_ct rfl _ _ g6 109 #[.map (some gm), .int .u64 lm] (0, 0) _ rfl ?hbk hu rfl (by kernel_rfl)) rfl ?_
  case hbk => exact B6
  exact ⟨rfl, E2⟩
/-- The world of a call that writes one map that came in. -/
def gr.G (w : World) (gm n : Nat) (m : Int → Int × Int × Int) (W : World) : Prop := gm < w.heap.size ∧ w.grownBy W (some gm) ∧ gr.MapN W gm n m
section
variable {w W W0 W2 : World} {gm n n' g : Nat} {m m' : Int → Int × Int × Int}
theorem gr.G_refl (h : gr.MapN w gm n m) : gr.G w gm n m w := ⟨gr.MapN_lt h, ⟨rfl, rfl, rfl, Nat.le_refl _, fun _ _ _ => rfl⟩, h⟩
theorem gr.G_below (h : gr.G w gm n m W) (k : Below W.heap.size W W2) : gr.G w gm n m W2 :=
  ⟨h.1, ⟨k.os.trans h.2.1.os, k.tape.trans h.2.1.tape, k.output.trans h.2.1.output, Nat.le_trans h.2.1.size k.size, fun i hi hr => (k.block i (Nat.lt_of_lt_of_le hi h.2.1.size)).trans (h.2.1.block i hi hr)⟩, gr.MapN_same h.2.2 (k.block gm (gr.MapN_lt h.2.2))⟩
theorem gr.G_set {i : Nat} (h : gr.G w gm n m W) (hg : w.heap.size ≤ g) (v : Value) : gr.G w gm n m (W.setCell ⟨g, i, none⟩ v) :=
  have e := gr.GM_set h.2.1 h.2.2 hg (Nat.ne_of_lt (Nat.lt_of_lt_of_le h.1 hg)) i v
  ⟨h.1, e.1, e.2⟩
theorem gr.G_call (h : gr.G w gm n m W) (hg : W.grownBy W2 (some gm)) (hm : gr.MapN W2 gm n' m') : gr.G w gm n' m' W2 :=
  ⟨h.1, ⟨hg.os.trans h.2.1.os, hg.tape.trans h.2.1.tape, hg.output.trans h.2.1.output, Nat.le_trans h.2.1.size hg.size, fun i hi hr => (hg.block i (Nat.lt_of_lt_of_le hi h.2.1.size) hr).trans (h.2.1.block i hi hr)⟩, hm⟩
theorem gr.gw (HB : Aside0 (gr.G w gm n m W0)) (h : gr.G w gm n m W0 → gr.G w gm n m W := by intro h_; repeat (first | (with_reducible first | exact h_ | apply gr.G_alloc | apply gr.G_drewN | apply gr.G_drew1 | refine gr.G_set ?_ (Aside0.out (by assumption)) _) | exact h_)) : gr.G w gm n m W := h HB.out
theorem gr.gs (HB : Aside0 (gr.G w gm n m W0)) (k : Below W.heap.size W W2) (h : gr.G w gm n m W0 → gr.G w gm n m W := by intro h_; repeat (first | (with_reducible first | exact h_ | apply gr.G_alloc | apply gr.G_drewN | apply gr.G_drew1 | refine gr.G_set ?_ (Aside0.out (by assumption)) _) | exact h_)) : Aside0 (gr.G w gm n m W2) := ⟨gr.G_below (h HB.out) k⟩
theorem gr.gz (HB : Aside0 (gr.G w gm n m W0)) (hg : g = W.heap.size) (h : gr.G w gm n m W0 → gr.G w gm n m W := by intro h_; repeat (first | (with_reducible first | exact h_ | apply gr.G_alloc | apply gr.G_drewN | apply gr.G_drew1 | refine gr.G_set ?_ (Aside0.out (by assumption)) _) | exact h_)) : Aside0 (w.heap.size ≤ g) := ⟨by rw [hg]; exact (h HB.out).2.1.size⟩
theorem gr.keep (hg : W.grownBy W2 (some gm)) (hm : gr.MapN W gm n m) {cs : Array Value} {t : TypeId} {fr : Nat × Nat} (hb : W.heap[g]? = some (.cells cs t fr)) : W2.heap[g]? = some (.cells cs t fr) :=
  (hg.block g (blk_lt hb) (by intro e; exact gr.MapN_ne hm hb (Option.some.inj e))).trans hb
theorem gr.cellkeep (hg : w.grownBy W (some gm)) (hm : gr.MapN w gm n m) {a : Addr} {v : Value} (h : w.cell? a = some v) : W.cell? a = some v := by
  have hlt := World.block_lt_of_cell? w _ h
  have hne : some a.block ≠ some gm := by
    intro e
    obtain ⟨D, ⟨es, clock, hb, _⟩, _⟩ := hm
    rw [← Option.some.inj e] at hb
    simp [World.cell?, hb] at h
  rw [World.cell?_of_block (hg.block a.block hlt hne)]
  exact h
end
def gr.over (p4 l0 l1 l2 : Int) : List S31 → Int → (Int → Int × Int × Int) → Option (Int × (Int → Int × Int × Int) × Bool)
  | [], last, m => some (last, m, true)
  | e :: es, last, m => if e.f1 = 0 then some (last, m, false) else ((audit_plus.f (m (IntKind.u64.wrap (Int.tdiv e.f0 p4))).1 (m (IntKind.u64.wrap (Int.tdiv e.f0 p4))).2.1 (m (IntKind.u64.wrap (Int.tdiv e.f0 p4))).2.2 e.f1 0 0).bind fun s => (audit_above.f s.1 s.2.1 s.2.2 l0 l1 l2).bind fun b => if b = true then some (last, gr.upd m (IntKind.u64.wrap (Int.tdiv e.f0 p4)) s, false) else gr.over p4 l0 l1 l2 es (if last < IntKind.u64.wrap (Int.tdiv e.f0 p4) then IntKind.u64.wrap (Int.tdiv e.f0 p4) else last) (gr.upd m (IntKind.u64.wrap (Int.tdiv e.f0 p4)) s))
theorem gr.wrap_wf (x : Int) : (Lit.int .u64 (IntKind.u64.wrap x)).wf = true := by
  have e := IntKind.wrap_u64 x
  rw [e]
  simp [Lit.wf, IntKind.min, IntKind.max, IntKind.signed, IntKind.bits]
  omega
theorem gr.drop_at (l : List S31) (i : Int) (h0 : 0 ≤ i) (h1 : i < l.length) : l.drop i.toNat = rd_T31 l i :: l.drop (i + 1).toNat := by
  have h : i.toNat < l.length := by omega
  rw [List.drop_eq_getElem_cons h]
  unfold rd_T31
  rw [List.getD_eq_getElem?_getD, List.getElem?_eq_getElem h, show (i + 1).toNat = i.toNat + 1 by omega]
  rfl
theorem gr.put2 {w : World} {g : Nat} {t : TypeId} {a b a' b' : Value} (B : w.heap[g]? = some (.cells #[a, b] t (0, 0))) : ((w.setCell ⟨g, 0, none⟩ a').setCell ⟨g, 1, none⟩ b').heap[g]? = some (.cells #[a', b'] t (0, 0)) := blk_put (blk_put B 0 a' rfl) 1 b' rfl
theorem gr.mp {w W : World} {gm n : Nat} {m : Int → Int × Int × Int} (h : gr.G w gm n m W) : gr.MapN W gm n m := h.2.2
theorem gr.fin {w W : World} {gm n : Nat} {m : Int → Int × Int × Int} (h : gr.G w gm n m W) : w.grownBy W (some gm) ∧ ∃ n', gr.MapN W gm n' m := ⟨h.2.1, n, h.2.2⟩
set_option maxHeartbeats 4000000 in
set_option maxRecDepth 100000 in
theorem gr.over_calls (gm n gp gl : Nat) (m m' : Int → Int × Int × Int) (p0 p1 p2 p3 p4 l0 l1 l2 last last' : Int) (ok : Bool) (A : Option Addr) (c : Nat) (l : List S31) (w : World) (hgp : w.heap[gp]? = some (.cells #[.int .i64 p0, .int .u64 p1, .int .u64 p2, .int .u64 p3, .int .u64 p4] 24 (0, 0))) (hgl : w.heap[gl]? = some (.cells #[.int .u64 l0, .int .u64 l1, .int .u64 l2] 76 (0, 0))) (hm : gr.MapN w gm n m) (hp : p4 ≠ 0) (hr : Kd.C k31 w A l.length l) (hc : l.length ≤ c) (hn : n + l.length < maxLen) (h : gr.over p4 l0 l1 l2 l last m = some (last', m', ok)) :
    Calls Try.prog 54 #[.slice A l.length c, .agg #[.map (some gm), .int .u64 last], .func (.func 55) #[] #[.pointer (some ⟨gp, 0, none⟩), .pointer (some ⟨gl, 0, none⟩)]] w fun e w' => e = .returned (.tuple #[.agg #[.map (some gm), .int .u64 last'], .bool ok]) ∧ w.grownBy w' (some gm) ∧ ∃ n', gr.MapN w' gm n' m' := by
  have HM := Aside0.mk hm
  have HB := Aside0.mk (gr.G_refl hm)
  have HR := Aside0.mk hr
  have HN := Aside0.mk hn
  have HC := Aside0.mk hc
  have HP := Aside0.mk hp
  have BKgp := Aside0.mk hgp
  have BKgl := Aside0.mk hgl
  have H0 := Aside0.mk h
  clear hm hr hn hc hp hgp hgl h
  have hu := Try.underlying109
  have hv := Try.underlying31
  go_enter Try.func54, Try.ntmps54
  go_wp2_with (first | ((with_reducible refine gate_dst (N := 4) rfl ?_); refine bx 4 #[.map (some gm), .int .u64 last] 109 ?_; intro g4 hg w_g4 hbox hb; have n_gp := bb BKgp hb; have e1_gp := nl BKgp hg; have e2_gp := nr BKgp hg; have n_gl := bb BKgl hb; have e1_gl := nl BKgl hg; have e2_gl := nr BKgl hg; have n0_ := gr.gs HB hb; have GEg4 := gr.gz HB hg; clear HB BKgp BKgl; have HB := n0_; clear n0_; have BKgp := n_gp; clear n_gp; have NEgp_g4 := e1_gp; have NEg4_gp := e2_gp; clear e1_gp e2_gp; have BKgl := n_gl; clear n_gl; have NEgl_g4 := e1_gl; have NEg4_gl := e2_gl; clear e1_gl e2_gl; have BKg4 := Aside0.mk hbox; clear hb hbox hg) | ((with_reducible refine gate_dst (N := 6) rfl ?_); refine bx 6 #[.map none, .int .u64 0] 109 ?_; intro g6 hg w_g6 hbox hb; have n_gp := bb BKgp hb; have e1_gp := nl BKgp hg; have e2_gp := nr BKgp hg; have n_gl := bb BKgl hb; have e1_gl := nl BKgl hg; have e2_gl := nr BKgl hg; have n_g4 := bb BKg4 hb; have e1_g4 := nl BKg4 hg; have e2_g4 := nr BKg4 hg; have n0_ := gr.gs HB hb; have GEg6 := gr.gz HB hg; clear HB BKgp BKgl BKg4; have HB := n0_; clear n0_; have BKgp := n_gp; clear n_gp; have NEgp_g6 := e1_gp; have NEg6_gp := e2_gp; clear e1_gp e2_gp; have BKgl := n_gl; clear n_gl; have NEgl_g6 := e1_gl; have NEg6_gl := e2_gl; clear e1_gl e2_gl; have BKg4 := n_g4; clear n_g4; have NEg4_g6 := e1_g4; have NEg6_g4 := e2_g4; clear e1_g4 e2_g4; have BKg6 := Aside0.mk hbox; clear hb hbox hg))
  go_loopw [14] (fun v14 w' => ∃ (i lst : Int) (mm : Int → Int × Int × Int) (nn : Nat), v14 = .int .i64 i ∧ Aside0 (0 ≤ i ∧ i ≤ l.length) ∧ Aside0 (nn + (l.length - i.toNat) ≤ n + l.length) ∧ Aside0 (gr.over p4 l0 l1 l2 (l.drop i.toNat) lst mm = some (last', m', ok)) ∧ Aside0 (w'.heap[g4]? = some (.cells #[.map (some gm), .int .u64 lst] 109 (0, 0))) ∧ Aside0 (w'.heap[g6]? = some (.cells #[.map none, .int .u64 0] 109 (0, 0))) ∧ Aside0 (w'.heap[gp]? = some (.cells #[.int .i64 p0, .int .u64 p1, .int .u64 p2, .int .u64 p3, .int .u64 p4] 24 (0, 0))) ∧ Aside0 (w'.heap[gl]? = some (.cells #[.int .u64 l0, .int .u64 l1, .int .u64 l2] 76 (0, 0))) ∧ Aside0 (gr.G w gm nn mm w')) (fun v14 _ => l.length - (intOf v14).toNat)
  case atStart => exact ⟨0, last, m, n, rs, ⟨Int.le_refl _, Int.natCast_nonneg _⟩, ⟨by simp⟩, H0, ⟨bk BKg4⟩, ⟨bk BKg6⟩, ⟨bk BKgp⟩, ⟨bk BKgl⟩, ⟨gr.gw HB⟩⟩
  case round =>
    clear BKg4 BKg6 BKgp BKgl HB H0
    obtain ⟨i, lst, mm, nn, rfl, hi, hnn, H, BKg4, BKg6, BKgp, BKgl, HB⟩ := hrel
    obtain ⟨hc4_0, hc4_1, hf4_0, hf4_1⟩ := bc2 BKg4
    obtain ⟨hc6_0, hc6_1, hf6_0, hf6_1⟩ := bc2 BKg6
    have h4_6 := NEg4_g6.out
    have h6_4 := NEg6_g4.out
    by_cases hlt : i < (l.length : Int)
    rotate_left
    · have c0 : decide (i < (l.length : Int)) = false := decide_eq_false hlt
      have hi0 := hi.out
      have e := H.out
      rw [List.drop_eq_nil_of_le (by omega)] at e
      simp only [gr.over, Option.some.injEq, Prod.mk.injEq] at e
      obtain ⟨rfl, rfl, rfl⟩ := e
      clear hlt H hi0
      go_wp2
      refine bodyPost_ret (results_ct rfl _ _ g6 109 #[.map (some gm), .int .u64 lst] (0, 0) _ rfl ?hbk1 hu rfl (by kernel_rfl)) rfl ?_
      case hbk1 => exact gr.put2 (bk (o := .cells #[.map none, .int .u64 0] 109 (0, 0)) BKg6)
      refine ⟨rfl, ?_⟩
      exact gr.fin (gr.gw HB)
    · have c0 : decide (i < (l.length : Int)) = true := decide_eq_true hlt
      have H1 := H.out
      have pi1 : 0 ≤ i := hi.out.1
      have qi1 : i < (l.length : Int) := hlt
      rw [gr.drop_at l i pi1 qi1] at H1
      have HL := Aside0.mk hlt
      clear hlt H
      obtain ⟨ad, ead, hx0, hx1⟩ := at_T31 HR.out i pi1 qi1
      cases ead
      replace hx0 := gr.cellkeep HB.out.2.1 HM.out hx0
      replace hx1 := gr.cellkeep HB.out.2.1 HM.out hx1
      replace pi1 := eq_true pi1
      replace qi1 := eq_true qi1
      generalize rd_T31 l i = E at *
      unfold gr.over at H1
      by_cases cz : E.f1 = 0
      · rw [if_pos cz] at H1
        simp only [Option.some.injEq, Prod.mk.injEq] at H1
        obtain ⟨rfl, rfl, rfl⟩ := H1
        have cz0 : (E.f1 == 0) = true := beq_iff_eq.mpr cz
        clear cz
        go_wp2_with (first | ((with_reducible refine gate_dst (N := 9) rfl ?_); refine bx 9 #[.int .u64 0, .int .u64 0] 31 ?_; intro g9 hg w_g9 hbox hb; have n_g4 := bb BKg4 hb; have e1_g4 := nl BKg4 hg; have e2_g4 := nr BKg4 hg; have n_g6 := bb BKg6 hb; have e1_g6 := nl BKg6 hg; have e2_g6 := nr BKg6 hg; have n_gp := bb BKgp hb; have e1_gp := nl BKgp hg; have e2_gp := nr BKgp hg; have n_gl := bb BKgl hb; have e1_gl := nl BKgl hg; have e2_gl := nr BKgl hg; have n0_ := gr.gs HB hb; have GEg9 := gr.gz HB hg; clear HB BKg4 BKg6 BKgp BKgl; have HB := n0_; clear n0_; have BKg4 := n_g4; clear n_g4; have NEg4_g9 := e1_g4; have NEg9_g4 := e2_g4; clear e1_g4 e2_g4; have BKg6 := n_g6; clear n_g6; have NEg6_g9 := e1_g6; have NEg9_g6 := e2_g6; clear e1_g6 e2_g6; have BKgp := n_gp; clear n_gp; have NEgp_g9 := e1_gp; have NEg9_gp := e2_gp; clear e1_gp e2_gp; have BKgl := n_gl; clear n_gl; have NEgl_g9 := e1_gl; have NEg9_gl := e2_gl; clear e1_gl e2_gl; have BKg9 := Aside0.mk hbox; clear hb hbox hg; obtain ⟨hcg9a_0, hcg9a_1, hfg9a_0, hfg9a_1⟩ := bc2 BKg9; have hg4_g9 := NEg4_g9.out; have hg9_g4 := NEg9_g4.out; have hg6_g9 := NEg6_g9.out; have hg9_g6 := NEg9_g6.out; obtain ⟨hcg4a_0, hcg4a_1, hfg4a_0, hfg4a_1⟩ := bc2 BKg4; obtain ⟨hcg6a_0, hcg6a_1, hfg6a_0, hfg6a_1⟩ := bc2 BKg6))
        refine bodyPost_ret (results_ct rfl _ _ g6 109 #[.map (some gm), .int .u64 lst] (0, 0) _ rfl ?hbk2 hu rfl (by kernel_rfl)) rfl ?_
        case hbk2 => exact gr.put2 (bk (o := .cells #[.map none, .int .u64 0] 109 (0, 0)) BKg6)
        refine ⟨rfl, ?_⟩
        exact gr.fin (gr.gw HB)
      · rw [if_neg cz] at H1
        have cz0 : (E.f1 == 0) = false := beq_eq_false_iff_ne.mpr cz
        clear cz
        obtain ⟨x, hX⟩ : ∃ x, IntKind.u64.wrap (Int.tdiv E.f0 p4) = x := ⟨_, rfl⟩
        rw [hX] at H1
        have hXw : (Lit.int .u64 x).wf = true := by rw [← hX]; exact gr.wrap_wf _
        have HX := Aside0.mk hX
        have HXW := Aside0.mk hXw
        clear hX hXw
        obtain ⟨⟨s0, s1, s2⟩, F, H2⟩ := Option.bind_eq_some_iff.mp H1
        obtain ⟨b, G, H3⟩ := Option.bind_eq_some_iff.mp H2
        dsimp only at G H3
        obtain ⟨lm, hL⟩ : ∃ lm, (if lst < x then x else lst) = lm := ⟨_, rfl⟩
        rw [hL] at H3
        have F := Aside0.mk F
        have G := Aside0.mk G
        have HL2 := Aside0.mk hL
        clear H1 H2 hL
        have HNN : Aside0 (nn < maxLen) := ⟨by have := hnn.out; have := HN.out; omega⟩
        cases b with
        | true =>
          rw [if_pos rfl] at H3
          simp only [Option.some.injEq, Prod.mk.injEq] at H3
          obtain ⟨rfl, rfl, rfl⟩ := H3
          go_wp2_with (first | ((with_reducible refine gate_dst (N := 9) rfl ?_); refine bx 9 #[.int .u64 0, .int .u64 0] 31 ?_; intro g9 hg w_g9 hbox hb; have n_g4 := bb BKg4 hb; have e1_g4 := nl BKg4 hg; have e2_g4 := nr BKg4 hg; have n_g6 := bb BKg6 hb; have e1_g6 := nl BKg6 hg; have e2_g6 := nr BKg6 hg; have n_gp := bb BKgp hb; have e1_gp := nl BKgp hg; have e2_gp := nr BKgp hg; have n_gl := bb BKgl hb; have e1_gl := nl BKgl hg; have e2_gl := nr BKgl hg; have n0_ := gr.gs HB hb; have GEg9 := gr.gz HB hg; clear HB BKg4 BKg6 BKgp BKgl; have HB := n0_; clear n0_; have BKg4 := n_g4; clear n_g4; have NEg4_g9 := e1_g4; have NEg9_g4 := e2_g4; clear e1_g4 e2_g4; have BKg6 := n_g6; clear n_g6; have NEg6_g9 := e1_g6; have NEg9_g6 := e2_g6; clear e1_g6 e2_g6; have BKgp := n_gp; clear n_gp; have NEgp_g9 := e1_gp; have NEg9_gp := e2_gp; clear e1_gp e2_gp; have BKgl := n_gl; clear n_gl; have NEgl_g9 := e1_gl; have NEg9_gl := e2_gl; clear e1_gl e2_gl; have BKg9 := Aside0.mk hbox; clear hb hbox hg; obtain ⟨hcg9a_0, hcg9a_1, hfg9a_0, hfg9a_1⟩ := bc2 BKg9; have hg4_g9 := NEg4_g9.out; have hg9_g4 := NEg9_g4.out; have hg6_g9 := NEg6_g9.out; have hg9_g6 := NEg9_g6.out; obtain ⟨hcg4a_0, hcg4a_1, hfg4a_0, hfg4a_1⟩ := bc2 BKg4; obtain ⟨hcg6a_0, hcg6a_1, hfg6a_0, hfg6a_1⟩ := bc2 BKg6) | (go_at_call 55; refine (gr.one gm nn gp gl mm p0 p1 p2 p3 p4 l0 l1 l2 E.f0 E.f1 lst x s0 s1 s2 lm true _ (bk BKgp) (bk BKgl) (gr.mp (gr.gw HB)) HNN.out HP.out HX.out HXW.out HL2.out F.out G.out).mono ?_; rintro e w5 ⟨rfl, hgr, hmp⟩; have n_g4 := Aside0.mk (gr.keep hgr (gr.mp (gr.gw HB)) (bk (o := .cells #[.map (some gm), .int .u64 lst] 109 (0, 0)) BKg4)); have n_g6 := Aside0.mk (gr.keep hgr (gr.mp (gr.gw HB)) (bk (o := .cells #[.map none, .int .u64 0] 109 (0, 0)) BKg6)); have n_gp := Aside0.mk (gr.keep hgr (gr.mp (gr.gw HB)) (bk (o := .cells #[.int .i64 p0, .int .u64 p1, .int .u64 p2, .int .u64 p3, .int .u64 p4] 24 (0, 0)) BKgp)); have n_gl := Aside0.mk (gr.keep hgr (gr.mp (gr.gw HB)) (bk (o := .cells #[.int .u64 l0, .int .u64 l1, .int .u64 l2] 76 (0, 0)) BKgl)); have n_g9 := Aside0.mk (gr.keep hgr (gr.mp (gr.gw HB)) (gr.put2 BKg9.out (a' := .int .u64 E.f0) (b' := .int .u64 E.f1))); have n0_ := Aside0.mk (gr.G_call (gr.gw HB) hgr hmp); clear HB hgr hmp BKg4 BKg6 BKgp BKgl BKg9; have HB := n0_; clear n0_; have BKg4 := n_g4; clear n_g4; have BKg6 := n_g6; clear n_g6; have BKgp := n_gp; clear n_gp; have BKgl := n_gl; clear n_gl; have BKg9 := n_g9; clear n_g9; obtain ⟨hcg4b_0, hcg4b_1, hfg4b_0, hfg4b_1⟩ := bc2 BKg4; obtain ⟨hcg6b_0, hcg6b_1, hfg6b_0, hfg6b_1⟩ := bc2 BKg6) | ((with_reducible refine gate_dst (N := 10) rfl ?_); refine bx 10 #[.map none, .int .u64 0] 109 ?_; intro g10 hg w_g10 hbox hb; have n_g4 := bb BKg4 hb; have e1_g4 := nl BKg4 hg; have e2_g4 := nr BKg4 hg; have n_g6 := bb BKg6 hb; have e1_g6 := nl BKg6 hg; have e2_g6 := nr BKg6 hg; have n_gp := bb BKgp hb; have e1_gp := nl BKgp hg; have e2_gp := nr BKgp hg; have n_gl := bb BKgl hb; have e1_gl := nl BKgl hg; have e2_gl := nr BKgl hg; have n_g9 := bb BKg9 hb; have e1_g9 := nl BKg9 hg; have e2_g9 := nr BKg9 hg; have n0_ := gr.gs HB hb; have GEg10 := gr.gz HB hg; clear HB BKg4 BKg6 BKgp BKgl BKg9; have HB := n0_; clear n0_; have BKg4 := n_g4; clear n_g4; have NEg4_g10 := e1_g4; have NEg10_g4 := e2_g4; clear e1_g4 e2_g4; have BKg6 := n_g6; clear n_g6; have NEg6_g10 := e1_g6; have NEg10_g6 := e2_g6; clear e1_g6 e2_g6; have BKgp := n_gp; clear n_gp; have NEgp_g10 := e1_gp; have NEg10_gp := e2_gp; clear e1_gp e2_gp; have BKgl := n_gl; clear n_gl; have NEgl_g10 := e1_gl; have NEg10_gl := e2_gl; clear e1_gl e2_gl; have BKg9 := n_g9; clear n_g9; have NEg9_g10 := e1_g9; have NEg10_g9 := e2_g9; clear e1_g9 e2_g9; have BKg10 := Aside0.mk hbox; clear hb hbox hg; obtain ⟨hcg10c_0, hcg10c_1, hfg10c_0, hfg10c_1⟩ := bc2 BKg10; have hg4_g10 := NEg4_g10.out; have hg10_g4 := NEg10_g4.out; have hg6_g10 := NEg6_g10.out; have hg10_g6 := NEg10_g6.out; obtain ⟨hcg4c_0, hcg4c_1, hfg4c_0, hfg4c_1⟩ := bc2 BKg4; obtain ⟨hcg6c_0, hcg6c_1, hfg6c_0, hfg6c_1⟩ := bc2 BKg6))
          refine bodyPost_ret (results_ct rfl _ _ g6 109 #[.map (some gm), .int .u64 lst] (0, 0) _ rfl ?hbk3 hu rfl (by kernel_rfl)) rfl ?_
          case hbk3 => exact gr.put2 (bk (o := .cells #[.map none, .int .u64 0] 109 (0, 0)) BKg6)
          refine ⟨rfl, ?_⟩
          exact gr.fin (gr.gw HB)
        | false =>
          rw [if_neg (by decide)] at H3
          have H3 := Aside0.mk H3
          go_wp2_with (first | ((with_reducible refine gate_dst (N := 9) rfl ?_); refine bx 9 #[.int .u64 0, .int .u64 0] 31 ?_; intro g9 hg w_g9 hbox hb; have n_g4 := bb BKg4 hb; have e1_g4 := nl BKg4 hg; have e2_g4 := nr BKg4 hg; have n_g6 := bb BKg6 hb; have e1_g6 := nl BKg6 hg; have e2_g6 := nr BKg6 hg; have n_gp := bb BKgp hb; have e1_gp := nl BKgp hg; have e2_gp := nr BKgp hg; have n_gl := bb BKgl hb; have e1_gl := nl BKgl hg; have e2_gl := nr BKgl hg; have n0_ := gr.gs HB hb; have GEg9 := gr.gz HB hg; clear HB BKg4 BKg6 BKgp BKgl; have HB := n0_; clear n0_; have BKg4 := n_g4; clear n_g4; have NEg4_g9 := e1_g4; have NEg9_g4 := e2_g4; clear e1_g4 e2_g4; have BKg6 := n_g6; clear n_g6; have NEg6_g9 := e1_g6; have NEg9_g6 := e2_g6; clear e1_g6 e2_g6; have BKgp := n_gp; clear n_gp; have NEgp_g9 := e1_gp; have NEg9_gp := e2_gp; clear e1_gp e2_gp; have BKgl := n_gl; clear n_gl; have NEgl_g9 := e1_gl; have NEg9_gl := e2_gl; clear e1_gl e2_gl; have BKg9 := Aside0.mk hbox; clear hb hbox hg; obtain ⟨hcg9a_0, hcg9a_1, hfg9a_0, hfg9a_1⟩ := bc2 BKg9; have hg4_g9 := NEg4_g9.out; have hg9_g4 := NEg9_g4.out; have hg6_g9 := NEg6_g9.out; have hg9_g6 := NEg9_g6.out; obtain ⟨hcg4a_0, hcg4a_1, hfg4a_0, hfg4a_1⟩ := bc2 BKg4; obtain ⟨hcg6a_0, hcg6a_1, hfg6a_0, hfg6a_1⟩ := bc2 BKg6) | (go_at_call 55; refine (gr.one gm nn gp gl mm p0 p1 p2 p3 p4 l0 l1 l2 E.f0 E.f1 lst x s0 s1 s2 lm false _ (bk BKgp) (bk BKgl) (gr.mp (gr.gw HB)) HNN.out HP.out HX.out HXW.out HL2.out F.out G.out).mono ?_; rintro e w5 ⟨rfl, hgr, hmp⟩; have n_g4 := Aside0.mk (gr.keep hgr (gr.mp (gr.gw HB)) (bk (o := .cells #[.map (some gm), .int .u64 lst] 109 (0, 0)) BKg4)); have n_g6 := Aside0.mk (gr.keep hgr (gr.mp (gr.gw HB)) (bk (o := .cells #[.map none, .int .u64 0] 109 (0, 0)) BKg6)); have n_gp := Aside0.mk (gr.keep hgr (gr.mp (gr.gw HB)) (bk (o := .cells #[.int .i64 p0, .int .u64 p1, .int .u64 p2, .int .u64 p3, .int .u64 p4] 24 (0, 0)) BKgp)); have n_gl := Aside0.mk (gr.keep hgr (gr.mp (gr.gw HB)) (bk (o := .cells #[.int .u64 l0, .int .u64 l1, .int .u64 l2] 76 (0, 0)) BKgl)); have n_g9 := Aside0.mk (gr.keep hgr (gr.mp (gr.gw HB)) (gr.put2 BKg9.out (a' := .int .u64 E.f0) (b' := .int .u64 E.f1))); have n0_ := Aside0.mk (gr.G_call (gr.gw HB) hgr hmp); clear HB hgr hmp BKg4 BKg6 BKgp BKgl BKg9; have HB := n0_; clear n0_; have BKg4 := n_g4; clear n_g4; have BKg6 := n_g6; clear n_g6; have BKgp := n_gp; clear n_gp; have BKgl := n_gl; clear n_gl; have BKg9 := n_g9; clear n_g9; obtain ⟨hcg4b_0, hcg4b_1, hfg4b_0, hfg4b_1⟩ := bc2 BKg4; obtain ⟨hcg6b_0, hcg6b_1, hfg6b_0, hfg6b_1⟩ := bc2 BKg6) | ((with_reducible refine gate_dst (N := 10) rfl ?_); refine bx 10 #[.map none, .int .u64 0] 109 ?_; intro g10 hg w_g10 hbox hb; have n_g4 := bb BKg4 hb; have e1_g4 := nl BKg4 hg; have e2_g4 := nr BKg4 hg; have n_g6 := bb BKg6 hb; have e1_g6 := nl BKg6 hg; have e2_g6 := nr BKg6 hg; have n_gp := bb BKgp hb; have e1_gp := nl BKgp hg; have e2_gp := nr BKgp hg; have n_gl := bb BKgl hb; have e1_gl := nl BKgl hg; have e2_gl := nr BKgl hg; have n_g9 := bb BKg9 hb; have e1_g9 := nl BKg9 hg; have e2_g9 := nr BKg9 hg; have n0_ := gr.gs HB hb; have GEg10 := gr.gz HB hg; clear HB BKg4 BKg6 BKgp BKgl BKg9; have HB := n0_; clear n0_; have BKg4 := n_g4; clear n_g4; have NEg4_g10 := e1_g4; have NEg10_g4 := e2_g4; clear e1_g4 e2_g4; have BKg6 := n_g6; clear n_g6; have NEg6_g10 := e1_g6; have NEg10_g6 := e2_g6; clear e1_g6 e2_g6; have BKgp := n_gp; clear n_gp; have NEgp_g10 := e1_gp; have NEg10_gp := e2_gp; clear e1_gp e2_gp; have BKgl := n_gl; clear n_gl; have NEgl_g10 := e1_gl; have NEg10_gl := e2_gl; clear e1_gl e2_gl; have BKg9 := n_g9; clear n_g9; have NEg9_g10 := e1_g9; have NEg10_g9 := e2_g9; clear e1_g9 e2_g9; have BKg10 := Aside0.mk hbox; clear hb hbox hg; obtain ⟨hcg10c_0, hcg10c_1, hfg10c_0, hfg10c_1⟩ := bc2 BKg10; have hg4_g10 := NEg4_g10.out; have hg10_g4 := NEg10_g4.out; have hg6_g10 := NEg6_g10.out; have hg10_g6 := NEg10_g6.out; obtain ⟨hcg4c_0, hcg4c_1, hfg4c_0, hfg4c_1⟩ := bc2 BKg4; obtain ⟨hcg6c_0, hcg6c_1, hfg6c_0, hfg6c_1⟩ := bc2 BKg6))
          go_roundw
          case measure =>
            have e1 := HL.out
            have e2 := hi.out.1
            have e3 := HN.out
            unfold maxLen at e3
            have hw : wrap64 (i + 1) = i + 1 := by unfold wrap64; omega
            simp only [intOf, hw]
            omega
          case rel => exact ⟨i + 1, lm, gr.upd mm x (s0, s1, s2), nn + 1, by first | rfl | (have e1 := HL.out; have e2 := hi.out.1; have e3 := HN.out; unfold maxLen at e3; rw [show wrap64 (i + 1) = i + 1 by unfold wrap64; omega]), ⟨by have := hi.out.1; omega, by have := HL.out; omega⟩, ⟨by have e1 := hnn.out; have e2 := hi.out.1; have e4 := HL.out; omega⟩, H3, ⟨gr.put2 (bk (o := .cells #[.map (some gm), .int .u64 lst] 109 (0, 0)) BKg4)⟩, ⟨bk BKg6⟩, ⟨bk BKgp⟩, ⟨bk BKgl⟩, ⟨gr.gw HB⟩⟩
theorem gr.made {w : World} {g : Nat} (h : w.heap[g]? = some (.map #[] 0)) : gr.MapN w g 0 (fun _ => (0, 0, 0)) :=
  ⟨.map [], ⟨#[], 0, h, ⟨by simp, Go.MapKept.stamped_empty 0, by simp⟩, Nat.le_refl _, rfl⟩, fun _ _ => rfl⟩
theorem gr.MapN_set {W : World} {gm n g i : Nat} {m : Int → Int × Int × Int} (h : gr.MapN W gm n m) (hne : gm ≠ g) (v : Value) : gr.MapN (W.setCell ⟨g, i, none⟩ v) gm n m := gr.MapN_same h (Below.heap_setCell W ⟨g, i, none⟩ v gm hne)
def audit_grid.f (p3 p4 : Int) (l : List S31) : Option (Int × (Int → Int × Int × Int) × Bool) := if p4 = 0 then none else if l.length < 140737488355328 then gr.over p4 p3 0 0 l 0 (fun _ => (0, 0, 0)) else none
set_option maxHeartbeats 4000000 in
set_option maxRecDepth 100000 in
theorem audit_grid.calls (p0 p1 p2 p3 p4 : Int) (A : Option Addr) (c : Nat) (l : List S31) (last' : Int) (m' : Int → Int × Int × Int) (ok : Bool) (w : World) (hr : Kd.C k31 w A l.length l) (hc : l.length ≤ c) (h : audit_grid.f p3 p4 l = some (last', m', ok)) :
    Calls Try.prog 39 #[.agg #[.int .i64 p0, .int .u64 p1, .int .u64 p2, .int .u64 p3, .int .u64 p4], .slice A l.length c] w fun e w' => ∃ gm n, e = .returned (.tuple #[.agg #[.map (some gm), .int .u64 last'], .bool ok]) ∧ Below w.heap.size w w' ∧ gr.MapN w' gm n m' := by
  unfold audit_grid.f at h
  by_cases hp : p4 = 0
  · rw [if_pos hp] at h
    cases h
  rw [if_neg hp] at h
  by_cases hn : l.length < 140737488355328
  rotate_left
  · rw [if_neg hn] at h
    cases h
  rw [if_pos hn] at h
  have HB := Aside0.mk (Below.refl w.heap.size w)
  have HR := Aside0.mk hr
  have HN : Aside0 (0 + l.length < maxLen) := ⟨by unfold maxLen; omega⟩
  have HC := Aside0.mk hc
  have HP : Aside0 (p4 ≠ 0) := ⟨hp⟩
  have H0 := Aside0.mk h
  clear hr hn hc hp h
  have hu := Try.underlying109
  have hv := Try.underlying24
  have hmf : ∀ (fn : Fn) (first cap : Array Value) (w : World), (Instr.makeFunc fn first cap).run Try.prog w = .ok (.func fn first cap) w := fun _ _ _ _ => rfl
  go_enter Try.func39, Try.ntmps39
  go_wp2_with (first | ((with_reducible refine gate_dst (N := 2) rfl ?_); refine bx 2 #[.int .i64 p0, .int .u64 p1, .int .u64 p2, .int .u64 p3, .int .u64 p4] 24 ?_; intro gp hg w_gp hbox hb; have n0_ := bs HB hb; have GEgp := sz HB hg; clear HB ; have HB := n0_; clear n0_; have BKgp := Aside0.mk hbox; clear hb hbox hg; obtain ⟨hcgpa_0, hcgpa_1, hcgpa_2, hcgpa_3, hcgpa_4, hfgpa_0, hfgpa_1, hfgpa_2, hfgpa_3, hfgpa_4⟩ := bc5 BKgp) | ((with_reducible refine gate_dst (N := 4) rfl ?_); refine bx 4 #[.map none, .int .u64 0] 109 ?_; intro g4 hg w_g4 hbox hb; have n_gp := bb BKgp hb; have e1_gp := nl BKgp hg; have e2_gp := nr BKgp hg; have n0_ := bs HB hb; have GEg4 := sz HB hg; clear HB BKgp; have HB := n0_; clear n0_; have BKgp := n_gp; clear n_gp; have NEgp_g4 := e1_gp; have NEg4_gp := e2_gp; clear e1_gp e2_gp; have BKg4 := Aside0.mk hbox; clear hb hbox hg; have hgp_g4 := NEgp_g4.out; have hg4_gp := NEg4_gp.out; obtain ⟨hcgpb_0, hcgpb_1, hcgpb_2, hcgpb_3, hcgpb_4, hfgpb_0, hfgpb_1, hfgpb_2, hfgpb_3, hfgpb_4⟩ := bc5 BKgp) | (go_at_call 40; refine (audit_of.calls p3 p3 0 0 _ (gr.of_u p3)).mono ?_; rintro e w5 ⟨rfl, hb⟩; have n_gp := bb BKgp hb; have n_g4 := bb BKg4 hb; have n0_ := bs HB hb; clear HB hb BKgp BKg4; have HB := n0_; clear n0_; have BKgp := n_gp; clear n_gp; have BKg4 := n_g4; clear n_g4) | ((with_reducible refine gate_dst (N := 6) rfl ?_); refine bx 6 #[.int .u64 0, .int .u64 0, .int .u64 0] 76 ?_; intro g6 hg w_g6 hbox hb; have n_gp := bb BKgp hb; have e1_gp := nl BKgp hg; have e2_gp := nr BKgp hg; have n_g4 := bb BKg4 hb; have e1_g4 := nl BKg4 hg; have e2_g4 := nr BKg4 hg; have n0_ := bs HB hb; have GEg6 := sz HB hg; clear HB BKgp BKg4; have HB := n0_; clear n0_; have BKgp := n_gp; clear n_gp; have NEgp_g6 := e1_gp; have NEg6_gp := e2_gp; clear e1_gp e2_gp; have BKg4 := n_g4; clear n_g4; have NEg4_g6 := e1_g4; have NEg6_g4 := e2_g4; clear e1_g4 e2_g4; have BKg6 := Aside0.mk hbox; clear hb hbox hg; obtain ⟨hcg6c_0, hcg6c_1, hcg6c_2, hfg6c_0, hfg6c_1, hfg6c_2⟩ := bc3 BKg6; have hgp_g6 := NEgp_g6.out; have hg6_gp := NEg6_gp.out; have hg4_g6 := NEg4_g6.out; have hg6_g4 := NEg6_g4.out) | ((with_reducible refine map_event 11 (t := 107) rfl ?_); intro gm hgm wm hm hb; have n_gp := bb BKgp hb; have n_g4 := bb BKg4 hb; have n_g6 := bbp (.cells #[.int .u64 p3, .int .u64 0, .int .u64 0] 76 (0, 0)) BKg6 hb; have n0_ := bs HB hb; have GEm := sz HB hgm; have BKM := Aside0.mk hm; clear HB BKgp BKg4 BKg6 hb hm hgm; have HB := n0_; have BKgp := n_gp; have BKg4 := n_g4; have BKg6 := n_g6; clear n0_ n_gp n_g4 n_g6) | (go_at_call 54; refine (gr.over_calls gm 0 gp g6 (fun _ => (0, 0, 0)) m' p0 p1 p2 p3 p4 p3 0 0 0 last' ok _ _ l _ (bk BKgp) (bk BKg6) (gr.made BKM.out) HP.out (Kd.C_below HR.out (bw HB)) HC.out HN.out H0.out).mono ?_; rintro e w5 ⟨rfl, hgr, n5, hmp⟩; have HB5 := Aside0.mk (Below.grown (bw HB) hgr (below_size (bw HB)) (fun j hj => by cases hj; exact GEm.out)); have BK45 := Aside0.mk (gr.keep hgr (gr.made BKM.out) (bk (o := .cells #[.map none, .int .u64 0] 109 (0, 0)) BKg4)); have HMP := Aside0.mk hmp; clear HB BKg4 BKgp BKg6 BKM hgr hmp; have HB := HB5; have BKg4 := BK45; clear HB5 BK45; obtain ⟨hc40, hc41, hf40, hf41⟩ := bc2 BKg4))
  have NM := (gr.MapN_ne HMP.out BKg4.out).symm
  refine bodyPost_ret (results_ct rfl _ _ g4 109 #[.map (some gm), .int .u64 last'] (0, 0) _ rfl ?hbk hu rfl (by kernel_rfl)) rfl ?_
  case hbk => exact gr.put2 (bk (o := .cells #[.map none, .int .u64 0] 109 (0, 0)) BKg4)
  exact ⟨gm, n5, rfl, bw HB, gr.MapN_set (gr.MapN_set HMP.out NM _) NM _⟩
end Go.Proofs.Ytdoifmefhofnnaa.D
