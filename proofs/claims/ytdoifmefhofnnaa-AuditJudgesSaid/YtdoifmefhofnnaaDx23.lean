/- Written by the session's own program hyb.py: what functions of the program compute; Lean checks it. -/
import Derived.Test.YtdoifmefhofnnaaDx0
import Derived.Maps.Own
import Derived.StringKeys
import Derived.Test.YtdoifmefhofnnaaWMaps
namespace Go.Proofs.Ytdoifmefhofnnaa.D
open Go.RowKit Go.Proofs.YtdoifmefhofnnaaW.PrintWords Go.Proofs.YtdoifmefhofnnaaW.PrintLast Go.Proofs.YtdoifmefhofnnaaW.PrintMore Go.Proofs.YtdoifmefhofnnaaW.PrintShort
attribute [local go_sem] run_Add64 run_Sub64
attribute [local go_sem] max2_int min2_int max_two min_two max_three min_three max_four min_four   -- for this text's walks alone
set_option linter.unusedVariables false
set_option linter.unusedSimpArgs false
/-! ### audit_Lines: function 15 -/
-- NEEDS WMaps
-- NEEDSLIB Derived.Maps.Own
-- NEEDSLIB Derived.StringKeys
open Go.Maps in
theorem audit_Lines.cfar {w W : World} {q : Addr} {v0 u : Value} {g i : Nat} (hw : w.cell? q = some v0) (G : Aside0 (w.heap.size ≤ g)) : (W.setCell ⟨g, i, none⟩ u).cell? q = W.cell? q :=
  cell_far (p := ⟨g, i, none⟩) (Nat.ne_of_lt (Nat.lt_of_lt_of_le (World.block_lt_of_cell? _ _ hw) G.out)) u
theorem audit_Lines.info52k : (Try.prog.info? 52).map (fun i => (i.zero, i.size, i.bytes)) = some (some (.agg #[(.string ⟨#[]⟩), (.int .i64 0), (.int .u64 0), (.int .u64 0), (.int .u64 0), (.int .u64 0), (.slice none 0 0)]), k52.sz, 80) := by
  rw [show k52.sz = 7 from rfl]
  kernel_rfl
theorem audit_Lines.lim1 {n m : Nat} (h : n < 1759218604441 ∧ m ≤ 4096) : n < maxLen := by unfold maxLen; omega
theorem audit_Lines.lim2 {n m : Nat} (h : n < 1759218604441 ∧ m ≤ 4096) : m ≤ maxLen := by unfold maxLen; omega
theorem audit_Lines.lim4 {xs ys : List S52} {p : S52} (e : ys = xs ++ [p]) : ys.length = xs.length + 1 := by rw [e]; simp
theorem audit_Lines.lim3 {xs ys : List S52} {p : S52} {m : Nat} (e : ys = xs ++ [p]) (h : xs.length < 1759218604441 ∧ m ≤ 4096) : (Lit.int .i64 (ys.length : Int)).wf = true := WalkArith.wf_i64 (by have := audit_Lines.lim4 e; omega)
theorem audit_Lines.cfa {w W0 W : World} {q : Addr} {v0 v1 : Value} {g : Nat} (hw : w.cell? q = some v0) (G : Aside0 (w.heap.size ≤ g)) (h : W0.cell? q = some v1) (k : (∀ (X : World) (i : Nat) (u : Value), (X.setCell ⟨g, i, none⟩ u).cell? q = X.cell? q) → W0.cell? q = some v1 → W.cell? q = some v1 := by intro s_ h_; (repeat rw [s_]); exact h_) : W.cell? q = some v1 := k (fun _ _ _ => audit_Lines.cfar hw G) h
theorem audit_Lines.put8 {w : World} {g : Nat} {t : TypeId} {a0 a1 a2 a3 a4 a5 a6 a7 b0 b1 b2 b3 b4 b5 b6 b7 : Value} (B : w.heap[g]? = some (.cells #[a0, a1, a2, a3, a4, a5, a6, a7] t (0, 0))) : ((((((((w.setCell ⟨g, 0, none⟩ b0).setCell ⟨g, 1, none⟩ b1).setCell ⟨g, 2, none⟩ b2).setCell ⟨g, 3, none⟩ b3).setCell ⟨g, 4, none⟩ b4).setCell ⟨g, 5, none⟩ b5).setCell ⟨g, 6, none⟩ b6).setCell ⟨g, 7, none⟩ b7).heap[g]? = some (.cells #[b0, b1, b2, b3, b4, b5, b6, b7] t (0, 0)) := by
 have e : ((((((((#[a0, a1, a2, a3, a4, a5, a6, a7].setIfInBounds 0 b0).setIfInBounds 1 b1).setIfInBounds 2 b2).setIfInBounds 3 b3).setIfInBounds 4 b4).setIfInBounds 5 b5).setIfInBounds 6 b6).setIfInBounds 7 b7) = #[b0, b1, b2, b3, b4, b5, b6, b7] := by simp
 rw [← e]
 exact (blk_set (blk_set (blk_set (blk_set (blk_set (blk_set (blk_set (blk_set B 0 b0) 1 b1) 2 b2) 3 b3) 4 b4) 5 b5) 6 b6) 7 b7)
theorem audit_Lines.put11 {w : World} {g : Nat} {t : TypeId} {a0 a1 a2 a3 a4 a5 a6 a7 a8 a9 a10 b0 b1 b2 b3 b4 b5 b6 b7 b8 b9 b10 : Value} (B : w.heap[g]? = some (.cells #[a0, a1, a2, a3, a4, a5, a6, a7, a8, a9, a10] t (0, 0))) : (((((((((((w.setCell ⟨g, 0, none⟩ b0).setCell ⟨g, 1, none⟩ b1).setCell ⟨g, 2, none⟩ b2).setCell ⟨g, 3, none⟩ b3).setCell ⟨g, 4, none⟩ b4).setCell ⟨g, 5, none⟩ b5).setCell ⟨g, 6, none⟩ b6).setCell ⟨g, 7, none⟩ b7).setCell ⟨g, 8, none⟩ b8).setCell ⟨g, 9, none⟩ b9).setCell ⟨g, 10, none⟩ b10).heap[g]? = some (.cells #[b0, b1, b2, b3, b4, b5, b6, b7, b8, b9, b10] t (0, 0)) := by
 have e : (((((((((((#[a0, a1, a2, a3, a4, a5, a6, a7, a8, a9, a10].setIfInBounds 0 b0).setIfInBounds 1 b1).setIfInBounds 2 b2).setIfInBounds 3 b3).setIfInBounds 4 b4).setIfInBounds 5 b5).setIfInBounds 6 b6).setIfInBounds 7 b7).setIfInBounds 8 b8).setIfInBounds 9 b9).setIfInBounds 10 b10) = #[b0, b1, b2, b3, b4, b5, b6, b7, b8, b9, b10] := by simp
 rw [← e]
 exact (blk_set (blk_set (blk_set (blk_set (blk_set (blk_set (blk_set (blk_set (blk_set (blk_set (blk_set B 0 b0) 1 b1) 2 b2) 3 b3) 4 b4) 5 b5) 6 b6) 7 b7) 8 b8) 9 b9) 10 b10)
theorem audit_Lines.far11 {w : World} {g g' : Nat} {t : TypeId} {cs : Array Value} {b0 b1 b2 b3 b4 b5 b6 b7 b8 b9 b10 : Value} (B : w.heap[g]? = some (.cells cs t (0, 0))) (h : g ≠ g') : (((((((((((w.setCell ⟨g', 0, none⟩ b0).setCell ⟨g', 1, none⟩ b1).setCell ⟨g', 2, none⟩ b2).setCell ⟨g', 3, none⟩ b3).setCell ⟨g', 4, none⟩ b4).setCell ⟨g', 5, none⟩ b5).setCell ⟨g', 6, none⟩ b6).setCell ⟨g', 7, none⟩ b7).setCell ⟨g', 8, none⟩ b8).setCell ⟨g', 9, none⟩ b9).setCell ⟨g', 10, none⟩ b10).heap[g]? = some (.cells cs t (0, 0)) := (blk_far (blk_far (blk_far (blk_far (blk_far (blk_far (blk_far (blk_far (blk_far (blk_far (blk_far B h _) h _) h _) h _) h _) h _) h _) h _) h _) h _) h _)
theorem audit_Lines.far8 {w : World} {g g' : Nat} {t : TypeId} {cs : Array Value} {b0 b1 b2 b3 b4 b5 b6 b7 : Value} (B : w.heap[g]? = some (.cells cs t (0, 0))) (h : g ≠ g') : ((((((((w.setCell ⟨g', 0, none⟩ b0).setCell ⟨g', 1, none⟩ b1).setCell ⟨g', 2, none⟩ b2).setCell ⟨g', 3, none⟩ b3).setCell ⟨g', 4, none⟩ b4).setCell ⟨g', 5, none⟩ b5).setCell ⟨g', 6, none⟩ b6).setCell ⟨g', 7, none⟩ b7).heap[g]? = some (.cells cs t (0, 0)) :=
  blk_far (blk_far (blk_far (blk_far (blk_far (blk_far (blk_far (blk_far B h _) h _) h _) h _) h _) h _) h _) h _
def audit_Lines.BM (gm n : Nat) (w w' : World) : Prop := Below w.heap.size w w' ∧ w.heap.size ≤ gm ∧ ∃ D : DataW Unit, w'.ownsMap Try.prog 9 (plainElem (H := Unit) Try.prog 3) gm n D
section
variable {gm n g : Nat} {w W w1 w2 W0 : World}
theorem audit_Lines.bm_below (h : audit_Lines.BM gm n w W) (k : Below W.heap.size W w2) : audit_Lines.BM gm n w w2 := by
  obtain ⟨h1, h2, D, es, clock, hb, F, hs, hD⟩ := h
  exact ⟨below_step h1 k, h2, D, es, clock, (k.block gm (Array.getElem?_eq_some_iff.1 hb).1).trans hb, F, hs, hD⟩
theorem audit_Lines.bm_drew1 (h : audit_Lines.BM gm n w W) : audit_Lines.BM gm n w W.drew := audit_Lines.bm_below h (below_drew1 (Below.refl _ _))
theorem audit_Lines.bm_set {i : Nat} (h : audit_Lines.BM gm n w W) (hp : w.heap.size ≤ g) (u : Value) : audit_Lines.BM gm n w (W.setCell ⟨g, i, none⟩ u) := by
  obtain ⟨h1, h2, D, es, clock, hb, F, hs, hD⟩ := h
  refine ⟨below_set h1 hp, h2, D, es, clock, ?_, F, hs, hD⟩
  by_cases e : gm = g
  · subst e
    unfold World.setCell
    simp only [Array.getElem?_modify, hb]
    simp
  · exact (Below.heap_setCell W ⟨g, i, none⟩ u gm e).trans hb
theorem audit_Lines.bmw (HB : Aside0 (audit_Lines.BM gm n w W0)) (h : audit_Lines.BM gm n w W0 → audit_Lines.BM gm n w W := by intro h_; repeat (first | (with_reducible first | exact h_ | apply audit_Lines.bm_alloc | apply audit_Lines.bm_drewN | apply audit_Lines.bm_drew1 | refine audit_Lines.bm_set ?_ (Aside0.out (by assumption)) _) | exact h_)) : audit_Lines.BM gm n w W := h HB.out
theorem audit_Lines.bms (HB : Aside0 (audit_Lines.BM gm n w W0)) (k : Below W.heap.size W w2) (h : audit_Lines.BM gm n w W0 → audit_Lines.BM gm n w W := by intro h_; repeat (first | (with_reducible first | exact h_ | apply audit_Lines.bm_alloc | apply audit_Lines.bm_drewN | apply audit_Lines.bm_drew1 | refine audit_Lines.bm_set ?_ (Aside0.out (by assumption)) _) | exact h_)) : Aside0 (audit_Lines.BM gm n w w2) := ⟨audit_Lines.bm_below (h HB.out) k⟩
theorem audit_Lines.bmz (HB : Aside0 (audit_Lines.BM gm n w W0)) (hg : g = W.heap.size) (h : audit_Lines.BM gm n w W0 → audit_Lines.BM gm n w W := by intro h_; repeat (first | (with_reducible first | exact h_ | apply audit_Lines.bm_alloc | apply audit_Lines.bm_drewN | apply audit_Lines.bm_drew1 | refine audit_Lines.bm_set ?_ (Aside0.out (by assumption)) _) | exact h_)) : Aside0 (w.heap.size ≤ g) := ⟨by rw [hg]; exact below_size (h HB.out).1⟩
theorem audit_Lines.bm_made (HB : Below w.heap.size w W) (hg : g = W.heap.size) (hm : w1.heap[g]? = some (.map #[] 0)) (hb : Below W.heap.size W w1) : audit_Lines.BM g 0 w w1 :=
  ⟨below_step HB hb, by rw [hg]; exact below_size HB, .map [], #[], 0, hm, ⟨by simp, Go.MapKept.stamped_empty 0, by simp⟩, Nat.le_refl _, rfl⟩
theorem audit_Lines.S_map {d : Kd S52} {v : Value} {xs : List S52} {D : DataW Unit} {base : Nat} (h : Kd.S d 52 W base (fun _ => True) v xs) (hm : W.ownsMap Try.prog 9 (plainElem (H := Unit) Try.prog 3) gm n D) (hg : W.grownBy w2 (some gm)) : Kd.S d 52 w2 base (fun k => True ∧ base ≤ k ∧ k < W.heap.size ∧ ∃ q, q ∈ 52 :: d.E ∧ ∃ cells, W.heap[k]? = some (.cells cells q (0, 0))) v xs := by
  refine Kd.S_grown (Kd.S_bound h) hg (fun k hk e => ?_)
  obtain ⟨_, _, _, q, _, cells, hc⟩ := hk
  obtain ⟨es, clock, hb, _⟩ := hm
  obtain rfl := Option.some.inj e
  rw [hb] at hc
  cases hc
theorem audit_Lines.bm_append {d : Kd S52} {u : Value} {xs : List S52} {base : Nat} (hg : W.grownBy w1 u.ownBlock) (hb : Below w.heap.size w w1) (HB : audit_Lines.BM gm n w W) (hS : Kd.S d 52 W base (fun _ => True) u xs) : audit_Lines.BM gm n w w1 := by
  obtain ⟨h1, h2, D, hm⟩ := HB
  refine ⟨hb, h2, D, hm.kept hg (fun e => ?_)⟩
  obtain ⟨cells, hc⟩ := Kd.S_typed hS gm e.symm
  obtain ⟨es, clock, hb, _⟩ := hm
  rw [hb] at hc
  cases hc
theorem audit_Lines.bm_put {D : DataW Unit} (h1 : Below w.heap.size w W) (h2 : w.heap.size ≤ gm) (hm : w2.ownsMap Try.prog 9 (plainElem (H := Unit) Try.prog 3) gm n D) (hg : W.grownBy w2 (some gm)) : audit_Lines.BM gm n w w2 :=
  ⟨h1.grown hg h1.size (fun j hj => by cases hj; exact h2), h2, D, hm⟩
end
mutual
def audit_Lines.l0 : Nat → List (S38) → List (S44) → List (S52) → Bool → Int → Int → Option ((List (S52)))
  | 0, _, _, _, _, _, _ => none
  | k + 1, x0, x1, x5, x7, x19, x20 => if x20 < x19 then (if 0 ≤ x20 then (if x20 < (x0.length : Int) then (if x20 < (x1.length : Int) then (if ((rd_T38 x0 x20).f0) = 0 then (none) else (if ((rd_T44 x1 x20).f1.f0) = 0 then (audit_Lines.j1 k x0 x1 x5 x7 true x19 x20 ((rd_T38 x0 x20).f0) ((rd_T38 x0 x20).f1) ((rd_T38 x0 x20).f2.f0) ((rd_T38 x0 x20).f2.f1) ((rd_T38 x0 x20).f2.f2) ((rd_T38 x0 x20).f2.f3) ((rd_T38 x0 x20).f2.f4) ((rd_T38 x0 x20).f3) ((rd_T44 x1 x20).f1.f0) ((rd_T44 x1 x20).f1.f1) ((rd_T44 x1 x20).f1.f2) ((rd_T44 x1 x20).f1.f3.f0) ((rd_T44 x1 x20).f1.f3.f1) ((rd_T44 x1 x20).f1.f3.f2) ((rd_T44 x1 x20).f1.f3.f3) ((rd_T44 x1 x20).f1.f3.f4) ((rd_T44 x1 x20).f1.f4.f0) ((rd_T44 x1 x20).f1.f4.f1) ((rd_T44 x1 x20).f1.f4.f2)) else (if ((rd_T44 x1 x20).f1.f0) = 2 then (audit_Lines.j1 k x0 x1 x5 x7 x7 x19 x20 ((rd_T38 x0 x20).f0) ((rd_T38 x0 x20).f1) ((rd_T38 x0 x20).f2.f0) ((rd_T38 x0 x20).f2.f1) ((rd_T38 x0 x20).f2.f2) ((rd_T38 x0 x20).f2.f3) ((rd_T38 x0 x20).f2.f4) ((rd_T38 x0 x20).f3) ((rd_T44 x1 x20).f1.f0) ((rd_T44 x1 x20).f1.f1) ((rd_T44 x1 x20).f1.f2) ((rd_T44 x1 x20).f1.f3.f0) ((rd_T44 x1 x20).f1.f3.f1) ((rd_T44 x1 x20).f1.f3.f2) ((rd_T44 x1 x20).f1.f3.f3) ((rd_T44 x1 x20).f1.f3.f4) ((rd_T44 x1 x20).f1.f4.f0) ((rd_T44 x1 x20).f1.f4.f1) ((rd_T44 x1 x20).f1.f4.f2)) else (audit_Lines.j1 k x0 x1 x5 x7 false x19 x20 ((rd_T38 x0 x20).f0) ((rd_T38 x0 x20).f1) ((rd_T38 x0 x20).f2.f0) ((rd_T38 x0 x20).f2.f1) ((rd_T38 x0 x20).f2.f2) ((rd_T38 x0 x20).f2.f3) ((rd_T38 x0 x20).f2.f4) ((rd_T38 x0 x20).f3) ((rd_T44 x1 x20).f1.f0) ((rd_T44 x1 x20).f1.f1) ((rd_T44 x1 x20).f1.f2) ((rd_T44 x1 x20).f1.f3.f0) ((rd_T44 x1 x20).f1.f3.f1) ((rd_T44 x1 x20).f1.f3.f2) ((rd_T44 x1 x20).f1.f3.f3) ((rd_T44 x1 x20).f1.f3.f4) ((rd_T44 x1 x20).f1.f4.f0) ((rd_T44 x1 x20).f1.f4.f1) ((rd_T44 x1 x20).f1.f4.f2))))) else (none)) else (none)) else (none)) else (some x5)
def audit_Lines.j1 : Nat → List (S38) → List (S44) → List (S52) → Bool → Bool → Int → Int → Int → ByteArray → Int → Int → Int → Int → Int → Int → Int → Int → Int → Int → Int → Int → Int → Int → Int → Int → Int → Option ((List (S52)))
  | 0, _, _, _, _, _, _, _, _, _, _, _, _, _, _, _, _, _, _, _, _, _, _, _, _, _, _ => none
  | k + 1, x0, x1, x5, x7, x11, x19, x20, x264000, x264001, x264002, x264003, x264004, x264005, x264006, x264007, x265000, x265001, x265002, x265003, x265004, x265005, x265006, x265007, x265008, x265009, x265010 => if x265000 = 2 then (none) else (if x264000 = 1 then (if x11 = true then (if x5.length < 1759218604441 ∧ x264001.size ≤ 4096 then (audit_Lines.l0 k x0 x1 (x5 ++ [(⟨x264001, (⟨x264002, x264003, x264004, x264005, x264006⟩ : S24), ([] : List (S31))⟩ : S52)]) x7 x19 (wrap64 (x20 + 1))) else (none)) else (audit_Lines.l0 k x0 x1 x5 x7 x19 (wrap64 (x20 + 1)))) else (none))
end
def audit_Lines.f (k : Nat) (l0 : List (S38)) (l1 : List (S44)) : Option ((List (S52))) := audit_Lines.l0 k l0 l1 ([] : List (S52)) true (mn (l0.length : Int) (l1.length : Int)) 0
theorem audit_Lines.mono_l : ∀ k, (∀ y0 y1 y2 y3 y4 y5, LeO (audit_Lines.l0 k y0 y1 y2 y3 y4 y5) (audit_Lines.l0 (k + 1) y0 y1 y2 y3 y4 y5)) ∧ (∀ y0 y1 y2 y3 y4 y5 y6 y7 y8 y9 y10 y11 y12 y13 y14 y15 y16 y17 y18 y19 y20 y21 y22 y23 y24 y25, LeO (audit_Lines.j1 k y0 y1 y2 y3 y4 y5 y6 y7 y8 y9 y10 y11 y12 y13 y14 y15 y16 y17 y18 y19 y20 y21 y22 y23 y24 y25) (audit_Lines.j1 (k + 1) y0 y1 y2 y3 y4 y5 y6 y7 y8 y9 y10 y11 y12 y13 y14 y15 y16 y17 y18 y19 y20 y21 y22 y23 y24 y25))
  | 0 => ⟨fun _ _ _ _ _ _ r h => by simp [audit_Lines.l0] at h, fun _ _ _ _ _ _ _ _ _ _ _ _ _ _ _ _ _ _ _ _ _ _ _ _ _ _ r h => by simp [audit_Lines.j1] at h⟩
  | k + 1 => by
    obtain ⟨ih0, ih1⟩ := audit_Lines.mono_l k
    refine ⟨?_, ?_⟩
    · intro y0 y1 y2 y3 y4 y5
      unfold audit_Lines.l0
      repeat' first
      | (with_reducible exact ih0 _ _ _ _ _ _)
      | (with_reducible exact ih1 _ _ _ _ _ _ _ _ _ _ _ _ _ _ _ _ _ _ _ _ _ _ _ _ _ _)
      | (with_reducible exact LeO.refl _)
      | (with_reducible exact LeO.none _)
      | (with_reducible refine LeO.ite ?_ ?_)
      | (with_reducible refine LeO.bind ?_ (fun _ => ?_))
      | exact ih0 _ _ _ _ _ _
      | exact ih1 _ _ _ _ _ _ _ _ _ _ _ _ _ _ _ _ _ _ _ _ _ _ _ _ _ _
      | exact LeO.none _
      | refine LeO.ite ?_ ?_
      | refine LeO.bind ?_ (fun _ => ?_)
    · intro y0 y1 y2 y3 y4 y5 y6 y7 y8 y9 y10 y11 y12 y13 y14 y15 y16 y17 y18 y19 y20 y21 y22 y23 y24 y25
      unfold audit_Lines.j1
      repeat' first
      | (with_reducible exact ih0 _ _ _ _ _ _)
      | (with_reducible exact ih1 _ _ _ _ _ _ _ _ _ _ _ _ _ _ _ _ _ _ _ _ _ _ _ _ _ _)
      | (with_reducible exact LeO.refl _)
      | (with_reducible exact LeO.none _)
      | (with_reducible refine LeO.ite ?_ ?_)
      | (with_reducible refine LeO.bind ?_ (fun _ => ?_))
      | exact ih0 _ _ _ _ _ _
      | exact ih1 _ _ _ _ _ _ _ _ _ _ _ _ _ _ _ _ _ _ _ _ _ _ _ _ _ _
      | exact LeO.none _
      | refine LeO.ite ?_ ?_
      | refine LeO.bind ?_ (fun _ => ?_)
theorem audit_Lines.mono : ∀ a0 a1 k, LeO (audit_Lines.f k a0 a1) (audit_Lines.f (k + 1) a0 a1) := by
  intro a0 a1 k
  obtain ⟨ih0, ih1⟩ := audit_Lines.mono_l k
  unfold audit_Lines.f
  repeat' first
      | (with_reducible exact ih0 _ _ _ _ _ _)
      | (with_reducible exact ih1 _ _ _ _ _ _ _ _ _ _ _ _ _ _ _ _ _ _ _ _ _ _ _ _ _ _)
      | (with_reducible exact LeO.refl _)
      | (with_reducible exact LeO.none _)
      | (with_reducible refine LeO.ite ?_ ?_)
      | (with_reducible refine LeO.bind ?_ (fun _ => ?_))
      | exact ih0 _ _ _ _ _ _
      | exact ih1 _ _ _ _ _ _ _ _ _ _ _ _ _ _ _ _ _ _ _ _ _ _ _ _ _ _
      | exact LeO.none _
      | refine LeO.ite ?_ ?_
      | refine LeO.bind ?_ (fun _ => ?_)
def audit_Lines.T7 : Bool × List (List Nat × List Nat) := (true, [([], []), ([], []), ([0, 1], [0, 1]), ([2], [2]), ([], []), ([], []), ([4, 5], [4, 5]), ([6], [6]), ([7], [7]), ([], []), ([], []), ([9, 3, 0, 1, 2, 3, 9, 10], [3, 9]), ([10, 8, 11, 0, 1, 2, 3, 4, 5, 6, 7, 8, 9, 10, 11], [8, 10])])
def audit_Lines.B7 : List Nat := [0, 0, 3, 7, 0, 0, 48, 112, 240, 0, 0, 1551, 4095]
theorem audit_Lines.tab7 : rtab .any (opsOf Try.f15 7) = audit_Lines.T7 := by kernel_rfl
theorem audit_Lines.bits7 : waitsOk audit_Lines.T7.2 audit_Lines.B7 = true := by kernel_rfl
open Go.Maps in
set_option maxHeartbeats 8000000 in
set_option maxRecDepth 100000 in
theorem audit_Lines.calls (k : Nat) (A0 : Option Addr) (c0 : Nat) (l0 : List (S38)) (A1 : Option Addr) (c1 : Nat) (l1 : List (S44)) (r : List (S52)) (w : World) (hr0 : Kd.C k38 w A0 l0.length l0) (hc0 : l0.length ≤ c0) (hr1 : Kd.C k44 w A1 l1.length l1) (hc1 : l1.length ≤ c1) (h : audit_Lines.f k l0 l1 = some r) :
 Calls Try.prog 15 #[.slice A0 l0.length c0, .slice A1 l1.length c1] w fun e w' => ∃ v0_ : Value, e = .returned (v0_) ∧ Kd.S k52 52 w' w.heap.size (fun _ => True) v0_ r ∧ Below w.heap.size w w' := by
 have hu38 := Try.underlying38; have hu42 := Try.underlying42; have hu24 := Try.underlying24; have hu52 := Try.underlying52; have hu31 := Try.underlying31; have HR0 := Aside0.mk hr0; have HC0 := Aside0.mk hc0; clear hr0 hc0; have HR1 := Aside0.mk hr1; have HC1 := Aside0.mk hc1; clear hr1 hc1; have HB := Aside0.mk (Below.refl w.heap.size w)
 have H : (audit_Lines.l0 k l0 l1 ([] : List (S52)) true (mn (l0.length : Int) (l1.length : Int)) 0) = some r := h
 clear h
 obtain ⟨ji3, hji3⟩ : ∃ j_ : Int, (mn (l0.length : Int) (l1.length : Int)) = j_ := ⟨_, rfl⟩
 replace H : (audit_Lines.l0 k l0 l1 ([] : List (S52)) true ji3 0) = some r := by first | (rw [hji3] at H; exact H) | (simp only [hji3] at H ⊢; exact H)
 (try (have hji3l : 0 ≤ ji3 := by (rw [← hji3]; unfold mn; (repeat' split) <;> omega)))
 (try (have hji3m : 0 ≤ ji3 := by omega))
 have hji3_ : (if (l1.length : Int) < (l0.length : Int) then (l1.length : Int) else (l0.length : Int)) = ji3 := hji3
 have hji3n : (if l1.length < l0.length then (l1.length : Int) else (l0.length : Int)) = ji3 := by rw [← hji3_]; simp
 have H' := Aside0.mk H
 clear H
 go_enter Try.func15, Try.ntmps15
 go_upto_region 3 with (((with_reducible refine map_event 14 (t := 88) rfl ?_); intro gm hgm wm hm hb; have n0_ := Aside0.mk (audit_Lines.bm_made HB.out hgm hm hb); clear HB hb hm hgm; have HB := n0_; clear n0_))
 go_wp2
 go_loopg [5, 7, 20] k (fun kq v5 v7 v20 w' => ∃ (x5_1 : List (S52)) (x7_1 : Bool) (x20_1 : Int), v7 = .bool x7_1 ∧ v20 = .int .i64 x20_1 ∧ Aside0 (audit_Lines.l0 kq l0 l1 x5_1 x7_1 ji3 x20_1 = some r) ∧ Aside0 (kq ≤ k) ∧ Aside0 (Kd.S k52 52 w' w.heap.size (fun _ => True) v5 x5_1) ∧ Aside0 (audit_Lines.BM gm x5_1.length w w'))
 case atStart => exact ⟨(([] : List (S52))), (true), (0), rs, rs, H', ⟨Nat.le_refl _⟩, ⟨by first | exact Kd.S_nil _ _ _ _ _ | exact Kd.N_nil _ _ _ _ _ | exact Kd.V_nil _ _ _ _ _ | exact Kd.Q_nil _ _ _ _ _ | exact Kd.R_nil _ _ _ _ _⟩, ⟨audit_Lines.bmw HB⟩⟩
 case round =>
  clear H'; (try clear c1); (try clear p2)
  obtain ⟨x5_1, x7_1, x20_1, rfl, rfl, HA, HK1, HO_5, HB⟩ := hrel
  cases gk with
  | zero => exact absurd HA.out (by simp [audit_Lines.l0])
  | succ k1 =>
   have H := HA.out; clear HA
   simp only [audit_Lines.l0] at H
   by_cases c4 : x20_1 < ji3
   · rw [if_pos c4] at H
     have c4b0 : decide (x20_1 < ji3) = true := decide_eq_true c4
     clear c4
     by_cases c5 : 0 ≤ x20_1
     · rw [if_pos c5] at H
       have c5b0 : decide (0 ≤ x20_1) = true := decide_eq_true c5
       clear c5
       by_cases c6 : x20_1 < (l0.length : Int)
       · rw [if_pos c6] at H
         have c6b0 : decide (x20_1 < (l0.length : Int)) = true := decide_eq_true c6
         clear c6
         by_cases c7 : x20_1 < (l1.length : Int)
         · rw [if_pos c7] at H
           have c7b0 : decide (x20_1 < (l1.length : Int)) = true := decide_eq_true c7
           clear c7
           by_cases c8 : ((rd_T38 l0 x20_1).f0) = 0
           · rw [if_pos c8] at H
             exact absurd H (by simp)
           · rw [if_neg c8] at H
             have c8b0 : (((rd_T38 l0 x20_1).f0) == 0) = false := beq_eq_false_iff_ne.mpr c8
             have c8b1 : (((rd_T38 l0 x20_1).f0) != 0) = true := bne_iff_ne.mpr c8
             have HC9 := Aside0.mk H; clear H
             try go_wp2
             replace HO_5 := Aside0.mk (Kd.S_drew HO_5.out); replace HB := Aside0.mk (audit_Lines.bm_drew1 HB.out)
             have p261 : 0 ≤ (x20_1 : Int) := of_decide_eq_true (by first | (with_reducible assumption) | assumption)
             have q261 : x20_1 < (l0.length : Int) := of_decide_eq_true (by first | (with_reducible assumption) | assumption)
             obtain ⟨ad261, e261, hx261_0, hx261_1, hx261_2, hx261_3, hx261_4, hx261_5, hx261_6, hx261_7⟩ := at_T38 HR0.out x20_1 p261 q261
             have hw261_7 := hx261_7; have hw261_6 := hx261_6; have hw261_5 := hx261_5; have hw261_4 := hx261_4; have hw261_3 := hx261_3; have hw261_2 := hx261_2; have hw261_1 := hx261_1; have hw261_0 := hx261_0
             cases e261
             replace hx261_0 := (HB.out.1.cell (World.block_lt_of_cell? w _ hx261_0)).trans hx261_0; replace hx261_1 := (HB.out.1.cell (World.block_lt_of_cell? w _ hx261_1)).trans hx261_1; replace hx261_2 := (HB.out.1.cell (World.block_lt_of_cell? w _ hx261_2)).trans hx261_2; replace hx261_3 := (HB.out.1.cell (World.block_lt_of_cell? w _ hx261_3)).trans hx261_3; replace hx261_4 := (HB.out.1.cell (World.block_lt_of_cell? w _ hx261_4)).trans hx261_4; replace hx261_5 := (HB.out.1.cell (World.block_lt_of_cell? w _ hx261_5)).trans hx261_5; replace hx261_6 := (HB.out.1.cell (World.block_lt_of_cell? w _ hx261_6)).trans hx261_6; replace hx261_7 := (HB.out.1.cell (World.block_lt_of_cell? w _ hx261_7)).trans hx261_7; replace p261 := eq_true p261; replace q261 := eq_true q261
             have p262 : 0 ≤ (x20_1 : Int) := of_decide_eq_true (by first | (with_reducible assumption) | assumption)
             have q262 : x20_1 < (l1.length : Int) := of_decide_eq_true (by first | (with_reducible assumption) | assumption)
             obtain ⟨ad262, e262, hx262_0, hx262_1, hx262_2, hx262_3, hx262_4, hx262_5, hx262_6, hx262_7, hx262_8, hx262_9, hx262_10, hx262_11⟩ := at_T44 HR1.out x20_1 p262 q262
             have hw262_11 := hx262_11; have hw262_10 := hx262_10; have hw262_9 := hx262_9; have hw262_8 := hx262_8; have hw262_7 := hx262_7; have hw262_6 := hx262_6; have hw262_5 := hx262_5; have hw262_4 := hx262_4; have hw262_3 := hx262_3; have hw262_2 := hx262_2; have hw262_1 := hx262_1; have hw262_0 := hx262_0
             cases e262
             replace hx262_0 := (HB.out.1.cell (World.block_lt_of_cell? w _ hx262_0)).trans hx262_0; replace hx262_1 := (HB.out.1.cell (World.block_lt_of_cell? w _ hx262_1)).trans hx262_1; replace hx262_2 := (HB.out.1.cell (World.block_lt_of_cell? w _ hx262_2)).trans hx262_2; replace hx262_3 := (HB.out.1.cell (World.block_lt_of_cell? w _ hx262_3)).trans hx262_3; replace hx262_4 := (HB.out.1.cell (World.block_lt_of_cell? w _ hx262_4)).trans hx262_4; replace hx262_5 := (HB.out.1.cell (World.block_lt_of_cell? w _ hx262_5)).trans hx262_5; replace hx262_6 := (HB.out.1.cell (World.block_lt_of_cell? w _ hx262_6)).trans hx262_6; replace hx262_7 := (HB.out.1.cell (World.block_lt_of_cell? w _ hx262_7)).trans hx262_7; replace hx262_8 := (HB.out.1.cell (World.block_lt_of_cell? w _ hx262_8)).trans hx262_8; replace hx262_9 := (HB.out.1.cell (World.block_lt_of_cell? w _ hx262_9)).trans hx262_9; replace hx262_10 := (HB.out.1.cell (World.block_lt_of_cell? w _ hx262_10)).trans hx262_10; replace hx262_11 := (HB.out.1.cell (World.block_lt_of_cell? w _ hx262_11)).trans hx262_11; replace p262 := eq_true p262; replace q262 := eq_true q262
             refine start_ (n := 13) (S := fun w' => w'.cell? (ad261.add ((x20_1).toNat * 8)) = some (.int .i64 ((rd_T38 l0 x20_1).f0)) ∧ w'.cell? ⟨(ad261.add ((x20_1).toNat * 8)).block, (ad261.add ((x20_1).toNat * 8)).off + 1, none⟩ = some (.string ((rd_T38 l0 x20_1).f1)) ∧ w'.cell? ⟨(ad261.add ((x20_1).toNat * 8)).block, (ad261.add ((x20_1).toNat * 8)).off + 2, none⟩ = some (.int .i64 ((rd_T38 l0 x20_1).f2.f0)) ∧ w'.cell? ⟨(ad261.add ((x20_1).toNat * 8)).block, (ad261.add ((x20_1).toNat * 8)).off + 3, none⟩ = some (.int .u64 ((rd_T38 l0 x20_1).f2.f1)) ∧ w'.cell? ⟨(ad261.add ((x20_1).toNat * 8)).block, (ad261.add ((x20_1).toNat * 8)).off + 4, none⟩ = some (.int .u64 ((rd_T38 l0 x20_1).f2.f2)) ∧ w'.cell? ⟨(ad261.add ((x20_1).toNat * 8)).block, (ad261.add ((x20_1).toNat * 8)).off + 5, none⟩ = some (.int .u64 ((rd_T38 l0 x20_1).f2.f3)) ∧ w'.cell? ⟨(ad261.add ((x20_1).toNat * 8)).block, (ad261.add ((x20_1).toNat * 8)).off + 6, none⟩ = some (.int .u64 ((rd_T38 l0 x20_1).f2.f4)) ∧ w'.cell? ⟨(ad261.add ((x20_1).toNat * 8)).block, (ad261.add ((x20_1).toNat * 8)).off + 7, none⟩ = some (.int .u64 ((rd_T38 l0 x20_1).f3)) ∧ w'.cell? (ad262.add ((x20_1).toNat * 12)) = some (.int .i64 ((rd_T44 l1 x20_1).f0)) ∧ w'.cell? ⟨(ad262.add ((x20_1).toNat * 12)).block, (ad262.add ((x20_1).toNat * 12)).off + 1, none⟩ = some (.int .i64 ((rd_T44 l1 x20_1).f1.f0)) ∧ w'.cell? ⟨(ad262.add ((x20_1).toNat * 12)).block, (ad262.add ((x20_1).toNat * 12)).off + 2, none⟩ = some (.int .u64 ((rd_T44 l1 x20_1).f1.f1)) ∧ w'.cell? ⟨(ad262.add ((x20_1).toNat * 12)).block, (ad262.add ((x20_1).toNat * 12)).off + 3, none⟩ = some (.int .u64 ((rd_T44 l1 x20_1).f1.f2)) ∧ w'.cell? ⟨(ad262.add ((x20_1).toNat * 12)).block, (ad262.add ((x20_1).toNat * 12)).off + 4, none⟩ = some (.int .i64 ((rd_T44 l1 x20_1).f1.f3.f0)) ∧ w'.cell? ⟨(ad262.add ((x20_1).toNat * 12)).block, (ad262.add ((x20_1).toNat * 12)).off + 5, none⟩ = some (.int .u64 ((rd_T44 l1 x20_1).f1.f3.f1)) ∧ w'.cell? ⟨(ad262.add ((x20_1).toNat * 12)).block, (ad262.add ((x20_1).toNat * 12)).off + 6, none⟩ = some (.int .u64 ((rd_T44 l1 x20_1).f1.f3.f2)) ∧ w'.cell? ⟨(ad262.add ((x20_1).toNat * 12)).block, (ad262.add ((x20_1).toNat * 12)).off + 7, none⟩ = some (.int .u64 ((rd_T44 l1 x20_1).f1.f3.f3)) ∧ w'.cell? ⟨(ad262.add ((x20_1).toNat * 12)).block, (ad262.add ((x20_1).toNat * 12)).off + 8, none⟩ = some (.int .u64 ((rd_T44 l1 x20_1).f1.f3.f4)) ∧ w'.cell? ⟨(ad262.add ((x20_1).toNat * 12)).block, (ad262.add ((x20_1).toNat * 12)).off + 9, none⟩ = some (.int .u64 ((rd_T44 l1 x20_1).f1.f4.f0)) ∧ w'.cell? ⟨(ad262.add ((x20_1).toNat * 12)).block, (ad262.add ((x20_1).toNat * 12)).off + 10, none⟩ = some (.int .u64 ((rd_T44 l1 x20_1).f1.f4.f1)) ∧ w'.cell? ⟨(ad262.add ((x20_1).toNat * 12)).block, (ad262.add ((x20_1).toNat * 12)).off + 11, none⟩ = some (.int .u64 ((rd_T44 l1 x20_1).f1.f4.f2))) (ds := []) #[false, false, false, false, false, false, false, false, false, false, false, false, false] (by kernel_rfl) rfl rfl ⟨((HB.out.1.cell (World.block_lt_of_cell? w _ hw261_0)).trans hw261_0), ((HB.out.1.cell (World.block_lt_of_cell? w _ hw261_1)).trans hw261_1), ((HB.out.1.cell (World.block_lt_of_cell? w _ hw261_2)).trans hw261_2), ((HB.out.1.cell (World.block_lt_of_cell? w _ hw261_3)).trans hw261_3), ((HB.out.1.cell (World.block_lt_of_cell? w _ hw261_4)).trans hw261_4), ((HB.out.1.cell (World.block_lt_of_cell? w _ hw261_5)).trans hw261_5), ((HB.out.1.cell (World.block_lt_of_cell? w _ hw261_6)).trans hw261_6), ((HB.out.1.cell (World.block_lt_of_cell? w _ hw261_7)).trans hw261_7), ((HB.out.1.cell (World.block_lt_of_cell? w _ hw262_0)).trans hw262_0), ((HB.out.1.cell (World.block_lt_of_cell? w _ hw262_1)).trans hw262_1), ((HB.out.1.cell (World.block_lt_of_cell? w _ hw262_2)).trans hw262_2), ((HB.out.1.cell (World.block_lt_of_cell? w _ hw262_3)).trans hw262_3), ((HB.out.1.cell (World.block_lt_of_cell? w _ hw262_4)).trans hw262_4), ((HB.out.1.cell (World.block_lt_of_cell? w _ hw262_5)).trans hw262_5), ((HB.out.1.cell (World.block_lt_of_cell? w _ hw262_6)).trans hw262_6), ((HB.out.1.cell (World.block_lt_of_cell? w _ hw262_7)).trans hw262_7), ((HB.out.1.cell (World.block_lt_of_cell? w _ hw262_8)).trans hw262_8), ((HB.out.1.cell (World.block_lt_of_cell? w _ hw262_9)).trans hw262_9), ((HB.out.1.cell (World.block_lt_of_cell? w _ hw262_10)).trans hw262_10), ((HB.out.1.cell (World.block_lt_of_cell? w _ hw262_11)).trans hw262_11)⟩ (fun hHeld => ?_); refine with_tabW audit_Lines.tab7 audit_Lines.bits7 (fun HT_ HW_ => ?_)
             generalize wr.drew = w10 at HO_5 HB hx261_0 hx261_1 hx261_2 hx261_3 hx261_4 hx261_5 hx261_6 hx261_7 hx262_0 hx262_1 hx262_10 hx262_11 hx262_2 hx262_3 hx262_4 hx262_5 hx262_6 hx262_7 hx262_8 hx262_9 hHeld ⊢
             refine chain_ (fuel := 4) [(0, 0, some 23), (1, 0, some 24), (2, 0, some 25), (4, 0, some 27), (5, 0, some 28), (6, 0, some 29), (7, 0, some 30), (3, 1, some 26), (8, 1, some 31)] #[true, true, true, true, true, true, true, true, true, false, false, false, false] HT_.out HW_.out (by kernel_rfl) (fun _ _ _ _ _ h => h) (Or.inr hHeld) rfl ?_
             (iterate 7 refine lkP ?_); (iterate 2 refine lkT ?_); refine .nil ?_
             refine join_ (σ := Nat × Nat) 2 #[true, true, true, true, true, true, true, true, true, true, true, false, false] (fun s_ => [(9, .pointer (some ⟨s_.1, 0, none⟩)), (10, .pointer (some ⟨s_.2, 0, none⟩))]) (fun s_ w' => (w'.cell? (ad261.add ((x20_1).toNat * 8)) = some (.int .i64 ((rd_T38 l0 x20_1).f0)) ∧ w'.cell? ⟨(ad261.add ((x20_1).toNat * 8)).block, (ad261.add ((x20_1).toNat * 8)).off + 1, none⟩ = some (.string ((rd_T38 l0 x20_1).f1)) ∧ w'.cell? ⟨(ad261.add ((x20_1).toNat * 8)).block, (ad261.add ((x20_1).toNat * 8)).off + 2, none⟩ = some (.int .i64 ((rd_T38 l0 x20_1).f2.f0)) ∧ w'.cell? ⟨(ad261.add ((x20_1).toNat * 8)).block, (ad261.add ((x20_1).toNat * 8)).off + 3, none⟩ = some (.int .u64 ((rd_T38 l0 x20_1).f2.f1)) ∧ w'.cell? ⟨(ad261.add ((x20_1).toNat * 8)).block, (ad261.add ((x20_1).toNat * 8)).off + 4, none⟩ = some (.int .u64 ((rd_T38 l0 x20_1).f2.f2)) ∧ w'.cell? ⟨(ad261.add ((x20_1).toNat * 8)).block, (ad261.add ((x20_1).toNat * 8)).off + 5, none⟩ = some (.int .u64 ((rd_T38 l0 x20_1).f2.f3)) ∧ w'.cell? ⟨(ad261.add ((x20_1).toNat * 8)).block, (ad261.add ((x20_1).toNat * 8)).off + 6, none⟩ = some (.int .u64 ((rd_T38 l0 x20_1).f2.f4)) ∧ w'.cell? ⟨(ad261.add ((x20_1).toNat * 8)).block, (ad261.add ((x20_1).toNat * 8)).off + 7, none⟩ = some (.int .u64 ((rd_T38 l0 x20_1).f3)) ∧ w'.cell? (ad262.add ((x20_1).toNat * 12)) = some (.int .i64 ((rd_T44 l1 x20_1).f0)) ∧ w'.cell? ⟨(ad262.add ((x20_1).toNat * 12)).block, (ad262.add ((x20_1).toNat * 12)).off + 1, none⟩ = some (.int .i64 ((rd_T44 l1 x20_1).f1.f0)) ∧ w'.cell? ⟨(ad262.add ((x20_1).toNat * 12)).block, (ad262.add ((x20_1).toNat * 12)).off + 2, none⟩ = some (.int .u64 ((rd_T44 l1 x20_1).f1.f1)) ∧ w'.cell? ⟨(ad262.add ((x20_1).toNat * 12)).block, (ad262.add ((x20_1).toNat * 12)).off + 3, none⟩ = some (.int .u64 ((rd_T44 l1 x20_1).f1.f2)) ∧ w'.cell? ⟨(ad262.add ((x20_1).toNat * 12)).block, (ad262.add ((x20_1).toNat * 12)).off + 4, none⟩ = some (.int .i64 ((rd_T44 l1 x20_1).f1.f3.f0)) ∧ w'.cell? ⟨(ad262.add ((x20_1).toNat * 12)).block, (ad262.add ((x20_1).toNat * 12)).off + 5, none⟩ = some (.int .u64 ((rd_T44 l1 x20_1).f1.f3.f1)) ∧ w'.cell? ⟨(ad262.add ((x20_1).toNat * 12)).block, (ad262.add ((x20_1).toNat * 12)).off + 6, none⟩ = some (.int .u64 ((rd_T44 l1 x20_1).f1.f3.f2)) ∧ w'.cell? ⟨(ad262.add ((x20_1).toNat * 12)).block, (ad262.add ((x20_1).toNat * 12)).off + 7, none⟩ = some (.int .u64 ((rd_T44 l1 x20_1).f1.f3.f3)) ∧ w'.cell? ⟨(ad262.add ((x20_1).toNat * 12)).block, (ad262.add ((x20_1).toNat * 12)).off + 8, none⟩ = some (.int .u64 ((rd_T44 l1 x20_1).f1.f3.f4)) ∧ w'.cell? ⟨(ad262.add ((x20_1).toNat * 12)).block, (ad262.add ((x20_1).toNat * 12)).off + 9, none⟩ = some (.int .u64 ((rd_T44 l1 x20_1).f1.f4.f0)) ∧ w'.cell? ⟨(ad262.add ((x20_1).toNat * 12)).block, (ad262.add ((x20_1).toNat * 12)).off + 10, none⟩ = some (.int .u64 ((rd_T44 l1 x20_1).f1.f4.f1)) ∧ w'.cell? ⟨(ad262.add ((x20_1).toNat * 12)).block, (ad262.add ((x20_1).toNat * 12)).off + 11, none⟩ = some (.int .u64 ((rd_T44 l1 x20_1).f1.f4.f2))) ∧ (Kd.S k52 52 w' w.heap.size (fun _ => True) u5 x5_1) ∧ (w'.heap[s_.1]? = some (.cells #[.int .i64 0, .string (⟨#[]⟩ : ByteArray), .int .i64 0, .int .u64 0, .int .u64 0, .int .u64 0, .int .u64 0, .int .u64 0] 38 (0, 0))) ∧ (w'.heap[s_.2]? = some (.cells #[.int .i64 0, .int .u64 0, .int .u64 0, .int .i64 0, .int .u64 0, .int .u64 0, .int .u64 0, .int .u64 0, .int .u64 0, .int .u64 0, .int .u64 0] 42 (0, 0))) ∧ (w.heap.size ≤ s_.1) ∧ (w.heap.size ≤ s_.1) ∧ (s_.2 ≠ s_.1) ∧ (s_.1 ≠ s_.2) ∧ (w.heap.size ≤ s_.2) ∧ (w.heap.size ≤ s_.2) ∧ (audit_Lines.BM gm x5_1.length w w')) ?_ ?_
             rotate_left
             · intro hCont
               refine two_ (i := 9) (j := 10) (Ni := some 9) (Nj := some 10) #[true, true, true, true, true, true, true, true, true, true, false, false, false] #[true, true, true, true, true, true, true, true, true, false, true, false, false] rfl rfl rfl rfl (two_of HT_.out (by kernel_rfl)) (by decide) (by decide) (fun K hK => ?_) (fun K hK => ?_)
               · skip
                 refine box_step ?hg (N := 9) ?hd (cs := #[.int .i64 0, .string (⟨#[]⟩ : ByteArray), .int .i64 0, .int .u64 0, .int .u64 0, .int .u64 0, .int .u64 0, .int .u64 0]) (t := 38) ?hr ?_; (case hd => rfl); (case hg => rfl); (case hr => first | (go_simp; done) | (go_simp; rfl))
                 intro gb263 hg w11 hbox hb
                 have BK263 := Aside0.mk (hbox); have GW263 := audit_Lines.bmz HB hg; have GE263 := audit_Lines.bmz HB hg; replace HO_5 := Aside0.mk (Kd.S_below (so HO_5) hb); replace HB := audit_Lines.bms HB hb; clear hb hbox hg
                 refine hK.out _ _ ⟨((HB.out.1.cell (World.block_lt_of_cell? w _ hw261_0)).trans hw261_0), ((HB.out.1.cell (World.block_lt_of_cell? w _ hw261_1)).trans hw261_1), ((HB.out.1.cell (World.block_lt_of_cell? w _ hw261_2)).trans hw261_2), ((HB.out.1.cell (World.block_lt_of_cell? w _ hw261_3)).trans hw261_3), ((HB.out.1.cell (World.block_lt_of_cell? w _ hw261_4)).trans hw261_4), ((HB.out.1.cell (World.block_lt_of_cell? w _ hw261_5)).trans hw261_5), ((HB.out.1.cell (World.block_lt_of_cell? w _ hw261_6)).trans hw261_6), ((HB.out.1.cell (World.block_lt_of_cell? w _ hw261_7)).trans hw261_7), ((HB.out.1.cell (World.block_lt_of_cell? w _ hw262_0)).trans hw262_0), ((HB.out.1.cell (World.block_lt_of_cell? w _ hw262_1)).trans hw262_1), ((HB.out.1.cell (World.block_lt_of_cell? w _ hw262_2)).trans hw262_2), ((HB.out.1.cell (World.block_lt_of_cell? w _ hw262_3)).trans hw262_3), ((HB.out.1.cell (World.block_lt_of_cell? w _ hw262_4)).trans hw262_4), ((HB.out.1.cell (World.block_lt_of_cell? w _ hw262_5)).trans hw262_5), ((HB.out.1.cell (World.block_lt_of_cell? w _ hw262_6)).trans hw262_6), ((HB.out.1.cell (World.block_lt_of_cell? w _ hw262_7)).trans hw262_7), ((HB.out.1.cell (World.block_lt_of_cell? w _ hw262_8)).trans hw262_8), ((HB.out.1.cell (World.block_lt_of_cell? w _ hw262_9)).trans hw262_9), ((HB.out.1.cell (World.block_lt_of_cell? w _ hw262_10)).trans hw262_10), ((HB.out.1.cell (World.block_lt_of_cell? w _ hw262_11)).trans hw262_11)⟩ (fun hHeld => ?_)
                 clear hK K
                 refine norm_ (a' := ?_) ?_ ?_
                 rotate_left
                 · show Act.put _ (some 9) _ = _
                   simp only [Act.put, List.setIfInBounds_toArray, List.set_cons_zero, List.set_cons_succ, i64_w, i32_w]
                   rfl
                 refine one_ (i := 10) (N := some 10) #[true, true, true, true, true, true, true, true, true, true, true, false, false] rfl rfl (one_of HT_.out (by kernel_rfl)) (by decide) (fun K hK => ?_)
                 refine box_step ?hg (N := 10) ?hd (cs := #[.int .i64 0, .int .u64 0, .int .u64 0, .int .i64 0, .int .u64 0, .int .u64 0, .int .u64 0, .int .u64 0, .int .u64 0, .int .u64 0, .int .u64 0]) (t := 42) ?hr ?_; (case hd => rfl); (case hg => rfl); (case hr => first | (go_simp; done) | (go_simp; rfl))
                 intro gb264 hg w12 hbox hb
                 have BK264 := Aside0.mk (hbox); have GW264 := audit_Lines.bmz HB hg; have GE264 := audit_Lines.bmz HB hg; have NB263_264 := nl BK263 hg; have NB264_263 := nr BK263 hg; replace HO_5 := Aside0.mk (Kd.S_below (so HO_5) hb); replace BK263 := bb BK263 hb; replace HB := audit_Lines.bms HB hb; clear hb hbox hg
                 refine hK.out _ _ ⟨((HB.out.1.cell (World.block_lt_of_cell? w _ hw261_0)).trans hw261_0), ((HB.out.1.cell (World.block_lt_of_cell? w _ hw261_1)).trans hw261_1), ((HB.out.1.cell (World.block_lt_of_cell? w _ hw261_2)).trans hw261_2), ((HB.out.1.cell (World.block_lt_of_cell? w _ hw261_3)).trans hw261_3), ((HB.out.1.cell (World.block_lt_of_cell? w _ hw261_4)).trans hw261_4), ((HB.out.1.cell (World.block_lt_of_cell? w _ hw261_5)).trans hw261_5), ((HB.out.1.cell (World.block_lt_of_cell? w _ hw261_6)).trans hw261_6), ((HB.out.1.cell (World.block_lt_of_cell? w _ hw261_7)).trans hw261_7), ((HB.out.1.cell (World.block_lt_of_cell? w _ hw262_0)).trans hw262_0), ((HB.out.1.cell (World.block_lt_of_cell? w _ hw262_1)).trans hw262_1), ((HB.out.1.cell (World.block_lt_of_cell? w _ hw262_2)).trans hw262_2), ((HB.out.1.cell (World.block_lt_of_cell? w _ hw262_3)).trans hw262_3), ((HB.out.1.cell (World.block_lt_of_cell? w _ hw262_4)).trans hw262_4), ((HB.out.1.cell (World.block_lt_of_cell? w _ hw262_5)).trans hw262_5), ((HB.out.1.cell (World.block_lt_of_cell? w _ hw262_6)).trans hw262_6), ((HB.out.1.cell (World.block_lt_of_cell? w _ hw262_7)).trans hw262_7), ((HB.out.1.cell (World.block_lt_of_cell? w _ hw262_8)).trans hw262_8), ((HB.out.1.cell (World.block_lt_of_cell? w _ hw262_9)).trans hw262_9), ((HB.out.1.cell (World.block_lt_of_cell? w _ hw262_10)).trans hw262_10), ((HB.out.1.cell (World.block_lt_of_cell? w _ hw262_11)).trans hw262_11)⟩ (fun hHeld => ?_)
                 clear hK K
                 refine norm_ (a' := ?_) ?_ ?_
                 rotate_left
                 · show Act.put _ (some 10) _ = _
                   simp only [Act.put, List.setIfInBounds_toArray, List.set_cons_zero, List.set_cons_succ, i64_w, i32_w]
                   rfl
                 exact norm_ (by simp only [putAll, Act.put, List.setIfInBounds_toArray, List.set_cons_zero, List.set_cons_succ]) (hCont (gb263, gb264) _ ⟨hHeld, (so HO_5), (bk BK263), (bk BK264), GW263.out, GE263.out, NB264_263.out, NB263_264.out, GW264.out, GE264.out, (audit_Lines.bmw HB)⟩)
               · skip
                 refine box_step ?hg (N := 10) ?hd (cs := #[.int .i64 0, .int .u64 0, .int .u64 0, .int .i64 0, .int .u64 0, .int .u64 0, .int .u64 0, .int .u64 0, .int .u64 0, .int .u64 0, .int .u64 0]) (t := 42) ?hr ?_; (case hd => rfl); (case hg => rfl); (case hr => first | (go_simp; done) | (go_simp; rfl))
                 intro gb264 hg w11 hbox hb
                 have BK264 := Aside0.mk (hbox); have GW264 := audit_Lines.bmz HB hg; have GE264 := audit_Lines.bmz HB hg; replace HO_5 := Aside0.mk (Kd.S_below (so HO_5) hb); replace HB := audit_Lines.bms HB hb; clear hb hbox hg
                 refine hK.out _ _ ⟨((HB.out.1.cell (World.block_lt_of_cell? w _ hw261_0)).trans hw261_0), ((HB.out.1.cell (World.block_lt_of_cell? w _ hw261_1)).trans hw261_1), ((HB.out.1.cell (World.block_lt_of_cell? w _ hw261_2)).trans hw261_2), ((HB.out.1.cell (World.block_lt_of_cell? w _ hw261_3)).trans hw261_3), ((HB.out.1.cell (World.block_lt_of_cell? w _ hw261_4)).trans hw261_4), ((HB.out.1.cell (World.block_lt_of_cell? w _ hw261_5)).trans hw261_5), ((HB.out.1.cell (World.block_lt_of_cell? w _ hw261_6)).trans hw261_6), ((HB.out.1.cell (World.block_lt_of_cell? w _ hw261_7)).trans hw261_7), ((HB.out.1.cell (World.block_lt_of_cell? w _ hw262_0)).trans hw262_0), ((HB.out.1.cell (World.block_lt_of_cell? w _ hw262_1)).trans hw262_1), ((HB.out.1.cell (World.block_lt_of_cell? w _ hw262_2)).trans hw262_2), ((HB.out.1.cell (World.block_lt_of_cell? w _ hw262_3)).trans hw262_3), ((HB.out.1.cell (World.block_lt_of_cell? w _ hw262_4)).trans hw262_4), ((HB.out.1.cell (World.block_lt_of_cell? w _ hw262_5)).trans hw262_5), ((HB.out.1.cell (World.block_lt_of_cell? w _ hw262_6)).trans hw262_6), ((HB.out.1.cell (World.block_lt_of_cell? w _ hw262_7)).trans hw262_7), ((HB.out.1.cell (World.block_lt_of_cell? w _ hw262_8)).trans hw262_8), ((HB.out.1.cell (World.block_lt_of_cell? w _ hw262_9)).trans hw262_9), ((HB.out.1.cell (World.block_lt_of_cell? w _ hw262_10)).trans hw262_10), ((HB.out.1.cell (World.block_lt_of_cell? w _ hw262_11)).trans hw262_11)⟩ (fun hHeld => ?_)
                 clear hK K
                 refine norm_ (a' := ?_) ?_ ?_
                 rotate_left
                 · show Act.put _ (some 10) _ = _
                   simp only [Act.put, List.setIfInBounds_toArray, List.set_cons_zero, List.set_cons_succ, i64_w, i32_w]
                   rfl
                 refine one_ (i := 9) (N := some 9) #[true, true, true, true, true, true, true, true, true, true, true, false, false] rfl rfl (one_of HT_.out (by kernel_rfl)) (by decide) (fun K hK => ?_)
                 refine box_step ?hg (N := 9) ?hd (cs := #[.int .i64 0, .string (⟨#[]⟩ : ByteArray), .int .i64 0, .int .u64 0, .int .u64 0, .int .u64 0, .int .u64 0, .int .u64 0]) (t := 38) ?hr ?_; (case hd => rfl); (case hg => rfl); (case hr => first | (go_simp; done) | (go_simp; rfl))
                 intro gb263 hg w12 hbox hb
                 have BK263 := Aside0.mk (hbox); have GW263 := audit_Lines.bmz HB hg; have GE263 := audit_Lines.bmz HB hg; have NB264_263 := nl BK264 hg; have NB263_264 := nr BK264 hg; replace HO_5 := Aside0.mk (Kd.S_below (so HO_5) hb); replace BK264 := bb BK264 hb; replace HB := audit_Lines.bms HB hb; clear hb hbox hg
                 refine hK.out _ _ ⟨((HB.out.1.cell (World.block_lt_of_cell? w _ hw261_0)).trans hw261_0), ((HB.out.1.cell (World.block_lt_of_cell? w _ hw261_1)).trans hw261_1), ((HB.out.1.cell (World.block_lt_of_cell? w _ hw261_2)).trans hw261_2), ((HB.out.1.cell (World.block_lt_of_cell? w _ hw261_3)).trans hw261_3), ((HB.out.1.cell (World.block_lt_of_cell? w _ hw261_4)).trans hw261_4), ((HB.out.1.cell (World.block_lt_of_cell? w _ hw261_5)).trans hw261_5), ((HB.out.1.cell (World.block_lt_of_cell? w _ hw261_6)).trans hw261_6), ((HB.out.1.cell (World.block_lt_of_cell? w _ hw261_7)).trans hw261_7), ((HB.out.1.cell (World.block_lt_of_cell? w _ hw262_0)).trans hw262_0), ((HB.out.1.cell (World.block_lt_of_cell? w _ hw262_1)).trans hw262_1), ((HB.out.1.cell (World.block_lt_of_cell? w _ hw262_2)).trans hw262_2), ((HB.out.1.cell (World.block_lt_of_cell? w _ hw262_3)).trans hw262_3), ((HB.out.1.cell (World.block_lt_of_cell? w _ hw262_4)).trans hw262_4), ((HB.out.1.cell (World.block_lt_of_cell? w _ hw262_5)).trans hw262_5), ((HB.out.1.cell (World.block_lt_of_cell? w _ hw262_6)).trans hw262_6), ((HB.out.1.cell (World.block_lt_of_cell? w _ hw262_7)).trans hw262_7), ((HB.out.1.cell (World.block_lt_of_cell? w _ hw262_8)).trans hw262_8), ((HB.out.1.cell (World.block_lt_of_cell? w _ hw262_9)).trans hw262_9), ((HB.out.1.cell (World.block_lt_of_cell? w _ hw262_10)).trans hw262_10), ((HB.out.1.cell (World.block_lt_of_cell? w _ hw262_11)).trans hw262_11)⟩ (fun hHeld => ?_)
                 clear hK K
                 refine norm_ (a' := ?_) ?_ ?_
                 rotate_left
                 · show Act.put _ (some 9) _ = _
                   simp only [Act.put, List.setIfInBounds_toArray, List.set_cons_zero, List.set_cons_succ, i64_w, i32_w]
                   rfl
                 exact norm_ (by simp only [putAll, Act.put, List.setIfInBounds_toArray, List.set_cons_zero, List.set_cons_succ]) (hCont (gb263, gb264) _ ⟨hHeld, (so HO_5), (bk BK263), (bk BK264), GW263.out, GE263.out, NB264_263.out, NB263_264.out, GW264.out, GE264.out, (audit_Lines.bmw HB)⟩)
             rintro ⟨gb263, gb264⟩ w13 ⟨hS_, h0_, h1_, h2_, h3_, h4_, h5_, h6_, h7_, h8_, h9_⟩
             have n0_ : Aside0 (Kd.S k52 52 w13 w.heap.size (fun _ => True) u5 x5_1) := ⟨h0_⟩
             have n1_ : Aside0 (w13.heap[gb263]? = some (.cells #[.int .i64 0, .string (⟨#[]⟩ : ByteArray), .int .i64 0, .int .u64 0, .int .u64 0, .int .u64 0, .int .u64 0, .int .u64 0] 38 (0, 0))) := ⟨h1_⟩
             have n2_ : Aside0 (w13.heap[gb264]? = some (.cells #[.int .i64 0, .int .u64 0, .int .u64 0, .int .i64 0, .int .u64 0, .int .u64 0, .int .u64 0, .int .u64 0, .int .u64 0, .int .u64 0, .int .u64 0] 42 (0, 0))) := ⟨h2_⟩
             have n3_ : Aside0 (w.heap.size ≤ gb263) := ⟨h3_⟩
             have n4_ : Aside0 (w.heap.size ≤ gb263) := ⟨h4_⟩
             have n5_ : Aside0 (gb264 ≠ gb263) := ⟨h5_⟩
             have n6_ : Aside0 (gb263 ≠ gb264) := ⟨h6_⟩
             have n7_ : Aside0 (w.heap.size ≤ gb264) := ⟨h7_⟩
             have n8_ : Aside0 (w.heap.size ≤ gb264) := ⟨h8_⟩
             have n9_ : Aside0 (audit_Lines.BM gm x5_1.length w w13) := ⟨h9_⟩
             clear HO_5; clear HB; clear h0_ h1_ h2_ h3_ h4_ h5_ h6_ h7_ h8_ h9_; have HO_5 := n0_; have BK263 := n1_; have BK264 := n2_; have GW263 := n3_; have GE263 := n4_; have NB264_263 := n5_; have NB263_264 := n6_; have GW264 := n7_; have GE264 := n8_; have HB := n9_; clear n0_ n1_ n2_ n3_ n4_ n5_ n6_ n7_ n8_ n9_
             have hHeld : w13.cell? (ad261.add ((x20_1).toNat * 8)) = some (.int .i64 ((rd_T38 l0 x20_1).f0)) ∧ w13.cell? ⟨(ad261.add ((x20_1).toNat * 8)).block, (ad261.add ((x20_1).toNat * 8)).off + 1, none⟩ = some (.string ((rd_T38 l0 x20_1).f1)) ∧ w13.cell? ⟨(ad261.add ((x20_1).toNat * 8)).block, (ad261.add ((x20_1).toNat * 8)).off + 2, none⟩ = some (.int .i64 ((rd_T38 l0 x20_1).f2.f0)) ∧ w13.cell? ⟨(ad261.add ((x20_1).toNat * 8)).block, (ad261.add ((x20_1).toNat * 8)).off + 3, none⟩ = some (.int .u64 ((rd_T38 l0 x20_1).f2.f1)) ∧ w13.cell? ⟨(ad261.add ((x20_1).toNat * 8)).block, (ad261.add ((x20_1).toNat * 8)).off + 4, none⟩ = some (.int .u64 ((rd_T38 l0 x20_1).f2.f2)) ∧ w13.cell? ⟨(ad261.add ((x20_1).toNat * 8)).block, (ad261.add ((x20_1).toNat * 8)).off + 5, none⟩ = some (.int .u64 ((rd_T38 l0 x20_1).f2.f3)) ∧ w13.cell? ⟨(ad261.add ((x20_1).toNat * 8)).block, (ad261.add ((x20_1).toNat * 8)).off + 6, none⟩ = some (.int .u64 ((rd_T38 l0 x20_1).f2.f4)) ∧ w13.cell? ⟨(ad261.add ((x20_1).toNat * 8)).block, (ad261.add ((x20_1).toNat * 8)).off + 7, none⟩ = some (.int .u64 ((rd_T38 l0 x20_1).f3)) ∧ w13.cell? (ad262.add ((x20_1).toNat * 12)) = some (.int .i64 ((rd_T44 l1 x20_1).f0)) ∧ w13.cell? ⟨(ad262.add ((x20_1).toNat * 12)).block, (ad262.add ((x20_1).toNat * 12)).off + 1, none⟩ = some (.int .i64 ((rd_T44 l1 x20_1).f1.f0)) ∧ w13.cell? ⟨(ad262.add ((x20_1).toNat * 12)).block, (ad262.add ((x20_1).toNat * 12)).off + 2, none⟩ = some (.int .u64 ((rd_T44 l1 x20_1).f1.f1)) ∧ w13.cell? ⟨(ad262.add ((x20_1).toNat * 12)).block, (ad262.add ((x20_1).toNat * 12)).off + 3, none⟩ = some (.int .u64 ((rd_T44 l1 x20_1).f1.f2)) ∧ w13.cell? ⟨(ad262.add ((x20_1).toNat * 12)).block, (ad262.add ((x20_1).toNat * 12)).off + 4, none⟩ = some (.int .i64 ((rd_T44 l1 x20_1).f1.f3.f0)) ∧ w13.cell? ⟨(ad262.add ((x20_1).toNat * 12)).block, (ad262.add ((x20_1).toNat * 12)).off + 5, none⟩ = some (.int .u64 ((rd_T44 l1 x20_1).f1.f3.f1)) ∧ w13.cell? ⟨(ad262.add ((x20_1).toNat * 12)).block, (ad262.add ((x20_1).toNat * 12)).off + 6, none⟩ = some (.int .u64 ((rd_T44 l1 x20_1).f1.f3.f2)) ∧ w13.cell? ⟨(ad262.add ((x20_1).toNat * 12)).block, (ad262.add ((x20_1).toNat * 12)).off + 7, none⟩ = some (.int .u64 ((rd_T44 l1 x20_1).f1.f3.f3)) ∧ w13.cell? ⟨(ad262.add ((x20_1).toNat * 12)).block, (ad262.add ((x20_1).toNat * 12)).off + 8, none⟩ = some (.int .u64 ((rd_T44 l1 x20_1).f1.f3.f4)) ∧ w13.cell? ⟨(ad262.add ((x20_1).toNat * 12)).block, (ad262.add ((x20_1).toNat * 12)).off + 9, none⟩ = some (.int .u64 ((rd_T44 l1 x20_1).f1.f4.f0)) ∧ w13.cell? ⟨(ad262.add ((x20_1).toNat * 12)).block, (ad262.add ((x20_1).toNat * 12)).off + 10, none⟩ = some (.int .u64 ((rd_T44 l1 x20_1).f1.f4.f1)) ∧ w13.cell? ⟨(ad262.add ((x20_1).toNat * 12)).block, (ad262.add ((x20_1).toNat * 12)).off + 11, none⟩ = some (.int .u64 ((rd_T44 l1 x20_1).f1.f4.f2)) := hS_
             refine norm_ (a' := ?_) ?_ ?_
             rotate_left
             · simp only [putAll, Act.put, List.setIfInBounds_toArray, List.set_cons_zero, List.set_cons_succ]
               rfl
             refine one_ (i := 11) (N := none) #[true, true, true, true, true, true, true, true, true, true, true, true, false] rfl rfl (one_of HT_.out (by kernel_rfl)) (by decide) (fun K hK => ?_)
             have hs14 : w13.cell? ⟨gb263, 0, none⟩ = some (.int .i64 0) := (blk_cell BK263.out 0).trans rfl
             have hfs14 := blk_frozen BK263.out 0; have hns14_1 := NB264_263.out; have hms14_1 := NB263_264.out
             have hs15 : w13.cell? ⟨gb263, 1, none⟩ = some (.string (⟨#[]⟩ : ByteArray)) := (blk_cell BK263.out 1).trans rfl
             have hfs15 := blk_frozen BK263.out 1; have hns15_1 := NB264_263.out; have hms15_1 := NB263_264.out
             have hs16 : w13.cell? ⟨gb263, 2, none⟩ = some (.int .i64 0) := (blk_cell BK263.out 2).trans rfl
             have hfs16 := blk_frozen BK263.out 2; have hns16_1 := NB264_263.out; have hms16_1 := NB263_264.out
             have hs17 : w13.cell? ⟨gb263, 3, none⟩ = some (.int .u64 0) := (blk_cell BK263.out 3).trans rfl
             have hfs17 := blk_frozen BK263.out 3; have hns17_1 := NB264_263.out; have hms17_1 := NB263_264.out
             have hs18 : w13.cell? ⟨gb263, 4, none⟩ = some (.int .u64 0) := (blk_cell BK263.out 4).trans rfl
             have hfs18 := blk_frozen BK263.out 4; have hns18_1 := NB264_263.out; have hms18_1 := NB263_264.out
             have hs19 : w13.cell? ⟨gb263, 5, none⟩ = some (.int .u64 0) := (blk_cell BK263.out 5).trans rfl
             have hfs19 := blk_frozen BK263.out 5; have hns19_1 := NB264_263.out; have hms19_1 := NB263_264.out
             have hs20 : w13.cell? ⟨gb263, 6, none⟩ = some (.int .u64 0) := (blk_cell BK263.out 6).trans rfl
             have hfs20 := blk_frozen BK263.out 6; have hns20_1 := NB264_263.out; have hms20_1 := NB263_264.out
             have hs21 : w13.cell? ⟨gb263, 7, none⟩ = some (.int .u64 0) := (blk_cell BK263.out 7).trans rfl
             have hfs21 := blk_frozen BK263.out 7; have hns21_1 := NB264_263.out; have hms21_1 := NB263_264.out
             refine skip_ (w1 := ?_) (by rfl) rfl ?_ ?_
             rotate_left
             · refine Eq.trans (run_row_ ?u1_ty ?u1_x ?u1_y ?u1_cells BK263.out ?u1_1 ?u1_2 ?u1_3 ?u1_4 ?u1_5 ?u1_6) ?u1_7
               case u1_1 => rfl
               case u1_2 => rfl
               case u1_3 => rfl
               case u1_4 => exact Nat.le_refl _
               case u1_5 => kernel_rfl
               case u1_6 => first | (simp [Value.oneCell']; done) | kernel_rfl
               simp only [World.setCells, Nat.zero_add, Nat.reduceAdd]
               rfl
             refine hK.out _ _ ⟨(audit_Lines.cfa hw261_0 GW263 hHeld.1), (audit_Lines.cfa hw261_1 GW263 hHeld.2.1), (audit_Lines.cfa hw261_2 GW263 hHeld.2.2.1), (audit_Lines.cfa hw261_3 GW263 hHeld.2.2.2.1), (audit_Lines.cfa hw261_4 GW263 hHeld.2.2.2.2.1), (audit_Lines.cfa hw261_5 GW263 hHeld.2.2.2.2.2.1), (audit_Lines.cfa hw261_6 GW263 hHeld.2.2.2.2.2.2.1), (audit_Lines.cfa hw261_7 GW263 hHeld.2.2.2.2.2.2.2.1), (audit_Lines.cfa hw262_0 GW263 hHeld.2.2.2.2.2.2.2.2.1), (audit_Lines.cfa hw262_1 GW263 hHeld.2.2.2.2.2.2.2.2.2.1), (audit_Lines.cfa hw262_2 GW263 hHeld.2.2.2.2.2.2.2.2.2.2.1), (audit_Lines.cfa hw262_3 GW263 hHeld.2.2.2.2.2.2.2.2.2.2.2.1), (audit_Lines.cfa hw262_4 GW263 hHeld.2.2.2.2.2.2.2.2.2.2.2.2.1), (audit_Lines.cfa hw262_5 GW263 hHeld.2.2.2.2.2.2.2.2.2.2.2.2.2.1), (audit_Lines.cfa hw262_6 GW263 hHeld.2.2.2.2.2.2.2.2.2.2.2.2.2.2.1), (audit_Lines.cfa hw262_7 GW263 hHeld.2.2.2.2.2.2.2.2.2.2.2.2.2.2.2.1), (audit_Lines.cfa hw262_8 GW263 hHeld.2.2.2.2.2.2.2.2.2.2.2.2.2.2.2.2.1), (audit_Lines.cfa hw262_9 GW263 hHeld.2.2.2.2.2.2.2.2.2.2.2.2.2.2.2.2.2.1), (audit_Lines.cfa hw262_10 GW263 hHeld.2.2.2.2.2.2.2.2.2.2.2.2.2.2.2.2.2.2.1), (audit_Lines.cfa hw262_11 GW263 hHeld.2.2.2.2.2.2.2.2.2.2.2.2.2.2.2.2.2.2.2)⟩ (fun hHeld => ?_)
             clear hK K
             refine one_ (i := 12) (N := none) #[true, true, true, true, true, true, true, true, true, true, true, true, true] rfl rfl (one_of HT_.out (by kernel_rfl)) (by decide) (fun K hK => ?_)
             have hs22 : w13.cell? ⟨gb264, 0, none⟩ = some (.int .i64 0) := (blk_cell BK264.out 0).trans rfl
             have hfs22 := blk_frozen BK264.out 0; have hns22_0 := NB263_264.out; have hms22_0 := NB264_263.out
             have hs23 : w13.cell? ⟨gb264, 1, none⟩ = some (.int .u64 0) := (blk_cell BK264.out 1).trans rfl
             have hfs23 := blk_frozen BK264.out 1; have hns23_0 := NB263_264.out; have hms23_0 := NB264_263.out
             have hs24 : w13.cell? ⟨gb264, 2, none⟩ = some (.int .u64 0) := (blk_cell BK264.out 2).trans rfl
             have hfs24 := blk_frozen BK264.out 2; have hns24_0 := NB263_264.out; have hms24_0 := NB264_263.out
             have hs25 : w13.cell? ⟨gb264, 3, none⟩ = some (.int .i64 0) := (blk_cell BK264.out 3).trans rfl
             have hfs25 := blk_frozen BK264.out 3; have hns25_0 := NB263_264.out; have hms25_0 := NB264_263.out
             have hs26 : w13.cell? ⟨gb264, 4, none⟩ = some (.int .u64 0) := (blk_cell BK264.out 4).trans rfl
             have hfs26 := blk_frozen BK264.out 4; have hns26_0 := NB263_264.out; have hms26_0 := NB264_263.out
             have hs27 : w13.cell? ⟨gb264, 5, none⟩ = some (.int .u64 0) := (blk_cell BK264.out 5).trans rfl
             have hfs27 := blk_frozen BK264.out 5; have hns27_0 := NB263_264.out; have hms27_0 := NB264_263.out
             have hs28 : w13.cell? ⟨gb264, 6, none⟩ = some (.int .u64 0) := (blk_cell BK264.out 6).trans rfl
             have hfs28 := blk_frozen BK264.out 6; have hns28_0 := NB263_264.out; have hms28_0 := NB264_263.out
             have hs29 : w13.cell? ⟨gb264, 7, none⟩ = some (.int .u64 0) := (blk_cell BK264.out 7).trans rfl
             have hfs29 := blk_frozen BK264.out 7; have hns29_0 := NB263_264.out; have hms29_0 := NB264_263.out
             have hs30 : w13.cell? ⟨gb264, 8, none⟩ = some (.int .u64 0) := (blk_cell BK264.out 8).trans rfl
             have hfs30 := blk_frozen BK264.out 8; have hns30_0 := NB263_264.out; have hms30_0 := NB264_263.out
             have hs31 : w13.cell? ⟨gb264, 9, none⟩ = some (.int .u64 0) := (blk_cell BK264.out 9).trans rfl
             have hfs31 := blk_frozen BK264.out 9; have hns31_0 := NB263_264.out; have hms31_0 := NB264_263.out
             have hs32 : w13.cell? ⟨gb264, 10, none⟩ = some (.int .u64 0) := (blk_cell BK264.out 10).trans rfl
             have hfs32 := blk_frozen BK264.out 10; have hns32_0 := NB263_264.out; have hms32_0 := NB264_263.out; have BB_ := audit_Lines.far8 (b0 := .int .i64 ((rd_T38 l0 x20_1).f0)) (b1 := .string ((rd_T38 l0 x20_1).f1)) (b2 := .int .i64 ((rd_T38 l0 x20_1).f2.f0)) (b3 := .int .u64 ((rd_T38 l0 x20_1).f2.f1)) (b4 := .int .u64 ((rd_T38 l0 x20_1).f2.f2)) (b5 := .int .u64 ((rd_T38 l0 x20_1).f2.f3)) (b6 := .int .u64 ((rd_T38 l0 x20_1).f2.f4)) (b7 := .int .u64 ((rd_T38 l0 x20_1).f3)) BK264.out NB264_263.out
             generalize hW_ : ((((((((w13.setCell ⟨gb263, 0, none⟩ (.int .i64 ((rd_T38 l0 x20_1).f0))).setCell ⟨gb263, 1, none⟩ (.string ((rd_T38 l0 x20_1).f1))).setCell ⟨gb263, 2, none⟩ (.int .i64 ((rd_T38 l0 x20_1).f2.f0))).setCell ⟨gb263, 3, none⟩ (.int .u64 ((rd_T38 l0 x20_1).f2.f1))).setCell ⟨gb263, 4, none⟩ (.int .u64 ((rd_T38 l0 x20_1).f2.f2))).setCell ⟨gb263, 5, none⟩ (.int .u64 ((rd_T38 l0 x20_1).f2.f3))).setCell ⟨gb263, 6, none⟩ (.int .u64 ((rd_T38 l0 x20_1).f2.f4))).setCell ⟨gb263, 7, none⟩ (.int .u64 ((rd_T38 l0 x20_1).f3))) = W1_ at BB_ hHeld ⊢
             refine skip_ (w1 := ?_) (by rfl) rfl ?_ ?_
             rotate_left
             · refine Eq.trans (run_row_ 42 (.tmp 10) (.tmp 31) #[.int .i64 ((rd_T44 l1 x20_1).f1.f0), .int .u64 ((rd_T44 l1 x20_1).f1.f1), .int .u64 ((rd_T44 l1 x20_1).f1.f2), .int .i64 ((rd_T44 l1 x20_1).f1.f3.f0), .int .u64 ((rd_T44 l1 x20_1).f1.f3.f1), .int .u64 ((rd_T44 l1 x20_1).f1.f3.f2), .int .u64 ((rd_T44 l1 x20_1).f1.f3.f3), .int .u64 ((rd_T44 l1 x20_1).f1.f3.f4), .int .u64 ((rd_T44 l1 x20_1).f1.f4.f0), .int .u64 ((rd_T44 l1 x20_1).f1.f4.f1), .int .u64 ((rd_T44 l1 x20_1).f1.f4.f2)] BB_ ?u2_1 ?u2_2 ?u2_3 ?u2_4 ?u2_5 ?u2_6) ?u2_7
               case u2_1 => rfl
               case u2_2 => rfl
               case u2_3 => rfl
               case u2_4 => exact Nat.le_refl _
               case u2_5 => kernel_rfl
               case u2_6 => first | (simp [Value.oneCell']; done) | kernel_rfl
               simp only [World.setCells, Nat.zero_add, Nat.reduceAdd]
               rfl
             subst hW_
             refine hK.out _ _ ⟨(audit_Lines.cfa hw261_0 GW264 hHeld.1), (audit_Lines.cfa hw261_1 GW264 hHeld.2.1), (audit_Lines.cfa hw261_2 GW264 hHeld.2.2.1), (audit_Lines.cfa hw261_3 GW264 hHeld.2.2.2.1), (audit_Lines.cfa hw261_4 GW264 hHeld.2.2.2.2.1), (audit_Lines.cfa hw261_5 GW264 hHeld.2.2.2.2.2.1), (audit_Lines.cfa hw261_6 GW264 hHeld.2.2.2.2.2.2.1), (audit_Lines.cfa hw261_7 GW264 hHeld.2.2.2.2.2.2.2.1), (audit_Lines.cfa hw262_0 GW264 hHeld.2.2.2.2.2.2.2.2.1), (audit_Lines.cfa hw262_1 GW264 hHeld.2.2.2.2.2.2.2.2.2.1), (audit_Lines.cfa hw262_2 GW264 hHeld.2.2.2.2.2.2.2.2.2.2.1), (audit_Lines.cfa hw262_3 GW264 hHeld.2.2.2.2.2.2.2.2.2.2.2.1), (audit_Lines.cfa hw262_4 GW264 hHeld.2.2.2.2.2.2.2.2.2.2.2.2.1), (audit_Lines.cfa hw262_5 GW264 hHeld.2.2.2.2.2.2.2.2.2.2.2.2.2.1), (audit_Lines.cfa hw262_6 GW264 hHeld.2.2.2.2.2.2.2.2.2.2.2.2.2.2.1), (audit_Lines.cfa hw262_7 GW264 hHeld.2.2.2.2.2.2.2.2.2.2.2.2.2.2.2.1), (audit_Lines.cfa hw262_8 GW264 hHeld.2.2.2.2.2.2.2.2.2.2.2.2.2.2.2.2.1), (audit_Lines.cfa hw262_9 GW264 hHeld.2.2.2.2.2.2.2.2.2.2.2.2.2.2.2.2.2.1), (audit_Lines.cfa hw262_10 GW264 hHeld.2.2.2.2.2.2.2.2.2.2.2.2.2.2.2.2.2.2.1), (audit_Lines.cfa hw262_11 GW264 hHeld.2.2.2.2.2.2.2.2.2.2.2.2.2.2.2.2.2.2.2)⟩ (fun hHeld => ?_)
             clear hK K
             refine done_ (done_of HT_.out (by kernel_rfl)) ?_
             have hnb33 := NB263_264.out; have hnc33 := NB264_263.out
             have hcz34_0 : w13.cell? ⟨gb263, 0, none⟩ = some (.int .i64 0) := (blk_cell BK263.out 0).trans rfl
             have hcz34_1 : w13.cell? ⟨gb263, 1, none⟩ = some (.string (⟨#[]⟩ : ByteArray)) := (blk_cell BK263.out 1).trans rfl
             have hcz34_2 : w13.cell? ⟨gb263, 2, none⟩ = some (.int .i64 0) := (blk_cell BK263.out 2).trans rfl
             have hcz34_3 : w13.cell? ⟨gb263, 3, none⟩ = some (.int .u64 0) := (blk_cell BK263.out 3).trans rfl
             have hcz34_4 : w13.cell? ⟨gb263, 4, none⟩ = some (.int .u64 0) := (blk_cell BK263.out 4).trans rfl
             have hcz34_5 : w13.cell? ⟨gb263, 5, none⟩ = some (.int .u64 0) := (blk_cell BK263.out 5).trans rfl
             have hcz34_6 : w13.cell? ⟨gb263, 6, none⟩ = some (.int .u64 0) := (blk_cell BK263.out 6).trans rfl
             have hcz34_7 : w13.cell? ⟨gb263, 7, none⟩ = some (.int .u64 0) := (blk_cell BK263.out 7).trans rfl
             have hfz34_0 := blk_frozen BK263.out 0; have hfz34_1 := blk_frozen BK263.out 1; have hfz34_2 := blk_frozen BK263.out 2; have hfz34_3 := blk_frozen BK263.out 3; have hfz34_4 := blk_frozen BK263.out 4; have hfz34_5 := blk_frozen BK263.out 5; have hfz34_6 := blk_frozen BK263.out 6; have hfz34_7 := blk_frozen BK263.out 7
             go_upto_region 10 with (fail)
             go_cut [11] (fun v11 wc => ∃ (kq : Nat) (x11_8 : Bool), v11 = .bool x11_8 ∧ Aside0 (audit_Lines.j1 kq l0 l1 x5_1 x7_1 x11_8 ji3 x20_1 ((rd_T38 l0 x20_1).f0) ((rd_T38 l0 x20_1).f1) ((rd_T38 l0 x20_1).f2.f0) ((rd_T38 l0 x20_1).f2.f1) ((rd_T38 l0 x20_1).f2.f2) ((rd_T38 l0 x20_1).f2.f3) ((rd_T38 l0 x20_1).f2.f4) ((rd_T38 l0 x20_1).f3) ((rd_T44 l1 x20_1).f1.f0) ((rd_T44 l1 x20_1).f1.f1) ((rd_T44 l1 x20_1).f1.f2) ((rd_T44 l1 x20_1).f1.f3.f0) ((rd_T44 l1 x20_1).f1.f3.f1) ((rd_T44 l1 x20_1).f1.f3.f2) ((rd_T44 l1 x20_1).f1.f3.f3) ((rd_T44 l1 x20_1).f1.f3.f4) ((rd_T44 l1 x20_1).f1.f4.f0) ((rd_T44 l1 x20_1).f1.f4.f1) ((rd_T44 l1 x20_1).f1.f4.f2) = some r) ∧ Aside0 (kq ≤ k1) ∧ Aside0 (Kd.S k52 52 wc w.heap.size (fun _ => True) u5 x5_1) ∧ Aside0 (wc.heap[gb263]? = some (.cells #[.int .i64 ((rd_T38 l0 x20_1).f0), .string ((rd_T38 l0 x20_1).f1), .int .i64 ((rd_T38 l0 x20_1).f2.f0), .int .u64 ((rd_T38 l0 x20_1).f2.f1), .int .u64 ((rd_T38 l0 x20_1).f2.f2), .int .u64 ((rd_T38 l0 x20_1).f2.f3), .int .u64 ((rd_T38 l0 x20_1).f2.f4), .int .u64 ((rd_T38 l0 x20_1).f3)] 38 (0, 0))) ∧ Aside0 (wc.heap[gb264]? = some (.cells #[.int .i64 ((rd_T44 l1 x20_1).f1.f0), .int .u64 ((rd_T44 l1 x20_1).f1.f1), .int .u64 ((rd_T44 l1 x20_1).f1.f2), .int .i64 ((rd_T44 l1 x20_1).f1.f3.f0), .int .u64 ((rd_T44 l1 x20_1).f1.f3.f1), .int .u64 ((rd_T44 l1 x20_1).f1.f3.f2), .int .u64 ((rd_T44 l1 x20_1).f1.f3.f3), .int .u64 ((rd_T44 l1 x20_1).f1.f3.f4), .int .u64 ((rd_T44 l1 x20_1).f1.f4.f0), .int .u64 ((rd_T44 l1 x20_1).f1.f4.f1), .int .u64 ((rd_T44 l1 x20_1).f1.f4.f2)] 42 (0, 0))) ∧ Aside0 (audit_Lines.BM gm x5_1.length w wc))
             case first =>
              have H := HC9.out; clear HC9
              by_cases c35 : ((rd_T44 l1 x20_1).f1.f0) = 0
              · rw [if_pos c35] at H
                have c35b0 : (((rd_T44 l1 x20_1).f1.f0) == 0) = true := beq_iff_eq.mpr c35
                have c35b1 : (((rd_T44 l1 x20_1).f1.f0) != 0) = false := bne_eq_false_iff_eq.mpr c35
                clear c35
                (first | rw [c35b0] | (simp only [i64_w, i32_w]; rw [c35b0]) | skip)
                have H' := Aside0.mk H
                clear H; have hnb36 := NB264_263.out; have hnc36 := NB263_264.out
                obtain ⟨hcz37_0, hcz37_1, hcz37_2, hcz37_3, hcz37_4, hcz37_5, hcz37_6, hcz37_7, hcz37_8, hcz37_9, hcz37_10, hfz37_0, hfz37_1, hfz37_2, hfz37_3, hfz37_4, hfz37_5, hfz37_6, hfz37_7, hfz37_8, hfz37_9, hfz37_10⟩ := bc11 BK264
                go_wp2
                go_meet
                case rel => exact ⟨_, (true), rs, H', ⟨by have := HK1.out; first | omega | exact Nat.le_refl _⟩, ⟨by (with_reducible repeat (first | apply Kd.S_alloc | apply Kd.S_drewN | apply Kd.S_drew)); refine Kd.S_mono (ok := fun k_ => (True ∧ k_ ≠ gb263) ∧ k_ ≠ gb264) ?_ (fun _ _ => trivial); (iterate 11 refine Kd.S_far (p := ⟨gb264, _, none⟩) ?_ (fun _ hk => hk.2) _); (iterate 8 refine Kd.S_far (p := ⟨gb263, _, none⟩) ?_ (fun _ hk => hk.1.2) _); exact Kd.S_types (Kd.S_types HO_5.out BK263.out (by decide)) BK264.out (by decide)⟩, ⟨audit_Lines.far11 (audit_Lines.put8 BK263.out) NB263_264.out⟩, ⟨audit_Lines.put11 (audit_Lines.far8 BK264.out NB264_263.out)⟩, ⟨audit_Lines.bmw HB⟩⟩
              · rw [if_neg c35] at H
                have c35b0 : (((rd_T44 l1 x20_1).f1.f0) == 0) = false := beq_eq_false_iff_ne.mpr c35
                have c35b1 : (((rd_T44 l1 x20_1).f1.f0) != 0) = true := bne_iff_ne.mpr c35
                (first | rw [c35b0] | (simp only [i64_w, i32_w]; rw [c35b0]) | skip)
                by_cases c38 : ((rd_T44 l1 x20_1).f1.f0) = 2
                · rw [if_pos c38] at H
                  have c38b0 : (((rd_T44 l1 x20_1).f1.f0) == 2) = true := beq_iff_eq.mpr c38
                  have c38b1 : (((rd_T44 l1 x20_1).f1.f0) != 2) = false := bne_eq_false_iff_eq.mpr c38
                  clear c38
                  have H' := Aside0.mk H
                  clear H; have hnb39 := NB264_263.out; have hnc39 := NB263_264.out
                  obtain ⟨hcz40_0, hcz40_1, hcz40_2, hcz40_3, hcz40_4, hcz40_5, hcz40_6, hcz40_7, hcz40_8, hcz40_9, hcz40_10, hfz40_0, hfz40_1, hfz40_2, hfz40_3, hfz40_4, hfz40_5, hfz40_6, hfz40_7, hfz40_8, hfz40_9, hfz40_10⟩ := bc11 BK264
                  go_wp2
                  go_meet
                  case rel => exact ⟨_, (x7_1), rs, H', ⟨by have := HK1.out; first | omega | exact Nat.le_refl _⟩, ⟨by (with_reducible repeat (first | apply Kd.S_alloc | apply Kd.S_drewN | apply Kd.S_drew)); refine Kd.S_mono (ok := fun k_ => (True ∧ k_ ≠ gb263) ∧ k_ ≠ gb264) ?_ (fun _ _ => trivial); (iterate 11 refine Kd.S_far (p := ⟨gb264, _, none⟩) ?_ (fun _ hk => hk.2) _); (iterate 8 refine Kd.S_far (p := ⟨gb263, _, none⟩) ?_ (fun _ hk => hk.1.2) _); exact Kd.S_types (Kd.S_types HO_5.out BK263.out (by decide)) BK264.out (by decide)⟩, ⟨audit_Lines.far11 (audit_Lines.put8 BK263.out) NB263_264.out⟩, ⟨audit_Lines.put11 (audit_Lines.far8 BK264.out NB264_263.out)⟩, ⟨audit_Lines.bmw HB⟩⟩
                · rw [if_neg c38] at H
                  have c38b0 : (((rd_T44 l1 x20_1).f1.f0) == 2) = false := beq_eq_false_iff_ne.mpr c38
                  have c38b1 : (((rd_T44 l1 x20_1).f1.f0) != 2) = true := bne_iff_ne.mpr c38
                  have H' := Aside0.mk H
                  clear H; have hnb41 := NB264_263.out; have hnc41 := NB263_264.out
                  obtain ⟨hcz42_0, hcz42_1, hcz42_2, hcz42_3, hcz42_4, hcz42_5, hcz42_6, hcz42_7, hcz42_8, hcz42_9, hcz42_10, hfz42_0, hfz42_1, hfz42_2, hfz42_3, hfz42_4, hfz42_5, hfz42_6, hfz42_7, hfz42_8, hfz42_9, hfz42_10⟩ := bc11 BK264
                  go_wp2
                  go_meet
                  case rel => exact ⟨_, (false), rs, H', ⟨by have := HK1.out; first | omega | exact Nat.le_refl _⟩, ⟨by (with_reducible repeat (first | apply Kd.S_alloc | apply Kd.S_drewN | apply Kd.S_drew)); refine Kd.S_mono (ok := fun k_ => (True ∧ k_ ≠ gb263) ∧ k_ ≠ gb264) ?_ (fun _ _ => trivial); (iterate 11 refine Kd.S_far (p := ⟨gb264, _, none⟩) ?_ (fun _ hk => hk.2) _); (iterate 8 refine Kd.S_far (p := ⟨gb263, _, none⟩) ?_ (fun _ hk => hk.1.2) _); exact Kd.S_types (Kd.S_types HO_5.out BK263.out (by decide)) BK264.out (by decide)⟩, ⟨audit_Lines.far11 (audit_Lines.put8 BK263.out) NB263_264.out⟩, ⟨audit_Lines.put11 (audit_Lines.far8 BK264.out NB264_263.out)⟩, ⟨audit_Lines.bmw HB⟩⟩
             case rest =>
              clear HC9; (try clear c1); (try clear p2); (try clear q2); (try clear hx2); (try clear c3); (try clear c4); (try clear c4b0); (try clear c5); (try clear c5b0); (try clear c6); (try clear c6b0); (try clear c7); (try clear c7b0); (try clear c8); (try clear c8b0); (try clear c8b1); (try clear c15); (try clear p26); (try clear q26); (try clear hx26); (try clear c33); (try clear c35); (try clear c35b0); (try clear c35b1); (try clear c36); (try clear c38); (try clear c38b0); (try clear c38b1); (try clear c39); (try clear c41); (try clear hcz34_0); (try clear hcz34_1); (try clear hcz34_2); (try clear hcz34_3); (try clear hcz34_4); (try clear hcz34_5); (try clear hcz34_6); (try clear hcz34_7); (try clear hcz37_0); (try clear hcz37_1); (try clear hcz37_10); (try clear hcz37_2); (try clear hcz37_3); (try clear hcz37_4); (try clear hcz37_5); (try clear hcz37_6); (try clear hcz37_7); (try clear hcz37_8); (try clear hcz37_9); (try clear hcz40_0); (try clear hcz40_1); (try clear hcz40_10); (try clear hcz40_2); (try clear hcz40_3); (try clear hcz40_4); (try clear hcz40_5); (try clear hcz40_6); (try clear hcz40_7); (try clear hcz40_8); (try clear hcz40_9); (try clear hcz42_0); (try clear hcz42_1); (try clear hcz42_10); (try clear hcz42_2); (try clear hcz42_3); (try clear hcz42_4); (try clear hcz42_5); (try clear hcz42_6); (try clear hcz42_7); (try clear hcz42_8); (try clear hcz42_9); (try clear hfz34_0); (try clear hfz34_1); (try clear hfz34_2); (try clear hfz34_3); (try clear hfz34_4)
              (try clear hfz34_5); (try clear hfz34_6); (try clear hfz34_7); (try clear hfz37_0); (try clear hfz37_1); (try clear hfz37_10); (try clear hfz37_2); (try clear hfz37_3); (try clear hfz37_4); (try clear hfz37_5); (try clear hfz37_6); (try clear hfz37_7); (try clear hfz37_8); (try clear hfz37_9); (try clear hfz40_0); (try clear hfz40_1); (try clear hfz40_10); (try clear hfz40_2); (try clear hfz40_3); (try clear hfz40_4); (try clear hfz40_5); (try clear hfz40_6); (try clear hfz40_7); (try clear hfz40_8); (try clear hfz40_9); (try clear hfz42_0); (try clear hfz42_1); (try clear hfz42_10); (try clear hfz42_2); (try clear hfz42_3); (try clear hfz42_4); (try clear hfz42_5); (try clear hfz42_6); (try clear hfz42_7); (try clear hfz42_8); (try clear hfz42_9); (try clear hx261_0); (try clear hx261_1); (try clear hx261_2); (try clear hx261_3); (try clear hx261_4); (try clear hx261_5); (try clear hx261_6); (try clear hx261_7); (try clear hx262_0); (try clear hx262_1); (try clear hx262_10); (try clear hx262_11); (try clear hx262_2); (try clear hx262_3); (try clear hx262_4); (try clear hx262_5); (try clear hx262_6); (try clear hx262_7); (try clear hx262_8); (try clear hx262_9); (try clear p2); (try clear p261); (try clear p262); (try clear q261); (try clear q262)
              obtain ⟨kq, x11_8, rfl, HA, HJ8, HO_5, BK263, BK264, HB⟩ := hcut
              cases kq with
              | zero => exact absurd HA.out (by simp [audit_Lines.j1])
              | succ kj8 =>
               have H := HA.out; clear HA
               simp only [audit_Lines.j1] at H
               by_cases c43 : ((rd_T44 l1 x20_1).f1.f0) = 2
               · rw [if_pos c43] at H
                 exact absurd H (by simp)
               · rw [if_neg c43] at H
                 have c43b0 : (((rd_T44 l1 x20_1).f1.f0) == 2) = false := beq_eq_false_iff_ne.mpr c43
                 have c43b1 : (((rd_T44 l1 x20_1).f1.f0) != 2) = true := bne_iff_ne.mpr c43
                 by_cases c44 : ((rd_T38 l0 x20_1).f0) = 1
                 · rw [if_pos c44] at H
                   have c44b0 : (((rd_T38 l0 x20_1).f0) == 1) = true := beq_iff_eq.mpr c44
                   have c44b1 : (((rd_T38 l0 x20_1).f0) != 1) = false := bne_eq_false_iff_eq.mpr c44
                   clear c44
                   by_cases c45 : x11_8 = true
                   · subst c45
                     have H1 : (if x5_1.length < 1759218604441 ∧ (rd_T38 l0 x20_1).f1.size ≤ 4096 then (audit_Lines.l0 kj8 l0 l1 (x5_1 ++ [(⟨((rd_T38 l0 x20_1).f1), (⟨((rd_T38 l0 x20_1).f2.f0), ((rd_T38 l0 x20_1).f2.f1), ((rd_T38 l0 x20_1).f2.f2), ((rd_T38 l0 x20_1).f2.f3), ((rd_T38 l0 x20_1).f2.f4)⟩ : S24), ([] : List (S31))⟩ : S52)]) x7_1 ji3 (wrap64 (x20_1 + 1))) else (none)) = some r := by rw [if_pos rfl] at H; exact H
                     clear H; have H := H1; clear H1
                     by_cases c46 : x5_1.length < 1759218604441 ∧ (rd_T38 l0 x20_1).f1.size ≤ 4096
                     · rw [if_pos c46] at H
                       have LMc46 := Aside0.mk c46; clear c46
                       obtain ⟨y265, hy265⟩ : ∃ y_ : List (S52), y_ = (x5_1 ++ [(⟨((rd_T38 l0 x20_1).f1), (⟨((rd_T38 l0 x20_1).f2.f0), ((rd_T38 l0 x20_1).f2.f1), ((rd_T38 l0 x20_1).f2.f2), ((rd_T38 l0 x20_1).f2.f3), ((rd_T38 l0 x20_1).f2.f4)⟩ : S24), ([] : List (S31))⟩ : S52)]) := ⟨_, rfl⟩
                       replace H : (audit_Lines.l0 kj8 l0 l1 y265 x7_1 ji3 (wrap64 (x20_1 + 1))) = some r := by first | (rw [hy265]; with_reducible exact H) | (have H2_ := (Option.bind_some _ _).symm.trans H; rw [hy265]; with_reducible exact H2_) | (have H2_ := (Option.bind_some _ _).symm.trans H; with_reducible exact H2_) | with_reducible exact H | (rw [hy265]; exact H) | exact H
                       have Ny265 := Aside0.mk hy265; clear hy265
                       have H' := Aside0.mk H
                       clear H; have hnb47 := NB264_263.out; have hnc47 := NB263_264.out
                       obtain ⟨hcz48_0, hcz48_1, hcz48_2, hcz48_3, hcz48_4, hcz48_5, hcz48_6, hcz48_7, hcz48_8, hcz48_9, hcz48_10, hfz48_0, hfz48_1, hfz48_2, hfz48_3, hfz48_4, hfz48_5, hfz48_6, hfz48_7, hfz48_8, hfz48_9, hfz48_10⟩ := bc11 BK264
                       have hcz49_0 : wc.cell? ⟨gb263, 0, none⟩ = some (.int .i64 ((rd_T38 l0 x20_1).f0)) := (blk_cell BK263.out 0).trans rfl
                       have hcz49_1 : wc.cell? ⟨gb263, 1, none⟩ = some (.string ((rd_T38 l0 x20_1).f1)) := (blk_cell BK263.out 1).trans rfl
                       have hcz49_2 : wc.cell? ⟨gb263, 2, none⟩ = some (.int .i64 ((rd_T38 l0 x20_1).f2.f0)) := (blk_cell BK263.out 2).trans rfl
                       have hcz49_3 : wc.cell? ⟨gb263, 3, none⟩ = some (.int .u64 ((rd_T38 l0 x20_1).f2.f1)) := (blk_cell BK263.out 3).trans rfl
                       have hcz49_4 : wc.cell? ⟨gb263, 4, none⟩ = some (.int .u64 ((rd_T38 l0 x20_1).f2.f2)) := (blk_cell BK263.out 4).trans rfl
                       have hcz49_5 : wc.cell? ⟨gb263, 5, none⟩ = some (.int .u64 ((rd_T38 l0 x20_1).f2.f3)) := (blk_cell BK263.out 5).trans rfl
                       have hcz49_6 : wc.cell? ⟨gb263, 6, none⟩ = some (.int .u64 ((rd_T38 l0 x20_1).f2.f4)) := (blk_cell BK263.out 6).trans rfl
                       have hcz49_7 : wc.cell? ⟨gb263, 7, none⟩ = some (.int .u64 ((rd_T38 l0 x20_1).f3)) := (blk_cell BK263.out 7).trans rfl
                       have hfz49_0 := blk_frozen BK263.out 0; have hfz49_1 := blk_frozen BK263.out 1; have hfz49_2 := blk_frozen BK263.out 2; have hfz49_3 := blk_frozen BK263.out 3; have hfz49_4 := blk_frozen BK263.out 4; have hfz49_5 := blk_frozen BK263.out 5; have hfz49_6 := blk_frozen BK263.out 6; have hfz49_7 := blk_frozen BK263.out 7
                       go_upto_region 17 with ((with_reducible refine gate_builtin (b := .append) (xs := #[.tmp 54, .tmp 60]) rfl ?_); at_builtin; refine Kd.S_append k52 (w0 := w) w.heap.size rfl (.tmp 54) (.tmp 60) 47 52 (.agg #[(.string ⟨#[]⟩), (.int .i64 0), (.int .u64 0), (.int .u64 0), (.int .u64 0), (.int .u64 0), (.slice none 0 0)]) 80 rfl Try.underlying47 audit_Lines.info52k rfl (by decide) (by omega) u5 x5_1 (⟨((rd_T38 l0 x20_1).f1), (⟨((rd_T38 l0 x20_1).f2.f0), ((rd_T38 l0 x20_1).f2.f1), ((rd_T38 l0 x20_1).f2.f2), ((rd_T38 l0 x20_1).f2.f3), ((rd_T38 l0 x20_1).f2.f4)⟩ : S24), ([] : List (S31))⟩ : S52) [.string ((rd_T38 l0 x20_1).f1), .int .i64 ((rd_T38 l0 x20_1).f2.f0), .int .u64 ((rd_T38 l0 x20_1).f2.f1), .int .u64 ((rd_T38 l0 x20_1).f2.f2), .int .u64 ((rd_T38 l0 x20_1).f2.f3), .int .u64 ((rd_T38 l0 x20_1).f2.f4), .slice none 0 0] (fun _ => True) (fun _ => False) rfl rfl ?aP (fun k_ hk_ => hk_.elim) ?aF ?aO ?aB ?aS ?aL ?_; (case aP => exact k52_mkM _ _ _ (⟨((rd_T38 l0 x20_1).f1), (⟨((rd_T38 l0 x20_1).f2.f0), ((rd_T38 l0 x20_1).f2.f1), ((rd_T38 l0 x20_1).f2.f2), ((rd_T38 l0 x20_1).f2.f3), ((rd_T38 l0 x20_1).f2.f4)⟩ : S24), ([] : List (S31))⟩ : S52) (Kd.R_nil _ _ _ _ _)); (case aB => exact (audit_Lines.bmw HB).1); (case aF => exact (fun _ _ => trivial)); (case aO => exact (by (with_reducible repeat (first | apply Kd.S_alloc | apply Kd.S_drewN | apply Kd.S_drew)); exact Kd.S_mono HO_5.out (fun k_ hk => ⟨trivial, fun e_ => e_⟩))); (case aS => exact (below_size (audit_Lines.bmw HB).1)); (case aL => have := LMc46.out; omega); intro v266 w50 ho hb hg hat; rw [← Ny265.out] at ho; have n0_ := Aside0.mk (blk_grown (g := gb263) (o := .cells #[.int .i64 ((rd_T38 l0 x20_1).f0), .string ((rd_T38 l0 x20_1).f1), .int .i64 ((rd_T38 l0 x20_1).f2.f0), .int .u64 ((rd_T38 l0 x20_1).f2.f1), .int .u64 ((rd_T38 l0 x20_1).f2.f2), .int .u64 ((rd_T38 l0 x20_1).f2.f3), .int .u64 ((rd_T38 l0 x20_1).f2.f4), .int .u64 ((rd_T38 l0 x20_1).f3)] 38 (0, 0)) (bk BK263) hg (Kd.S_ne HO_5.out BK263.out (by decide))); have n1_ := Aside0.mk (blk_grown (g := gb264) (o := .cells #[.int .i64 ((rd_T44 l1 x20_1).f1.f0), .int .u64 ((rd_T44 l1 x20_1).f1.f1), .int .u64 ((rd_T44 l1 x20_1).f1.f2), .int .i64 ((rd_T44 l1 x20_1).f1.f3.f0), .int .u64 ((rd_T44 l1 x20_1).f1.f3.f1), .int .u64 ((rd_T44 l1 x20_1).f1.f3.f2), .int .u64 ((rd_T44 l1 x20_1).f1.f3.f3), .int .u64 ((rd_T44 l1 x20_1).f1.f3.f4), .int .u64 ((rd_T44 l1 x20_1).f1.f4.f0), .int .u64 ((rd_T44 l1 x20_1).f1.f4.f1), .int .u64 ((rd_T44 l1 x20_1).f1.f4.f2)] 42 (0, 0)) (bk BK264) hg (Kd.S_ne HO_5.out BK264.out (by decide))); have n2_ := Aside0.mk (audit_Lines.bm_append hg hb (audit_Lines.bmw HB) (so HO_5)); have n3_ := Aside0.mk (ho); clear BK263; clear BK264; clear HB; clear HO_5; have BK263 := n0_; have BK264 := n1_; have HB := n2_; have HO267 := n3_; clear n0_ n1_ n2_ n3_; clear ho hb hg hat; have hcz51_0 : w50.cell? ⟨gb263, 0, none⟩ = some (.int .i64 ((rd_T38 l0 x20_1).f0)) := (blk_cell BK263.out 0).trans rfl; have hcz51_1 : w50.cell? ⟨gb263, 1, none⟩ = some (.string ((rd_T38 l0 x20_1).f1)) := (blk_cell BK263.out 1).trans rfl; have hcz51_2 : w50.cell? ⟨gb263, 2, none⟩ = some (.int .i64 ((rd_T38 l0 x20_1).f2.f0)) := (blk_cell BK263.out 2).trans rfl; have hcz51_3 : w50.cell? ⟨gb263, 3, none⟩ = some (.int .u64 ((rd_T38 l0 x20_1).f2.f1)) := (blk_cell BK263.out 3).trans rfl; have hcz51_4 : w50.cell? ⟨gb263, 4, none⟩ = some (.int .u64 ((rd_T38 l0 x20_1).f2.f2)) := (blk_cell BK263.out 4).trans rfl; have hcz51_5 : w50.cell? ⟨gb263, 5, none⟩ = some (.int .u64 ((rd_T38 l0 x20_1).f2.f3)) := (blk_cell BK263.out 5).trans rfl; have hcz51_6 : w50.cell? ⟨gb263, 6, none⟩ = some (.int .u64 ((rd_T38 l0 x20_1).f2.f4)) := (blk_cell BK263.out 6).trans rfl; have hcz51_7 : w50.cell? ⟨gb263, 7, none⟩ = some (.int .u64 ((rd_T38 l0 x20_1).f3)) := (blk_cell BK263.out 7).trans rfl; have hfz51_0 := blk_frozen BK263.out 0; have hfz51_1 := blk_frozen BK263.out 1; have hfz51_2 := blk_frozen BK263.out 2; have hfz51_3 := blk_frozen BK263.out 3; have hfz51_4 := blk_frozen BK263.out 4; have hfz51_5 := blk_frozen BK263.out 5; have hfz51_6 := blk_frozen BK263.out 6; have hfz51_7 := blk_frozen BK263.out 7; obtain ⟨Ao52, co52, eo52⟩ := Kd.S_slice HO267.out; subst eo52)
                       go_wp2_with (at_mapUpdate; obtain ⟨hB1, hB2, Dm, hB3⟩ := HB.out; refine wpList_mapUpdate_own _ rfl _ _ _ 88 rfl 9 3 (Go.Maps.string_keyed Try.underlying9) Try.underlying88 _ gm x5_1.length Dm rfl hB3 (audit_Lines.lim1 LMc46.out) _ _ _ rfl rfl (Go.WideMaps.keyOf_string_mk Try.underlying9 (audit_Lines.lim2 LMc46.out)) _ [] (plainElem_int Try.underlying3 (audit_Lines.lim3 Ny265.out LMc46.out)) ?_; intro w60 hown1 hgrow1; have n0_ := Aside0.mk (Kd.S_mono (audit_Lines.S_map HO267.out hB3 hgrow1) (fun _ _ => trivial)); have n1_ := Aside0.mk (audit_Lines.bm_put hB1 hB2 hown1 hgrow1); clear HB hB1 hB2 hB3 HO267 hown1 hgrow1; have HO267 := n0_; have HB := n1_; clear n0_ n1_)
                       go_roundg kj8
                       case measure => have := HK1.out; have := HJ8.out; omega
                       case rel => exact ⟨(y265), (x7_1), (wrap64 (x20_1 + 1)), rs, rs, H', ⟨by have := HK1.out; have := HJ8.out; omega⟩, ⟨so HO267⟩, ⟨by rw [audit_Lines.lim4 Ny265.out]; exact audit_Lines.bmw HB⟩⟩
                     · rw [if_neg c46] at H
                       exact absurd H (by simp)
                   · replace c45 := Bool.eq_false_iff.mpr c45
                     subst c45
                     have H1 : (audit_Lines.l0 kj8 l0 l1 x5_1 x7_1 ji3 (wrap64 (x20_1 + 1))) = some r := by rw [if_neg (show ¬ (false = true) by decide)] at H; exact H
                     clear H; have H := H1; clear H1
                     have H' := Aside0.mk H
                     clear H; have hnb53 := NB264_263.out; have hnc53 := NB263_264.out
                     obtain ⟨hcz54_0, hcz54_1, hcz54_2, hcz54_3, hcz54_4, hcz54_5, hcz54_6, hcz54_7, hcz54_8, hcz54_9, hcz54_10, hfz54_0, hfz54_1, hfz54_2, hfz54_3, hfz54_4, hfz54_5, hfz54_6, hfz54_7, hfz54_8, hfz54_9, hfz54_10⟩ := bc11 BK264
                     have hcz55_0 : wc.cell? ⟨gb263, 0, none⟩ = some (.int .i64 ((rd_T38 l0 x20_1).f0)) := (blk_cell BK263.out 0).trans rfl
                     have hcz55_1 : wc.cell? ⟨gb263, 1, none⟩ = some (.string ((rd_T38 l0 x20_1).f1)) := (blk_cell BK263.out 1).trans rfl
                     have hcz55_2 : wc.cell? ⟨gb263, 2, none⟩ = some (.int .i64 ((rd_T38 l0 x20_1).f2.f0)) := (blk_cell BK263.out 2).trans rfl
                     have hcz55_3 : wc.cell? ⟨gb263, 3, none⟩ = some (.int .u64 ((rd_T38 l0 x20_1).f2.f1)) := (blk_cell BK263.out 3).trans rfl
                     have hcz55_4 : wc.cell? ⟨gb263, 4, none⟩ = some (.int .u64 ((rd_T38 l0 x20_1).f2.f2)) := (blk_cell BK263.out 4).trans rfl
                     have hcz55_5 : wc.cell? ⟨gb263, 5, none⟩ = some (.int .u64 ((rd_T38 l0 x20_1).f2.f3)) := (blk_cell BK263.out 5).trans rfl
                     have hcz55_6 : wc.cell? ⟨gb263, 6, none⟩ = some (.int .u64 ((rd_T38 l0 x20_1).f2.f4)) := (blk_cell BK263.out 6).trans rfl
                     have hcz55_7 : wc.cell? ⟨gb263, 7, none⟩ = some (.int .u64 ((rd_T38 l0 x20_1).f3)) := (blk_cell BK263.out 7).trans rfl
                     have hfz55_0 := blk_frozen BK263.out 0; have hfz55_1 := blk_frozen BK263.out 1; have hfz55_2 := blk_frozen BK263.out 2; have hfz55_3 := blk_frozen BK263.out 3; have hfz55_4 := blk_frozen BK263.out 4; have hfz55_5 := blk_frozen BK263.out 5; have hfz55_6 := blk_frozen BK263.out 6; have hfz55_7 := blk_frozen BK263.out 7
                     go_wp2
                     go_roundg kj8
                     case measure => have := HK1.out; have := HJ8.out; omega
                     case rel => exact ⟨(x5_1), (x7_1), (wrap64 (x20_1 + 1)), rs, rs, H', ⟨by have := HK1.out; have := HJ8.out; omega⟩, ⟨HO_5.out⟩, ⟨HB.out⟩⟩
                 · rw [if_neg c44] at H
                   exact absurd H (by simp)
         · rw [if_neg c7] at H
           exact absurd H (by simp)
       · rw [if_neg c6] at H
         exact absurd H (by simp)
     · rw [if_neg c5] at H
       exact absurd H (by simp)
   · rw [if_neg c4] at H
     have c4b0 : decide (x20_1 < ji3) = false := decide_eq_false c4
     clear c4
     obtain rfl := Option.some.inj H
     go_wp2
     go_ret
     exact ⟨_, by first | rfl | (simp [errW_none, errW_some] <;> rfl) | (simp only [← hji3]; first | rfl | (simp [errW_none, errW_some] <;> rfl)) | (simp [*, errW_none, errW_some] <;> rfl), by (with_reducible repeat (first | apply Kd.S_alloc | apply Kd.S_drewN | apply Kd.S_drew)); exact HO_5.out, (audit_Lines.bmw HB).1⟩
end Go.Proofs.Ytdoifmefhofnnaa.D
