/- Written by the session's own program hyb.py: what functions of the program compute; Lean checks it. -/
import Derived.Test.YtnhngjhodcikiaaDoorFx0
import Derived.Test.YtnhngjhodcikiaaDoorFx15
import Derived.Test.YtnhngjhodcikiaaDoorFx18
import Derived.Test.YtnhngjhodcikiaaDoorFx21
import Derived.Test.YtnhngjhodcikiaaDoorFx22
import Derived.Laws.Cover1
import Derived.Test.YtnhngjhodcikiaaDoorWErr
import Derived.Test.YtnhngjhodcikiaaDoorWIns
namespace Go.Proofs.YtnhngjhodcikiaaDoor.F
open Go.RowKit Go.Proofs.YtnhngjhodcikiaaDoorW.PrintWords Go.Proofs.YtnhngjhodcikiaaDoorW.PrintLast Go.Proofs.YtnhngjhodcikiaaDoorW.PrintMore Go.Proofs.YtnhngjhodcikiaaDoorW.PrintShort
attribute [local go_sem] run_Add64 run_Sub64
attribute [local go_sem] max2_int min2_int max_two min_two max_three min_three max_four min_four   -- for this text's walks alone
set_option linter.unusedVariables false
set_option linter.unusedSimpArgs false

/-! ### state_step: function 36 -/
set_option maxHeartbeats 8000000 in
set_option maxRecDepth 100000 in
/-- slices.Insert, into the midst, where there is room: in place. -/
theorem state_step.room (base n i g cap vb : Nat) (cur : Array Value) (cs vs : List Value) (w : World) (hg : w.heap[g]? = some (.cells cur 56 (0, 0))) (hi : i < n) (hcap : n + 1 ≤ cap) (hmx : cap ≤ maxLen) (hcur : cur.size = cap * 9) (hcs : cur.toList.take (n * 9) = cs)
    (hvb : w.heap[vb]? = some (.cells vs.toArray 56 (0, 0))) (hne : vb ≠ g) (hvl : vs.length = 9) (h1c : ∀ u ∈ cs, u.oneCell' = true) (h1v : ∀ u ∈ vs, u.oneCell' = true) :
    Calls Tryd.prog 45 #[.slice (some ⟨g, 0, none⟩) n cap, .int .i64 i, .slice (some ⟨vb, 0, none⟩) 1 1] w fun e w' =>
      e = .returned (.slice (some ⟨g, 0, none⟩) (n + 1) cap) ∧ ∃ cur', w'.heap[g]? = some (.cells cur' 56 (0, 0)) ∧ cur'.size = cap * 9 ∧ cur'.toList.take ((n + 1) * 9) = cs.take (i * 9) ++ vs ++ cs.drop (i * 9) ∧ w.grownBy w' (some g) := by
  unfold maxLen at hmx
  have hu := Tryd.underlying25
  have hi2 : (Tryd.prog.info? 56).map (·.size) = some 9 := by kernel_rfl
  have hcl : cs.length = n * 9 := by rw [← hcs, List.length_take, Array.length_toList]; omega
  have hdl : (cs.drop (i * 9)).length = (n - i) * 9 := by rw [List.length_drop, hcl]; omega
  have hz2 : ¬ ((i : Int) = (n : Int)) := by omega
  have hz3 : (i == n) = false := by simp; omega
  have hz4 : decide ((cap : Int) < (n : Int) + 1) = false := by simp; omega
  have hov : ∀ lb cb, (callFunc 49 #[.slice (some ⟨vb, 0, none⟩) 1 1, .slice (some ⟨g, (i + 1) * 9, none⟩) lb cb]).run Tryd.prog w = .ok (.value (.bool false)) w := fun lb cb => by
    rw [run_callFunc_extern Tryd.func49 (by kernel_rfl) (by kernel_rfl) (by kernel_rfl) (e := Extern.SlicesOverlaps.overlaps #[25, 25] #[4]) (by kernel_rfl),
      Lib.run_overlaps_apart w 25 4 56 hu 9 (fun w => by kernel_rfl) ⟨vb, 0, none⟩ ⟨g, (i + 1) * 9, none⟩ 1 1 lb cb hne 56 56 vs.length cur.size (by simp [World.shape?, hvb]) (by simp [World.shape?, hg]) (by omega) (by simp [World.frozen?, hvb]) (by simp [World.frozen?, hvb])]
    rfl
  have hw1 : IntKind.i64.wrap ((i : Int) + 1) = (i : Int) + 1 := by rw [IntKind.wrap_i64]; omega
  have hw2 : IntKind.i64.wrap ((n : Int) + 1) = (n : Int) + 1 := by rw [IntKind.wrap_i64]; omega
  have hb1 : (0 : Int) ≤ (i : Int) + 1 := by omega
  have hin : i ≤ n := by omega
  have htn : ((i : Int) + 1).toNat = i + 1 := by omega
  have htn2 : ((n : Int) + 1).toNat = n + 1 := by omega
  have hb2 : ¬ (cap = i + 1) := by omega
  have hb3 : (i : Int) ≤ (n : Int) + 1 := by omega
  have hb4 : ¬ (cap = i) := by omega
  have hb5 : (n : Int) + 1 ≤ (cap : Int) := by omega
  have hb6 : (i : Int) + 1 ≤ (n : Int) + 1 := by omega
  obtain ⟨cur1, hc1⟩ : ∃ cur1 : List Value, cur1 = cur.toList.take ((i + 1) * 9) ++ cs.drop (i * 9) ++ cur.toList.drop ((i + 1) * 9 + (cs.drop (i * 9)).length) := ⟨_, rfl⟩
  have hcur2 : cur.toList.length = cap * 9 := by rw [Array.length_toList, hcur]
  have hnm : n * 9 + 9 ≤ cur.toList.length := by omega
  have him : i * 9 + 9 ≤ n * 9 := by omega
  obtain ⟨k1, k2, k3⟩ := ins_cells him hnm hvl cur1 (by rw [hc1, hcs, Nat.add_mul, Nat.one_mul])
  rw [hcs] at k3
  have hcp1 : ∀ (W : World) (hW : W.heap[g]? = some (.cells cur 56 (0, 0))) (ty : TypeId) (dc sc : Nat), (Builtin.copy_ #[25, 25] ty #[.slice (some ⟨g, (i + 1) * 9, none⟩) (n - i) dc, .slice (some ⟨g, i * 9, none⟩) (n + 1 - i) sc]).run Tryd.prog W = .ok (goInt ((n - i : Nat) : Int)) (W.setRow g cur1.toArray) := fun W hW ty dc sc => by
    have hm : Nat.min (n + 1 - i) (n - i) = n - i := Nat.min_eq_right (by omega)
    have h := run_copyS W 25 25 ty 56 9 g ((i + 1) * 9) (n - i) dc ⟨g, i * 9, none⟩ (n + 1 - i) sc cur 56 (cs.drop (i * 9)) hu hi2 hW (by rw [hm, hdl])
      (fun j v hj => by
        rw [Addr.add_lit, blk_cell hW, ← hj, List.getElem?_drop, ← hcs, List.getElem?_take_of_lt, Array.getElem?_toList]
        have := (List.getElem?_eq_some_iff.1 hj).1
        omega) (by omega) (fun v hv => h1c v (List.mem_of_mem_drop hv))
    rw [hm, ← hc1] at h
    exact h
  obtain ⟨cur2, hc2⟩ : ∃ cur2 : List Value, cur2 = cur1.take (i * 9) ++ vs ++ cur1.drop (i * 9 + vs.length) := ⟨_, rfl⟩
  rw [← hc2] at k2 k3
  have HC2 := Aside0.mk hc2
  clear hc2
  have K1 := Aside0.mk k1
  have K2 := Aside0.mk k2
  have K3 := Aside0.mk k3
  have HCUR2 := Aside0.mk hcur2
  clear hc1 hcs k1 k2 k3 hcur2 hcl hdl hcur
  go_enter Tryd.func45, Tryd.ntmps45
  go_wp2_with (simp only [hov])
  have hq1 := hcp1 w.drew (blk_drew hg)
  go_region
  have hg1 := setRow_heap w.drew g cur cur1.toArray 56 (0, 0) (blk_drew hg)
  have hv1 : (w.drew.setRow g cur1.toArray).heap[vb]? = some (.cells vs.toArray 56 (0, 0)) := (setRow_other _ _ _ _ hne).trans (blk_drew hvb)
  have hq2 : ∀ (ty : TypeId) (dc : Nat), (Builtin.copy_ #[25, 25] ty #[.slice (some ⟨g, i * 9, none⟩) (n + 1 - i) dc, .slice (some ⟨vb, 0, none⟩) 1 1]).run Tryd.prog (w.drew.setRow g cur1.toArray) = .ok (goInt ((1 : Nat) : Int)) ((w.drew.setRow g cur1.toArray).setRow g cur2.toArray) := fun ty dc => by
    have hm : Nat.min 1 (n + 1 - i) = 1 := Nat.min_eq_left (by omega)
    have h := run_copyS (w.drew.setRow g cur1.toArray) 25 25 ty 56 9 g (i * 9) (n + 1 - i) dc ⟨vb, 0, none⟩ 1 1 cur1.toArray 56 vs hu hi2 hg1 (by rw [hm, hvl])
      (fun j v hj => by rw [Addr.add_lit, blk_cell hv1, Nat.zero_add, ← hj, List.getElem?_toArray]) (by rw [List.size_toArray, K1.out]; omega) h1v
    rw [hm, List.toList_toArray, ← HC2.out] at h
    exact h
  go_wp2_with ((with_reducible refine gate_dst (N := 82) rfl ?_); refine wpList_copy_runI _ rfl (.tmp 80) (.tmp 81) 25 25 rfl _ _ rfl rfl (hq2 _ _) ?_)
  go_ret
  refine ⟨rfl, _, setRow_heap _ g _ _ 56 (0, 0) hg1, ?_, ?_, grown_setRow (grown_setRow (grown_drew (World.grownBy.refl w _)) (Or.inl rfl)) (Or.inl rfl)⟩
  · rw [List.size_toArray, K2.out, HCUR2.out]
  · rw [show (n + 1) * 9 = n * 9 + 9 by omega]
    exact K3.out
-- NEEDS WIns
-- NEEDSLIB Derived.Laws.Cover1
set_option maxHeartbeats 8000000 in
set_option maxRecDepth 100000 in
/-- slices.Insert at the end. -/
theorem state_step.end_ (base n vb : Nat) (v : Value) (cs vs : List Value) (w : World) (hown : w.ownsRow base 56 9 v n cs)
    (hvb : w.heap[vb]? = some (.cells vs.toArray 56 (0, 0))) (hvl : vs.length = 9) (h1v : ∀ u ∈ vs, u.oneCell' = true) (hbig : (n + 1) * 80 ≤ 140737488355328) (hbase : base ≤ w.heap.size) :
    Calls Tryd.prog 45 #[v, .int .i64 n, .slice (some ⟨vb, 0, none⟩) 1 1] w fun e w' =>
      ∃ v', e = .returned v' ∧ w'.ownsRow base 56 9 v' (n + 1) (cs ++ vs) ∧ w.grownBy w' v.ownBlock ∧ (v'.ownBlock = v.ownBlock ∨ v'.ownBlock = some w.heap.size) := by
  have hu := Tryd.underlying25
  have hinfo : (Tryd.prog.info? 56).map (fun i => (i.zero, i.size, i.bytes)) = some (some (Value.agg #[(.string ⟨#[]⟩), (.int .i64 0), (.int .u64 0), (.int .u64 0), (.int .u64 0), (.int .u64 0), (.int .u64 0), (.int .u64 0), (.int .u64 0)]), 9, 80) := by kernel_rfl
  obtain ⟨i0, hi, hzz⟩ := Option.map_eq_some_iff.1 hinfo
  simp only [Prod.mk.injEq] at hzz
  obtain ⟨hz0, hz1, hz2⟩ := hzz
  have hn : n ≤ 1759218604441600 := by omega
  have hfrom : ∃ A c, v = .slice A n c ∧ n ≤ c ∧ c ≤ maxLen := by
    rcases hown.2 with ⟨rfl, rfl⟩ | ⟨g, cap, cur, rfl, _, _, h1, h2, _⟩
    · exact ⟨none, 0, rfl, Nat.le_refl _, Nat.zero_le _⟩
    · exact ⟨_, cap, rfl, h1, h2⟩
  obtain ⟨A, c, rfl, hc, hmx⟩ := hfrom
  unfold maxLen at hmx
  have HO := Aside0.mk hown
  have HV := Aside0.mk hvb
  have HN := Aside0.mk hn
  clear hown hvb
  have h1 : (0 : Int) ≤ (n : Int) := Int.natCast_nonneg _
  have hcut := cut_from (P := Tryd.prog) 25 56 .i64 hu hi 9 hz1 A n c (n : Int) h1 (Int.le_refl _)
  obtain ⟨A1, hA1⟩ : ∃ A1, A1 = (if c = ((n : Int)).toNat then A else A.map (·.add (((n : Int)).toNat * 9))) := ⟨_, rfl⟩
  rw [← hA1] at hcut
  obtain ⟨n1, hn1⟩ : ∃ n1, n1 = n - ((n : Int)).toNat := ⟨_, rfl⟩
  obtain ⟨c1, hc1⟩ : ∃ c1, c1 = c - ((n : Int)).toNat := ⟨_, rfl⟩
  rw [← hn1, ← hc1] at hcut
  clear hA1 hn1 hc1
  go_enter Tryd.func45, Tryd.ntmps45
  go_wp2_with (at_builtin; (refine wpList_append_own_at _ rfl (.tmp 23) (.tmp 24) 25 rfl base 56 i0 (Value.agg #[(.string ⟨#[]⟩), (.int .i64 0), (.int .u64 0), (.int .u64 0), (.int .u64 0), (.int .u64 0), (.int .u64 0), (.int .u64 0), (.int .u64 0)]) 9 80 hu hi hz0 hz1 hz2 rfl (by decide) _ n cs rfl HO.out ⟨vb, 0, none⟩ 1 1 vs rfl (by rw [hvl]) (fun j u hj => by rw [Addr.add_lit, blk_cell HV.out, Nat.zero_add, ← hj, List.getElem?_toArray]) h1v (by unfold maxLen; omega) hbig hbase ?_); intro v1 w1 hown1 hg1 hn1 hat1)
  go_wp2
  go_ret
  exact ⟨v1, rfl, hown1, hg1, hat1⟩
set_option maxHeartbeats 8000000 in
set_option maxRecDepth 100000 in
/-- slices.Insert, into the midst, where there is no room: a new row. -/
theorem state_step.grow (n i g vb cap : Nat) (cur : Array Value) (cs vs : List Value) (w : World) (hg : w.heap[g]? = some (.cells cur 56 (0, 0))) (hi : i < n) (hcap : n ≤ cap) (hno : cap < n + 1) (hcur : cur.size = cap * 9) (hcs : cur.toList.take (n * 9) = cs)
    (hvb : w.heap[vb]? = some (.cells vs.toArray 56 (0, 0))) (hvl : vs.length = 9) (h1c : ∀ u ∈ cs, u.oneCell' = true) (h1v : ∀ u ∈ vs, u.oneCell' = true) (hbig : (n + 1) * 80 ≤ 140737488355328) :
    Calls Tryd.prog 45 #[.slice (some ⟨g, 0, none⟩) n cap, .int .i64 i, .slice (some ⟨vb, 0, none⟩) 1 1] w fun e w' =>
      ∃ cap' cur', e = .returned (.slice (some ⟨w.heap.size, 0, none⟩) (n + 1) cap') ∧ w'.heap[w.heap.size]? = some (.cells cur' 56 (0, 0)) ∧ n + 1 ≤ cap' ∧ cap' ≤ maxLen ∧ cur'.size = cap' * 9 ∧ cur'.toList.take ((n + 1) * 9) = cs.take (i * 9) ++ vs ++ cs.drop (i * 9) ∧ w.grownBy w' none := by
  have hu := Tryd.underlying25
  have hui := Tryd.underlying3
  have hinfo : (Tryd.prog.info? 56).map (fun i => (i.zero, i.size, i.bytes)) = some (some (Value.agg #[(.string ⟨#[]⟩), (.int .i64 0), (.int .u64 0), (.int .u64 0), (.int .u64 0), (.int .u64 0), (.int .u64 0), (.int .u64 0), (.int .u64 0)]), 9, 80) := by kernel_rfl
  have hi2 : (Tryd.prog.info? 56).map (·.size) = some 9 := by kernel_rfl
  obtain ⟨i0, hi0, hzz⟩ := Option.map_eq_some_iff.1 hinfo
  simp only [Prod.mk.injEq] at hzz
  obtain ⟨hz0, hzs, hzb⟩ := hzz
  have hn : n ≤ 1759218604441600 := by omega
  have hcl : cs.length = n * 9 := by rw [← hcs, List.length_take, Array.length_toList]; omega
  have hdl : (cs.drop (i * 9)).length = (n - i) * 9 := by rw [List.length_drop, hcl]; omega
  have htl : (cs.take (i * 9)).length = i * 9 := by rw [List.length_take, hcl]; omega
  have hcell : ∀ j u, cs[j]? = some u → ∀ W : World, W.heap[g]? = some (.cells cur 56 (0, 0)) → W.cell? ⟨g, j, none⟩ = some u := fun j u hj W hW => by
    have hlt := (List.getElem?_eq_some_iff.1 hj).1
    rw [blk_cell hW, ← hj, ← hcs, List.getElem?_take_of_lt (by omega), Array.getElem?_toList]
  have hz2 : ¬ ((i : Int) = (n : Int)) := by omega
  have hz3 : (i == n) = false := by simp; omega
  have hz4 : decide ((cap : Int) < (n : Int) + 1) = true := by simp; omega
  have hold : (Builtin.firstCells i0.size i (.slice (some ⟨g, 0, none⟩) i cap)).run Tryd.prog w.drew = .ok (cs.take (i * 9)).toArray w.drew := by
    rw [hzs]
    exact run_firstCells_some w.drew 9 i ⟨g, 0, none⟩ i cap (cs.take (i * 9)) htl (fun j v hj => by
      rw [Addr.add_lit, Nat.zero_add]
      rw [List.getElem?_take] at hj
      split at hj <;> first | exact hcell j v hj _ (blk_drew hg) | cases hj)
  have hik : i + (n + 1 - i) = n + 1 := by omega
  have hkk : (n : Int) + 1 - (i : Int) = ((n + 1 - i : Nat) : Int) := by omega
  have hrz : ∀ ty, (Builtin.append_ #[25, 3] ty #[.slice (some ⟨g, 0, none⟩) i cap, .int .i64 ((n : Int) + 1 - (i : Int))]).run Tryd.prog w = .ok (.slice (some ⟨w.heap.size, 0, none⟩) (n + 1) (grownCap w (n + 1) cap 56)) (w.drew.alloc (.cells ((cs.take (i * 9)).toArray ++ Builtin.zeroCells (Value.agg #[(.string ⟨#[]⟩), (.int .i64 0), (.int .u64 0), (.int .u64 0), (.int .u64 0), (.int .u64 0), (.int .u64 0), (.int .u64 0), (.int .u64 0)]).cells (n + 1 - i) ++ Builtin.zeroCells (Value.agg #[(.string ⟨#[]⟩), (.int .i64 0), (.int .u64 0), (.int .u64 0), (.int .u64 0), (.int .u64 0), (.int .u64 0), (.int .u64 0), (.int .u64 0)]).cells (grownCap w (n + 1) cap 56 - (n + 1))) 56)) := fun ty => by
    have h := Lib.run_append_grow_zeros w 25 3 ty 56 i0 (Value.agg #[(.string ⟨#[]⟩), (.int .i64 0), (.int .u64 0), (.int .u64 0), (.int .u64 0), (.int .u64 0), (.int .u64 0), (.int .u64 0), (.int .u64 0)]) .i64 .i64 hu hui hi0 hz0 (some ⟨g, 0, none⟩) i cap (cs.take (i * 9)) hold (n + 1 - i) (by omega) (by omega) (by omega) (by omega) (by rw [hzb]; omega) (by rw [hzb, hik]; exact growslice_fits hno hbig)
    rw [hik] at h
    rw [hkk]
    exact h
  obtain ⟨G, hG⟩ : ∃ G, grownCap w (n + 1) cap 56 = G := ⟨_, rfl⟩
  have hG1 : n + 1 ≤ G := by rw [← hG]; exact grownCap_ge w (n + 1) cap 56
  have hG2 : G ≤ maxLen := by rw [← hG]; exact grownCap_le_maxLen w (n + 1) cap 56 (by unfold maxLen; omega)
  rw [hG] at hrz
  obtain ⟨ROW, hROW⟩ : ∃ ROW : Array Value, (cs.take (i * 9)).toArray ++ Builtin.zeroCells (Value.agg #[(.string ⟨#[]⟩), (.int .i64 0), (.int .u64 0), (.int .u64 0), (.int .u64 0), (.int .u64 0), (.int .u64 0), (.int .u64 0), (.int .u64 0)]).cells (n + 1 - i) ++ Builtin.zeroCells (Value.agg #[(.string ⟨#[]⟩), (.int .i64 0), (.int .u64 0), (.int .u64 0), (.int .u64 0), (.int .u64 0), (.int .u64 0), (.int .u64 0), (.int .u64 0)]).cells (G - (n + 1)) = ROW := ⟨_, rfl⟩
  rw [hROW] at hrz
  have hRs : ROW.size = G * 9 := by
    rw [← hROW, Array.size_append, Array.size_append, zeroCells_len, zeroCells_len, List.size_toArray, htl, show ((Value.agg #[(.string ⟨#[]⟩), (.int .i64 0), (.int .u64 0), (.int .u64 0), (.int .u64 0), (.int .u64 0), (.int .u64 0), (.int .u64 0), (.int .u64 0)])).cells.size = 9 from rfl]
    omega
  have hRt : ROW.toList.take (i * 9) = cs.take (i * 9) := by
    rw [← hROW, Array.toList_append, Array.toList_append, List.append_assoc, List.take_append_of_le_length (by simp only [List.toList_toArray]; omega), List.toList_toArray, List.take_of_length_le (by omega)]
  clear hROW hold
  obtain ⟨W1, hW1⟩ : ∃ W1, w.drew.alloc (.cells ROW 56 (0, 0)) = W1 := ⟨_, rfl⟩
  have hrz1 : ∀ ty, (Builtin.append_ #[25, 3] ty #[.slice (some ⟨g, 0, none⟩) i cap, .int .i64 ((n : Int) + 1 - (i : Int))]).run Tryd.prog w = .ok (.slice (some ⟨w.heap.size, 0, none⟩) (n + 1) G) W1 := fun ty => by rw [← hW1]; exact hrz ty
  clear hrz
  have gW : w.grownBy W1 none := by rw [← hW1]; exact (grown_drew (World.grownBy.refl w none)).trans (World.grownBy_alloc w.drew _ none)
  have hN1 : W1.heap[w.heap.size]? = some (.cells ROW 56 (0, 0)) := by rw [← hW1]; exact heap_alloc_new w.drew _
  have hg1 : W1.heap[g]? = some (.cells cur 56 (0, 0)) := (gW.block g (blk_lt hg) (by simp)).trans hg
  have hv1 : W1.heap[vb]? = some (.cells vs.toArray 56 (0, 0)) := (gW.block vb (blk_lt hvb) (by simp)).trans hvb
  have hgne : g ≠ w.heap.size := Nat.ne_of_lt (blk_lt hg)
  clear hW1
  obtain ⟨r1, hr1⟩ : ∃ r1 : List Value, r1 = ROW.toList.take (i * 9) ++ vs ++ ROW.toList.drop (i * 9 + vs.length) := ⟨_, rfl⟩
  obtain ⟨k1, k2, k3⟩ := ins_new (row := ROW.toList) (cs := cs) (vs := vs) (a := i * 9) (s := 9) (m := n * 9) (by omega) hcl (by rw [Array.length_toList, hRs]; omega) hvl hRt r1 hr1
  obtain ⟨r2, hr2⟩ : ∃ r2 : List Value, r2 = r1.take (i * 9 + 9) ++ cs.drop (i * 9) ++ r1.drop (i * 9 + 9 + (cs.drop (i * 9)).length) := ⟨_, rfl⟩
  rw [← hr2] at k2 k3
  have hq1 : ∀ (ty : TypeId) (dc : Nat), (Builtin.copy_ #[25, 25] ty #[.slice (some ⟨w.heap.size, i * 9, none⟩) (n + 1 - i) dc, .slice (some ⟨vb, 0, none⟩) 1 1]).run Tryd.prog W1 = .ok (goInt ((1 : Nat) : Int)) (W1.setRow w.heap.size r1.toArray) := fun ty dc => by
    have hm : Nat.min 1 (n + 1 - i) = 1 := Nat.min_eq_left (by omega)
    have h := run_copyS W1 25 25 ty 56 9 w.heap.size (i * 9) (n + 1 - i) dc ⟨vb, 0, none⟩ 1 1 ROW 56 vs hu hi2 hN1 (by rw [hm, hvl])
      (fun j v hj => by rw [Addr.add_lit, blk_cell hv1, Nat.zero_add, ← hj, List.getElem?_toArray]) (by omega) h1v
    rw [hm, ← hr1] at h
    exact h
  obtain ⟨W2, hW2⟩ : ∃ W2, W1.setRow w.heap.size r1.toArray = W2 := ⟨_, rfl⟩
  rw [hW2] at hq1
  have gW2 : w.grownBy W2 none := by rw [← hW2]; exact grown_setRow gW (Or.inr (Nat.le_refl _))
  have hN2 : W2.heap[w.heap.size]? = some (.cells r1.toArray 56 (0, 0)) := by rw [← hW2]; exact setRow_heap W1 _ _ _ 56 (0, 0) hN1
  have hg2 : W2.heap[g]? = some (.cells cur 56 (0, 0)) := (gW2.block g (blk_lt hg) (by simp)).trans hg
  clear hW2
  have hf : (i + 1) * 9 + (cs.drop (i * 9)).length ≤ r1.toArray.size := by
    have e_ := Array.length_toList (xs := ROW)
    rw [List.size_toArray, k1, e_, hRs, hdl]
    omega
  have hq2 : ∀ (W : World) (hW : W.heap[w.heap.size]? = some (.cells r1.toArray 56 (0, 0))) (hWg : W.heap[g]? = some (.cells cur 56 (0, 0))) (ty : TypeId) (dc sc : Nat), (Builtin.copy_ #[25, 25] ty #[.slice (some ⟨w.heap.size, (i + 1) * 9, none⟩) (n - i) dc, .slice (some ⟨g, i * 9, none⟩) (n - i) sc]).run Tryd.prog W = .ok (goInt ((n - i : Nat) : Int)) (W.setRow w.heap.size r2.toArray) := fun W hW hWg ty dc sc => by
    have hm : Nat.min (n - i) (n - i) = n - i := Nat.min_self _
    have h := run_copyS W 25 25 ty 56 9 w.heap.size ((i + 1) * 9) (n - i) dc ⟨g, i * 9, none⟩ (n - i) sc r1.toArray 56 (cs.drop (i * 9)) hu hi2 hW (by rw [hm, hdl])
      (fun j v hj => by
        rw [Addr.add_lit]
        refine hcell _ _ ?_ W hWg
        rwa [List.getElem?_drop] at hj) hf (fun v hv => h1c v (List.mem_of_mem_drop hv))
    rw [hm, List.toList_toArray, show (i + 1) * 9 = i * 9 + 9 by omega, ← hr2] at h
    rw [show (i + 1) * 9 = i * 9 + 9 by omega]
    exact h
  have hw1 : IntKind.i64.wrap ((i : Int) + 1) = (i : Int) + 1 := by rw [IntKind.wrap_i64]; omega
  have hw2 : IntKind.i64.wrap ((n : Int) + 1) = (n : Int) + 1 := by rw [IntKind.wrap_i64]; omega
  have hw3 : IntKind.i64.wrap ((n : Int) + 1 - (i : Int)) = (n : Int) + 1 - (i : Int) := by rw [IntKind.wrap_i64]; omega
  have hb1 : (0 : Int) ≤ (i : Int) + 1 := by omega
  have hin : i ≤ n := by omega
  have htn : ((i : Int) + 1).toNat = i + 1 := by omega
  have hb2 : ¬ (G = i + 1) := by omega
  have hb3 : (i : Int) ≤ (n : Int) + 1 := by omega
  have hb4 : ¬ (G = i) := by omega
  have hb6 : (i : Int) + 1 ≤ (n : Int) + 1 := by omega
  have hb7 : ¬ (cap = i) := by omega
  have hb8 : i ≤ cap := by omega
  have hb9 : (i : Int) ≤ (cap : Int) := by omega
  unfold maxLen at hG2
  have hmx : cap ≤ 9223372036854775807 := by omega
  have K1 := Aside0.mk k1
  have K2 := Aside0.mk k2
  have K3 := Aside0.mk k3
  have HRS := Aside0.mk hRs
  clear hr1 hr2 k1 k2 k3 hRs hRt hcs hcl hdl htl hcur hcell hik hkk hG hN1 hg1 hv1 hf
  have hq3 := hq2 W2.drew (blk_drew hN2) (blk_drew hg2)
  have HN2 := Aside0.mk hN2
  have GW2 := Aside0.mk gW2
  have HG1 := Aside0.mk hG1
  have HG2 := Aside0.mk hG2
  have HH := Aside0.mk hg
  clear hq2 hN2 gW2 gW hg2 hgne hg hvb
  go_enter Tryd.func45, Tryd.ntmps45
  go_wp2_with (first
    | ((with_reducible refine gate_dst (N := 40) rfl ?_); refine Lib.wpList_append_run _ rfl (.tmp 34) (.tmp 39) 25 3 rfl _ _ rfl rfl _ _ (hrz1 _) ?_)
    | ((with_reducible refine gate_dst (N := 45) rfl ?_); refine wpList_copy_runI _ rfl (.tmp 43) (.tmp 44) 25 25 rfl _ _ rfl rfl (hq1 _ _) ?_))
  go_region
  go_wp2
  go_ret
  refine ⟨G, r2.toArray, rfl, setRow_heap _ _ _ _ 56 (0, 0) (blk_drew HN2.out), HG1.out, by have := HG2.out; unfold maxLen; omega, ?_, ?_, grown_setRow (grown_drew GW2.out) (Or.inr (Nat.le_refl _))⟩
  · rw [List.size_toArray, K2.out, Array.length_toList, HRS.out]
  · rw [show (n + 1) * 9 = n * 9 + 9 by omega]
    exact K3.out
/-- slices.Insert of one element into an own row. -/
theorem state_step.own (base n i vb : Nat) (v : Value) (cs vs : List Value) (w : World) (hi : i ≤ n) (hown : w.ownsRow base 56 9 v n cs)
    (hvb : w.heap[vb]? = some (.cells vs.toArray 56 (0, 0))) (hne : v.ownBlock ≠ some vb) (hvl : vs.length = 9) (h1c : ∀ u ∈ cs, u.oneCell' = true) (h1v : ∀ u ∈ vs, u.oneCell' = true) (hbig : (n + 1) * 80 ≤ 140737488355328) (hbase : base ≤ w.heap.size) :
    Calls Tryd.prog 45 #[v, .int .i64 i, .slice (some ⟨vb, 0, none⟩) 1 1] w fun e w' =>
      ∃ v', e = .returned v' ∧ w'.ownsRow base 56 9 v' (n + 1) (cs.take (i * 9) ++ vs ++ cs.drop (i * 9)) ∧ w.grownBy w' v.ownBlock ∧ (v'.ownBlock = v.ownBlock ∨ v'.ownBlock = some w.heap.size) := by
  have hcl : cs.length = n * 9 := hown.1
  by_cases hin : i = n
  · subst hin
    have h := state_step.end_ base i vb v cs vs w hown hvb hvl h1v hbig hbase
    rw [List.take_of_length_le (by omega), List.drop_eq_nil_of_le (by omega), List.append_nil]
    exact h
  have hlt : i < n := by omega
  obtain ⟨g, cap, cur, rfl, hbg, hg, h1, h2, h3, h4⟩ := own_parts hown (by omega)
  have hgv : vb ≠ g := fun e => hne (by rw [e]; rfl)
  have hlen : (cs.take (i * 9) ++ vs ++ cs.drop (i * 9)).length = (n + 1) * 9 := by
    rw [List.length_append, List.length_append, List.length_take, List.length_drop, hvl, hcl]; omega
  by_cases hroom : n + 1 ≤ cap
  · refine (state_step.room base n i g cap vb cur cs vs w hg hlt hroom h2 h3 h4 hvb hgv hvl h1c h1v).mono ?_
    rintro e w' ⟨rfl, cur', k1, k2, k3, k4⟩
    exact ⟨_, rfl, ⟨hlen, .inr ⟨g, cap, cur', rfl, hbg, k1, hroom, h2, k2, k3⟩⟩, k4, .inl rfl⟩
  · refine (state_step.grow n i g vb cap cur cs vs w hg hlt h1 (by omega) h3 h4 hvb hvl h1c h1v hbig).mono ?_
    rintro e w' ⟨cap', cur', rfl, k1, k2, k3, k4, k5, k6⟩
    exact ⟨_, rfl, ⟨hlen, .inr ⟨w.heap.size, cap', cur', rfl, hbase, k1, k2, k3, k4, k5⟩⟩, ⟨k6.os, k6.tape, k6.output, k6.size, fun j hj _ => k6.block j hj (by simp)⟩, .inr rfl⟩
set_option maxHeartbeats 8000000 in
set_option maxRecDepth 100000 in
/-- slices.Delete of one element out of an own row. -/
theorem state_step.del (base m i : Nat) (v : Value) (cs : List Value) (w : World) (hi : i ≤ m) (hown : w.ownsRow base 56 9 v (m + 1) cs) (h1c : ∀ u ∈ cs, u.oneCell' = true) :
    Calls Tryd.prog 46 #[v, .int .i64 i, .int .i64 ((i : Int) + 1)] w fun e w' =>
      ∃ v', e = .returned v' ∧ w'.ownsRow base 56 9 v' m (cs.take (i * 9) ++ cs.drop ((i + 1) * 9)) ∧ w.grownBy w' v.ownBlock ∧ v'.ownBlock = v.ownBlock := by
  obtain ⟨g, cap, cur, rfl, hbg, hg, h1, h2, h3, h4⟩ := own_parts hown (Nat.succ_pos m)
  have hu := Tryd.underlying25
  have hinfo : (Tryd.prog.info? 56).map (fun i => (i.zero, i.size)) = some (some (Value.agg #[(.string ⟨#[]⟩), (.int .i64 0), (.int .u64 0), (.int .u64 0), (.int .u64 0), (.int .u64 0), (.int .u64 0), (.int .u64 0), (.int .u64 0)]), 9) := by kernel_rfl
  obtain ⟨i0, hi0, hzz⟩ := Option.map_eq_some_iff.1 hinfo
  simp only [Prod.mk.injEq] at hzz
  obtain ⟨hz0, hzs⟩ := hzz
  have hzv : ∀ W : World, (zeroValue 56).run Tryd.prog W = .ok (Value.agg #[(.string ⟨#[]⟩), (.int .i64 0), (.int .u64 0), (.int .u64 0), (.int .u64 0), (.int .u64 0), (.int .u64 0), (.int .u64 0), (.int .u64 0)]) W := fun W => by simp [zeroValue, typeInfo, hi0, hz0]
  have hcl : cs.length = (m + 1) * 9 := hown.1
  clear hown
  unfold maxLen at h2
  have hdl : (cs.drop ((i + 1) * 9)).length = (m - i) * 9 := by rw [List.length_drop, hcl]; omega
  have hel : Tryd.prog.elem 25 = 56 := by simp [Program.elem, hu]
  have hu' : Tryd.prog.underlying 25 = some (.slice (Tryd.prog.elem 25)) := by rw [hel]; exact hu
  have hcutA := cut_to (P := Tryd.prog) 25 56 .i64 hu hi0 (some ⟨g, 0, none⟩) (m + 1) cap (i : Int) (Int.natCast_nonneg _) (by omega) h1
  have hcutB := cut_from (P := Tryd.prog) 25 56 .i64 hu hi0 9 hzs (some ⟨g, 0, none⟩) (m + 1) cap ((i : Int) + 1) (by omega) (by omega)
  have hcutC : ∀ W : World, (Instr.slice 25 (.slice (some ⟨g, 0, none⟩) m cap) (some (.int .i64 (m : Int))) (some (.int .i64 ((m : Int) + 1))) none).run Tryd.prog W = .ok (.slice (some ⟨g, m * 9, none⟩) 1 (cap - m)) W := fun W => by
    rw [run_slice_lh W 25 (some ⟨g, 0, none⟩) m cap hu' .i64 .i64 (m : Int) ((m : Int) + 1) (Int.natCast_nonneg _) (by omega) (by omega), hel]
    have hne : ¬ (cap = m) := by omega
    have ht1 : ((m : Int)).toNat = m := by omega
    have ht2 : ((m : Int) + 1).toNat = m + 1 := by omega
    rw [ht1, ht2]
    simp [sizeOf, typeInfo, hi0, hzs, sliced, Result.andThen, Addr.add_lit, hne]
  have e1 : ((i : Int)).toNat = i := by omega
  have e2 : ((i : Int) + 1).toNat = i + 1 := by omega
  rw [e1] at hcutA
  rw [e2, show m + 1 - (i + 1) = m - i by omega] at hcutB
  obtain ⟨a1, ha1, hc1⟩ : ∃ a1, (if cap = i + 1 then some (⟨g, 0, none⟩ : Addr) else (some (⟨g, 0, none⟩ : Addr)).map (·.add ((i + 1) * 9))) = some a1 ∧ ∀ j u, (cs.drop ((i + 1) * 9))[j]? = some u → w.drew.cell? (a1.add j) = some u := by
    have hcell : ∀ j u, cs[j]? = some u → w.drew.cell? ⟨g, j, none⟩ = some u := fun j u hj => by
      have hlt := (List.getElem?_eq_some_iff.1 hj).1
      rw [blk_cell (blk_drew hg), ← hj, ← h4, List.getElem?_take_of_lt (by omega), Array.getElem?_toList]
    by_cases hc : cap = i + 1
    · refine ⟨_, if_pos hc, fun j u hj => ?_⟩
      have hlt := (List.getElem?_eq_some_iff.1 hj).1
      omega
    · refine ⟨_, (if_neg hc).trans rfl, fun j u hj => ?_⟩
      rw [List.getElem?_drop] at hj
      have := hcell _ _ hj
      show w.drew.cell? (((⟨g, 0, none⟩ : Addr).add ((i + 1) * 9)).add j) = some u
      rw [Addr.add_lit, Addr.add_lit, Nat.zero_add]
      exact this
  rw [ha1] at hcutB
  clear ha1
  have hcur2 : cur.toList.length = cap * 9 := by rw [Array.length_toList, h3]
  obtain ⟨cur1, hk1⟩ : ∃ cur1 : List Value, cur1 = cur.toList.take (i * 9) ++ cs.drop ((i + 1) * 9) ++ cur.toList.drop (i * 9 + (cs.drop ((i + 1) * 9)).length) := ⟨_, rfl⟩
  obtain ⟨k1, k2, k3⟩ := del_cells (cur := cur.toList) (z := ((Value.agg #[(.string ⟨#[]⟩), (.int .i64 0), (.int .u64 0), (.int .u64 0), (.int .u64 0), (.int .u64 0), (.int .u64 0), (.int .u64 0), (.int .u64 0)])).cells.toList) (a := i * 9) (s := 9) (m := m * 9) (by omega) (by omega) rfl cur1 (by
    rw [hk1, show m * 9 + 9 = (m + 1) * 9 by omega, h4, show i * 9 + 9 = (i + 1) * 9 by omega])
  rw [show m * 9 + 9 = (m + 1) * 9 by omega, h4, show i * 9 + 9 = (i + 1) * 9 by omega] at k3
  have hl : (loadCellsFrom a1 0 ((m - i) * 9) #[]).run Tryd.prog w.drew = .ok (cs.drop ((i + 1) * 9)).toArray w.drew := by
    have h := run_loadCells_list (P := Tryd.prog) w.drew a1 (cs.drop ((i + 1) * 9)) hc1
    rw [hdl] at h
    exact h
  have hst : (storeCells ⟨g, i * 9, none⟩ (cs.drop ((i + 1) * 9))).run Tryd.prog w.drew = .ok () (w.drew.setRow g cur1.toArray) := by
    have h := run_storeCells_at Tryd.prog g (i * 9) 56 (cs.drop ((i + 1) * 9)) 0 cur w.drew (blk_drew hg) (by rw [hdl, h3]; omega) (fun u hu => h1c u (List.mem_of_mem_drop hu))
    simp only [Nat.add_zero] at h
    rw [← hk1] at h
    exact h
  have him : i + (m - i) = m := by omega
  have z7 : m ≤ cap := by omega
  obtain ⟨cur2, hk2⟩ : ∃ cur2 : List Value, cur2 = cur1.take (m * 9) ++ ((Value.agg #[(.string ⟨#[]⟩), (.int .i64 0), (.int .u64 0), (.int .u64 0), (.int .u64 0), (.int .u64 0), (.int .u64 0), (.int .u64 0), (.int .u64 0)])).cells.toList ++ cur1.drop (m * 9 + ((Value.agg #[(.string ⟨#[]⟩), (.int .i64 0), (.int .u64 0), (.int .u64 0), (.int .u64 0), (.int .u64 0), (.int .u64 0), (.int .u64 0), (.int .u64 0)])).cells.toList.length) := ⟨_, rfl⟩
  rw [← hk2] at k2 k3
  obtain ⟨W1, hW1⟩ : ∃ W1, w.drew.setRow g cur1.toArray = W1 := ⟨_, rfl⟩
  have hg1 : W1.heap[g]? = some (.cells cur1.toArray 56 (0, 0)) := by rw [← hW1]; exact setRow_heap w.drew g cur cur1.toArray 56 (0, 0) (blk_drew hg)
  have G1 : w.grownBy W1 (some g) := by rw [← hW1]; exact grown_setRow (grown_drew (World.grownBy.refl w _)) (Or.inl rfl)
  rw [hW1] at hst
  have hs1 : cur1.toArray.size = cap * 9 := by simp only [List.size_toArray]; rw [k1, hcur2]
  have hq2 : ∀ ty : TypeId, (Builtin.clear_ #[25] ty #[.slice (some ⟨g, m * 9, none⟩) 1 (cap - m)]).run Tryd.prog W1 = .ok (.tuple #[]) (W1.setRow g cur2.toArray) := fun ty => by
    have h := run_clear1 W1 25 56 ty (Value.agg #[(.string ⟨#[]⟩), (.int .i64 0), (.int .u64 0), (.int .u64 0), (.int .u64 0), (.int .u64 0), (.int .u64 0), (.int .u64 0), (.int .u64 0)]) g (m * 9) (cap - m) cur1.toArray 56 hu hzv (by intro u hu; simp [Value.cells] at hu; rcases hu with rfl | rfl | rfl <;> rfl) hg1 (by show m * 9 + 9 ≤ cur1.toArray.size; rw [hs1]; omega)
    rw [List.toList_toArray] at h
    rw [h, hk2]
    rfl
  have hfin : (cs.take (i * 9) ++ cs.drop ((i + 1) * 9)).length = m * 9 := by rw [List.length_append, List.length_take, List.length_drop]; omega
  have HF := Aside0.mk hfin
  have K2 := Aside0.mk k2
  have K3 := Aside0.mk k3
  have GG := Aside0.mk G1
  have HG := Aside0.mk hg1
  have HC := Aside0.mk hcur2
  have z1 : ¬ ((i : Int) = (i : Int) + 1) := by omega
  have z2 : (0 : Int) ≤ (i : Int) := Int.natCast_nonneg _
  have z3 : (i : Int) ≤ (i : Int) + 1 := by omega
  have z4 : (i : Int) + 1 ≤ (m : Int) + 1 := by omega
  have z5 : (m : Int) + 1 ≤ (cap : Int) := by omega
  have z6 : (0 : Int) ≤ (i : Int) + 1 := by omega
  clear hk1 hk2 k1 k2 k3 hW1 hg1 hcur2 hc1 h4 h3 hg hcl hdl h1c hinfo hzv G1 hs1 hfin
  go_enter Tryd.func46, Tryd.ntmps46
  go_wp2
  go_region
  go_wp2
  go_ret
  exact ⟨_, rfl, ⟨HF.out, .inr ⟨g, cap, cur2.toArray, rfl, hbg, setRow_heap _ g _ _ 56 (0, 0) HG.out, by omega, by unfold maxLen; omega, by rw [List.size_toArray, K2.out, HC.out], K3.out⟩⟩, grown_setRow GG.out (Or.inl rfl), rfl⟩
/-- An entry's cells. -/
def state_step.cl (x : S56) : List Value := [.string x.f0, .int .i64 x.f1.f0, .int .u64 x.f1.f1, .int .u64 x.f1.f2, .int .u64 x.f1.f3, .int .u64 x.f1.f4, .int .u64 x.f2.f0, .int .u64 x.f2.f1, .int .u64 x.f2.f2]
theorem state_step.cl_ones : ∀ x, ∀ u ∈ state_step.cl x, u.oneCell' = true := by
  intro x u hu
  simp [state_step.cl] at hu
  rcases hu with rfl | rfl | rfl | rfl | rfl | rfl | rfl | rfl | rfl <;> rfl
theorem state_step.own_ {w : World} {base : Nat} {ok : Nat → Prop} {v : Value} {l : List S56} (h : Kd.R k56 56 w base ok v l) : w.ownsRow base 56 9 v l.length (flat state_step.cl l) :=
  flat_of_R (d := k56) (cl := state_step.cl) (fun _ => rfl) (fun _ _ _ hx => k56_open hx) h
theorem state_step.row_ {w : World} {base : Nat} {v : Value} {l : List S56} (h : w.ownsRow base 56 9 v l.length (flat state_step.cl l)) : Kd.R k56 56 w base (fun _ => True) v l :=
  R_of_flat (d := k56) (cl := state_step.cl) (fun _ => rfl) (fun w base ok x => k56_mkM w base ok x) h (fun _ => trivial)
/-- slices.Insert, the row told. -/
theorem state_step.ins_ {w W : World} {v : Value} {l : List S56} {ok : Nat → Prop} (t : Int) (x : S56) (vb : Nat) (hR : Kd.R k56 56 W w.heap.size ok v l) (h0 : 0 ≤ t) (h1 : t ≤ (l.length : Int)) (hv : W.heap[vb]? = some (.cells (state_step.cl x).toArray 56 (0, 0))) (hne : v.ownBlock ≠ some vb)
    (hbig : (l.length + 1) * 80 ≤ 140737488355328) (hB : Below w.heap.size w W) :
    Calls Tryd.prog 45 #[v, .int .i64 t, .slice (some ⟨vb, 0, none⟩) 1 1] W fun e w' => ∃ v', e = .returned v' ∧ Kd.R k56 56 w' w.heap.size (fun _ => True) v' (l.take t.toNat ++ [x] ++ l.drop t.toNat) ∧ Below w.heap.size w w' ∧ W.grownBy w' v.ownBlock := by
  obtain ⟨i, rfl⟩ : ∃ i : Nat, t = (i : Int) := ⟨t.toNat, by omega⟩
  rw [Int.toNat_natCast]
  refine (state_step.own w.heap.size l.length i vb v (flat state_step.cl l) (state_step.cl x) W (by omega) (state_step.own_ hR) hv hne rfl (flat_ones state_step.cl_ones l) (state_step.cl_ones x) hbig hB.size).mono ?_
  rintro e w' ⟨v', rfl, ho, hg, hat⟩
  refine ⟨v', rfl, state_step.row_ ?_, ?_, hg⟩
  · rw [flat_take (s := 9) (fun _ => rfl), flat_drop (s := 9) (fun _ => rfl), ← flat_one (cl := state_step.cl) x, ← flat_app, ← flat_app] at ho
    have e1 : (l.take i ++ [x] ++ l.drop i).length = l.length + 1 := by
      rw [List.length_append, List.length_append, List.length_take, List.length_drop, List.length_singleton]
      omega
    rw [e1]
    exact ho
  · exact hB.grown hg hB.size (fun k hk => own_base (state_step.own_ hR) k hk)
/-- slices.Delete, the row told. -/
theorem state_step.del_ {w W : World} {v : Value} {l : List S56} {ok : Nat → Prop} (t u : Int) (hR : Kd.R k56 56 W w.heap.size ok v l) (h0 : 0 ≤ t) (h1 : t < (l.length : Int)) (hu : u = t + 1) (hB : Below w.heap.size w W) :
    Calls Tryd.prog 46 #[v, .int .i64 t, .int .i64 u] W fun e w' => ∃ v', e = .returned v' ∧ Kd.R k56 56 w' w.heap.size (fun _ => True) v' (l.take t.toNat ++ l.drop (t.toNat + 1)) ∧ Below w.heap.size w w' ∧ W.grownBy w' v.ownBlock := by
  obtain ⟨i, rfl⟩ : ∃ i : Nat, t = (i : Int) := ⟨t.toNat, by omega⟩
  subst hu
  rw [Int.toNat_natCast]
  obtain ⟨m, hm⟩ : ∃ m, l.length = m + 1 := ⟨l.length - 1, by omega⟩
  have ho0 := state_step.own_ hR
  rw [hm] at ho0
  refine (state_step.del w.heap.size m i v (flat state_step.cl l) W (by omega) ho0 (flat_ones state_step.cl_ones l)).mono ?_
  rintro e w' ⟨v', rfl, ho, hg, hat⟩
  refine ⟨v', rfl, state_step.row_ ?_, ?_, hg⟩
  · rw [flat_take (s := 9) (fun _ => rfl), flat_drop (s := 9) (fun _ => rfl), ← flat_app] at ho
    have e1 : (l.take i ++ l.drop (i + 1)).length = m := by
      rw [List.length_append, List.length_take, List.length_drop]
      omega
    rw [e1]
    exact ho
  · exact hB.grown hg hB.size (fun k hk => own_base (state_step.own_ hR) k hk)
theorem state_step.built_ (k : ByteArray) (b0 b1 b2 b3 b4 : Int) : Tryd.prog.built 56 [(0, .string k), (1, .agg #[.int .i64 b0, .int .u64 b1, .int .u64 b2, .int .u64 b3, .int .u64 b4])] = some #[.string k, .int .i64 b0, .int .u64 b1, .int .u64 b2, .int .u64 b3, .int .u64 b4, .int .u64 0, .int .u64 0, .int .u64 0] := by kernel_rfl
/-- A struct built of parts, in a region that draws. -/
theorem state_step.lkb_ {P : Program} {oi : Oper} {a : Act} (t : TypeId) (i j : Nat) (x y : Operand) (u v : Value) (cells : Array Value) (ho : oi.op = .build t #[(i, x), (j, y)]) (hx : a.eval x = u) (hy : a.eval y = v) (hc : P.built t [(i, u), (j, v)] = some cells) : ∀ w, (execOp a.eval oi).run P w = .ok (.value (.agg cells)) w := by
  intro w
  unfold execOp
  have h := run_build w t #[(i, u), (j, v)] cells hc
  simp only [ho, List.map_toArray, List.map_cons, List.map_nil, hx, hy, Sem.run_bind, h, Result.andThen_ok, Sem.run_pure]
theorem state_step.bsl_ {oi : Oper} {a : Act} (x : Operand) (k : ByteArray) (b0 b1 b2 b3 b4 c0 c1 c2 : Int) (w : World) (ho : oi.op = .buildSlice 25 1 #[(0, x)]) (hx : a.eval x = .agg #[.string k, .int .i64 b0, .int .u64 b1, .int .u64 b2, .int .u64 b3, .int .u64 b4, .int .u64 c0, .int .u64 c1, .int .u64 c2]) :
    (execOp a.eval oi).run Tryd.prog w = .ok (.value (.slice (some ⟨w.heap.size, 0, none⟩) 1 1)) (w.alloc (.cells #[.string k, .int .i64 b0, .int .u64 b1, .int .u64 b2, .int .u64 b3, .int .u64 b4, .int .u64 c0, .int .u64 c1, .int .u64 c2] 56)) := by
  have hu := Tryd.underlying25
  unfold execOp
  simp only [ho, List.map_toArray, List.map_cons, List.map_nil, hx]
  go_simp
theorem state_step.at_ {a b : Int} {l : List S56} {key : ByteArray} {t : Int} {u : Bool} (h : state_Find.f a b l key = some (t, u)) : 0 ≤ t ∧ t ≤ (l.length : Int) := by
  simp only [state_Find.f, Option.some.injEq, Prod.mk.injEq] at h
  have := state_Find.at_le l key
  omega
theorem state_step.ne_ {W : World} {base e size n : Nat} {v : Value} {cs : List Value} (h : W.ownsRow base e size v n cs) : some W.heap.size ≠ v.ownBlock := fun e_ => by
  have := own_lt h _ e_.symm
  omega
theorem state_step.up_ (t : Int) (h0 : 0 ≤ t) {n : Nat} (h1 : t < (n : Int)) (h2 : n ≤ 9223372036854775807) : IntKind.i64.wrap (t + 1) = t + 1 := by rw [IntKind.wrap_i64]; omega
def state_step.T5 : Bool × List (List Nat × List Nat) := (true, [([], []), ([0], [0]), ([1], [1]), ([], []), ([3], [3]), ([2, 4], [2, 4]), ([5], [5]), ([6], [6]), ([6], [6]), ([7, 5, 0, 1, 2, 3, 4, 5, 6, 7], [7]), ([8, 9, 0, 1, 2, 3, 4, 5, 6, 7, 8, 9], [8])])
def state_step.B5 : List Nat := [0, 1, 3, 0, 8, 31, 63, 127, 127, 255, 1023]
theorem state_step.tab5 : rtab .any (opsOf Tryd.f36 5) = state_step.T5 := by kernel_rfl
theorem state_step.bits5 : waitsOk state_step.T5.2 state_step.B5 = true := by kernel_rfl
def state_step.T12 : Bool × List (List Nat × List Nat) := (true, [([], []), ([], []), ([1], [1]), ([2], [2]), ([3], [3]), ([], []), ([], []), ([6], [6]), ([], []), ([8], [8]), ([7, 9], [7, 9]), ([10], [10]), ([4, 5, 11], [4, 5, 11]), ([0, 0, 1, 2, 3, 4, 5, 6, 7, 8, 9, 10, 11, 12], [0]), ([13, 0, 1, 2, 3, 4, 5, 6, 7, 8, 9, 10, 11, 12], [13]), ([14, 12, 12, 0, 1, 2, 3, 4, 5, 6, 7, 8, 9, 10, 11, 12], [12, 14])])
def state_step.B12 : List Nat := [0, 0, 2, 6, 14, 0, 0, 64, 0, 256, 960, 1984, 4094, 8191, 16383, 32767]
theorem state_step.tab12 : rtab .any (opsOf Tryd.f36 12) = state_step.T12 := by kernel_rfl
theorem state_step.bits12 : waitsOk state_step.T12.2 state_step.B12 = true := by kernel_rfl
def state_step.T17 : Bool × List (List Nat × List Nat) := (true, [([], []), ([0], [0]), ([1], [1]), ([2], [2]), ([], []), ([4], [4]), ([3, 5], [3, 5]), ([6], [6]), ([7, 6], [7]), ([8], [8]), ([9, 8], [8, 9]), ([10, 8], [8, 10]), ([11, 8], [8, 11]), ([8], [8]), ([13, 8], [8, 13]), ([8], [8]), ([15, 8], [8, 15]), ([16, 8], [8, 16]), ([17, 8], [8, 17]), ([12, 14, 18, 8, 8], [8, 12, 14, 18]), ([19, 8], [8, 19]), ([8, 20], [8, 20])])
def state_step.B17 : List Nat := [0, 1, 3, 7, 0, 16, 63, 127, 255, 511, 1023, 2047, 4095, 511, 8703, 511, 33279, 98815, 229887, 524287, 1048575, 2097151]
theorem state_step.tab17 : rtab .any (opsOf Tryd.f36 17) = state_step.T17 := by kernel_rfl
theorem state_step.bits17 : waitsOk state_step.T17.2 state_step.B17 = true := by kernel_rfl
def state_step.T21 : Bool × List (List Nat × List Nat) := (true, [([], []), ([], []), ([1], [1]), ([2], [2]), ([3], [3]), ([], []), ([5], [5]), ([4, 6], [4, 6]), ([0, 0, 1, 2, 3, 4, 5, 6, 7], [0]), ([8, 0, 1, 2, 3, 4, 5, 6, 7], [8]), ([9, 7, 0, 1, 2, 3, 4, 5, 6, 7], [7, 9])])
def state_step.B21 : List Nat := [0, 0, 2, 6, 14, 0, 32, 126, 255, 511, 1023]
theorem state_step.tab21 : rtab .any (opsOf Tryd.f36 21) = state_step.T21 := by kernel_rfl
theorem state_step.bits21 : waitsOk state_step.T21.2 state_step.B21 = true := by kernel_rfl
theorem state_step.own_cell {W : World} {base g n cap size : Nat} {e : TypeId} {cs : List Value} (h : W.ownsRow base e size (.slice (some ⟨g, 0, none⟩) n cap) n cs) (hn : 0 < n) (j : Nat) (u : Value) : (W.setCell ⟨g, j, none⟩ u).ownsRow base e size (.slice (some ⟨g, 0, none⟩) n cap) n (cs.set j u) := by
  obtain ⟨g', cap', cur, ev, hg, hh, h1, h2, h3, h4⟩ := own_parts h hn
  injection ev with ev1 _ ev3
  injection ev1 with ev1
  injection ev1 with ev1
  subst ev1
  subst ev3
  refine ⟨by rw [List.length_set]; exact h.1, .inr ⟨g, cap, cur.setIfInBounds j u, rfl, hg, blk_set hh j u, h1, h2, by rw [Array.size_setIfInBounds]; exact h3, ?_⟩⟩
  rw [Array.toList_setIfInBounds, List.take_set, h4]
theorem state_step.flat_lev (a b c : Int) : ∀ (l : List S56) (i : Nat), i < l.length → ((((flat state_step.cl l).set (i * 9 + 6) (.int .u64 a)).set (i * 9 + 7) (.int .u64 b)).set (i * 9 + 8) (.int .u64 c)) = flat state_step.cl (l.set i (⟨(l.getD i z56).f0, (l.getD i z56).f1, (⟨a, b, c⟩ : S37)⟩ : S56))
  | [], i, h => absurd h (Nat.not_lt_zero _)
  | x :: l, 0, h => by simp [flat, state_step.cl]
  | x :: l, i + 1, h => by
    have ih := state_step.flat_lev a b c l i (by simpa using h)
    have e : flat state_step.cl (x :: l) = state_step.cl x ++ flat state_step.cl l := by simp [flat]
    have e2 : ∀ (k : Nat) (L : List Value) (u : Value), (state_step.cl x ++ L).set ((i + 1) * 9 + k) u = state_step.cl x ++ L.set (i * 9 + k) u := fun k L u => by
      rw [List.set_append_right _ _ (by simp [state_step.cl]; omega)]
      congr 2
      simp [state_step.cl]
      omega
    rw [e, e2, e2, e2, ih]
    simp [flat]
theorem state_step.lev_ {W : World} {base g cap : Nat} {l : List S56} {i : Nat} {ok : Nat → Prop} (h : Kd.R k56 56 W base ok (.slice (some ⟨g, 0, none⟩) l.length cap) l) (hi : i < l.length) (a b c : Int) :
    Kd.R k56 56 (((W.setCell ⟨g, i * 9 + 6, none⟩ (.int .u64 a)).setCell ⟨g, i * 9 + 7, none⟩ (.int .u64 b)).setCell ⟨g, i * 9 + 8, none⟩ (.int .u64 c)) base (fun _ => True) (.slice (some ⟨g, 0, none⟩) l.length cap) (l.set i (⟨(l.getD i z56).f0, (l.getD i z56).f1, (⟨a, b, c⟩ : S37)⟩ : S56)) := by
  have hn : 0 < l.length := by omega
  have h1 := state_step.own_cell (state_step.own_cell (state_step.own_cell (state_step.own_ h) hn (i * 9 + 6) (.int .u64 a)) hn (i * 9 + 7) (.int .u64 b)) hn (i * 9 + 8) (.int .u64 c)
  rw [state_step.flat_lev a b c l i hi] at h1
  refine state_step.row_ ?_
  rw [List.length_set]
  exact h1
/-- An own row with an element: its block, and what the element's cells read. -/
theorem state_step.el_ {W : World} {base n c : Nat} {A : Option Addr} {l : List S56} {ok : Nat → Prop} (h : Kd.R k56 56 W base ok (.slice A n c) l) (hn : n = l.length) (i : Nat) (hi : i < l.length) :
    ∃ g cur, A = some ⟨g, 0, none⟩ ∧ base ≤ g ∧ W.heap[g]? = some (.cells cur 56 (0, 0)) ∧ ∀ j, j < 9 → cur[i * 9 + j]? = (state_step.cl (l.getD i z56))[j]? := by
  subst hn
  obtain ⟨g, cap, cur, ev, hg, hh, h1, h2, h3, h4⟩ := own_parts (state_step.own_ h) (by omega)
  injection ev with ev1 _ ev3
  subst ev1
  refine ⟨g, cur, rfl, hg, hh, fun j hj => ?_⟩
  have e1 : (flat state_step.cl l)[i * 9 + j]? = (state_step.cl (l.getD i z56))[j]? := by
    have e : flat state_step.cl l = flat state_step.cl (l.take i) ++ (state_step.cl (l.getD i z56) ++ flat state_step.cl (l.drop (i + 1))) := by
      rw [← flat_one (cl := state_step.cl), ← flat_app, ← flat_app]
      congr 1
      rw [List.getD_eq_getElem?_getD, List.getElem?_eq_getElem hi, Option.getD_some, List.singleton_append, ← List.drop_eq_getElem_cons, List.take_append_drop]
    have e2 : (flat state_step.cl (l.take i)).length = i * 9 := by rw [flat_len (s := 9) (fun _ => rfl), List.length_take, Nat.min_eq_left (by omega)]
    rw [e, List.getElem?_append_right (by omega), e2, List.getElem?_append_left (by simp [state_step.cl]; omega)]
    congr 1
    omega
  rw [← e1, ← h4, List.getElem?_take_of_lt (by omega), Array.getElem?_toList]
theorem state_step.nt_ {W : World} {g g' : Nat} {c c' : Array Value} {t t' : TypeId} (h : W.heap[g]? = some (.cells c t (0, 0))) (h' : W.heap[g']? = some (.cells c' t' (0, 0))) (ht : t ≠ t') : g ≠ g' := by
  rintro rfl
  rw [h] at h'
  injection h' with h'
  injection h' with _ h'
  exact ht h'
set_option maxHeartbeats 8000000 in
set_option maxRecDepth 100000 in
theorem state_step.bad [Errs] (w W : World) (hE : Sent w) (gs : Nat) (a0 a1 : Int) (A : Option Addr) (c : Nat) (l : List S56) (n : Int) (r0 r1 : Int) (r2 : ByteArray) (r3 r4 r5 r6 r7 r8 r9 r10 : Int) (k : Nat) (t : Int) (u : Bool) (hB : Below w.heap.size w W) (hgs : w.heap.size ≤ gs) (hblk : W.heap[gs]? = some (.cells #[.int .u64 a0, .int .u64 a1, .slice A l.length c] 27 (0, 0))) (hown : Kd.R k56 56 W w.heap.size (fun _ => True) (.slice A l.length c) l) (gq : Nat) (oq : Array Value) (tq : TypeId) (hbq : W.heap[gq]? = some (.cells oq tq (0, 0))) (htq : 56 ≠ tq) (hqs : gq ≠ gs) (hv : record_Valid.f k r0 r1 r2 r3 r4 r5 r6 r7 r8 r9 r10 = some false) :
    Calls Tryd.prog 36 #[.pointer (some ⟨gs, 0, none⟩), .int .u64 n, .agg #[.int .i64 r0, .int .u64 r1, .string r2, .int .i64 r3, .int .u64 r4, .int .u64 r5, .int .u64 r6, .int .u64 r7, .int .u64 r8, .int .u64 r9, .int .u64 r10]] W fun e w' => ∃ v : Value, e = .returned (errW 1) ∧ w'.heap[gs]? = some (.cells #[.int .u64 a0, .int .u64 a1, v] 27 (0, 0)) ∧ Kd.R k56 56 w' w.heap.size (fun _ => True) v l ∧ w'.heap[gq]? = some (.cells oq tq (0, 0)) ∧ Below w.heap.size w w' := by
  have hu27 := Tryd.underlying27
  have hu39 := Tryd.underlying39
  have hu35 := Tryd.underlying35
  have hu56 := Tryd.underlying56
  have hu37 := Tryd.underlying37
  have HE := Aside0.mk hE
  have HB := Aside0.mk hB
  have BS := Aside0.mk hblk
  have GE := Aside0.mk hgs
  have HO := Aside0.mk hown
  have BQ := Aside0.mk hbq
  have TQ := Aside0.mk htq
  have NQ := Aside0.mk hqs
  clear hE hB hblk hgs hown hbq htq hqs
  have HV := Aside0.mk hv
  clear hv
  go_enter Tryd.func36, Tryd.ntmps36
  go_wp2_with (first | ((with_reducible refine gate_dst (N := 5) rfl ?_); refine bx 5 #[.int .i64 r0, .int .u64 r1, .string r2, .int .i64 r3, .int .u64 r4, .int .u64 r5, .int .u64 r6, .int .u64 r7, .int .u64 r8, .int .u64 r9, .int .u64 r10] 39 ?_; intro gr hg W1 hbox hb; have HO' := Aside0.mk (Kd.R_below (ro HO) hb); have BS' := bb BS hb; have BQ' := bb BQ hb; have HB' := bs HB hb; have BR := Aside0.mk hbox; have GR := sz HB hg; have NB := nl BS hg; have NB' := nr BS hg; clear HO BS BQ HB; have HO := HO'; have BS := BS'; have BQ := BQ'; have HB := HB'; clear HO' BS' BQ' HB' hb hbox hg; obtain ⟨rc0, rc1, rc2, rc3, rc4, rc5, rc6, rc7, rc8, rc9, rc10, rf0, rf1, rf2, rf3, rf4, rf5, rf6, rf7, rf8, rf9, rf10⟩ := bc11 BR) | ((with_reducible refine gate_callee (f := 44) rfl ?_); refine gm (some 11) Tryd.func44 #[.agg #[.int .i64 r0, .int .u64 r1, .string r2, .int .i64 r3, .int .u64 r4, .int .u64 r5, .int .u64 r6, .int .u64 r7, .int .u64 r8, .int .u64 r9, .int .u64 r10]] (record_Valid.calls k r0 r1 r2 r3 r4 r5 r6 r7 r8 r9 r10 false _ HV.out) ?_; clear rc0 rc1 rc2 rc3 rc4 rc5 rc6 rc7 rc8 rc9 rc10 rf0 rf1 rf2 rf3 rf4 rf5 rf6 rf7 rf8 rf9 rf10; intro W2 hb; have n0_ := Aside0.mk (Kd.R_below (ro HO) hb); have n1_ := bb BS hb; have n2_ := bb BR hb; have n3_ := bb BQ hb; have n4_ := bs HB hb; clear HO BS BR BQ HB; have HO := n0_; have BS := n1_; have BR := n2_; have BQ := n3_; have HB := n4_; clear n0_ n1_ n2_ n3_ n4_; clear hb; obtain ⟨sc0, sc1, sc2, sf0, sf1, sf2⟩ := bc3 BS; obtain ⟨rc0, rc1, rc2, rc3, rc4, rc5, rc6, rc7, rc8, rc9, rc10, rf0, rf1, rf2, rf3, rf4, rf5, rf6, rf7, rf8, rf9, rf10⟩ := bc11 BR) | ((with_reducible refine gate_dst (N := 13) rfl ?_); refine ld_err 1 0 (HE.out.below (bw HB)) ?_ rfl rfl (by decide) (by have := Errs.five; omega) rfl))
  go_ret
  exact ⟨.slice A l.length c, re, bk BS, by (with_reducible repeat (first | apply Kd.R_alloc | apply Kd.R_drewN | apply Kd.R_drew)); exact HO.out, bk BQ, bw HB⟩

set_option maxHeartbeats 8000000 in
set_option maxRecDepth 100000 in
theorem state_step.ceil [Errs] (w W : World) (hE : Sent w) (gs : Nat) (a0 a1 : Int) (A : Option Addr) (c : Nat) (l : List S56) (n : Int) (r1 : Int) (r2 : ByteArray) (r3 r4 r5 r6 r7 r8 r9 r10 : Int) (k : Nat) (i : Nat) (hB : Below w.heap.size w W) (hgs : w.heap.size ≤ gs) (hblk : W.heap[gs]? = some (.cells #[.int .u64 a0, .int .u64 a1, .slice A l.length c] 27 (0, 0))) (hown : Kd.R k56 56 W w.heap.size (fun _ => True) (.slice A l.length c) l) (gq : Nat) (oq : Array Value) (tq : TypeId) (hbq : W.heap[gq]? = some (.cells oq tq (0, 0))) (htq : 56 ≠ tq) (hqs : gq ≠ gs) (hn : (n != IntKind.u64.wrap (a0 + 1)) = false) (hm : decide (4611686018427387904 < n) = false) (hf : state_Find.f a0 a1 l r2 = some ((i : Int), true)) (hv : record_Valid.f k 3 r1 r2 r3 r4 r5 r6 r7 r8 r9 r10 = some true) (hi : i < l.length) (E : S56) (hel : l.getD i z56 = E) (hft : policy_Fits.f E.f1.f0 E.f1.f1 E.f1.f2 E.f1.f3 E.f1.f4 r8 r9 r10 = some true) (hcv : policy_Covers.f E.f1.f0 E.f1.f1 E.f1.f2 E.f1.f3 E.f1.f4 r8 r9 r10 E.f2.f0 E.f2.f1 E.f2.f2 = some true) (q : Int) (hq : (if a1 < r1 then r1 else a1) = q) :
    Calls Tryd.prog 36 #[.pointer (some ⟨gs, 0, none⟩), .int .u64 n, .agg #[.int .i64 3, .int .u64 r1, .string r2, .int .i64 r3, .int .u64 r4, .int .u64 r5, .int .u64 r6, .int .u64 r7, .int .u64 r8, .int .u64 r9, .int .u64 r10]] W fun e w' => ∃ v : Value, e = .returned (errW 0) ∧ w'.heap[gs]? = some (.cells #[.int .u64 n, .int .u64 q, v] 27 (0, 0)) ∧ Kd.R k56 56 w' w.heap.size (fun _ => True) v (l.set i (⟨E.f0, E.f1, (⟨r8, r9, r10⟩ : S37)⟩ : S56)) ∧ w'.heap[gq]? = some (.cells oq tq (0, 0)) ∧ Below w.heap.size w w' := by
  have hu27 := Tryd.underlying27
  have hu39 := Tryd.underlying39
  have hu35 := Tryd.underlying35
  have hu56 := Tryd.underlying56
  have hu37 := Tryd.underlying37
  have HE := Aside0.mk hE
  have HB := Aside0.mk hB
  have BS := Aside0.mk hblk
  have GE := Aside0.mk hgs
  have HO := Aside0.mk hown
  have BQ := Aside0.mk hbq
  have TQ := Aside0.mk htq
  have NQ := Aside0.mk hqs
  clear hE hB hblk hgs hown hbq htq hqs
  have HV := Aside0.mk hv
  have HF := Aside0.mk hf
  clear hv hf
  have HFT := Aside0.mk hft
  clear hft
  have HCV := Aside0.mk hcv
  clear hcv
  obtain ⟨g, cur, eA, hgb, hgh, hcu⟩ := state_step.el_ HO.out rfl i hi
  subst eA
  rw [hel] at hcu
  have HEL := Aside0.mk hel; have HI := Aside0.mk hi; have GG := Aside0.mk hgb; have BG := Aside0.mk hgh; have HC := Aside0.mk hcu; clear hel hi hgb hgh hcu
  go_enter Tryd.func36, Tryd.ntmps36
  go_wp2_with (first | ((with_reducible refine gate_dst (N := 5) rfl ?_); refine bx 5 #[.int .i64 3, .int .u64 r1, .string r2, .int .i64 r3, .int .u64 r4, .int .u64 r5, .int .u64 r6, .int .u64 r7, .int .u64 r8, .int .u64 r9, .int .u64 r10] 39 ?_; intro gr hg W1 hbox hb; have HO' := Aside0.mk (Kd.R_below (ro HO) hb); have BS' := bb BS hb; have BG' := bb BG hb; have BQ' := bb BQ hb; have HB' := bs HB hb; have BR := Aside0.mk hbox; have GR := sz HB hg; have NB := nl BS hg; have NB' := nr BS hg; clear HO BS BQ HB BG; have BG := BG'; have HO := HO'; have BS := BS'; have BQ := BQ'; have HB := HB'; clear HO' BS' BQ' HB' BG' hb hbox hg; obtain ⟨rc0, rc1, rc2, rc3, rc4, rc5, rc6, rc7, rc8, rc9, rc10, rf0, rf1, rf2, rf3, rf4, rf5, rf6, rf7, rf8, rf9, rf10⟩ := bc11 BR) | ((with_reducible refine gate_callee (f := 44) rfl ?_); refine gm (some 11) Tryd.func44 #[.agg #[.int .i64 3, .int .u64 r1, .string r2, .int .i64 r3, .int .u64 r4, .int .u64 r5, .int .u64 r6, .int .u64 r7, .int .u64 r8, .int .u64 r9, .int .u64 r10]] (record_Valid.calls k 3 r1 r2 r3 r4 r5 r6 r7 r8 r9 r10 true _ HV.out) ?_; clear rc0 rc1 rc2 rc3 rc4 rc5 rc6 rc7 rc8 rc9 rc10 rf0 rf1 rf2 rf3 rf4 rf5 rf6 rf7 rf8 rf9 rf10; intro W2 hb; have n0_ := Aside0.mk (Kd.R_below (ro HO) hb); have n1_ := bb BS hb; have n2_ := bb BR hb; have n3_ := bb BQ hb; have n4_ := bs HB hb; have n5_ := bb BG hb; clear HO BS BR BQ HB BG; have HO := n0_; have BS := n1_; have BR := n2_; have BQ := n3_; have HB := n4_; have BG := n5_; clear n0_ n1_ n2_ n3_ n4_ n5_; clear hb; obtain ⟨sc0, sc1, sc2, sf0, sf1, sf2⟩ := bc3 BS; obtain ⟨rc0, rc1, rc2, rc3, rc4, rc5, rc6, rc7, rc8, rc9, rc10, rf0, rf1, rf2, rf3, rf4, rf5, rf6, rf7, rf8, rf9, rf10⟩ := bc11 BR))
  clear rc0 rc1 rc2 rc3 rc4 rc5 rc6 rc7 rc8 rc9 rc10 rf0 rf1 rf2 rf3 rf4 rf5 rf6 rf7 rf8 rf9 rf10 sc0 sc1 sc2 sf0 sf1 sf2
  have n0_ := Aside0.mk (Kd.R_drew HO.out)
  have n1_ := Aside0.mk (blk_drew BS.out)
  have n2_ := Aside0.mk (blk_drew BR.out)
  have n3_ := Aside0.mk (blk_drew BQ.out)
  have n4_ := Aside0.mk (below_drew1 HB.out)
  have n5_ := Aside0.mk (blk_drew BG.out)
  clear HO BS BR BQ HB BG
  have HO := n0_
  have BS := n1_
  have BR := n2_
  have BQ := n3_
  have HB := n4_
  have BG := n5_
  clear n0_ n1_ n2_ n3_ n4_ n5_
  refine start_ (n := 11) (S := fun w' => w'.cell? ⟨gs, 0, none⟩ = some (.int .u64 a0) ∧ w'.cell? ⟨gs, 1, none⟩ = some (.int .u64 a1) ∧ w'.cell? ⟨gs, 2, none⟩ = some (.slice (some ⟨g, 0, none⟩) l.length c) ∧ w'.cell? ⟨gr, 0, none⟩ = some (.int .i64 3) ∧ w'.cell? ⟨gr, 1, none⟩ = some (.int .u64 r1) ∧ w'.cell? ⟨gr, 2, none⟩ = some (.string r2) ∧ w'.cell? ⟨gr, 3, none⟩ = some (.int .i64 r3) ∧ w'.cell? ⟨gr, 4, none⟩ = some (.int .u64 r4) ∧ w'.cell? ⟨gr, 5, none⟩ = some (.int .u64 r5) ∧ w'.cell? ⟨gr, 6, none⟩ = some (.int .u64 r6) ∧ w'.cell? ⟨gr, 7, none⟩ = some (.int .u64 r7) ∧ w'.cell? ⟨gr, 8, none⟩ = some (.int .u64 r8) ∧ w'.cell? ⟨gr, 9, none⟩ = some (.int .u64 r9) ∧ w'.cell? ⟨gr, 10, none⟩ = some (.int .u64 r10)) (ds := []) #[false, false, false, false, false, false, false, false, false, false, false] (by kernel_rfl) rfl rfl ⟨(blk_cell BS.out 0).trans rfl, (blk_cell BS.out 1).trans rfl, (blk_cell BS.out 2).trans rfl, (blk_cell BR.out 0).trans rfl, (blk_cell BR.out 1).trans rfl, (blk_cell BR.out 2).trans rfl, (blk_cell BR.out 3).trans rfl, (blk_cell BR.out 4).trans rfl, (blk_cell BR.out 5).trans rfl, (blk_cell BR.out 6).trans rfl, (blk_cell BR.out 7).trans rfl, (blk_cell BR.out 8).trans rfl, (blk_cell BR.out 9).trans rfl, (blk_cell BR.out 10).trans rfl⟩ (fun hHeld => ?_); refine with_tabW state_step.tab5 state_step.bits5 (fun HT_ HW_ => ?_)
  generalize W2.drew = W3 at HO BS BR BQ HB BG hHeld ⊢
  refine chain_ (fuel := 6) [(0, 0, some 27), (1, 0, some 28), (3, 0, some 30), (2, 1, some 29), (4, 1, some 31)] #[true, true, true, true, true, false, false, false, false, false, false] HT_.out HW_.out (by kernel_rfl) (fun _ _ _ _ _ h => h) (Or.inr hHeld) rfl ?_
  (iterate 3 refine lkP ?_); (iterate 2 refine lkT ?_); refine .nil ?_
  refine one_ (i := 5) (N := some 32) #[true, true, true, true, true, true, false, false, false, false, false] rfl rfl (one_of HT_.out (by kernel_rfl)) (by decide) (fun K hK => ?_)
  refine ge Tryd.func11 #[.agg #[.int .u64 a0, .int .u64 a1, .slice (some ⟨g, 0, none⟩) l.length c], .string r2] ?_
  with_reducible refine (state_Find.calls a0 a1 _ _ l r2 (i : Int) true _ ?side1 ?side2 HF.out).mono ?_
  (case side1 => exact co (Kd.R_reads' HO.out).2.2)
  (case side2 => exact (Kd.R_reads' HO.out).2.1)
  rintro e W4 ⟨rfl, hb⟩
  refine ⟨_, rfl, ?_⟩
  have n0_ := Aside0.mk (Kd.R_below (ro HO) hb)
  have n1_ := bb BS hb
  have n2_ := bb BR hb
  have n3_ := bb BQ hb
  have n4_ := bs HB hb
  have n5_ := bb BG hb
  clear HO BS BR BQ HB BG
  have HO := n0_
  have BS := n1_
  have BR := n2_
  have BQ := n3_
  have HB := n4_
  have BG := n5_
  clear n0_ n1_ n2_ n3_ n4_ n5_
  clear hb
  refine hK.out _ _ ⟨(blk_cell BS.out 0).trans rfl, (blk_cell BS.out 1).trans rfl, (blk_cell BS.out 2).trans rfl, (blk_cell BR.out 0).trans rfl, (blk_cell BR.out 1).trans rfl, (blk_cell BR.out 2).trans rfl, (blk_cell BR.out 3).trans rfl, (blk_cell BR.out 4).trans rfl, (blk_cell BR.out 5).trans rfl, (blk_cell BR.out 6).trans rfl, (blk_cell BR.out 7).trans rfl, (blk_cell BR.out 8).trans rfl, (blk_cell BR.out 9).trans rfl, (blk_cell BR.out 10).trans rfl⟩ (fun hHeld => ?_)
  clear hK K
  refine norm_ (a' := ?_) ?_ ?_
  rotate_left
  · show Act.put _ (some 32) _ = _
    simp only [Act.put, List.setIfInBounds_toArray, List.set_cons_zero, List.set_cons_succ, i64_w, i32_w]
    rfl
  refine chain_ (fuel := 0) [(6, 0, some 26), (7, 0, some 33), (8, 0, some 34), (9, 0, some 7), (10, 0, some 8)] #[true, true, true, true, true, true, true, true, true, true, true] HT_.out HW_.out (by kernel_rfl) (fun _ _ _ _ _ h => h) (Or.inl (by decide)) rfl ?_
  (iterate 5 refine lkP ?_); refine .nil ?_
  refine done_ (done_of HT_.out (by kernel_rfl)) ?_
  clear hHeld HT_ HW_
  obtain ⟨sc0, sc1, sc2, sf0, sf1, sf2⟩ := bc3 BS; obtain ⟨rc0, rc1, rc2, rc3, rc4, rc5, rc6, rc7, rc8, rc9, rc10, rf0, rf1, rf2, rf3, rf4, rf5, rf6, rf7, rf8, rf9, rf10⟩ := bc11 BR
  have hi1 := HI.out
  have hi2 : (i : Int) < (l.length : Int) := by omega
  go_wp2
  clear hi1 hi2
  clear rc0 rc1 rc2 rc3 rc4 rc5 rc6 rc7 rc8 rc9 rc10 rf0 rf1 rf2 rf3 rf4 rf5 rf6 rf7 rf8 rf9 rf10 sc0 sc1 sc2 sf0 sf1 sf2
  have n0_ := Aside0.mk (Kd.R_drew HO.out)
  have n1_ := Aside0.mk (blk_drew BS.out)
  have n2_ := Aside0.mk (blk_drew BR.out)
  have n3_ := Aside0.mk (blk_drew BQ.out)
  have n4_ := Aside0.mk (below_drew1 HB.out)
  have n5_ := Aside0.mk (blk_drew BG.out)
  clear HO BS BR BQ HB BG
  have HO := n0_
  have BS := n1_
  have BR := n2_
  have BQ := n3_
  have HB := n4_
  have BG := n5_
  clear n0_ n1_ n2_ n3_ n4_ n5_
  refine start_ (n := 22) (S := fun w' => w'.cell? ⟨gr, 0, none⟩ = some (.int .i64 3) ∧ w'.cell? ⟨gr, 1, none⟩ = some (.int .u64 r1) ∧ w'.cell? ⟨gr, 2, none⟩ = some (.string r2) ∧ w'.cell? ⟨gr, 3, none⟩ = some (.int .i64 r3) ∧ w'.cell? ⟨gr, 4, none⟩ = some (.int .u64 r4) ∧ w'.cell? ⟨gr, 5, none⟩ = some (.int .u64 r5) ∧ w'.cell? ⟨gr, 6, none⟩ = some (.int .u64 r6) ∧ w'.cell? ⟨gr, 7, none⟩ = some (.int .u64 r7) ∧ w'.cell? ⟨gr, 8, none⟩ = some (.int .u64 r8) ∧ w'.cell? ⟨gr, 9, none⟩ = some (.int .u64 r9) ∧ w'.cell? ⟨gr, 10, none⟩ = some (.int .u64 r10) ∧ w'.cell? ⟨g, i * 9 + 1, none⟩ = some (.int .i64 E.f1.f0) ∧ w'.cell? ⟨g, i * 9 + 2, none⟩ = some (.int .u64 E.f1.f1) ∧ w'.cell? ⟨g, i * 9 + 3, none⟩ = some (.int .u64 E.f1.f2) ∧ w'.cell? ⟨g, i * 9 + 4, none⟩ = some (.int .u64 E.f1.f3) ∧ w'.cell? ⟨g, i * 9 + 5, none⟩ = some (.int .u64 E.f1.f4) ∧ w'.cell? ⟨g, i * 9 + 6, none⟩ = some (.int .u64 E.f2.f0) ∧ w'.cell? ⟨g, i * 9 + 7, none⟩ = some (.int .u64 E.f2.f1) ∧ w'.cell? ⟨g, i * 9 + 8, none⟩ = some (.int .u64 E.f2.f2)) (ds := []) #[false, false, false, false, false, false, false, false, false, false, false, false, false, false, false, false, false, false, false, false, false, false] (by kernel_rfl) rfl rfl ⟨(blk_cell BR.out 0).trans rfl, (blk_cell BR.out 1).trans rfl, (blk_cell BR.out 2).trans rfl, (blk_cell BR.out 3).trans rfl, (blk_cell BR.out 4).trans rfl, (blk_cell BR.out 5).trans rfl, (blk_cell BR.out 6).trans rfl, (blk_cell BR.out 7).trans rfl, (blk_cell BR.out 8).trans rfl, (blk_cell BR.out 9).trans rfl, (blk_cell BR.out 10).trans rfl, (blk_cell BG.out _).trans ((HC.out 1 (by decide)).trans rfl), (blk_cell BG.out _).trans ((HC.out 2 (by decide)).trans rfl), (blk_cell BG.out _).trans ((HC.out 3 (by decide)).trans rfl), (blk_cell BG.out _).trans ((HC.out 4 (by decide)).trans rfl), (blk_cell BG.out _).trans ((HC.out 5 (by decide)).trans rfl), (blk_cell BG.out _).trans ((HC.out 6 (by decide)).trans rfl), (blk_cell BG.out _).trans ((HC.out 7 (by decide)).trans rfl), (blk_cell BG.out _).trans ((HC.out 8 (by decide)).trans rfl)⟩ (fun hHeld => ?_); refine with_tabW state_step.tab17 state_step.bits17 (fun HT_ HW_ => ?_)
  generalize W4.drew = W5 at HO BS BR BQ HB BG hHeld ⊢
  refine chain_ (fuel := 16) [(0, 0, some 88), (1, 0, some 89), (2, 0, some 90), (4, 0, some 92), (3, 1, some 91), (5, 1, some 93)] #[true, true, true, true, true, true, false, false, false, false, false, false, false, false, false, false, false, false, false, false, false, false] HT_.out HW_.out (by kernel_rfl) (fun _ _ _ _ _ h => h) (Or.inr hHeld) rfl ?_
  (iterate 4 refine lkP ?_); (iterate 2 refine lkT ?_); refine .nil ?_
  refine one_ (i := 6) (N := some 94) #[true, true, true, true, true, true, true, false, false, false, false, false, false, false, false, false, false, false, false, false, false, false] rfl rfl (one_of HT_.out (by kernel_rfl)) (by decide) (fun K hK => ?_)
  refine ge Tryd.func29 #[.agg #[.int .i64 E.f1.f0, .int .u64 E.f1.f1, .int .u64 E.f1.f2, .int .u64 E.f1.f3, .int .u64 E.f1.f4], .agg #[.int .u64 r8, .int .u64 r9, .int .u64 r10]] ?_
  with_reducible refine (policy_Fits.calls E.f1.f0 E.f1.f1 E.f1.f2 E.f1.f3 E.f1.f4 r8 r9 r10 _ _ HFT.out).mono ?_
  rintro e W6 ⟨rfl, hb⟩
  refine ⟨_, rfl, ?_⟩
  have n0_ := Aside0.mk (Kd.R_below (ro HO) hb)
  have n1_ := bb BS hb
  have n2_ := bb BR hb
  have n3_ := bb BQ hb
  have n4_ := bs HB hb
  have n5_ := bb BG hb
  clear HO BS BR BQ HB BG
  have HO := n0_
  have BS := n1_
  have BR := n2_
  have BQ := n3_
  have HB := n4_
  have BG := n5_
  clear n0_ n1_ n2_ n3_ n4_ n5_
  clear hb
  refine hK.out _ _ ⟨(blk_cell BR.out 0).trans rfl, (blk_cell BR.out 1).trans rfl, (blk_cell BR.out 2).trans rfl, (blk_cell BR.out 3).trans rfl, (blk_cell BR.out 4).trans rfl, (blk_cell BR.out 5).trans rfl, (blk_cell BR.out 6).trans rfl, (blk_cell BR.out 7).trans rfl, (blk_cell BR.out 8).trans rfl, (blk_cell BR.out 9).trans rfl, (blk_cell BR.out 10).trans rfl, (blk_cell BG.out _).trans ((HC.out 1 (by decide)).trans rfl), (blk_cell BG.out _).trans ((HC.out 2 (by decide)).trans rfl), (blk_cell BG.out _).trans ((HC.out 3 (by decide)).trans rfl), (blk_cell BG.out _).trans ((HC.out 4 (by decide)).trans rfl), (blk_cell BG.out _).trans ((HC.out 5 (by decide)).trans rfl), (blk_cell BG.out _).trans ((HC.out 6 (by decide)).trans rfl), (blk_cell BG.out _).trans ((HC.out 7 (by decide)).trans rfl), (blk_cell BG.out _).trans ((HC.out 8 (by decide)).trans rfl)⟩ (fun hHeld => ?_)
  clear hK K
  refine norm_ (a' := ?_) ?_ ?_
  rotate_left
  · show Act.put _ (some 94) _ = _
    simp only [Act.put, List.setIfInBounds_toArray, List.set_cons_zero, List.set_cons_succ, i64_w, i32_w]
    rfl
  refine chain_ (fuel := 3) [(7, 0, some 95), (8, 0, some 96), (9, 0, some 97), (10, 0, some 98), (11, 0, some 99), (13, 0, some 101), (15, 0, some 103), (16, 0, some 104), (17, 0, some 105), (12, 1, some 100), (14, 1, some 102), (18, 1, some 106)] #[true, true, true, true, true, true, true, true, true, true, true, true, true, true, true, true, true, true, true, false, false, false] HT_.out HW_.out (by kernel_rfl) (fun _ _ _ _ _ h => h) (Or.inr hHeld) rfl ?_
  (iterate 9 refine lkP ?_); (iterate 3 refine lkT ?_); refine .nil ?_
  refine one_ (i := 19) (N := some 107) #[true, true, true, true, true, true, true, true, true, true, true, true, true, true, true, true, true, true, true, true, false, false] rfl rfl (one_of HT_.out (by kernel_rfl)) (by decide) (fun K hK => ?_)
  refine ge Tryd.func21 #[.agg #[.int .i64 E.f1.f0, .int .u64 E.f1.f1, .int .u64 E.f1.f2, .int .u64 E.f1.f3, .int .u64 E.f1.f4], .agg #[.int .u64 r8, .int .u64 r9, .int .u64 r10], .agg #[.int .u64 E.f2.f0, .int .u64 E.f2.f1, .int .u64 E.f2.f2]] ?_
  with_reducible refine (policy_Covers.calls E.f1.f0 E.f1.f1 E.f1.f2 E.f1.f3 E.f1.f4 r8 r9 r10 _ _ _ _ _ HCV.out).mono ?_
  rintro e W7 ⟨rfl, hb⟩
  refine ⟨_, rfl, ?_⟩
  have n0_ := Aside0.mk (Kd.R_below (ro HO) hb)
  have n1_ := bb BS hb
  have n2_ := bb BR hb
  have n3_ := bb BQ hb
  have n4_ := bs HB hb
  have n5_ := bb BG hb
  clear HO BS BR BQ HB BG
  have HO := n0_
  have BS := n1_
  have BR := n2_
  have BQ := n3_
  have HB := n4_
  have BG := n5_
  clear n0_ n1_ n2_ n3_ n4_ n5_
  clear hb
  refine hK.out _ _ ⟨(blk_cell BR.out 0).trans rfl, (blk_cell BR.out 1).trans rfl, (blk_cell BR.out 2).trans rfl, (blk_cell BR.out 3).trans rfl, (blk_cell BR.out 4).trans rfl, (blk_cell BR.out 5).trans rfl, (blk_cell BR.out 6).trans rfl, (blk_cell BR.out 7).trans rfl, (blk_cell BR.out 8).trans rfl, (blk_cell BR.out 9).trans rfl, (blk_cell BR.out 10).trans rfl, (blk_cell BG.out _).trans ((HC.out 1 (by decide)).trans rfl), (blk_cell BG.out _).trans ((HC.out 2 (by decide)).trans rfl), (blk_cell BG.out _).trans ((HC.out 3 (by decide)).trans rfl), (blk_cell BG.out _).trans ((HC.out 4 (by decide)).trans rfl), (blk_cell BG.out _).trans ((HC.out 5 (by decide)).trans rfl), (blk_cell BG.out _).trans ((HC.out 6 (by decide)).trans rfl), (blk_cell BG.out _).trans ((HC.out 7 (by decide)).trans rfl), (blk_cell BG.out _).trans ((HC.out 8 (by decide)).trans rfl)⟩ (fun hHeld => ?_)
  clear hK K
  refine norm_ (a' := ?_) ?_ ?_
  rotate_left
  · show Act.put _ (some 107) _ = _
    simp only [Act.put, List.setIfInBounds_toArray, List.set_cons_zero, List.set_cons_succ, i64_w, i32_w]
    rfl
  refine chain_ (fuel := 0) [(20, 0, some 108), (21, 0, some 109)] #[true, true, true, true, true, true, true, true, true, true, true, true, true, true, true, true, true, true, true, true, true, true] HT_.out HW_.out (by kernel_rfl) (fun _ _ _ _ _ h => h) (Or.inl (by decide)) rfl ?_
  (iterate 2 refine lkP ?_); refine .nil ?_
  refine done_ (done_of HT_.out (by kernel_rfl)) ?_
  clear hHeld HT_ HW_
  obtain ⟨sc0, sc1, sc2, sf0, sf1, sf2⟩ := bc3 BS; obtain ⟨rc0, rc1, rc2, rc3, rc4, rc5, rc6, rc7, rc8, rc9, rc10, rf0, rf1, rf2, rf3, rf4, rf5, rf6, rf7, rf8, rf9, rf10⟩ := bc11 BR
  have nbs := NB.out; have nbr := NB'.out
  have hg6 : W7.cell? ⟨g, i * 9 + 6, none⟩ = some (.int .u64 E.f2.f0) := (blk_cell BG.out _).trans ((HC.out 6 (by decide)).trans rfl)
  have hg7 : W7.cell? ⟨g, i * 9 + 7, none⟩ = some (.int .u64 E.f2.f1) := (blk_cell BG.out _).trans ((HC.out 7 (by decide)).trans rfl)
  have hg8 : W7.cell? ⟨g, i * 9 + 8, none⟩ = some (.int .u64 E.f2.f2) := (blk_cell BG.out _).trans ((HC.out 8 (by decide)).trans rfl)
  have hgf : ∀ j, W7.frozen? ⟨g, j, none⟩ = false := blk_frozen BG.out
  have NG : Aside0 (gs ≠ g) := ⟨state_step.nt_ BS.out BG.out (by decide)⟩
  have NG' : Aside0 (g ≠ gs) := ⟨Ne.symm NG.out⟩
  have NR : Aside0 (gr ≠ g) := ⟨state_step.nt_ BR.out BG.out (by decide)⟩
  have NR' : Aside0 (g ≠ gr) := ⟨Ne.symm NR.out⟩
  have ng1 := NG.out; have ng2 := NG'.out; have ng3 := NR.out; have ng4 := NR'.out
  go_wp2
  clear ng1 ng2 ng3 ng4 hg6 hg7 hg8 hgf nbs nbr
  clear rc0 rc1 rc2 rc3 rc4 rc5 rc6 rc7 rc8 rc9 rc10 rf0 rf1 rf2 rf3 rf4 rf5 rf6 rf7 rf8 rf9 rf10 sc0 sc1 sc2 sf0 sf1 sf2
  have hl_ := state_step.lev_ HO.out HI.out r8 r9 r10
  rw [HEL.out] at hl_
  have hs1_ : (((W7.setCell ⟨g, i * 9 + 6, none⟩ (.int .u64 r8)).setCell ⟨g, i * 9 + 7, none⟩ (.int .u64 r9)).setCell ⟨g, i * 9 + 8, none⟩ (.int .u64 r10)).heap[gs]? = some (.cells #[.int .u64 a0, .int .u64 a1, .slice (some ⟨g, 0, none⟩) l.length c] 27 (0, 0)) := blk_far (blk_far (blk_far BS.out NG.out _) NG.out _) NG.out _
  have n0_ : Aside0 (Kd.R k56 56 ((((W7.setCell ⟨g, i * 9 + 6, none⟩ (.int .u64 r8)).setCell ⟨g, i * 9 + 7, none⟩ (.int .u64 r9)).setCell ⟨g, i * 9 + 8, none⟩ (.int .u64 r10)).setCell ⟨gs, 0, none⟩ (.int .u64 n)) w.heap.size (fun _ => True) (.slice (some ⟨g, 0, none⟩) l.length c) (l.set i (⟨E.f0, E.f1, (⟨r8, r9, r10⟩ : S37)⟩ : S56))) := ⟨Kd.R_mono (Kd.R_far (p := ⟨gs, 0, none⟩) (Kd.R_types hl_ hs1_ (by decide)) (fun _ hk => hk.2) _) (fun _ hk => trivial)⟩
  have n1_ : Aside0 (((((W7.setCell ⟨g, i * 9 + 6, none⟩ (.int .u64 r8)).setCell ⟨g, i * 9 + 7, none⟩ (.int .u64 r9)).setCell ⟨g, i * 9 + 8, none⟩ (.int .u64 r10)).setCell ⟨gs, 0, none⟩ (.int .u64 n)).heap[gs]? = some (.cells #[.int .u64 n, .int .u64 a1, .slice (some ⟨g, 0, none⟩) l.length c] 27 (0, 0))) := ⟨blk_set hs1_ 0 _⟩
  have n2_ : Aside0 (((((W7.setCell ⟨g, i * 9 + 6, none⟩ (.int .u64 r8)).setCell ⟨g, i * 9 + 7, none⟩ (.int .u64 r9)).setCell ⟨g, i * 9 + 8, none⟩ (.int .u64 r10)).setCell ⟨gs, 0, none⟩ (.int .u64 n)).heap[gr]? = some (.cells #[.int .i64 3, .int .u64 r1, .string r2, .int .i64 r3, .int .u64 r4, .int .u64 r5, .int .u64 r6, .int .u64 r7, .int .u64 r8, .int .u64 r9, .int .u64 r10] 39 (0, 0))) := ⟨blk_far (blk_far (blk_far (blk_far BR.out NR.out _) NR.out _) NR.out _) NB'.out _⟩
  have n3_ : Aside0 (Below w.heap.size w ((((W7.setCell ⟨g, i * 9 + 6, none⟩ (.int .u64 r8)).setCell ⟨g, i * 9 + 7, none⟩ (.int .u64 r9)).setCell ⟨g, i * 9 + 8, none⟩ (.int .u64 r10)).setCell ⟨gs, 0, none⟩ (.int .u64 n))) := ⟨bw HB⟩
  have n4_ : Aside0 (((((W7.setCell ⟨g, i * 9 + 6, none⟩ (.int .u64 r8)).setCell ⟨g, i * 9 + 7, none⟩ (.int .u64 r9)).setCell ⟨g, i * 9 + 8, none⟩ (.int .u64 r10)).setCell ⟨gs, 0, none⟩ (.int .u64 n)).heap[gq]? = some (.cells oq tq (0, 0))) := ⟨blk_far (blk_far (blk_far (blk_far BQ.out (state_step.nt_ BQ.out BG.out (Ne.symm TQ.out)) _) (state_step.nt_ BQ.out BG.out (Ne.symm TQ.out)) _) (state_step.nt_ BQ.out BG.out (Ne.symm TQ.out)) _) NQ.out _⟩
  generalize ((((W7.setCell ⟨g, i * 9 + 6, none⟩ (.int .u64 r8)).setCell ⟨g, i * 9 + 7, none⟩ (.int .u64 r9)).setCell ⟨g, i * 9 + 8, none⟩ (.int .u64 r10)).setCell ⟨gs, 0, none⟩ (.int .u64 n)) = W8 at n0_ n1_ n2_ n3_ n4_ ⊢
  clear HO BS BR BQ HB BG hl_ hs1_
  have HO := n0_
  have BS := n1_
  have BR := n2_
  have HB := n3_
  have BQ := n4_
  clear n0_ n1_ n2_ n3_ n4_
  have n0_ := Aside0.mk (Kd.R_drew HO.out)
  have n1_ := Aside0.mk (blk_drew BS.out)
  have n2_ := Aside0.mk (blk_drew BR.out)
  have n3_ := Aside0.mk (blk_drew BQ.out)
  have n4_ := Aside0.mk (below_drew1 HB.out)
  clear HO BS BR BQ HB
  have HO := n0_
  have BS := n1_
  have BR := n2_
  have BQ := n3_
  have HB := n4_
  clear n0_ n1_ n2_ n3_ n4_
  refine start_ (n := 11) (S := fun w' => w'.cell? ⟨gs, 0, none⟩ = some (.int .u64 n) ∧ w'.cell? ⟨gs, 1, none⟩ = some (.int .u64 a1) ∧ w'.cell? ⟨gs, 2, none⟩ = some (.slice (some ⟨g, 0, none⟩) l.length c) ∧ w'.cell? ⟨gr, 0, none⟩ = some (.int .i64 3) ∧ w'.cell? ⟨gr, 1, none⟩ = some (.int .u64 r1) ∧ w'.cell? ⟨gr, 2, none⟩ = some (.string r2) ∧ w'.cell? ⟨gr, 3, none⟩ = some (.int .i64 r3) ∧ w'.cell? ⟨gr, 4, none⟩ = some (.int .u64 r4) ∧ w'.cell? ⟨gr, 5, none⟩ = some (.int .u64 r5) ∧ w'.cell? ⟨gr, 6, none⟩ = some (.int .u64 r6) ∧ w'.cell? ⟨gr, 7, none⟩ = some (.int .u64 r7) ∧ w'.cell? ⟨gr, 8, none⟩ = some (.int .u64 r8) ∧ w'.cell? ⟨gr, 9, none⟩ = some (.int .u64 r9) ∧ w'.cell? ⟨gr, 10, none⟩ = some (.int .u64 r10)) (ds := [10]) #[false, false, false, false, false, false, false, false, false, false, false] (by kernel_rfl) rfl rfl ⟨(blk_cell BS.out 0).trans rfl, (blk_cell BS.out 1).trans rfl, (blk_cell BS.out 2).trans rfl, (blk_cell BR.out 0).trans rfl, (blk_cell BR.out 1).trans rfl, (blk_cell BR.out 2).trans rfl, (blk_cell BR.out 3).trans rfl, (blk_cell BR.out 4).trans rfl, (blk_cell BR.out 5).trans rfl, (blk_cell BR.out 6).trans rfl, (blk_cell BR.out 7).trans rfl, (blk_cell BR.out 8).trans rfl, (blk_cell BR.out 9).trans rfl, (blk_cell BR.out 10).trans rfl⟩ (fun hHeld => ?_); refine with_tabW state_step.tab21 state_step.bits21 (fun HT_ HW_ => ?_)
  generalize W8.drew = W8d at HO BS BR BQ HB hHeld ⊢
  refine chain_ (fuel := 1) [(0, 0, some 120), (1, 0, some 121), (2, 0, some 122), (3, 0, some 123), (5, 0, some 125), (4, 1, some 124), (6, 1, some 126), (7, 0, some 127), (8, 0, some 128), (9, 0, some 129)] #[true, true, true, true, true, true, true, true, true, true, false] HT_.out HW_.out (by kernel_rfl) (fun _ _ _ _ _ h => h) (Or.inr hHeld) rfl ?_
  (iterate 5 refine lkP ?_); (iterate 2 refine lkT ?_); (iterate 3 refine lkP ?_); refine .nil ?_
  refine last_ (i := 10) (N := none) #[true, true, true, true, true, true, true, true, true, true, true] rfl rfl (one_of HT_.out (by kernel_rfl)) (by decide) (fun K hK => ?_)
  have hs_ : W8d.cell? ⟨gs, 1, none⟩ = some (.int .u64 a1) := (blk_cell BS.out 1).trans rfl
  have hfs_ := blk_frozen BS.out 1
  refine skip_ (w1 := ?_) (by rfl) rfl ?_ ?_
  rotate_left
  · go_simp
    rfl
  refine hK.out _ _ ?_
  clear hK K
  refine done_ (done_of HT_.out (by kernel_rfl)) ?_
  go_wp2
  go_ret
  exact ⟨.slice (some ⟨g, 0, none⟩) l.length c, re, (bk BS), Kd.R_mono (Kd.R_far (p := ⟨gs, 1, none⟩) (Kd.R_types HO.out BS.out (by decide)) (fun _ hk => hk.2) _) (fun _ hk => trivial), blk_far BQ.out NQ.out _, bw HB⟩

set_option maxHeartbeats 8000000 in
set_option maxRecDepth 100000 in
theorem state_step.define [Errs] (w W : World) (hE : Sent w) (gs : Nat) (a0 a1 : Int) (A : Option Addr) (c : Nat) (l : List S56) (n : Int) (r1 : Int) (r2 : ByteArray) (r3 r4 r5 r6 r7 r8 r9 r10 : Int) (k : Nat) (t : Int) (hB : Below w.heap.size w W) (hgs : w.heap.size ≤ gs) (hblk : W.heap[gs]? = some (.cells #[.int .u64 a0, .int .u64 a1, .slice A l.length c] 27 (0, 0))) (hown : Kd.R k56 56 W w.heap.size (fun _ => True) (.slice A l.length c) l) (gq : Nat) (oq : Array Value) (tq : TypeId) (hbq : W.heap[gq]? = some (.cells oq tq (0, 0))) (htq : 56 ≠ tq) (hqs : gq ≠ gs) (hn : (n != IntKind.u64.wrap (a0 + 1)) = false) (hm : decide (4611686018427387904 < n) = false) (hf : state_Find.f a0 a1 l r2 = some (t, false)) (hv : record_Valid.f k 1 r1 r2 r3 r4 r5 r6 r7 r8 r9 r10 = some true) (hl : l.length < 4096) (y : List S56) (hy : y = (l.take t.toNat ++ [(⟨r2, (⟨r3, r4, r5, r6, r7⟩ : S35), (⟨0, 0, 0⟩ : S37)⟩ : S56)] ++ l.drop t.toNat)) (q : Int) (hq : (if a1 < r1 then r1 else a1) = q) :
    Calls Tryd.prog 36 #[.pointer (some ⟨gs, 0, none⟩), .int .u64 n, .agg #[.int .i64 1, .int .u64 r1, .string r2, .int .i64 r3, .int .u64 r4, .int .u64 r5, .int .u64 r6, .int .u64 r7, .int .u64 r8, .int .u64 r9, .int .u64 r10]] W fun e w' => ∃ v : Value, e = .returned (errW 0) ∧ w'.heap[gs]? = some (.cells #[.int .u64 n, .int .u64 q, v] 27 (0, 0)) ∧ Kd.R k56 56 w' w.heap.size (fun _ => True) v y ∧ w'.heap[gq]? = some (.cells oq tq (0, 0)) ∧ Below w.heap.size w w' := by
  have hu27 := Tryd.underlying27
  have hu39 := Tryd.underlying39
  have hu35 := Tryd.underlying35
  have hu56 := Tryd.underlying56
  have hu37 := Tryd.underlying37
  have HE := Aside0.mk hE
  have HB := Aside0.mk hB
  have BS := Aside0.mk hblk
  have GE := Aside0.mk hgs
  have HO := Aside0.mk hown
  have BQ := Aside0.mk hbq
  have TQ := Aside0.mk htq
  have NQ := Aside0.mk hqs
  clear hE hB hblk hgs hown hbq htq hqs
  have HV := Aside0.mk hv
  have HF := Aside0.mk hf
  clear hv hf
  have LM := Aside0.mk hl
  have hl1 : decide (4096 ≤ l.length) = false := by simp; omega
  have hl2 : decide (4096 ≤ (l.length : Int)) = false := by simp; omega
  clear hl
  have NY := Aside0.mk hy
  clear hy
  go_enter Tryd.func36, Tryd.ntmps36
  go_wp2_with (first | ((with_reducible refine gate_dst (N := 5) rfl ?_); refine bx 5 #[.int .i64 1, .int .u64 r1, .string r2, .int .i64 r3, .int .u64 r4, .int .u64 r5, .int .u64 r6, .int .u64 r7, .int .u64 r8, .int .u64 r9, .int .u64 r10] 39 ?_; intro gr hg W1 hbox hb; have HO' := Aside0.mk (Kd.R_below (ro HO) hb); have BS' := bb BS hb; have BQ' := bb BQ hb; have HB' := bs HB hb; have BR := Aside0.mk hbox; have GR := sz HB hg; have NB := nl BS hg; have NB' := nr BS hg; clear HO BS BQ HB; have HO := HO'; have BS := BS'; have BQ := BQ'; have HB := HB'; clear HO' BS' BQ' HB' hb hbox hg; obtain ⟨rc0, rc1, rc2, rc3, rc4, rc5, rc6, rc7, rc8, rc9, rc10, rf0, rf1, rf2, rf3, rf4, rf5, rf6, rf7, rf8, rf9, rf10⟩ := bc11 BR) | ((with_reducible refine gate_callee (f := 44) rfl ?_); refine gm (some 11) Tryd.func44 #[.agg #[.int .i64 1, .int .u64 r1, .string r2, .int .i64 r3, .int .u64 r4, .int .u64 r5, .int .u64 r6, .int .u64 r7, .int .u64 r8, .int .u64 r9, .int .u64 r10]] (record_Valid.calls k 1 r1 r2 r3 r4 r5 r6 r7 r8 r9 r10 true _ HV.out) ?_; clear rc0 rc1 rc2 rc3 rc4 rc5 rc6 rc7 rc8 rc9 rc10 rf0 rf1 rf2 rf3 rf4 rf5 rf6 rf7 rf8 rf9 rf10; intro W2 hb; have n0_ := Aside0.mk (Kd.R_below (ro HO) hb); have n1_ := bb BS hb; have n2_ := bb BR hb; have n3_ := bb BQ hb; have n4_ := bs HB hb; clear HO BS BR BQ HB; have HO := n0_; have BS := n1_; have BR := n2_; have BQ := n3_; have HB := n4_; clear n0_ n1_ n2_ n3_ n4_; clear hb; obtain ⟨sc0, sc1, sc2, sf0, sf1, sf2⟩ := bc3 BS; obtain ⟨rc0, rc1, rc2, rc3, rc4, rc5, rc6, rc7, rc8, rc9, rc10, rf0, rf1, rf2, rf3, rf4, rf5, rf6, rf7, rf8, rf9, rf10⟩ := bc11 BR))
  clear rc0 rc1 rc2 rc3 rc4 rc5 rc6 rc7 rc8 rc9 rc10 rf0 rf1 rf2 rf3 rf4 rf5 rf6 rf7 rf8 rf9 rf10 sc0 sc1 sc2 sf0 sf1 sf2
  have n0_ := Aside0.mk (Kd.R_drew HO.out)
  have n1_ := Aside0.mk (blk_drew BS.out)
  have n2_ := Aside0.mk (blk_drew BR.out)
  have n3_ := Aside0.mk (blk_drew BQ.out)
  have n4_ := Aside0.mk (below_drew1 HB.out)
  clear HO BS BR BQ HB
  have HO := n0_
  have BS := n1_
  have BR := n2_
  have BQ := n3_
  have HB := n4_
  clear n0_ n1_ n2_ n3_ n4_
  refine start_ (n := 11) (S := fun w' => w'.cell? ⟨gs, 0, none⟩ = some (.int .u64 a0) ∧ w'.cell? ⟨gs, 1, none⟩ = some (.int .u64 a1) ∧ w'.cell? ⟨gs, 2, none⟩ = some (.slice A l.length c) ∧ w'.cell? ⟨gr, 0, none⟩ = some (.int .i64 1) ∧ w'.cell? ⟨gr, 1, none⟩ = some (.int .u64 r1) ∧ w'.cell? ⟨gr, 2, none⟩ = some (.string r2) ∧ w'.cell? ⟨gr, 3, none⟩ = some (.int .i64 r3) ∧ w'.cell? ⟨gr, 4, none⟩ = some (.int .u64 r4) ∧ w'.cell? ⟨gr, 5, none⟩ = some (.int .u64 r5) ∧ w'.cell? ⟨gr, 6, none⟩ = some (.int .u64 r6) ∧ w'.cell? ⟨gr, 7, none⟩ = some (.int .u64 r7) ∧ w'.cell? ⟨gr, 8, none⟩ = some (.int .u64 r8) ∧ w'.cell? ⟨gr, 9, none⟩ = some (.int .u64 r9) ∧ w'.cell? ⟨gr, 10, none⟩ = some (.int .u64 r10)) (ds := []) #[false, false, false, false, false, false, false, false, false, false, false] (by kernel_rfl) rfl rfl ⟨(blk_cell BS.out 0).trans rfl, (blk_cell BS.out 1).trans rfl, (blk_cell BS.out 2).trans rfl, (blk_cell BR.out 0).trans rfl, (blk_cell BR.out 1).trans rfl, (blk_cell BR.out 2).trans rfl, (blk_cell BR.out 3).trans rfl, (blk_cell BR.out 4).trans rfl, (blk_cell BR.out 5).trans rfl, (blk_cell BR.out 6).trans rfl, (blk_cell BR.out 7).trans rfl, (blk_cell BR.out 8).trans rfl, (blk_cell BR.out 9).trans rfl, (blk_cell BR.out 10).trans rfl⟩ (fun hHeld => ?_); refine with_tabW state_step.tab5 state_step.bits5 (fun HT_ HW_ => ?_)
  generalize W2.drew = W3 at HO BS BR BQ HB hHeld ⊢
  refine chain_ (fuel := 6) [(0, 0, some 27), (1, 0, some 28), (3, 0, some 30), (2, 1, some 29), (4, 1, some 31)] #[true, true, true, true, true, false, false, false, false, false, false] HT_.out HW_.out (by kernel_rfl) (fun _ _ _ _ _ h => h) (Or.inr hHeld) rfl ?_
  (iterate 3 refine lkP ?_); (iterate 2 refine lkT ?_); refine .nil ?_
  refine one_ (i := 5) (N := some 32) #[true, true, true, true, true, true, false, false, false, false, false] rfl rfl (one_of HT_.out (by kernel_rfl)) (by decide) (fun K hK => ?_)
  refine ge Tryd.func11 #[.agg #[.int .u64 a0, .int .u64 a1, .slice A l.length c], .string r2] ?_
  with_reducible refine (state_Find.calls a0 a1 _ _ l r2 t false _ ?side1 ?side2 HF.out).mono ?_
  (case side1 => exact co (Kd.R_reads' HO.out).2.2)
  (case side2 => exact (Kd.R_reads' HO.out).2.1)
  rintro e W4 ⟨rfl, hb⟩
  refine ⟨_, rfl, ?_⟩
  have n0_ := Aside0.mk (Kd.R_below (ro HO) hb)
  have n1_ := bb BS hb
  have n2_ := bb BR hb
  have n3_ := bb BQ hb
  have n4_ := bs HB hb
  clear HO BS BR BQ HB
  have HO := n0_
  have BS := n1_
  have BR := n2_
  have BQ := n3_
  have HB := n4_
  clear n0_ n1_ n2_ n3_ n4_
  clear hb
  refine hK.out _ _ ⟨(blk_cell BS.out 0).trans rfl, (blk_cell BS.out 1).trans rfl, (blk_cell BS.out 2).trans rfl, (blk_cell BR.out 0).trans rfl, (blk_cell BR.out 1).trans rfl, (blk_cell BR.out 2).trans rfl, (blk_cell BR.out 3).trans rfl, (blk_cell BR.out 4).trans rfl, (blk_cell BR.out 5).trans rfl, (blk_cell BR.out 6).trans rfl, (blk_cell BR.out 7).trans rfl, (blk_cell BR.out 8).trans rfl, (blk_cell BR.out 9).trans rfl, (blk_cell BR.out 10).trans rfl⟩ (fun hHeld => ?_)
  clear hK K
  refine norm_ (a' := ?_) ?_ ?_
  rotate_left
  · show Act.put _ (some 32) _ = _
    simp only [Act.put, List.setIfInBounds_toArray, List.set_cons_zero, List.set_cons_succ, i64_w, i32_w]
    rfl
  refine chain_ (fuel := 0) [(6, 0, some 26), (7, 0, some 33), (8, 0, some 34), (9, 0, some 7), (10, 0, some 8)] #[true, true, true, true, true, true, true, true, true, true, true] HT_.out HW_.out (by kernel_rfl) (fun _ _ _ _ _ h => h) (Or.inl (by decide)) rfl ?_
  (iterate 5 refine lkP ?_); refine .nil ?_
  refine done_ (done_of HT_.out (by kernel_rfl)) ?_
  clear hHeld HT_ HW_
  obtain ⟨sc0, sc1, sc2, sf0, sf1, sf2⟩ := bc3 BS; obtain ⟨rc0, rc1, rc2, rc3, rc4, rc5, rc6, rc7, rc8, rc9, rc10, rf0, rf1, rf2, rf3, rf4, rf5, rf6, rf7, rf8, rf9, rf10⟩ := bc11 BR
  go_wp2
  clear rc0 rc1 rc2 rc3 rc4 rc5 rc6 rc7 rc8 rc9 rc10 rf0 rf1 rf2 rf3 rf4 rf5 rf6 rf7 rf8 rf9 rf10 sc0 sc1 sc2 sf0 sf1 sf2
  have n0_ := Aside0.mk (Kd.R_drew HO.out)
  have n1_ := Aside0.mk (blk_drew BS.out)
  have n2_ := Aside0.mk (blk_drew BR.out)
  have n3_ := Aside0.mk (blk_drew BQ.out)
  have n4_ := Aside0.mk (below_drew1 HB.out)
  clear HO BS BR BQ HB
  have HO := n0_
  have BS := n1_
  have BR := n2_
  have BQ := n3_
  have HB := n4_
  clear n0_ n1_ n2_ n3_ n4_
  refine start_ (n := 16) (S := fun w' => w'.cell? ⟨gs, 0, none⟩ = some (.int .u64 a0) ∧ w'.cell? ⟨gs, 1, none⟩ = some (.int .u64 a1) ∧ w'.cell? ⟨gs, 2, none⟩ = some (.slice A l.length c) ∧ w'.cell? ⟨gr, 0, none⟩ = some (.int .i64 1) ∧ w'.cell? ⟨gr, 1, none⟩ = some (.int .u64 r1) ∧ w'.cell? ⟨gr, 2, none⟩ = some (.string r2) ∧ w'.cell? ⟨gr, 3, none⟩ = some (.int .i64 r3) ∧ w'.cell? ⟨gr, 4, none⟩ = some (.int .u64 r4) ∧ w'.cell? ⟨gr, 5, none⟩ = some (.int .u64 r5) ∧ w'.cell? ⟨gr, 6, none⟩ = some (.int .u64 r6) ∧ w'.cell? ⟨gr, 7, none⟩ = some (.int .u64 r7) ∧ w'.cell? ⟨gr, 8, none⟩ = some (.int .u64 r8) ∧ w'.cell? ⟨gr, 9, none⟩ = some (.int .u64 r9) ∧ w'.cell? ⟨gr, 10, none⟩ = some (.int .u64 r10)) (ds := [15]) #[false, false, false, false, false, false, false, false, false, false, false, false, false, false, false, false] (by kernel_rfl) rfl rfl ⟨(blk_cell BS.out 0).trans rfl, (blk_cell BS.out 1).trans rfl, (blk_cell BS.out 2).trans rfl, (blk_cell BR.out 0).trans rfl, (blk_cell BR.out 1).trans rfl, (blk_cell BR.out 2).trans rfl, (blk_cell BR.out 3).trans rfl, (blk_cell BR.out 4).trans rfl, (blk_cell BR.out 5).trans rfl, (blk_cell BR.out 6).trans rfl, (blk_cell BR.out 7).trans rfl, (blk_cell BR.out 8).trans rfl, (blk_cell BR.out 9).trans rfl, (blk_cell BR.out 10).trans rfl⟩ (fun hHeld => ?_); refine with_tabW state_step.tab12 state_step.bits12 (fun HT_ HW_ => ?_)
  generalize W4.drew = W5 at HO BS BR BQ HB hHeld ⊢
  refine chain_ (fuel := 5) [(0, 0, some 52), (1, 0, some 53), (2, 0, some 54), (3, 0, some 55), (5, 0, some 57), (6, 0, some 58), (8, 0, some 60), (4, 1, some 56), (7, 1, some 59), (9, 1, some 61), (10, 0, some 62)] #[true, true, true, true, true, true, true, true, true, true, true, false, false, false, false, false] HT_.out HW_.out (by kernel_rfl) (fun _ _ _ _ _ h => h) (Or.inr hHeld) rfl ?_
  (iterate 7 refine lkP ?_); (iterate 3 refine lkT ?_); refine lkP (hy := state_step.lkb_ 56 0 1 (.tmp 59) (.tmp 61) _ _ _ rfl rfl rfl (state_step.built_ r2 r3 r4 r5 r6 r7)) ?_; refine .nil ?_
  refine one_ (i := 11) (N := some 63) #[true, true, true, true, true, true, true, true, true, true, true, true, false, false, false, false] rfl rfl (one_of HT_.out (by kernel_rfl)) (by decide) (fun K hK => ?_)
  refine value_ (by rfl) rfl (state_step.bsl_ (.tmp 62) r2 r3 r4 r5 r6 r7 0 0 0 _ rfl rfl) ?_
  refine hK.out _ _ ⟨(blk_cell (blk_alloc BS.out _) 0).trans rfl, (blk_cell (blk_alloc BS.out _) 1).trans rfl, (blk_cell (blk_alloc BS.out _) 2).trans rfl, (blk_cell (blk_alloc BR.out _) 0).trans rfl, (blk_cell (blk_alloc BR.out _) 1).trans rfl, (blk_cell (blk_alloc BR.out _) 2).trans rfl, (blk_cell (blk_alloc BR.out _) 3).trans rfl, (blk_cell (blk_alloc BR.out _) 4).trans rfl, (blk_cell (blk_alloc BR.out _) 5).trans rfl, (blk_cell (blk_alloc BR.out _) 6).trans rfl, (blk_cell (blk_alloc BR.out _) 7).trans rfl, (blk_cell (blk_alloc BR.out _) 8).trans rfl, (blk_cell (blk_alloc BR.out _) 9).trans rfl, (blk_cell (blk_alloc BR.out _) 10).trans rfl⟩ (fun hHeld => ?_)
  clear hK K
  refine norm_ (a' := ?_) ?_ ?_
  rotate_left
  · show Act.put _ (some 63) _ = _
    simp only [Act.put, List.setIfInBounds_toArray, List.set_cons_zero, List.set_cons_succ, i64_w, i32_w]
    rfl
  refine one_ (i := 12) (N := some 64) #[true, true, true, true, true, true, true, true, true, true, true, true, true, false, false, false] rfl rfl (one_of HT_.out (by kernel_rfl)) (by decide) (fun K hK => ?_)
  have hAt_ := state_step.at_ HF.out
  refine ge Tryd.func45 #[.slice A l.length c, .int .i64 t, .slice (some ⟨W5.heap.size, 0, none⟩) 1 1] ?_
  refine (state_step.ins_ (w := w) (W := W5.alloc (.cells (state_step.cl (⟨r2, (⟨r3, r4, r5, r6, r7⟩ : S35), (⟨0, 0, 0⟩ : S37)⟩ : S56)).toArray 56 (0, 0))) t (⟨r2, (⟨r3, r4, r5, r6, r7⟩ : S35), (⟨0, 0, 0⟩ : S37)⟩ : S56) W5.heap.size (ro HO) hAt_.1 hAt_.2 (heap_alloc_new W5 _) (fun e_ => state_step.ne_ (state_step.own_ (HO.out)) e_.symm) (by have := LM.out; omega) (bw HB)).mono ?_
  rintro e W6 ⟨v6, rfl, ho, hb, hg⟩
  refine ⟨_, rfl, ?_⟩
  rw [← NY.out] at ho
  have n1_ := Aside0.mk (blk_grown (g := gs) (o := .cells #[.int .u64 a0, .int .u64 a1, .slice A l.length c] 27 (0, 0)) (bk BS) hg (Kd.R_ne HO.out BS.out (by decide)))
  have n2_ := Aside0.mk (blk_grown (g := gr) (o := .cells #[.int .i64 1, .int .u64 r1, .string r2, .int .i64 r3, .int .u64 r4, .int .u64 r5, .int .u64 r6, .int .u64 r7, .int .u64 r8, .int .u64 r9, .int .u64 r10] 39 (0, 0)) (bk BR) hg (Kd.R_ne HO.out BR.out (by decide)))
  have n4_ := Aside0.mk (blk_grown (g := gq) (o := .cells oq tq (0, 0)) (bk BQ) hg (Kd.R_ne HO.out BQ.out TQ.out))
  clear HO BS BR BQ HB
  have HO := Aside0.mk ho
  have BS := n1_
  have BR := n2_
  have BQ := n4_
  have HB := Aside0.mk hb
  clear ho hb hg n1_ n2_ n4_ hAt_
  obtain ⟨A2, c2, e2⟩ := Kd.R_slice HO.out
  subst e2
  refine hK.out _ _ ⟨(blk_cell BS.out 0).trans rfl, (blk_cell BS.out 1).trans rfl, (blk_cell BS.out 2).trans rfl, (blk_cell BR.out 0).trans rfl, (blk_cell BR.out 1).trans rfl, (blk_cell BR.out 2).trans rfl, (blk_cell BR.out 3).trans rfl, (blk_cell BR.out 4).trans rfl, (blk_cell BR.out 5).trans rfl, (blk_cell BR.out 6).trans rfl, (blk_cell BR.out 7).trans rfl, (blk_cell BR.out 8).trans rfl, (blk_cell BR.out 9).trans rfl, (blk_cell BR.out 10).trans rfl⟩ (fun hHeld => ?_)
  clear hK K
  refine norm_ (a' := ?_) ?_ ?_
  rotate_left
  · show Act.put _ (some 64) _ = _
    simp only [Act.put, List.setIfInBounds_toArray, List.set_cons_zero, List.set_cons_succ, i64_w, i32_w]
    rfl
  refine chain_ (fuel := 1) [(13, 0, some 65), (14, 0, some 66)] #[true, true, true, true, true, true, true, true, true, true, true, true, true, true, true, false] HT_.out HW_.out (by kernel_rfl) (fun _ _ _ _ _ h => h) (Or.inl (by decide)) rfl ?_
  (iterate 2 refine lkP ?_); refine .nil ?_
  refine last_ (i := 15) (N := none) #[true, true, true, true, true, true, true, true, true, true, true, true, true, true, true, true] rfl rfl (one_of HT_.out (by kernel_rfl)) (by decide) (fun K hK => ?_)
  have hs_ : W6.cell? ⟨gs, 2, none⟩ = some (.slice A l.length c) := (blk_cell BS.out 2).trans rfl
  have hfs_ := blk_frozen BS.out 2
  refine skip_ (w1 := ?_) (by rfl) rfl ?_ ?_
  rotate_left
  · go_simp
    rfl
  refine hK.out _ _ ?_
  clear hK K
  refine done_ (done_of HT_.out (by kernel_rfl)) ?_
  clear hs_ hfs_ hHeld HT_ HW_
  have n0_ : Aside0 (Kd.R k56 56 (W6.setCell ⟨gs, 2, none⟩ (.slice A2 y.length c2)) w.heap.size (fun _ => True) (.slice A2 y.length c2) y) := ⟨Kd.R_mono (Kd.R_far (p := ⟨gs, 2, none⟩) (Kd.R_types HO.out BS.out (by decide)) (fun _ hk => hk.2) _) (fun _ hk => trivial)⟩
  have n1_ : Aside0 ((W6.setCell ⟨gs, 2, none⟩ (.slice A2 y.length c2)).heap[gs]? = some (.cells #[.int .u64 a0, .int .u64 a1, .slice A2 y.length c2] 27 (0, 0))) := ⟨bk BS⟩
  have n2_ : Aside0 ((W6.setCell ⟨gs, 2, none⟩ (.slice A2 y.length c2)).heap[gr]? = some (.cells #[.int .i64 1, .int .u64 r1, .string r2, .int .i64 r3, .int .u64 r4, .int .u64 r5, .int .u64 r6, .int .u64 r7, .int .u64 r8, .int .u64 r9, .int .u64 r10] 39 (0, 0))) := ⟨bk BR⟩
  have n3_ : Aside0 (Below w.heap.size w (W6.setCell ⟨gs, 2, none⟩ (.slice A2 y.length c2))) := ⟨bw HB⟩
  have n4_ : Aside0 ((W6.setCell ⟨gs, 2, none⟩ (.slice A2 y.length c2)).heap[gq]? = some (.cells oq tq (0, 0))) := ⟨blk_far BQ.out NQ.out _⟩
  generalize (W6.setCell ⟨gs, 2, none⟩ (.slice A2 y.length c2)) = W7 at n0_ n1_ n2_ n3_ n4_ ⊢
  clear HO BS BR BQ HB
  have HO := n0_
  have BS := n1_
  have BR := n2_
  have HB := n3_
  have BQ := n4_
  clear n0_ n1_ n2_ n3_ n4_
  obtain ⟨sc0, sc1, sc2, sf0, sf1, sf2⟩ := bc3 BS; obtain ⟨rc0, rc1, rc2, rc3, rc4, rc5, rc6, rc7, rc8, rc9, rc10, rf0, rf1, rf2, rf3, rf4, rf5, rf6, rf7, rf8, rf9, rf10⟩ := bc11 BR
  have nbs := NB.out; have nbr := NB'.out
  go_wp2
  clear nbs nbr
  clear rc0 rc1 rc2 rc3 rc4 rc5 rc6 rc7 rc8 rc9 rc10 rf0 rf1 rf2 rf3 rf4 rf5 rf6 rf7 rf8 rf9 rf10 sc0 sc1 sc2 sf0 sf1 sf2
  have n0_ : Aside0 (Kd.R k56 56 (W7.setCell ⟨gs, 0, none⟩ (.int .u64 n)) w.heap.size (fun _ => True) (.slice A2 y.length c2) y) := ⟨Kd.R_mono (Kd.R_far (p := ⟨gs, 0, none⟩) (Kd.R_types HO.out BS.out (by decide)) (fun _ hk => hk.2) _) (fun _ hk => trivial)⟩
  have n1_ : Aside0 ((W7.setCell ⟨gs, 0, none⟩ (.int .u64 n)).heap[gs]? = some (.cells #[.int .u64 n, .int .u64 a1, .slice A2 y.length c2] 27 (0, 0))) := ⟨bk BS⟩
  have n2_ : Aside0 ((W7.setCell ⟨gs, 0, none⟩ (.int .u64 n)).heap[gr]? = some (.cells #[.int .i64 1, .int .u64 r1, .string r2, .int .i64 r3, .int .u64 r4, .int .u64 r5, .int .u64 r6, .int .u64 r7, .int .u64 r8, .int .u64 r9, .int .u64 r10] 39 (0, 0))) := ⟨bk BR⟩
  have n3_ : Aside0 (Below w.heap.size w (W7.setCell ⟨gs, 0, none⟩ (.int .u64 n))) := ⟨bw HB⟩
  have n4_ : Aside0 ((W7.setCell ⟨gs, 0, none⟩ (.int .u64 n)).heap[gq]? = some (.cells oq tq (0, 0))) := ⟨blk_far BQ.out NQ.out _⟩
  generalize (W7.setCell ⟨gs, 0, none⟩ (.int .u64 n)) = W7n at n0_ n1_ n2_ n3_ n4_ ⊢
  clear HO BS BR BQ HB
  have HO := n0_
  have BS := n1_
  have BR := n2_
  have HB := n3_
  have BQ := n4_
  clear n0_ n1_ n2_ n3_ n4_
  have n0_ := Aside0.mk (Kd.R_drew HO.out)
  have n1_ := Aside0.mk (blk_drew BS.out)
  have n2_ := Aside0.mk (blk_drew BR.out)
  have n3_ := Aside0.mk (blk_drew BQ.out)
  have n4_ := Aside0.mk (below_drew1 HB.out)
  clear HO BS BR BQ HB
  have HO := n0_
  have BS := n1_
  have BR := n2_
  have BQ := n3_
  have HB := n4_
  clear n0_ n1_ n2_ n3_ n4_
  refine start_ (n := 11) (S := fun w' => w'.cell? ⟨gs, 0, none⟩ = some (.int .u64 n) ∧ w'.cell? ⟨gs, 1, none⟩ = some (.int .u64 a1) ∧ w'.cell? ⟨gs, 2, none⟩ = some (.slice A2 y.length c2) ∧ w'.cell? ⟨gr, 0, none⟩ = some (.int .i64 1) ∧ w'.cell? ⟨gr, 1, none⟩ = some (.int .u64 r1) ∧ w'.cell? ⟨gr, 2, none⟩ = some (.string r2) ∧ w'.cell? ⟨gr, 3, none⟩ = some (.int .i64 r3) ∧ w'.cell? ⟨gr, 4, none⟩ = some (.int .u64 r4) ∧ w'.cell? ⟨gr, 5, none⟩ = some (.int .u64 r5) ∧ w'.cell? ⟨gr, 6, none⟩ = some (.int .u64 r6) ∧ w'.cell? ⟨gr, 7, none⟩ = some (.int .u64 r7) ∧ w'.cell? ⟨gr, 8, none⟩ = some (.int .u64 r8) ∧ w'.cell? ⟨gr, 9, none⟩ = some (.int .u64 r9) ∧ w'.cell? ⟨gr, 10, none⟩ = some (.int .u64 r10)) (ds := [10]) #[false, false, false, false, false, false, false, false, false, false, false] (by kernel_rfl) rfl rfl ⟨(blk_cell BS.out 0).trans rfl, (blk_cell BS.out 1).trans rfl, (blk_cell BS.out 2).trans rfl, (blk_cell BR.out 0).trans rfl, (blk_cell BR.out 1).trans rfl, (blk_cell BR.out 2).trans rfl, (blk_cell BR.out 3).trans rfl, (blk_cell BR.out 4).trans rfl, (blk_cell BR.out 5).trans rfl, (blk_cell BR.out 6).trans rfl, (blk_cell BR.out 7).trans rfl, (blk_cell BR.out 8).trans rfl, (blk_cell BR.out 9).trans rfl, (blk_cell BR.out 10).trans rfl⟩ (fun hHeld => ?_); refine with_tabW state_step.tab21 state_step.bits21 (fun HT_ HW_ => ?_)
  generalize W7n.drew = W7nd at HO BS BR BQ HB hHeld ⊢
  refine chain_ (fuel := 1) [(0, 0, some 120), (1, 0, some 121), (2, 0, some 122), (3, 0, some 123), (5, 0, some 125), (4, 1, some 124), (6, 1, some 126), (7, 0, some 127), (8, 0, some 128), (9, 0, some 129)] #[true, true, true, true, true, true, true, true, true, true, false] HT_.out HW_.out (by kernel_rfl) (fun _ _ _ _ _ h => h) (Or.inr hHeld) rfl ?_
  (iterate 5 refine lkP ?_); (iterate 2 refine lkT ?_); (iterate 3 refine lkP ?_); refine .nil ?_
  refine last_ (i := 10) (N := none) #[true, true, true, true, true, true, true, true, true, true, true] rfl rfl (one_of HT_.out (by kernel_rfl)) (by decide) (fun K hK => ?_)
  have hs_ : W7nd.cell? ⟨gs, 1, none⟩ = some (.int .u64 a1) := (blk_cell BS.out 1).trans rfl
  have hfs_ := blk_frozen BS.out 1
  refine skip_ (w1 := ?_) (by rfl) rfl ?_ ?_
  rotate_left
  · go_simp
    rfl
  refine hK.out _ _ ?_
  clear hK K
  refine done_ (done_of HT_.out (by kernel_rfl)) ?_
  go_wp2
  go_ret
  exact ⟨.slice A2 y.length c2, re, (bk BS), Kd.R_mono (Kd.R_far (p := ⟨gs, 1, none⟩) (Kd.R_types HO.out BS.out (by decide)) (fun _ hk => hk.2) _) (fun _ hk => trivial), blk_far BQ.out NQ.out _, bw HB⟩

set_option maxHeartbeats 8000000 in
set_option maxRecDepth 100000 in
theorem state_step.delete [Errs] (w W : World) (hE : Sent w) (gs : Nat) (a0 a1 : Int) (A : Option Addr) (c : Nat) (l : List S56) (n : Int) (r1 : Int) (r2 : ByteArray) (r3 r4 r5 r6 r7 r8 r9 r10 : Int) (k : Nat) (t : Int) (hB : Below w.heap.size w W) (hgs : w.heap.size ≤ gs) (hblk : W.heap[gs]? = some (.cells #[.int .u64 a0, .int .u64 a1, .slice A l.length c] 27 (0, 0))) (hown : Kd.R k56 56 W w.heap.size (fun _ => True) (.slice A l.length c) l) (gq : Nat) (oq : Array Value) (tq : TypeId) (hbq : W.heap[gq]? = some (.cells oq tq (0, 0))) (htq : 56 ≠ tq) (hqs : gq ≠ gs) (hn : (n != IntKind.u64.wrap (a0 + 1)) = false) (hm : decide (4611686018427387904 < n) = false) (hf : state_Find.f a0 a1 l r2 = some (t, true)) (hv : record_Valid.f k 2 r1 r2 r3 r4 r5 r6 r7 r8 r9 r10 = some true) (ht0 : 0 ≤ t) (ht1 : t < (l.length : Int)) (y : List S56) (hy : y = (l.take t.toNat ++ l.drop (t.toNat + 1))) (q : Int) (hq : (if a1 < r1 then r1 else a1) = q) :
    Calls Tryd.prog 36 #[.pointer (some ⟨gs, 0, none⟩), .int .u64 n, .agg #[.int .i64 2, .int .u64 r1, .string r2, .int .i64 r3, .int .u64 r4, .int .u64 r5, .int .u64 r6, .int .u64 r7, .int .u64 r8, .int .u64 r9, .int .u64 r10]] W fun e w' => ∃ v : Value, e = .returned (errW 0) ∧ w'.heap[gs]? = some (.cells #[.int .u64 n, .int .u64 q, v] 27 (0, 0)) ∧ Kd.R k56 56 w' w.heap.size (fun _ => True) v y ∧ w'.heap[gq]? = some (.cells oq tq (0, 0)) ∧ Below w.heap.size w w' := by
  have hu27 := Tryd.underlying27
  have hu39 := Tryd.underlying39
  have hu35 := Tryd.underlying35
  have hu56 := Tryd.underlying56
  have hu37 := Tryd.underlying37
  have HE := Aside0.mk hE
  have HB := Aside0.mk hB
  have BS := Aside0.mk hblk
  have GE := Aside0.mk hgs
  have HO := Aside0.mk hown
  have BQ := Aside0.mk hbq
  have TQ := Aside0.mk htq
  have NQ := Aside0.mk hqs
  clear hE hB hblk hgs hown hbq htq hqs
  have HV := Aside0.mk hv
  have HF := Aside0.mk hf
  clear hv hf
  have NY := Aside0.mk hy
  have T0 := Aside0.mk ht0
  have T1 := Aside0.mk ht1
  clear hy ht0 ht1
  go_enter Tryd.func36, Tryd.ntmps36
  go_wp2_with (first | ((with_reducible refine gate_dst (N := 5) rfl ?_); refine bx 5 #[.int .i64 2, .int .u64 r1, .string r2, .int .i64 r3, .int .u64 r4, .int .u64 r5, .int .u64 r6, .int .u64 r7, .int .u64 r8, .int .u64 r9, .int .u64 r10] 39 ?_; intro gr hg W1 hbox hb; have HO' := Aside0.mk (Kd.R_below (ro HO) hb); have BS' := bb BS hb; have BQ' := bb BQ hb; have HB' := bs HB hb; have BR := Aside0.mk hbox; have GR := sz HB hg; have NB := nl BS hg; have NB' := nr BS hg; clear HO BS BQ HB; have HO := HO'; have BS := BS'; have BQ := BQ'; have HB := HB'; clear HO' BS' BQ' HB' hb hbox hg; obtain ⟨rc0, rc1, rc2, rc3, rc4, rc5, rc6, rc7, rc8, rc9, rc10, rf0, rf1, rf2, rf3, rf4, rf5, rf6, rf7, rf8, rf9, rf10⟩ := bc11 BR) | ((with_reducible refine gate_callee (f := 44) rfl ?_); refine gm (some 11) Tryd.func44 #[.agg #[.int .i64 2, .int .u64 r1, .string r2, .int .i64 r3, .int .u64 r4, .int .u64 r5, .int .u64 r6, .int .u64 r7, .int .u64 r8, .int .u64 r9, .int .u64 r10]] (record_Valid.calls k 2 r1 r2 r3 r4 r5 r6 r7 r8 r9 r10 true _ HV.out) ?_; clear rc0 rc1 rc2 rc3 rc4 rc5 rc6 rc7 rc8 rc9 rc10 rf0 rf1 rf2 rf3 rf4 rf5 rf6 rf7 rf8 rf9 rf10; intro W2 hb; have n0_ := Aside0.mk (Kd.R_below (ro HO) hb); have n1_ := bb BS hb; have n2_ := bb BR hb; have n3_ := bb BQ hb; have n4_ := bs HB hb; clear HO BS BR BQ HB; have HO := n0_; have BS := n1_; have BR := n2_; have BQ := n3_; have HB := n4_; clear n0_ n1_ n2_ n3_ n4_; clear hb; obtain ⟨sc0, sc1, sc2, sf0, sf1, sf2⟩ := bc3 BS; obtain ⟨rc0, rc1, rc2, rc3, rc4, rc5, rc6, rc7, rc8, rc9, rc10, rf0, rf1, rf2, rf3, rf4, rf5, rf6, rf7, rf8, rf9, rf10⟩ := bc11 BR))
  clear rc0 rc1 rc2 rc3 rc4 rc5 rc6 rc7 rc8 rc9 rc10 rf0 rf1 rf2 rf3 rf4 rf5 rf6 rf7 rf8 rf9 rf10 sc0 sc1 sc2 sf0 sf1 sf2
  have n0_ := Aside0.mk (Kd.R_drew HO.out)
  have n1_ := Aside0.mk (blk_drew BS.out)
  have n2_ := Aside0.mk (blk_drew BR.out)
  have n3_ := Aside0.mk (blk_drew BQ.out)
  have n4_ := Aside0.mk (below_drew1 HB.out)
  clear HO BS BR BQ HB
  have HO := n0_
  have BS := n1_
  have BR := n2_
  have BQ := n3_
  have HB := n4_
  clear n0_ n1_ n2_ n3_ n4_
  refine start_ (n := 11) (S := fun w' => w'.cell? ⟨gs, 0, none⟩ = some (.int .u64 a0) ∧ w'.cell? ⟨gs, 1, none⟩ = some (.int .u64 a1) ∧ w'.cell? ⟨gs, 2, none⟩ = some (.slice A l.length c) ∧ w'.cell? ⟨gr, 0, none⟩ = some (.int .i64 2) ∧ w'.cell? ⟨gr, 1, none⟩ = some (.int .u64 r1) ∧ w'.cell? ⟨gr, 2, none⟩ = some (.string r2) ∧ w'.cell? ⟨gr, 3, none⟩ = some (.int .i64 r3) ∧ w'.cell? ⟨gr, 4, none⟩ = some (.int .u64 r4) ∧ w'.cell? ⟨gr, 5, none⟩ = some (.int .u64 r5) ∧ w'.cell? ⟨gr, 6, none⟩ = some (.int .u64 r6) ∧ w'.cell? ⟨gr, 7, none⟩ = some (.int .u64 r7) ∧ w'.cell? ⟨gr, 8, none⟩ = some (.int .u64 r8) ∧ w'.cell? ⟨gr, 9, none⟩ = some (.int .u64 r9) ∧ w'.cell? ⟨gr, 10, none⟩ = some (.int .u64 r10)) (ds := []) #[false, false, false, false, false, false, false, false, false, false, false] (by kernel_rfl) rfl rfl ⟨(blk_cell BS.out 0).trans rfl, (blk_cell BS.out 1).trans rfl, (blk_cell BS.out 2).trans rfl, (blk_cell BR.out 0).trans rfl, (blk_cell BR.out 1).trans rfl, (blk_cell BR.out 2).trans rfl, (blk_cell BR.out 3).trans rfl, (blk_cell BR.out 4).trans rfl, (blk_cell BR.out 5).trans rfl, (blk_cell BR.out 6).trans rfl, (blk_cell BR.out 7).trans rfl, (blk_cell BR.out 8).trans rfl, (blk_cell BR.out 9).trans rfl, (blk_cell BR.out 10).trans rfl⟩ (fun hHeld => ?_); refine with_tabW state_step.tab5 state_step.bits5 (fun HT_ HW_ => ?_)
  generalize W2.drew = W3 at HO BS BR BQ HB hHeld ⊢
  refine chain_ (fuel := 6) [(0, 0, some 27), (1, 0, some 28), (3, 0, some 30), (2, 1, some 29), (4, 1, some 31)] #[true, true, true, true, true, false, false, false, false, false, false] HT_.out HW_.out (by kernel_rfl) (fun _ _ _ _ _ h => h) (Or.inr hHeld) rfl ?_
  (iterate 3 refine lkP ?_); (iterate 2 refine lkT ?_); refine .nil ?_
  refine one_ (i := 5) (N := some 32) #[true, true, true, true, true, true, false, false, false, false, false] rfl rfl (one_of HT_.out (by kernel_rfl)) (by decide) (fun K hK => ?_)
  refine ge Tryd.func11 #[.agg #[.int .u64 a0, .int .u64 a1, .slice A l.length c], .string r2] ?_
  with_reducible refine (state_Find.calls a0 a1 _ _ l r2 t true _ ?side1 ?side2 HF.out).mono ?_
  (case side1 => exact co (Kd.R_reads' HO.out).2.2)
  (case side2 => exact (Kd.R_reads' HO.out).2.1)
  rintro e W4 ⟨rfl, hb⟩
  refine ⟨_, rfl, ?_⟩
  have n0_ := Aside0.mk (Kd.R_below (ro HO) hb)
  have n1_ := bb BS hb
  have n2_ := bb BR hb
  have n3_ := bb BQ hb
  have n4_ := bs HB hb
  clear HO BS BR BQ HB
  have HO := n0_
  have BS := n1_
  have BR := n2_
  have BQ := n3_
  have HB := n4_
  clear n0_ n1_ n2_ n3_ n4_
  clear hb
  refine hK.out _ _ ⟨(blk_cell BS.out 0).trans rfl, (blk_cell BS.out 1).trans rfl, (blk_cell BS.out 2).trans rfl, (blk_cell BR.out 0).trans rfl, (blk_cell BR.out 1).trans rfl, (blk_cell BR.out 2).trans rfl, (blk_cell BR.out 3).trans rfl, (blk_cell BR.out 4).trans rfl, (blk_cell BR.out 5).trans rfl, (blk_cell BR.out 6).trans rfl, (blk_cell BR.out 7).trans rfl, (blk_cell BR.out 8).trans rfl, (blk_cell BR.out 9).trans rfl, (blk_cell BR.out 10).trans rfl⟩ (fun hHeld => ?_)
  clear hK K
  refine norm_ (a' := ?_) ?_ ?_
  rotate_left
  · show Act.put _ (some 32) _ = _
    simp only [Act.put, List.setIfInBounds_toArray, List.set_cons_zero, List.set_cons_succ, i64_w, i32_w]
    rfl
  refine chain_ (fuel := 0) [(6, 0, some 26), (7, 0, some 33), (8, 0, some 34), (9, 0, some 7), (10, 0, some 8)] #[true, true, true, true, true, true, true, true, true, true, true] HT_.out HW_.out (by kernel_rfl) (fun _ _ _ _ _ h => h) (Or.inl (by decide)) rfl ?_
  (iterate 5 refine lkP ?_); refine .nil ?_
  refine done_ (done_of HT_.out (by kernel_rfl)) ?_
  clear hHeld HT_ HW_
  obtain ⟨sc0, sc1, sc2, sf0, sf1, sf2⟩ := bc3 BS; obtain ⟨rc0, rc1, rc2, rc3, rc4, rc5, rc6, rc7, rc8, rc9, rc10, rf0, rf1, rf2, rf3, rf4, rf5, rf6, rf7, rf8, rf9, rf10⟩ := bc11 BR
  have hw_ : IntKind.i64.wrap (t + 1) = t + 1 := state_step.up_ t T0.out T1.out (Kd.R_reads' HO.out).2.2.2.1
  go_wp2_with fail
  clear hw_
  clear rc0 rc1 rc2 rc3 rc4 rc5 rc6 rc7 rc8 rc9 rc10 rf0 rf1 rf2 rf3 rf4 rf5 rf6 rf7 rf8 rf9 rf10 sc0 sc1 sc2 sf0 sf1 sf2
  refine (state_step.del_ (w := w) t (t + 1) (ro HO) T0.out T1.out rfl (bw HB)).mono ?_
  rintro e W6 ⟨v6, rfl, ho, hb, hg⟩
  rw [← NY.out] at ho
  have n1_ := Aside0.mk (blk_grown (g := gs) (o := .cells #[.int .u64 a0, .int .u64 a1, .slice A l.length c] 27 (0, 0)) (bk BS) hg (Kd.R_ne HO.out BS.out (by decide)))
  have n2_ := Aside0.mk (blk_grown (g := gr) (o := .cells #[.int .i64 2, .int .u64 r1, .string r2, .int .i64 r3, .int .u64 r4, .int .u64 r5, .int .u64 r6, .int .u64 r7, .int .u64 r8, .int .u64 r9, .int .u64 r10] 39 (0, 0)) (bk BR) hg (Kd.R_ne HO.out BR.out (by decide)))
  have n4_ := Aside0.mk (blk_grown (g := gq) (o := .cells oq tq (0, 0)) (bk BQ) hg (Kd.R_ne HO.out BQ.out TQ.out))
  clear HO BS BR BQ HB
  have HO := Aside0.mk ho
  have BS := n1_
  have BR := n2_
  have BQ := n4_
  have HB := Aside0.mk hb
  clear ho hb hg n1_ n2_ n4_
  obtain ⟨A2, c2, e2⟩ := Kd.R_slice HO.out
  subst e2
  obtain ⟨sc0, sc1, sc2, sf0, sf1, sf2⟩ := bc3 BS; obtain ⟨rc0, rc1, rc2, rc3, rc4, rc5, rc6, rc7, rc8, rc9, rc10, rf0, rf1, rf2, rf3, rf4, rf5, rf6, rf7, rf8, rf9, rf10⟩ := bc11 BR
  have nbs := NB.out; have nbr := NB'.out
  go_wp2
  clear nbs nbr
  clear rc0 rc1 rc2 rc3 rc4 rc5 rc6 rc7 rc8 rc9 rc10 rf0 rf1 rf2 rf3 rf4 rf5 rf6 rf7 rf8 rf9 rf10 sc0 sc1 sc2 sf0 sf1 sf2
  have n0_ : Aside0 (Kd.R k56 56 ((W6.setCell ⟨gs, 2, none⟩ (.slice A2 y.length c2)).setCell ⟨gs, 0, none⟩ (.int .u64 n)) w.heap.size (fun _ => True) (.slice A2 y.length c2) y) := ⟨Kd.R_mono (Kd.R_far (p := ⟨gs, 0, none⟩) (Kd.R_far (p := ⟨gs, 2, none⟩) (Kd.R_types HO.out BS.out (by decide)) (fun _ hk => hk.2) _) (fun _ hk => hk.2) _) (fun _ hk => trivial)⟩
  have n1_ : Aside0 (((W6.setCell ⟨gs, 2, none⟩ (.slice A2 y.length c2)).setCell ⟨gs, 0, none⟩ (.int .u64 n)).heap[gs]? = some (.cells #[.int .u64 n, .int .u64 a1, .slice A2 y.length c2] 27 (0, 0))) := ⟨bk BS⟩
  have n2_ : Aside0 (((W6.setCell ⟨gs, 2, none⟩ (.slice A2 y.length c2)).setCell ⟨gs, 0, none⟩ (.int .u64 n)).heap[gr]? = some (.cells #[.int .i64 2, .int .u64 r1, .string r2, .int .i64 r3, .int .u64 r4, .int .u64 r5, .int .u64 r6, .int .u64 r7, .int .u64 r8, .int .u64 r9, .int .u64 r10] 39 (0, 0))) := ⟨bk BR⟩
  have n3_ : Aside0 (Below w.heap.size w ((W6.setCell ⟨gs, 2, none⟩ (.slice A2 y.length c2)).setCell ⟨gs, 0, none⟩ (.int .u64 n))) := ⟨bw HB⟩
  have n4_ : Aside0 (((W6.setCell ⟨gs, 2, none⟩ (.slice A2 y.length c2)).setCell ⟨gs, 0, none⟩ (.int .u64 n)).heap[gq]? = some (.cells oq tq (0, 0))) := ⟨blk_far (blk_far BQ.out NQ.out _) NQ.out _⟩
  generalize ((W6.setCell ⟨gs, 2, none⟩ (.slice A2 y.length c2)).setCell ⟨gs, 0, none⟩ (.int .u64 n)) = W6n at n0_ n1_ n2_ n3_ n4_ ⊢
  clear HO BS BR BQ HB
  have HO := n0_
  have BS := n1_
  have BR := n2_
  have HB := n3_
  have BQ := n4_
  clear n0_ n1_ n2_ n3_ n4_
  have n0_ := Aside0.mk (Kd.R_drew HO.out)
  have n1_ := Aside0.mk (blk_drew BS.out)
  have n2_ := Aside0.mk (blk_drew BR.out)
  have n3_ := Aside0.mk (blk_drew BQ.out)
  have n4_ := Aside0.mk (below_drew1 HB.out)
  clear HO BS BR BQ HB
  have HO := n0_
  have BS := n1_
  have BR := n2_
  have BQ := n3_
  have HB := n4_
  clear n0_ n1_ n2_ n3_ n4_
  refine start_ (n := 11) (S := fun w' => w'.cell? ⟨gs, 0, none⟩ = some (.int .u64 n) ∧ w'.cell? ⟨gs, 1, none⟩ = some (.int .u64 a1) ∧ w'.cell? ⟨gs, 2, none⟩ = some (.slice A2 y.length c2) ∧ w'.cell? ⟨gr, 0, none⟩ = some (.int .i64 2) ∧ w'.cell? ⟨gr, 1, none⟩ = some (.int .u64 r1) ∧ w'.cell? ⟨gr, 2, none⟩ = some (.string r2) ∧ w'.cell? ⟨gr, 3, none⟩ = some (.int .i64 r3) ∧ w'.cell? ⟨gr, 4, none⟩ = some (.int .u64 r4) ∧ w'.cell? ⟨gr, 5, none⟩ = some (.int .u64 r5) ∧ w'.cell? ⟨gr, 6, none⟩ = some (.int .u64 r6) ∧ w'.cell? ⟨gr, 7, none⟩ = some (.int .u64 r7) ∧ w'.cell? ⟨gr, 8, none⟩ = some (.int .u64 r8) ∧ w'.cell? ⟨gr, 9, none⟩ = some (.int .u64 r9) ∧ w'.cell? ⟨gr, 10, none⟩ = some (.int .u64 r10)) (ds := [10]) #[false, false, false, false, false, false, false, false, false, false, false] (by kernel_rfl) rfl rfl ⟨(blk_cell BS.out 0).trans rfl, (blk_cell BS.out 1).trans rfl, (blk_cell BS.out 2).trans rfl, (blk_cell BR.out 0).trans rfl, (blk_cell BR.out 1).trans rfl, (blk_cell BR.out 2).trans rfl, (blk_cell BR.out 3).trans rfl, (blk_cell BR.out 4).trans rfl, (blk_cell BR.out 5).trans rfl, (blk_cell BR.out 6).trans rfl, (blk_cell BR.out 7).trans rfl, (blk_cell BR.out 8).trans rfl, (blk_cell BR.out 9).trans rfl, (blk_cell BR.out 10).trans rfl⟩ (fun hHeld => ?_); refine with_tabW state_step.tab21 state_step.bits21 (fun HT_ HW_ => ?_)
  generalize W6n.drew = W6nd at HO BS BR BQ HB hHeld ⊢
  refine chain_ (fuel := 1) [(0, 0, some 120), (1, 0, some 121), (2, 0, some 122), (3, 0, some 123), (5, 0, some 125), (4, 1, some 124), (6, 1, some 126), (7, 0, some 127), (8, 0, some 128), (9, 0, some 129)] #[true, true, true, true, true, true, true, true, true, true, false] HT_.out HW_.out (by kernel_rfl) (fun _ _ _ _ _ h => h) (Or.inr hHeld) rfl ?_
  (iterate 5 refine lkP ?_); (iterate 2 refine lkT ?_); (iterate 3 refine lkP ?_); refine .nil ?_
  refine last_ (i := 10) (N := none) #[true, true, true, true, true, true, true, true, true, true, true] rfl rfl (one_of HT_.out (by kernel_rfl)) (by decide) (fun K hK => ?_)
  have hs_ : W6nd.cell? ⟨gs, 1, none⟩ = some (.int .u64 a1) := (blk_cell BS.out 1).trans rfl
  have hfs_ := blk_frozen BS.out 1
  refine skip_ (w1 := ?_) (by rfl) rfl ?_ ?_
  rotate_left
  · go_simp
    rfl
  refine hK.out _ _ ?_
  clear hK K
  refine done_ (done_of HT_.out (by kernel_rfl)) ?_
  go_wp2
  go_ret
  exact ⟨.slice A2 y.length c2, re, (bk BS), Kd.R_mono (Kd.R_far (p := ⟨gs, 1, none⟩) (Kd.R_types HO.out BS.out (by decide)) (fun _ hk => hk.2) _) (fun _ hk => trivial), blk_far BQ.out NQ.out _, bw HB⟩

set_option maxHeartbeats 8000000 in
set_option maxRecDepth 100000 in
theorem state_step.full [Errs] (w W : World) (hE : Sent w) (gs : Nat) (a0 a1 : Int) (A : Option Addr) (c : Nat) (l : List S56) (n : Int) (r1 : Int) (r2 : ByteArray) (r3 r4 r5 r6 r7 r8 r9 r10 : Int) (k : Nat) (t : Int) (hB : Below w.heap.size w W) (hgs : w.heap.size ≤ gs) (hblk : W.heap[gs]? = some (.cells #[.int .u64 a0, .int .u64 a1, .slice A l.length c] 27 (0, 0))) (hown : Kd.R k56 56 W w.heap.size (fun _ => True) (.slice A l.length c) l) (gq : Nat) (oq : Array Value) (tq : TypeId) (hbq : W.heap[gq]? = some (.cells oq tq (0, 0))) (htq : 56 ≠ tq) (hqs : gq ≠ gs) (hn : (n != IntKind.u64.wrap (a0 + 1)) = false) (hm : decide (4611686018427387904 < n) = false) (hf : state_Find.f a0 a1 l r2 = some (t, false)) (hv : record_Valid.f k 1 r1 r2 r3 r4 r5 r6 r7 r8 r9 r10 = some true) (hl : decide (4096 ≤ l.length) = true) (hl2 : decide (4096 ≤ (l.length : Int)) = true) :
    Calls Tryd.prog 36 #[.pointer (some ⟨gs, 0, none⟩), .int .u64 n, .agg #[.int .i64 1, .int .u64 r1, .string r2, .int .i64 r3, .int .u64 r4, .int .u64 r5, .int .u64 r6, .int .u64 r7, .int .u64 r8, .int .u64 r9, .int .u64 r10]] W fun e w' => ∃ v : Value, e = .returned (errW 3) ∧ w'.heap[gs]? = some (.cells #[.int .u64 a0, .int .u64 a1, v] 27 (0, 0)) ∧ Kd.R k56 56 w' w.heap.size (fun _ => True) v l ∧ w'.heap[gq]? = some (.cells oq tq (0, 0)) ∧ Below w.heap.size w w' := by
  have hu27 := Tryd.underlying27
  have hu39 := Tryd.underlying39
  have hu35 := Tryd.underlying35
  have hu56 := Tryd.underlying56
  have hu37 := Tryd.underlying37
  have HE := Aside0.mk hE
  have HB := Aside0.mk hB
  have BS := Aside0.mk hblk
  have GE := Aside0.mk hgs
  have HO := Aside0.mk hown
  have BQ := Aside0.mk hbq
  have TQ := Aside0.mk htq
  have NQ := Aside0.mk hqs
  clear hE hB hblk hgs hown hbq htq hqs
  have HV := Aside0.mk hv
  have HF := Aside0.mk hf
  clear hv hf
  go_enter Tryd.func36, Tryd.ntmps36
  go_wp2_with (first | ((with_reducible refine gate_dst (N := 5) rfl ?_); refine bx 5 #[.int .i64 1, .int .u64 r1, .string r2, .int .i64 r3, .int .u64 r4, .int .u64 r5, .int .u64 r6, .int .u64 r7, .int .u64 r8, .int .u64 r9, .int .u64 r10] 39 ?_; intro gr hg W1 hbox hb; have HO' := Aside0.mk (Kd.R_below (ro HO) hb); have BS' := bb BS hb; have BQ' := bb BQ hb; have HB' := bs HB hb; have BR := Aside0.mk hbox; have GR := sz HB hg; have NB := nl BS hg; have NB' := nr BS hg; clear HO BS BQ HB; have HO := HO'; have BS := BS'; have BQ := BQ'; have HB := HB'; clear HO' BS' BQ' HB' hb hbox hg; obtain ⟨rc0, rc1, rc2, rc3, rc4, rc5, rc6, rc7, rc8, rc9, rc10, rf0, rf1, rf2, rf3, rf4, rf5, rf6, rf7, rf8, rf9, rf10⟩ := bc11 BR) | ((with_reducible refine gate_callee (f := 44) rfl ?_); refine gm (some 11) Tryd.func44 #[.agg #[.int .i64 1, .int .u64 r1, .string r2, .int .i64 r3, .int .u64 r4, .int .u64 r5, .int .u64 r6, .int .u64 r7, .int .u64 r8, .int .u64 r9, .int .u64 r10]] (record_Valid.calls k 1 r1 r2 r3 r4 r5 r6 r7 r8 r9 r10 true _ HV.out) ?_; clear rc0 rc1 rc2 rc3 rc4 rc5 rc6 rc7 rc8 rc9 rc10 rf0 rf1 rf2 rf3 rf4 rf5 rf6 rf7 rf8 rf9 rf10; intro W2 hb; have n0_ := Aside0.mk (Kd.R_below (ro HO) hb); have n1_ := bb BS hb; have n2_ := bb BR hb; have n3_ := bb BQ hb; have n4_ := bs HB hb; clear HO BS BR BQ HB; have HO := n0_; have BS := n1_; have BR := n2_; have BQ := n3_; have HB := n4_; clear n0_ n1_ n2_ n3_ n4_; clear hb; obtain ⟨sc0, sc1, sc2, sf0, sf1, sf2⟩ := bc3 BS; obtain ⟨rc0, rc1, rc2, rc3, rc4, rc5, rc6, rc7, rc8, rc9, rc10, rf0, rf1, rf2, rf3, rf4, rf5, rf6, rf7, rf8, rf9, rf10⟩ := bc11 BR))
  clear rc0 rc1 rc2 rc3 rc4 rc5 rc6 rc7 rc8 rc9 rc10 rf0 rf1 rf2 rf3 rf4 rf5 rf6 rf7 rf8 rf9 rf10 sc0 sc1 sc2 sf0 sf1 sf2
  have n0_ := Aside0.mk (Kd.R_drew HO.out)
  have n1_ := Aside0.mk (blk_drew BS.out)
  have n2_ := Aside0.mk (blk_drew BR.out)
  have n3_ := Aside0.mk (blk_drew BQ.out)
  have n4_ := Aside0.mk (below_drew1 HB.out)
  clear HO BS BR BQ HB
  have HO := n0_
  have BS := n1_
  have BR := n2_
  have BQ := n3_
  have HB := n4_
  clear n0_ n1_ n2_ n3_ n4_
  refine start_ (n := 11) (S := fun w' => w'.cell? ⟨gs, 0, none⟩ = some (.int .u64 a0) ∧ w'.cell? ⟨gs, 1, none⟩ = some (.int .u64 a1) ∧ w'.cell? ⟨gs, 2, none⟩ = some (.slice A l.length c) ∧ w'.cell? ⟨gr, 0, none⟩ = some (.int .i64 1) ∧ w'.cell? ⟨gr, 1, none⟩ = some (.int .u64 r1) ∧ w'.cell? ⟨gr, 2, none⟩ = some (.string r2) ∧ w'.cell? ⟨gr, 3, none⟩ = some (.int .i64 r3) ∧ w'.cell? ⟨gr, 4, none⟩ = some (.int .u64 r4) ∧ w'.cell? ⟨gr, 5, none⟩ = some (.int .u64 r5) ∧ w'.cell? ⟨gr, 6, none⟩ = some (.int .u64 r6) ∧ w'.cell? ⟨gr, 7, none⟩ = some (.int .u64 r7) ∧ w'.cell? ⟨gr, 8, none⟩ = some (.int .u64 r8) ∧ w'.cell? ⟨gr, 9, none⟩ = some (.int .u64 r9) ∧ w'.cell? ⟨gr, 10, none⟩ = some (.int .u64 r10)) (ds := []) #[false, false, false, false, false, false, false, false, false, false, false] (by kernel_rfl) rfl rfl ⟨(blk_cell BS.out 0).trans rfl, (blk_cell BS.out 1).trans rfl, (blk_cell BS.out 2).trans rfl, (blk_cell BR.out 0).trans rfl, (blk_cell BR.out 1).trans rfl, (blk_cell BR.out 2).trans rfl, (blk_cell BR.out 3).trans rfl, (blk_cell BR.out 4).trans rfl, (blk_cell BR.out 5).trans rfl, (blk_cell BR.out 6).trans rfl, (blk_cell BR.out 7).trans rfl, (blk_cell BR.out 8).trans rfl, (blk_cell BR.out 9).trans rfl, (blk_cell BR.out 10).trans rfl⟩ (fun hHeld => ?_); refine with_tabW state_step.tab5 state_step.bits5 (fun HT_ HW_ => ?_)
  generalize W2.drew = W3 at HO BS BR BQ HB hHeld ⊢
  refine chain_ (fuel := 6) [(0, 0, some 27), (1, 0, some 28), (3, 0, some 30), (2, 1, some 29), (4, 1, some 31)] #[true, true, true, true, true, false, false, false, false, false, false] HT_.out HW_.out (by kernel_rfl) (fun _ _ _ _ _ h => h) (Or.inr hHeld) rfl ?_
  (iterate 3 refine lkP ?_); (iterate 2 refine lkT ?_); refine .nil ?_
  refine one_ (i := 5) (N := some 32) #[true, true, true, true, true, true, false, false, false, false, false] rfl rfl (one_of HT_.out (by kernel_rfl)) (by decide) (fun K hK => ?_)
  refine ge Tryd.func11 #[.agg #[.int .u64 a0, .int .u64 a1, .slice A l.length c], .string r2] ?_
  with_reducible refine (state_Find.calls a0 a1 _ _ l r2 t false _ ?side1 ?side2 HF.out).mono ?_
  (case side1 => exact co (Kd.R_reads' HO.out).2.2)
  (case side2 => exact (Kd.R_reads' HO.out).2.1)
  rintro e W4 ⟨rfl, hb⟩
  refine ⟨_, rfl, ?_⟩
  have n0_ := Aside0.mk (Kd.R_below (ro HO) hb)
  have n1_ := bb BS hb
  have n2_ := bb BR hb
  have n3_ := bb BQ hb
  have n4_ := bs HB hb
  clear HO BS BR BQ HB
  have HO := n0_
  have BS := n1_
  have BR := n2_
  have BQ := n3_
  have HB := n4_
  clear n0_ n1_ n2_ n3_ n4_
  clear hb
  refine hK.out _ _ ⟨(blk_cell BS.out 0).trans rfl, (blk_cell BS.out 1).trans rfl, (blk_cell BS.out 2).trans rfl, (blk_cell BR.out 0).trans rfl, (blk_cell BR.out 1).trans rfl, (blk_cell BR.out 2).trans rfl, (blk_cell BR.out 3).trans rfl, (blk_cell BR.out 4).trans rfl, (blk_cell BR.out 5).trans rfl, (blk_cell BR.out 6).trans rfl, (blk_cell BR.out 7).trans rfl, (blk_cell BR.out 8).trans rfl, (blk_cell BR.out 9).trans rfl, (blk_cell BR.out 10).trans rfl⟩ (fun hHeld => ?_)
  clear hK K
  refine norm_ (a' := ?_) ?_ ?_
  rotate_left
  · show Act.put _ (some 32) _ = _
    simp only [Act.put, List.setIfInBounds_toArray, List.set_cons_zero, List.set_cons_succ, i64_w, i32_w]
    rfl
  refine chain_ (fuel := 0) [(6, 0, some 26), (7, 0, some 33), (8, 0, some 34), (9, 0, some 7), (10, 0, some 8)] #[true, true, true, true, true, true, true, true, true, true, true] HT_.out HW_.out (by kernel_rfl) (fun _ _ _ _ _ h => h) (Or.inl (by decide)) rfl ?_
  (iterate 5 refine lkP ?_); refine .nil ?_
  refine done_ (done_of HT_.out (by kernel_rfl)) ?_
  clear hHeld HT_ HW_
  obtain ⟨sc0, sc1, sc2, sf0, sf1, sf2⟩ := bc3 BS; obtain ⟨rc0, rc1, rc2, rc3, rc4, rc5, rc6, rc7, rc8, rc9, rc10, rf0, rf1, rf2, rf3, rf4, rf5, rf6, rf7, rf8, rf9, rf10⟩ := bc11 BR
  go_wp2_with (first | ((with_reducible refine gate_dst (N := 51) rfl ?_); refine ld_err 3 1 (HE.out.below (bw HB)) ?_ rfl rfl (by decide) (by have := Errs.five; omega) rfl))
  go_ret
  exact ⟨.slice A l.length c, re, bk BS, by (with_reducible repeat (first | apply Kd.R_alloc | apply Kd.R_drewN | apply Kd.R_drew)); exact HO.out, bk BQ, bw HB⟩

set_option maxHeartbeats 8000000 in
set_option maxRecDepth 100000 in
theorem state_step.gap1 [Errs] (w W : World) (hE : Sent w) (gs : Nat) (a0 a1 : Int) (A : Option Addr) (c : Nat) (l : List S56) (n : Int) (r0 r1 : Int) (r2 : ByteArray) (r3 r4 r5 r6 r7 r8 r9 r10 : Int) (k : Nat) (t : Int) (u : Bool) (hB : Below w.heap.size w W) (hgs : w.heap.size ≤ gs) (hblk : W.heap[gs]? = some (.cells #[.int .u64 a0, .int .u64 a1, .slice A l.length c] 27 (0, 0))) (hown : Kd.R k56 56 W w.heap.size (fun _ => True) (.slice A l.length c) l) (gq : Nat) (oq : Array Value) (tq : TypeId) (hbq : W.heap[gq]? = some (.cells oq tq (0, 0))) (htq : 56 ≠ tq) (hqs : gq ≠ gs) (hv : record_Valid.f k r0 r1 r2 r3 r4 r5 r6 r7 r8 r9 r10 = some true) (hn : (n != IntKind.u64.wrap (a0 + 1)) = true) :
    Calls Tryd.prog 36 #[.pointer (some ⟨gs, 0, none⟩), .int .u64 n, .agg #[.int .i64 r0, .int .u64 r1, .string r2, .int .i64 r3, .int .u64 r4, .int .u64 r5, .int .u64 r6, .int .u64 r7, .int .u64 r8, .int .u64 r9, .int .u64 r10]] W fun e w' => ∃ v : Value, e = .returned (errW 2) ∧ w'.heap[gs]? = some (.cells #[.int .u64 a0, .int .u64 a1, v] 27 (0, 0)) ∧ Kd.R k56 56 w' w.heap.size (fun _ => True) v l ∧ w'.heap[gq]? = some (.cells oq tq (0, 0)) ∧ Below w.heap.size w w' := by
  have hu27 := Tryd.underlying27
  have hu39 := Tryd.underlying39
  have hu35 := Tryd.underlying35
  have hu56 := Tryd.underlying56
  have hu37 := Tryd.underlying37
  have HE := Aside0.mk hE
  have HB := Aside0.mk hB
  have BS := Aside0.mk hblk
  have GE := Aside0.mk hgs
  have HO := Aside0.mk hown
  have BQ := Aside0.mk hbq
  have TQ := Aside0.mk htq
  have NQ := Aside0.mk hqs
  clear hE hB hblk hgs hown hbq htq hqs
  have HV := Aside0.mk hv
  clear hv
  go_enter Tryd.func36, Tryd.ntmps36
  go_wp2_with (first | ((with_reducible refine gate_dst (N := 5) rfl ?_); refine bx 5 #[.int .i64 r0, .int .u64 r1, .string r2, .int .i64 r3, .int .u64 r4, .int .u64 r5, .int .u64 r6, .int .u64 r7, .int .u64 r8, .int .u64 r9, .int .u64 r10] 39 ?_; intro gr hg W1 hbox hb; have HO' := Aside0.mk (Kd.R_below (ro HO) hb); have BS' := bb BS hb; have BQ' := bb BQ hb; have HB' := bs HB hb; have BR := Aside0.mk hbox; have GR := sz HB hg; have NB := nl BS hg; have NB' := nr BS hg; clear HO BS BQ HB; have HO := HO'; have BS := BS'; have BQ := BQ'; have HB := HB'; clear HO' BS' BQ' HB' hb hbox hg; obtain ⟨rc0, rc1, rc2, rc3, rc4, rc5, rc6, rc7, rc8, rc9, rc10, rf0, rf1, rf2, rf3, rf4, rf5, rf6, rf7, rf8, rf9, rf10⟩ := bc11 BR) | ((with_reducible refine gate_callee (f := 44) rfl ?_); refine gm (some 11) Tryd.func44 #[.agg #[.int .i64 r0, .int .u64 r1, .string r2, .int .i64 r3, .int .u64 r4, .int .u64 r5, .int .u64 r6, .int .u64 r7, .int .u64 r8, .int .u64 r9, .int .u64 r10]] (record_Valid.calls k r0 r1 r2 r3 r4 r5 r6 r7 r8 r9 r10 true _ HV.out) ?_; clear rc0 rc1 rc2 rc3 rc4 rc5 rc6 rc7 rc8 rc9 rc10 rf0 rf1 rf2 rf3 rf4 rf5 rf6 rf7 rf8 rf9 rf10; intro W2 hb; have n0_ := Aside0.mk (Kd.R_below (ro HO) hb); have n1_ := bb BS hb; have n2_ := bb BR hb; have n3_ := bb BQ hb; have n4_ := bs HB hb; clear HO BS BR BQ HB; have HO := n0_; have BS := n1_; have BR := n2_; have BQ := n3_; have HB := n4_; clear n0_ n1_ n2_ n3_ n4_; clear hb; obtain ⟨sc0, sc1, sc2, sf0, sf1, sf2⟩ := bc3 BS; obtain ⟨rc0, rc1, rc2, rc3, rc4, rc5, rc6, rc7, rc8, rc9, rc10, rf0, rf1, rf2, rf3, rf4, rf5, rf6, rf7, rf8, rf9, rf10⟩ := bc11 BR) | ((with_reducible refine gate_dst (N := 25) rfl ?_); refine ld_err 2 2 (HE.out.below (bw HB)) ?_ rfl rfl (by decide) (by have := Errs.five; omega) rfl))
  go_ret
  exact ⟨.slice A l.length c, re, bk BS, by (with_reducible repeat (first | apply Kd.R_alloc | apply Kd.R_drewN | apply Kd.R_drew)); exact HO.out, bk BQ, bw HB⟩

set_option maxHeartbeats 8000000 in
set_option maxRecDepth 100000 in
theorem state_step.gap2 [Errs] (w W : World) (hE : Sent w) (gs : Nat) (a0 a1 : Int) (A : Option Addr) (c : Nat) (l : List S56) (n : Int) (r0 r1 : Int) (r2 : ByteArray) (r3 r4 r5 r6 r7 r8 r9 r10 : Int) (k : Nat) (t : Int) (u : Bool) (hB : Below w.heap.size w W) (hgs : w.heap.size ≤ gs) (hblk : W.heap[gs]? = some (.cells #[.int .u64 a0, .int .u64 a1, .slice A l.length c] 27 (0, 0))) (hown : Kd.R k56 56 W w.heap.size (fun _ => True) (.slice A l.length c) l) (gq : Nat) (oq : Array Value) (tq : TypeId) (hbq : W.heap[gq]? = some (.cells oq tq (0, 0))) (htq : 56 ≠ tq) (hqs : gq ≠ gs) (hv : record_Valid.f k r0 r1 r2 r3 r4 r5 r6 r7 r8 r9 r10 = some true) (hn : (n != IntKind.u64.wrap (a0 + 1)) = false) (hm : decide (4611686018427387904 < n) = true) :
    Calls Tryd.prog 36 #[.pointer (some ⟨gs, 0, none⟩), .int .u64 n, .agg #[.int .i64 r0, .int .u64 r1, .string r2, .int .i64 r3, .int .u64 r4, .int .u64 r5, .int .u64 r6, .int .u64 r7, .int .u64 r8, .int .u64 r9, .int .u64 r10]] W fun e w' => ∃ v : Value, e = .returned (errW 2) ∧ w'.heap[gs]? = some (.cells #[.int .u64 a0, .int .u64 a1, v] 27 (0, 0)) ∧ Kd.R k56 56 w' w.heap.size (fun _ => True) v l ∧ w'.heap[gq]? = some (.cells oq tq (0, 0)) ∧ Below w.heap.size w w' := by
  have hu27 := Tryd.underlying27
  have hu39 := Tryd.underlying39
  have hu35 := Tryd.underlying35
  have hu56 := Tryd.underlying56
  have hu37 := Tryd.underlying37
  have HE := Aside0.mk hE
  have HB := Aside0.mk hB
  have BS := Aside0.mk hblk
  have GE := Aside0.mk hgs
  have HO := Aside0.mk hown
  have BQ := Aside0.mk hbq
  have TQ := Aside0.mk htq
  have NQ := Aside0.mk hqs
  clear hE hB hblk hgs hown hbq htq hqs
  have HV := Aside0.mk hv
  clear hv
  go_enter Tryd.func36, Tryd.ntmps36
  go_wp2_with (first | ((with_reducible refine gate_dst (N := 5) rfl ?_); refine bx 5 #[.int .i64 r0, .int .u64 r1, .string r2, .int .i64 r3, .int .u64 r4, .int .u64 r5, .int .u64 r6, .int .u64 r7, .int .u64 r8, .int .u64 r9, .int .u64 r10] 39 ?_; intro gr hg W1 hbox hb; have HO' := Aside0.mk (Kd.R_below (ro HO) hb); have BS' := bb BS hb; have BQ' := bb BQ hb; have HB' := bs HB hb; have BR := Aside0.mk hbox; have GR := sz HB hg; have NB := nl BS hg; have NB' := nr BS hg; clear HO BS BQ HB; have HO := HO'; have BS := BS'; have BQ := BQ'; have HB := HB'; clear HO' BS' BQ' HB' hb hbox hg; obtain ⟨rc0, rc1, rc2, rc3, rc4, rc5, rc6, rc7, rc8, rc9, rc10, rf0, rf1, rf2, rf3, rf4, rf5, rf6, rf7, rf8, rf9, rf10⟩ := bc11 BR) | ((with_reducible refine gate_callee (f := 44) rfl ?_); refine gm (some 11) Tryd.func44 #[.agg #[.int .i64 r0, .int .u64 r1, .string r2, .int .i64 r3, .int .u64 r4, .int .u64 r5, .int .u64 r6, .int .u64 r7, .int .u64 r8, .int .u64 r9, .int .u64 r10]] (record_Valid.calls k r0 r1 r2 r3 r4 r5 r6 r7 r8 r9 r10 true _ HV.out) ?_; clear rc0 rc1 rc2 rc3 rc4 rc5 rc6 rc7 rc8 rc9 rc10 rf0 rf1 rf2 rf3 rf4 rf5 rf6 rf7 rf8 rf9 rf10; intro W2 hb; have n0_ := Aside0.mk (Kd.R_below (ro HO) hb); have n1_ := bb BS hb; have n2_ := bb BR hb; have n3_ := bb BQ hb; have n4_ := bs HB hb; clear HO BS BR BQ HB; have HO := n0_; have BS := n1_; have BR := n2_; have BQ := n3_; have HB := n4_; clear n0_ n1_ n2_ n3_ n4_; clear hb; obtain ⟨sc0, sc1, sc2, sf0, sf1, sf2⟩ := bc3 BS; obtain ⟨rc0, rc1, rc2, rc3, rc4, rc5, rc6, rc7, rc8, rc9, rc10, rf0, rf1, rf2, rf3, rf4, rf5, rf6, rf7, rf8, rf9, rf10⟩ := bc11 BR) | ((with_reducible refine gate_dst (N := 25) rfl ?_); refine ld_err 2 2 (HE.out.below (bw HB)) ?_ rfl rfl (by decide) (by have := Errs.five; omega) rfl))
  go_ret
  exact ⟨.slice A l.length c, re, bk BS, by (with_reducible repeat (first | apply Kd.R_alloc | apply Kd.R_drewN | apply Kd.R_drew)); exact HO.out, bk BQ, bw HB⟩

set_option maxHeartbeats 8000000 in
set_option maxRecDepth 100000 in
theorem state_step.nocov [Errs] (w W : World) (hE : Sent w) (gs : Nat) (a0 a1 : Int) (A : Option Addr) (c : Nat) (l : List S56) (n : Int) (r1 : Int) (r2 : ByteArray) (r3 r4 r5 r6 r7 r8 r9 r10 : Int) (k : Nat) (i : Nat) (hB : Below w.heap.size w W) (hgs : w.heap.size ≤ gs) (hblk : W.heap[gs]? = some (.cells #[.int .u64 a0, .int .u64 a1, .slice A l.length c] 27 (0, 0))) (hown : Kd.R k56 56 W w.heap.size (fun _ => True) (.slice A l.length c) l) (gq : Nat) (oq : Array Value) (tq : TypeId) (hbq : W.heap[gq]? = some (.cells oq tq (0, 0))) (htq : 56 ≠ tq) (hqs : gq ≠ gs) (hn : (n != IntKind.u64.wrap (a0 + 1)) = false) (hm : decide (4611686018427387904 < n) = false) (hf : state_Find.f a0 a1 l r2 = some ((i : Int), true)) (hv : record_Valid.f k 3 r1 r2 r3 r4 r5 r6 r7 r8 r9 r10 = some true) (hi : i < l.length) (E : S56) (hel : l.getD i z56 = E) (hft : policy_Fits.f E.f1.f0 E.f1.f1 E.f1.f2 E.f1.f3 E.f1.f4 r8 r9 r10 = some true) (hcv : policy_Covers.f E.f1.f0 E.f1.f1 E.f1.f2 E.f1.f3 E.f1.f4 r8 r9 r10 E.f2.f0 E.f2.f1 E.f2.f2 = some false)  :
    Calls Tryd.prog 36 #[.pointer (some ⟨gs, 0, none⟩), .int .u64 n, .agg #[.int .i64 3, .int .u64 r1, .string r2, .int .i64 r3, .int .u64 r4, .int .u64 r5, .int .u64 r6, .int .u64 r7, .int .u64 r8, .int .u64 r9, .int .u64 r10]] W fun e w' => ∃ v : Value, e = .returned (errW 3) ∧ w'.heap[gs]? = some (.cells #[.int .u64 a0, .int .u64 a1, v] 27 (0, 0)) ∧ Kd.R k56 56 w' w.heap.size (fun _ => True) v l ∧ w'.heap[gq]? = some (.cells oq tq (0, 0)) ∧ Below w.heap.size w w' := by
  have hu27 := Tryd.underlying27
  have hu39 := Tryd.underlying39
  have hu35 := Tryd.underlying35
  have hu56 := Tryd.underlying56
  have hu37 := Tryd.underlying37
  have HE := Aside0.mk hE
  have HB := Aside0.mk hB
  have BS := Aside0.mk hblk
  have GE := Aside0.mk hgs
  have HO := Aside0.mk hown
  have BQ := Aside0.mk hbq
  have TQ := Aside0.mk htq
  have NQ := Aside0.mk hqs
  clear hE hB hblk hgs hown hbq htq hqs
  have HV := Aside0.mk hv
  have HF := Aside0.mk hf
  clear hv hf
  have HFT := Aside0.mk hft
  clear hft
  have HCV := Aside0.mk hcv
  clear hcv
  obtain ⟨g, cur, eA, hgb, hgh, hcu⟩ := state_step.el_ HO.out rfl i hi
  subst eA
  rw [hel] at hcu
  have HEL := Aside0.mk hel; have HI := Aside0.mk hi; have GG := Aside0.mk hgb; have BG := Aside0.mk hgh; have HC := Aside0.mk hcu; clear hel hi hgb hgh hcu
  go_enter Tryd.func36, Tryd.ntmps36
  go_wp2_with (first | ((with_reducible refine gate_dst (N := 5) rfl ?_); refine bx 5 #[.int .i64 3, .int .u64 r1, .string r2, .int .i64 r3, .int .u64 r4, .int .u64 r5, .int .u64 r6, .int .u64 r7, .int .u64 r8, .int .u64 r9, .int .u64 r10] 39 ?_; intro gr hg W1 hbox hb; have HO' := Aside0.mk (Kd.R_below (ro HO) hb); have BS' := bb BS hb; have BG' := bb BG hb; have BQ' := bb BQ hb; have HB' := bs HB hb; have BR := Aside0.mk hbox; have GR := sz HB hg; have NB := nl BS hg; have NB' := nr BS hg; clear HO BS BQ HB BG; have BG := BG'; have HO := HO'; have BS := BS'; have BQ := BQ'; have HB := HB'; clear HO' BS' BQ' HB' BG' hb hbox hg; obtain ⟨rc0, rc1, rc2, rc3, rc4, rc5, rc6, rc7, rc8, rc9, rc10, rf0, rf1, rf2, rf3, rf4, rf5, rf6, rf7, rf8, rf9, rf10⟩ := bc11 BR) | ((with_reducible refine gate_callee (f := 44) rfl ?_); refine gm (some 11) Tryd.func44 #[.agg #[.int .i64 3, .int .u64 r1, .string r2, .int .i64 r3, .int .u64 r4, .int .u64 r5, .int .u64 r6, .int .u64 r7, .int .u64 r8, .int .u64 r9, .int .u64 r10]] (record_Valid.calls k 3 r1 r2 r3 r4 r5 r6 r7 r8 r9 r10 true _ HV.out) ?_; clear rc0 rc1 rc2 rc3 rc4 rc5 rc6 rc7 rc8 rc9 rc10 rf0 rf1 rf2 rf3 rf4 rf5 rf6 rf7 rf8 rf9 rf10; intro W2 hb; have n0_ := Aside0.mk (Kd.R_below (ro HO) hb); have n1_ := bb BS hb; have n2_ := bb BR hb; have n3_ := bb BQ hb; have n4_ := bs HB hb; have n5_ := bb BG hb; clear HO BS BR BQ HB BG; have HO := n0_; have BS := n1_; have BR := n2_; have BQ := n3_; have HB := n4_; have BG := n5_; clear n0_ n1_ n2_ n3_ n4_ n5_; clear hb; obtain ⟨sc0, sc1, sc2, sf0, sf1, sf2⟩ := bc3 BS; obtain ⟨rc0, rc1, rc2, rc3, rc4, rc5, rc6, rc7, rc8, rc9, rc10, rf0, rf1, rf2, rf3, rf4, rf5, rf6, rf7, rf8, rf9, rf10⟩ := bc11 BR))
  clear rc0 rc1 rc2 rc3 rc4 rc5 rc6 rc7 rc8 rc9 rc10 rf0 rf1 rf2 rf3 rf4 rf5 rf6 rf7 rf8 rf9 rf10 sc0 sc1 sc2 sf0 sf1 sf2
  have n0_ := Aside0.mk (Kd.R_drew HO.out)
  have n1_ := Aside0.mk (blk_drew BS.out)
  have n2_ := Aside0.mk (blk_drew BR.out)
  have n3_ := Aside0.mk (blk_drew BQ.out)
  have n4_ := Aside0.mk (below_drew1 HB.out)
  have n5_ := Aside0.mk (blk_drew BG.out)
  clear HO BS BR BQ HB BG
  have HO := n0_
  have BS := n1_
  have BR := n2_
  have BQ := n3_
  have HB := n4_
  have BG := n5_
  clear n0_ n1_ n2_ n3_ n4_ n5_
  refine start_ (n := 11) (S := fun w' => w'.cell? ⟨gs, 0, none⟩ = some (.int .u64 a0) ∧ w'.cell? ⟨gs, 1, none⟩ = some (.int .u64 a1) ∧ w'.cell? ⟨gs, 2, none⟩ = some (.slice (some ⟨g, 0, none⟩) l.length c) ∧ w'.cell? ⟨gr, 0, none⟩ = some (.int .i64 3) ∧ w'.cell? ⟨gr, 1, none⟩ = some (.int .u64 r1) ∧ w'.cell? ⟨gr, 2, none⟩ = some (.string r2) ∧ w'.cell? ⟨gr, 3, none⟩ = some (.int .i64 r3) ∧ w'.cell? ⟨gr, 4, none⟩ = some (.int .u64 r4) ∧ w'.cell? ⟨gr, 5, none⟩ = some (.int .u64 r5) ∧ w'.cell? ⟨gr, 6, none⟩ = some (.int .u64 r6) ∧ w'.cell? ⟨gr, 7, none⟩ = some (.int .u64 r7) ∧ w'.cell? ⟨gr, 8, none⟩ = some (.int .u64 r8) ∧ w'.cell? ⟨gr, 9, none⟩ = some (.int .u64 r9) ∧ w'.cell? ⟨gr, 10, none⟩ = some (.int .u64 r10)) (ds := []) #[false, false, false, false, false, false, false, false, false, false, false] (by kernel_rfl) rfl rfl ⟨(blk_cell BS.out 0).trans rfl, (blk_cell BS.out 1).trans rfl, (blk_cell BS.out 2).trans rfl, (blk_cell BR.out 0).trans rfl, (blk_cell BR.out 1).trans rfl, (blk_cell BR.out 2).trans rfl, (blk_cell BR.out 3).trans rfl, (blk_cell BR.out 4).trans rfl, (blk_cell BR.out 5).trans rfl, (blk_cell BR.out 6).trans rfl, (blk_cell BR.out 7).trans rfl, (blk_cell BR.out 8).trans rfl, (blk_cell BR.out 9).trans rfl, (blk_cell BR.out 10).trans rfl⟩ (fun hHeld => ?_); refine with_tabW state_step.tab5 state_step.bits5 (fun HT_ HW_ => ?_)
  generalize W2.drew = W3 at HO BS BR BQ HB BG hHeld ⊢
  refine chain_ (fuel := 6) [(0, 0, some 27), (1, 0, some 28), (3, 0, some 30), (2, 1, some 29), (4, 1, some 31)] #[true, true, true, true, true, false, false, false, false, false, false] HT_.out HW_.out (by kernel_rfl) (fun _ _ _ _ _ h => h) (Or.inr hHeld) rfl ?_
  (iterate 3 refine lkP ?_); (iterate 2 refine lkT ?_); refine .nil ?_
  refine one_ (i := 5) (N := some 32) #[true, true, true, true, true, true, false, false, false, false, false] rfl rfl (one_of HT_.out (by kernel_rfl)) (by decide) (fun K hK => ?_)
  refine ge Tryd.func11 #[.agg #[.int .u64 a0, .int .u64 a1, .slice (some ⟨g, 0, none⟩) l.length c], .string r2] ?_
  with_reducible refine (state_Find.calls a0 a1 _ _ l r2 (i : Int) true _ ?side1 ?side2 HF.out).mono ?_
  (case side1 => exact co (Kd.R_reads' HO.out).2.2)
  (case side2 => exact (Kd.R_reads' HO.out).2.1)
  rintro e W4 ⟨rfl, hb⟩
  refine ⟨_, rfl, ?_⟩
  have n0_ := Aside0.mk (Kd.R_below (ro HO) hb)
  have n1_ := bb BS hb
  have n2_ := bb BR hb
  have n3_ := bb BQ hb
  have n4_ := bs HB hb
  have n5_ := bb BG hb
  clear HO BS BR BQ HB BG
  have HO := n0_
  have BS := n1_
  have BR := n2_
  have BQ := n3_
  have HB := n4_
  have BG := n5_
  clear n0_ n1_ n2_ n3_ n4_ n5_
  clear hb
  refine hK.out _ _ ⟨(blk_cell BS.out 0).trans rfl, (blk_cell BS.out 1).trans rfl, (blk_cell BS.out 2).trans rfl, (blk_cell BR.out 0).trans rfl, (blk_cell BR.out 1).trans rfl, (blk_cell BR.out 2).trans rfl, (blk_cell BR.out 3).trans rfl, (blk_cell BR.out 4).trans rfl, (blk_cell BR.out 5).trans rfl, (blk_cell BR.out 6).trans rfl, (blk_cell BR.out 7).trans rfl, (blk_cell BR.out 8).trans rfl, (blk_cell BR.out 9).trans rfl, (blk_cell BR.out 10).trans rfl⟩ (fun hHeld => ?_)
  clear hK K
  refine norm_ (a' := ?_) ?_ ?_
  rotate_left
  · show Act.put _ (some 32) _ = _
    simp only [Act.put, List.setIfInBounds_toArray, List.set_cons_zero, List.set_cons_succ, i64_w, i32_w]
    rfl
  refine chain_ (fuel := 0) [(6, 0, some 26), (7, 0, some 33), (8, 0, some 34), (9, 0, some 7), (10, 0, some 8)] #[true, true, true, true, true, true, true, true, true, true, true] HT_.out HW_.out (by kernel_rfl) (fun _ _ _ _ _ h => h) (Or.inl (by decide)) rfl ?_
  (iterate 5 refine lkP ?_); refine .nil ?_
  refine done_ (done_of HT_.out (by kernel_rfl)) ?_
  clear hHeld HT_ HW_
  obtain ⟨sc0, sc1, sc2, sf0, sf1, sf2⟩ := bc3 BS; obtain ⟨rc0, rc1, rc2, rc3, rc4, rc5, rc6, rc7, rc8, rc9, rc10, rf0, rf1, rf2, rf3, rf4, rf5, rf6, rf7, rf8, rf9, rf10⟩ := bc11 BR
  have hi1 := HI.out
  have hi2 : (i : Int) < (l.length : Int) := by omega
  go_wp2
  clear hi1 hi2
  clear rc0 rc1 rc2 rc3 rc4 rc5 rc6 rc7 rc8 rc9 rc10 rf0 rf1 rf2 rf3 rf4 rf5 rf6 rf7 rf8 rf9 rf10 sc0 sc1 sc2 sf0 sf1 sf2
  have n0_ := Aside0.mk (Kd.R_drew HO.out)
  have n1_ := Aside0.mk (blk_drew BS.out)
  have n2_ := Aside0.mk (blk_drew BR.out)
  have n3_ := Aside0.mk (blk_drew BQ.out)
  have n4_ := Aside0.mk (below_drew1 HB.out)
  have n5_ := Aside0.mk (blk_drew BG.out)
  clear HO BS BR BQ HB BG
  have HO := n0_
  have BS := n1_
  have BR := n2_
  have BQ := n3_
  have HB := n4_
  have BG := n5_
  clear n0_ n1_ n2_ n3_ n4_ n5_
  refine start_ (n := 22) (S := fun w' => w'.cell? ⟨gr, 0, none⟩ = some (.int .i64 3) ∧ w'.cell? ⟨gr, 1, none⟩ = some (.int .u64 r1) ∧ w'.cell? ⟨gr, 2, none⟩ = some (.string r2) ∧ w'.cell? ⟨gr, 3, none⟩ = some (.int .i64 r3) ∧ w'.cell? ⟨gr, 4, none⟩ = some (.int .u64 r4) ∧ w'.cell? ⟨gr, 5, none⟩ = some (.int .u64 r5) ∧ w'.cell? ⟨gr, 6, none⟩ = some (.int .u64 r6) ∧ w'.cell? ⟨gr, 7, none⟩ = some (.int .u64 r7) ∧ w'.cell? ⟨gr, 8, none⟩ = some (.int .u64 r8) ∧ w'.cell? ⟨gr, 9, none⟩ = some (.int .u64 r9) ∧ w'.cell? ⟨gr, 10, none⟩ = some (.int .u64 r10) ∧ w'.cell? ⟨g, i * 9 + 1, none⟩ = some (.int .i64 E.f1.f0) ∧ w'.cell? ⟨g, i * 9 + 2, none⟩ = some (.int .u64 E.f1.f1) ∧ w'.cell? ⟨g, i * 9 + 3, none⟩ = some (.int .u64 E.f1.f2) ∧ w'.cell? ⟨g, i * 9 + 4, none⟩ = some (.int .u64 E.f1.f3) ∧ w'.cell? ⟨g, i * 9 + 5, none⟩ = some (.int .u64 E.f1.f4) ∧ w'.cell? ⟨g, i * 9 + 6, none⟩ = some (.int .u64 E.f2.f0) ∧ w'.cell? ⟨g, i * 9 + 7, none⟩ = some (.int .u64 E.f2.f1) ∧ w'.cell? ⟨g, i * 9 + 8, none⟩ = some (.int .u64 E.f2.f2)) (ds := []) #[false, false, false, false, false, false, false, false, false, false, false, false, false, false, false, false, false, false, false, false, false, false] (by kernel_rfl) rfl rfl ⟨(blk_cell BR.out 0).trans rfl, (blk_cell BR.out 1).trans rfl, (blk_cell BR.out 2).trans rfl, (blk_cell BR.out 3).trans rfl, (blk_cell BR.out 4).trans rfl, (blk_cell BR.out 5).trans rfl, (blk_cell BR.out 6).trans rfl, (blk_cell BR.out 7).trans rfl, (blk_cell BR.out 8).trans rfl, (blk_cell BR.out 9).trans rfl, (blk_cell BR.out 10).trans rfl, (blk_cell BG.out _).trans ((HC.out 1 (by decide)).trans rfl), (blk_cell BG.out _).trans ((HC.out 2 (by decide)).trans rfl), (blk_cell BG.out _).trans ((HC.out 3 (by decide)).trans rfl), (blk_cell BG.out _).trans ((HC.out 4 (by decide)).trans rfl), (blk_cell BG.out _).trans ((HC.out 5 (by decide)).trans rfl), (blk_cell BG.out _).trans ((HC.out 6 (by decide)).trans rfl), (blk_cell BG.out _).trans ((HC.out 7 (by decide)).trans rfl), (blk_cell BG.out _).trans ((HC.out 8 (by decide)).trans rfl)⟩ (fun hHeld => ?_); refine with_tabW state_step.tab17 state_step.bits17 (fun HT_ HW_ => ?_)
  generalize W4.drew = W5 at HO BS BR BQ HB BG hHeld ⊢
  refine chain_ (fuel := 16) [(0, 0, some 88), (1, 0, some 89), (2, 0, some 90), (4, 0, some 92), (3, 1, some 91), (5, 1, some 93)] #[true, true, true, true, true, true, false, false, false, false, false, false, false, false, false, false, false, false, false, false, false, false] HT_.out HW_.out (by kernel_rfl) (fun _ _ _ _ _ h => h) (Or.inr hHeld) rfl ?_
  (iterate 4 refine lkP ?_); (iterate 2 refine lkT ?_); refine .nil ?_
  refine one_ (i := 6) (N := some 94) #[true, true, true, true, true, true, true, false, false, false, false, false, false, false, false, false, false, false, false, false, false, false] rfl rfl (one_of HT_.out (by kernel_rfl)) (by decide) (fun K hK => ?_)
  refine ge Tryd.func29 #[.agg #[.int .i64 E.f1.f0, .int .u64 E.f1.f1, .int .u64 E.f1.f2, .int .u64 E.f1.f3, .int .u64 E.f1.f4], .agg #[.int .u64 r8, .int .u64 r9, .int .u64 r10]] ?_
  with_reducible refine (policy_Fits.calls E.f1.f0 E.f1.f1 E.f1.f2 E.f1.f3 E.f1.f4 r8 r9 r10 _ _ HFT.out).mono ?_
  rintro e W6 ⟨rfl, hb⟩
  refine ⟨_, rfl, ?_⟩
  have n0_ := Aside0.mk (Kd.R_below (ro HO) hb)
  have n1_ := bb BS hb
  have n2_ := bb BR hb
  have n3_ := bb BQ hb
  have n4_ := bs HB hb
  have n5_ := bb BG hb
  clear HO BS BR BQ HB BG
  have HO := n0_
  have BS := n1_
  have BR := n2_
  have BQ := n3_
  have HB := n4_
  have BG := n5_
  clear n0_ n1_ n2_ n3_ n4_ n5_
  clear hb
  refine hK.out _ _ ⟨(blk_cell BR.out 0).trans rfl, (blk_cell BR.out 1).trans rfl, (blk_cell BR.out 2).trans rfl, (blk_cell BR.out 3).trans rfl, (blk_cell BR.out 4).trans rfl, (blk_cell BR.out 5).trans rfl, (blk_cell BR.out 6).trans rfl, (blk_cell BR.out 7).trans rfl, (blk_cell BR.out 8).trans rfl, (blk_cell BR.out 9).trans rfl, (blk_cell BR.out 10).trans rfl, (blk_cell BG.out _).trans ((HC.out 1 (by decide)).trans rfl), (blk_cell BG.out _).trans ((HC.out 2 (by decide)).trans rfl), (blk_cell BG.out _).trans ((HC.out 3 (by decide)).trans rfl), (blk_cell BG.out _).trans ((HC.out 4 (by decide)).trans rfl), (blk_cell BG.out _).trans ((HC.out 5 (by decide)).trans rfl), (blk_cell BG.out _).trans ((HC.out 6 (by decide)).trans rfl), (blk_cell BG.out _).trans ((HC.out 7 (by decide)).trans rfl), (blk_cell BG.out _).trans ((HC.out 8 (by decide)).trans rfl)⟩ (fun hHeld => ?_)
  clear hK K
  refine norm_ (a' := ?_) ?_ ?_
  rotate_left
  · show Act.put _ (some 94) _ = _
    simp only [Act.put, List.setIfInBounds_toArray, List.set_cons_zero, List.set_cons_succ, i64_w, i32_w]
    rfl
  refine chain_ (fuel := 3) [(7, 0, some 95), (8, 0, some 96), (9, 0, some 97), (10, 0, some 98), (11, 0, some 99), (13, 0, some 101), (15, 0, some 103), (16, 0, some 104), (17, 0, some 105), (12, 1, some 100), (14, 1, some 102), (18, 1, some 106)] #[true, true, true, true, true, true, true, true, true, true, true, true, true, true, true, true, true, true, true, false, false, false] HT_.out HW_.out (by kernel_rfl) (fun _ _ _ _ _ h => h) (Or.inr hHeld) rfl ?_
  (iterate 9 refine lkP ?_); (iterate 3 refine lkT ?_); refine .nil ?_
  refine one_ (i := 19) (N := some 107) #[true, true, true, true, true, true, true, true, true, true, true, true, true, true, true, true, true, true, true, true, false, false] rfl rfl (one_of HT_.out (by kernel_rfl)) (by decide) (fun K hK => ?_)
  refine ge Tryd.func21 #[.agg #[.int .i64 E.f1.f0, .int .u64 E.f1.f1, .int .u64 E.f1.f2, .int .u64 E.f1.f3, .int .u64 E.f1.f4], .agg #[.int .u64 r8, .int .u64 r9, .int .u64 r10], .agg #[.int .u64 E.f2.f0, .int .u64 E.f2.f1, .int .u64 E.f2.f2]] ?_
  with_reducible refine (policy_Covers.calls E.f1.f0 E.f1.f1 E.f1.f2 E.f1.f3 E.f1.f4 r8 r9 r10 _ _ _ _ _ HCV.out).mono ?_
  rintro e W7 ⟨rfl, hb⟩
  refine ⟨_, rfl, ?_⟩
  have n0_ := Aside0.mk (Kd.R_below (ro HO) hb)
  have n1_ := bb BS hb
  have n2_ := bb BR hb
  have n3_ := bb BQ hb
  have n4_ := bs HB hb
  have n5_ := bb BG hb
  clear HO BS BR BQ HB BG
  have HO := n0_
  have BS := n1_
  have BR := n2_
  have BQ := n3_
  have HB := n4_
  have BG := n5_
  clear n0_ n1_ n2_ n3_ n4_ n5_
  clear hb
  refine hK.out _ _ ⟨(blk_cell BR.out 0).trans rfl, (blk_cell BR.out 1).trans rfl, (blk_cell BR.out 2).trans rfl, (blk_cell BR.out 3).trans rfl, (blk_cell BR.out 4).trans rfl, (blk_cell BR.out 5).trans rfl, (blk_cell BR.out 6).trans rfl, (blk_cell BR.out 7).trans rfl, (blk_cell BR.out 8).trans rfl, (blk_cell BR.out 9).trans rfl, (blk_cell BR.out 10).trans rfl, (blk_cell BG.out _).trans ((HC.out 1 (by decide)).trans rfl), (blk_cell BG.out _).trans ((HC.out 2 (by decide)).trans rfl), (blk_cell BG.out _).trans ((HC.out 3 (by decide)).trans rfl), (blk_cell BG.out _).trans ((HC.out 4 (by decide)).trans rfl), (blk_cell BG.out _).trans ((HC.out 5 (by decide)).trans rfl), (blk_cell BG.out _).trans ((HC.out 6 (by decide)).trans rfl), (blk_cell BG.out _).trans ((HC.out 7 (by decide)).trans rfl), (blk_cell BG.out _).trans ((HC.out 8 (by decide)).trans rfl)⟩ (fun hHeld => ?_)
  clear hK K
  refine norm_ (a' := ?_) ?_ ?_
  rotate_left
  · show Act.put _ (some 107) _ = _
    simp only [Act.put, List.setIfInBounds_toArray, List.set_cons_zero, List.set_cons_succ, i64_w, i32_w]
    rfl
  refine chain_ (fuel := 0) [(20, 0, some 108), (21, 0, some 109)] #[true, true, true, true, true, true, true, true, true, true, true, true, true, true, true, true, true, true, true, true, true, true] HT_.out HW_.out (by kernel_rfl) (fun _ _ _ _ _ h => h) (Or.inl (by decide)) rfl ?_
  (iterate 2 refine lkP ?_); refine .nil ?_
  refine done_ (done_of HT_.out (by kernel_rfl)) ?_
  clear hHeld HT_ HW_
  go_wp2_with (first | ((with_reducible refine gate_dst (N := 110) rfl ?_); refine ld_err 3 1 (HE.out.below (bw HB)) ?_ rfl rfl (by decide) (by have := Errs.five; omega) rfl))
  go_ret
  exact ⟨.slice (some ⟨g, 0, none⟩) l.length c, re, bk BS, by (with_reducible repeat (first | apply Kd.R_alloc | apply Kd.R_drewN | apply Kd.R_drew)); exact HO.out, bk BQ, bw HB⟩

set_option maxHeartbeats 8000000 in
set_option maxRecDepth 100000 in
theorem state_step.nofit [Errs] (w W : World) (hE : Sent w) (gs : Nat) (a0 a1 : Int) (A : Option Addr) (c : Nat) (l : List S56) (n : Int) (r1 : Int) (r2 : ByteArray) (r3 r4 r5 r6 r7 r8 r9 r10 : Int) (k : Nat) (i : Nat) (hB : Below w.heap.size w W) (hgs : w.heap.size ≤ gs) (hblk : W.heap[gs]? = some (.cells #[.int .u64 a0, .int .u64 a1, .slice A l.length c] 27 (0, 0))) (hown : Kd.R k56 56 W w.heap.size (fun _ => True) (.slice A l.length c) l) (gq : Nat) (oq : Array Value) (tq : TypeId) (hbq : W.heap[gq]? = some (.cells oq tq (0, 0))) (htq : 56 ≠ tq) (hqs : gq ≠ gs) (hn : (n != IntKind.u64.wrap (a0 + 1)) = false) (hm : decide (4611686018427387904 < n) = false) (hf : state_Find.f a0 a1 l r2 = some ((i : Int), true)) (hv : record_Valid.f k 3 r1 r2 r3 r4 r5 r6 r7 r8 r9 r10 = some true) (hi : i < l.length) (E : S56) (hel : l.getD i z56 = E) (hft : policy_Fits.f E.f1.f0 E.f1.f1 E.f1.f2 E.f1.f3 E.f1.f4 r8 r9 r10 = some false)  :
    Calls Tryd.prog 36 #[.pointer (some ⟨gs, 0, none⟩), .int .u64 n, .agg #[.int .i64 3, .int .u64 r1, .string r2, .int .i64 r3, .int .u64 r4, .int .u64 r5, .int .u64 r6, .int .u64 r7, .int .u64 r8, .int .u64 r9, .int .u64 r10]] W fun e w' => ∃ v : Value, e = .returned (errW 3) ∧ w'.heap[gs]? = some (.cells #[.int .u64 a0, .int .u64 a1, v] 27 (0, 0)) ∧ Kd.R k56 56 w' w.heap.size (fun _ => True) v l ∧ w'.heap[gq]? = some (.cells oq tq (0, 0)) ∧ Below w.heap.size w w' := by
  have hu27 := Tryd.underlying27
  have hu39 := Tryd.underlying39
  have hu35 := Tryd.underlying35
  have hu56 := Tryd.underlying56
  have hu37 := Tryd.underlying37
  have HE := Aside0.mk hE
  have HB := Aside0.mk hB
  have BS := Aside0.mk hblk
  have GE := Aside0.mk hgs
  have HO := Aside0.mk hown
  have BQ := Aside0.mk hbq
  have TQ := Aside0.mk htq
  have NQ := Aside0.mk hqs
  clear hE hB hblk hgs hown hbq htq hqs
  have HV := Aside0.mk hv
  have HF := Aside0.mk hf
  clear hv hf
  have HFT := Aside0.mk hft
  clear hft
  obtain ⟨g, cur, eA, hgb, hgh, hcu⟩ := state_step.el_ HO.out rfl i hi
  subst eA
  rw [hel] at hcu
  have HEL := Aside0.mk hel; have HI := Aside0.mk hi; have GG := Aside0.mk hgb; have BG := Aside0.mk hgh; have HC := Aside0.mk hcu; clear hel hi hgb hgh hcu
  go_enter Tryd.func36, Tryd.ntmps36
  go_wp2_with (first | ((with_reducible refine gate_dst (N := 5) rfl ?_); refine bx 5 #[.int .i64 3, .int .u64 r1, .string r2, .int .i64 r3, .int .u64 r4, .int .u64 r5, .int .u64 r6, .int .u64 r7, .int .u64 r8, .int .u64 r9, .int .u64 r10] 39 ?_; intro gr hg W1 hbox hb; have HO' := Aside0.mk (Kd.R_below (ro HO) hb); have BS' := bb BS hb; have BG' := bb BG hb; have BQ' := bb BQ hb; have HB' := bs HB hb; have BR := Aside0.mk hbox; have GR := sz HB hg; have NB := nl BS hg; have NB' := nr BS hg; clear HO BS BQ HB BG; have BG := BG'; have HO := HO'; have BS := BS'; have BQ := BQ'; have HB := HB'; clear HO' BS' BQ' HB' BG' hb hbox hg; obtain ⟨rc0, rc1, rc2, rc3, rc4, rc5, rc6, rc7, rc8, rc9, rc10, rf0, rf1, rf2, rf3, rf4, rf5, rf6, rf7, rf8, rf9, rf10⟩ := bc11 BR) | ((with_reducible refine gate_callee (f := 44) rfl ?_); refine gm (some 11) Tryd.func44 #[.agg #[.int .i64 3, .int .u64 r1, .string r2, .int .i64 r3, .int .u64 r4, .int .u64 r5, .int .u64 r6, .int .u64 r7, .int .u64 r8, .int .u64 r9, .int .u64 r10]] (record_Valid.calls k 3 r1 r2 r3 r4 r5 r6 r7 r8 r9 r10 true _ HV.out) ?_; clear rc0 rc1 rc2 rc3 rc4 rc5 rc6 rc7 rc8 rc9 rc10 rf0 rf1 rf2 rf3 rf4 rf5 rf6 rf7 rf8 rf9 rf10; intro W2 hb; have n0_ := Aside0.mk (Kd.R_below (ro HO) hb); have n1_ := bb BS hb; have n2_ := bb BR hb; have n3_ := bb BQ hb; have n4_ := bs HB hb; have n5_ := bb BG hb; clear HO BS BR BQ HB BG; have HO := n0_; have BS := n1_; have BR := n2_; have BQ := n3_; have HB := n4_; have BG := n5_; clear n0_ n1_ n2_ n3_ n4_ n5_; clear hb; obtain ⟨sc0, sc1, sc2, sf0, sf1, sf2⟩ := bc3 BS; obtain ⟨rc0, rc1, rc2, rc3, rc4, rc5, rc6, rc7, rc8, rc9, rc10, rf0, rf1, rf2, rf3, rf4, rf5, rf6, rf7, rf8, rf9, rf10⟩ := bc11 BR))
  clear rc0 rc1 rc2 rc3 rc4 rc5 rc6 rc7 rc8 rc9 rc10 rf0 rf1 rf2 rf3 rf4 rf5 rf6 rf7 rf8 rf9 rf10 sc0 sc1 sc2 sf0 sf1 sf2
  have n0_ := Aside0.mk (Kd.R_drew HO.out)
  have n1_ := Aside0.mk (blk_drew BS.out)
  have n2_ := Aside0.mk (blk_drew BR.out)
  have n3_ := Aside0.mk (blk_drew BQ.out)
  have n4_ := Aside0.mk (below_drew1 HB.out)
  have n5_ := Aside0.mk (blk_drew BG.out)
  clear HO BS BR BQ HB BG
  have HO := n0_
  have BS := n1_
  have BR := n2_
  have BQ := n3_
  have HB := n4_
  have BG := n5_
  clear n0_ n1_ n2_ n3_ n4_ n5_
  refine start_ (n := 11) (S := fun w' => w'.cell? ⟨gs, 0, none⟩ = some (.int .u64 a0) ∧ w'.cell? ⟨gs, 1, none⟩ = some (.int .u64 a1) ∧ w'.cell? ⟨gs, 2, none⟩ = some (.slice (some ⟨g, 0, none⟩) l.length c) ∧ w'.cell? ⟨gr, 0, none⟩ = some (.int .i64 3) ∧ w'.cell? ⟨gr, 1, none⟩ = some (.int .u64 r1) ∧ w'.cell? ⟨gr, 2, none⟩ = some (.string r2) ∧ w'.cell? ⟨gr, 3, none⟩ = some (.int .i64 r3) ∧ w'.cell? ⟨gr, 4, none⟩ = some (.int .u64 r4) ∧ w'.cell? ⟨gr, 5, none⟩ = some (.int .u64 r5) ∧ w'.cell? ⟨gr, 6, none⟩ = some (.int .u64 r6) ∧ w'.cell? ⟨gr, 7, none⟩ = some (.int .u64 r7) ∧ w'.cell? ⟨gr, 8, none⟩ = some (.int .u64 r8) ∧ w'.cell? ⟨gr, 9, none⟩ = some (.int .u64 r9) ∧ w'.cell? ⟨gr, 10, none⟩ = some (.int .u64 r10)) (ds := []) #[false, false, false, false, false, false, false, false, false, false, false] (by kernel_rfl) rfl rfl ⟨(blk_cell BS.out 0).trans rfl, (blk_cell BS.out 1).trans rfl, (blk_cell BS.out 2).trans rfl, (blk_cell BR.out 0).trans rfl, (blk_cell BR.out 1).trans rfl, (blk_cell BR.out 2).trans rfl, (blk_cell BR.out 3).trans rfl, (blk_cell BR.out 4).trans rfl, (blk_cell BR.out 5).trans rfl, (blk_cell BR.out 6).trans rfl, (blk_cell BR.out 7).trans rfl, (blk_cell BR.out 8).trans rfl, (blk_cell BR.out 9).trans rfl, (blk_cell BR.out 10).trans rfl⟩ (fun hHeld => ?_); refine with_tabW state_step.tab5 state_step.bits5 (fun HT_ HW_ => ?_)
  generalize W2.drew = W3 at HO BS BR BQ HB BG hHeld ⊢
  refine chain_ (fuel := 6) [(0, 0, some 27), (1, 0, some 28), (3, 0, some 30), (2, 1, some 29), (4, 1, some 31)] #[true, true, true, true, true, false, false, false, false, false, false] HT_.out HW_.out (by kernel_rfl) (fun _ _ _ _ _ h => h) (Or.inr hHeld) rfl ?_
  (iterate 3 refine lkP ?_); (iterate 2 refine lkT ?_); refine .nil ?_
  refine one_ (i := 5) (N := some 32) #[true, true, true, true, true, true, false, false, false, false, false] rfl rfl (one_of HT_.out (by kernel_rfl)) (by decide) (fun K hK => ?_)
  refine ge Tryd.func11 #[.agg #[.int .u64 a0, .int .u64 a1, .slice (some ⟨g, 0, none⟩) l.length c], .string r2] ?_
  with_reducible refine (state_Find.calls a0 a1 _ _ l r2 (i : Int) true _ ?side1 ?side2 HF.out).mono ?_
  (case side1 => exact co (Kd.R_reads' HO.out).2.2)
  (case side2 => exact (Kd.R_reads' HO.out).2.1)
  rintro e W4 ⟨rfl, hb⟩
  refine ⟨_, rfl, ?_⟩
  have n0_ := Aside0.mk (Kd.R_below (ro HO) hb)
  have n1_ := bb BS hb
  have n2_ := bb BR hb
  have n3_ := bb BQ hb
  have n4_ := bs HB hb
  have n5_ := bb BG hb
  clear HO BS BR BQ HB BG
  have HO := n0_
  have BS := n1_
  have BR := n2_
  have BQ := n3_
  have HB := n4_
  have BG := n5_
  clear n0_ n1_ n2_ n3_ n4_ n5_
  clear hb
  refine hK.out _ _ ⟨(blk_cell BS.out 0).trans rfl, (blk_cell BS.out 1).trans rfl, (blk_cell BS.out 2).trans rfl, (blk_cell BR.out 0).trans rfl, (blk_cell BR.out 1).trans rfl, (blk_cell BR.out 2).trans rfl, (blk_cell BR.out 3).trans rfl, (blk_cell BR.out 4).trans rfl, (blk_cell BR.out 5).trans rfl, (blk_cell BR.out 6).trans rfl, (blk_cell BR.out 7).trans rfl, (blk_cell BR.out 8).trans rfl, (blk_cell BR.out 9).trans rfl, (blk_cell BR.out 10).trans rfl⟩ (fun hHeld => ?_)
  clear hK K
  refine norm_ (a' := ?_) ?_ ?_
  rotate_left
  · show Act.put _ (some 32) _ = _
    simp only [Act.put, List.setIfInBounds_toArray, List.set_cons_zero, List.set_cons_succ, i64_w, i32_w]
    rfl
  refine chain_ (fuel := 0) [(6, 0, some 26), (7, 0, some 33), (8, 0, some 34), (9, 0, some 7), (10, 0, some 8)] #[true, true, true, true, true, true, true, true, true, true, true] HT_.out HW_.out (by kernel_rfl) (fun _ _ _ _ _ h => h) (Or.inl (by decide)) rfl ?_
  (iterate 5 refine lkP ?_); refine .nil ?_
  refine done_ (done_of HT_.out (by kernel_rfl)) ?_
  clear hHeld HT_ HW_
  obtain ⟨sc0, sc1, sc2, sf0, sf1, sf2⟩ := bc3 BS; obtain ⟨rc0, rc1, rc2, rc3, rc4, rc5, rc6, rc7, rc8, rc9, rc10, rf0, rf1, rf2, rf3, rf4, rf5, rf6, rf7, rf8, rf9, rf10⟩ := bc11 BR
  have hi1 := HI.out
  have hi2 : (i : Int) < (l.length : Int) := by omega
  go_wp2
  clear hi1 hi2
  clear rc0 rc1 rc2 rc3 rc4 rc5 rc6 rc7 rc8 rc9 rc10 rf0 rf1 rf2 rf3 rf4 rf5 rf6 rf7 rf8 rf9 rf10 sc0 sc1 sc2 sf0 sf1 sf2
  have n0_ := Aside0.mk (Kd.R_drew HO.out)
  have n1_ := Aside0.mk (blk_drew BS.out)
  have n2_ := Aside0.mk (blk_drew BR.out)
  have n3_ := Aside0.mk (blk_drew BQ.out)
  have n4_ := Aside0.mk (below_drew1 HB.out)
  have n5_ := Aside0.mk (blk_drew BG.out)
  clear HO BS BR BQ HB BG
  have HO := n0_
  have BS := n1_
  have BR := n2_
  have BQ := n3_
  have HB := n4_
  have BG := n5_
  clear n0_ n1_ n2_ n3_ n4_ n5_
  refine start_ (n := 22) (S := fun w' => w'.cell? ⟨gr, 0, none⟩ = some (.int .i64 3) ∧ w'.cell? ⟨gr, 1, none⟩ = some (.int .u64 r1) ∧ w'.cell? ⟨gr, 2, none⟩ = some (.string r2) ∧ w'.cell? ⟨gr, 3, none⟩ = some (.int .i64 r3) ∧ w'.cell? ⟨gr, 4, none⟩ = some (.int .u64 r4) ∧ w'.cell? ⟨gr, 5, none⟩ = some (.int .u64 r5) ∧ w'.cell? ⟨gr, 6, none⟩ = some (.int .u64 r6) ∧ w'.cell? ⟨gr, 7, none⟩ = some (.int .u64 r7) ∧ w'.cell? ⟨gr, 8, none⟩ = some (.int .u64 r8) ∧ w'.cell? ⟨gr, 9, none⟩ = some (.int .u64 r9) ∧ w'.cell? ⟨gr, 10, none⟩ = some (.int .u64 r10) ∧ w'.cell? ⟨g, i * 9 + 1, none⟩ = some (.int .i64 E.f1.f0) ∧ w'.cell? ⟨g, i * 9 + 2, none⟩ = some (.int .u64 E.f1.f1) ∧ w'.cell? ⟨g, i * 9 + 3, none⟩ = some (.int .u64 E.f1.f2) ∧ w'.cell? ⟨g, i * 9 + 4, none⟩ = some (.int .u64 E.f1.f3) ∧ w'.cell? ⟨g, i * 9 + 5, none⟩ = some (.int .u64 E.f1.f4) ∧ w'.cell? ⟨g, i * 9 + 6, none⟩ = some (.int .u64 E.f2.f0) ∧ w'.cell? ⟨g, i * 9 + 7, none⟩ = some (.int .u64 E.f2.f1) ∧ w'.cell? ⟨g, i * 9 + 8, none⟩ = some (.int .u64 E.f2.f2)) (ds := []) #[false, false, false, false, false, false, false, false, false, false, false, false, false, false, false, false, false, false, false, false, false, false] (by kernel_rfl) rfl rfl ⟨(blk_cell BR.out 0).trans rfl, (blk_cell BR.out 1).trans rfl, (blk_cell BR.out 2).trans rfl, (blk_cell BR.out 3).trans rfl, (blk_cell BR.out 4).trans rfl, (blk_cell BR.out 5).trans rfl, (blk_cell BR.out 6).trans rfl, (blk_cell BR.out 7).trans rfl, (blk_cell BR.out 8).trans rfl, (blk_cell BR.out 9).trans rfl, (blk_cell BR.out 10).trans rfl, (blk_cell BG.out _).trans ((HC.out 1 (by decide)).trans rfl), (blk_cell BG.out _).trans ((HC.out 2 (by decide)).trans rfl), (blk_cell BG.out _).trans ((HC.out 3 (by decide)).trans rfl), (blk_cell BG.out _).trans ((HC.out 4 (by decide)).trans rfl), (blk_cell BG.out _).trans ((HC.out 5 (by decide)).trans rfl), (blk_cell BG.out _).trans ((HC.out 6 (by decide)).trans rfl), (blk_cell BG.out _).trans ((HC.out 7 (by decide)).trans rfl), (blk_cell BG.out _).trans ((HC.out 8 (by decide)).trans rfl)⟩ (fun hHeld => ?_); refine with_tabW state_step.tab17 state_step.bits17 (fun HT_ HW_ => ?_)
  generalize W4.drew = W5 at HO BS BR BQ HB BG hHeld ⊢
  refine chain_ (fuel := 16) [(0, 0, some 88), (1, 0, some 89), (2, 0, some 90), (4, 0, some 92), (3, 1, some 91), (5, 1, some 93)] #[true, true, true, true, true, true, false, false, false, false, false, false, false, false, false, false, false, false, false, false, false, false] HT_.out HW_.out (by kernel_rfl) (fun _ _ _ _ _ h => h) (Or.inr hHeld) rfl ?_
  (iterate 4 refine lkP ?_); (iterate 2 refine lkT ?_); refine .nil ?_
  refine one_ (i := 6) (N := some 94) #[true, true, true, true, true, true, true, false, false, false, false, false, false, false, false, false, false, false, false, false, false, false] rfl rfl (one_of HT_.out (by kernel_rfl)) (by decide) (fun K hK => ?_)
  refine ge Tryd.func29 #[.agg #[.int .i64 E.f1.f0, .int .u64 E.f1.f1, .int .u64 E.f1.f2, .int .u64 E.f1.f3, .int .u64 E.f1.f4], .agg #[.int .u64 r8, .int .u64 r9, .int .u64 r10]] ?_
  with_reducible refine (policy_Fits.calls E.f1.f0 E.f1.f1 E.f1.f2 E.f1.f3 E.f1.f4 r8 r9 r10 _ _ HFT.out).mono ?_
  rintro e W6 ⟨rfl, hb⟩
  refine ⟨_, rfl, ?_⟩
  have n0_ := Aside0.mk (Kd.R_below (ro HO) hb)
  have n1_ := bb BS hb
  have n2_ := bb BR hb
  have n3_ := bb BQ hb
  have n4_ := bs HB hb
  have n5_ := bb BG hb
  clear HO BS BR BQ HB BG
  have HO := n0_
  have BS := n1_
  have BR := n2_
  have BQ := n3_
  have HB := n4_
  have BG := n5_
  clear n0_ n1_ n2_ n3_ n4_ n5_
  clear hb
  refine hK.out _ _ ⟨(blk_cell BR.out 0).trans rfl, (blk_cell BR.out 1).trans rfl, (blk_cell BR.out 2).trans rfl, (blk_cell BR.out 3).trans rfl, (blk_cell BR.out 4).trans rfl, (blk_cell BR.out 5).trans rfl, (blk_cell BR.out 6).trans rfl, (blk_cell BR.out 7).trans rfl, (blk_cell BR.out 8).trans rfl, (blk_cell BR.out 9).trans rfl, (blk_cell BR.out 10).trans rfl, (blk_cell BG.out _).trans ((HC.out 1 (by decide)).trans rfl), (blk_cell BG.out _).trans ((HC.out 2 (by decide)).trans rfl), (blk_cell BG.out _).trans ((HC.out 3 (by decide)).trans rfl), (blk_cell BG.out _).trans ((HC.out 4 (by decide)).trans rfl), (blk_cell BG.out _).trans ((HC.out 5 (by decide)).trans rfl), (blk_cell BG.out _).trans ((HC.out 6 (by decide)).trans rfl), (blk_cell BG.out _).trans ((HC.out 7 (by decide)).trans rfl), (blk_cell BG.out _).trans ((HC.out 8 (by decide)).trans rfl)⟩ (fun hHeld => ?_)
  clear hK K
  refine norm_ (a' := ?_) ?_ ?_
  rotate_left
  · show Act.put _ (some 94) _ = _
    simp only [Act.put, List.setIfInBounds_toArray, List.set_cons_zero, List.set_cons_succ, i64_w, i32_w]
    rfl
  refine chain_ (fuel := 0) [(7, 0, some 95), (8, 0, some 96), (9, 2, some 97), (10, 2, some 98), (11, 2, some 99), (12, 2, some 100), (13, 2, some 101), (14, 2, some 102), (15, 2, some 103), (16, 2, some 104), (17, 2, some 105), (18, 2, some 106), (19, 2, some 107), (20, 2, some 108), (21, 0, some 109)] #[true, true, true, true, true, true, true, true, true, true, true, true, true, true, true, true, true, true, true, true, true, true] HT_.out HW_.out (by kernel_rfl) (fun _ _ _ _ _ h => h) (Or.inl (by decide)) rfl ?_
  (iterate 2 refine lkP ?_); (iterate 12 refine lkO ?_); refine lkP ?_; refine .nil ?_
  refine done_ (done_of HT_.out (by kernel_rfl)) ?_
  clear hHeld HT_ HW_
  go_wp2_with (first | ((with_reducible refine gate_dst (N := 110) rfl ?_); refine ld_err 3 1 (HE.out.below (bw HB)) ?_ rfl rfl (by decide) (by have := Errs.five; omega) rfl))
  go_ret
  exact ⟨.slice (some ⟨g, 0, none⟩) l.length c, re, bk BS, by (with_reducible repeat (first | apply Kd.R_alloc | apply Kd.R_drewN | apply Kd.R_drew)); exact HO.out, bk BQ, bw HB⟩

set_option maxHeartbeats 8000000 in
set_option maxRecDepth 100000 in
theorem state_step.other [Errs] (w W : World) (hE : Sent w) (gs : Nat) (a0 a1 : Int) (A : Option Addr) (c : Nat) (l : List S56) (n : Int) (r0 r1 : Int) (r2 : ByteArray) (r3 r4 r5 r6 r7 r8 r9 r10 : Int) (k : Nat) (t : Int) (hB : Below w.heap.size w W) (hgs : w.heap.size ≤ gs) (hblk : W.heap[gs]? = some (.cells #[.int .u64 a0, .int .u64 a1, .slice A l.length c] 27 (0, 0))) (hown : Kd.R k56 56 W w.heap.size (fun _ => True) (.slice A l.length c) l) (gq : Nat) (oq : Array Value) (tq : TypeId) (hbq : W.heap[gq]? = some (.cells oq tq (0, 0))) (htq : 56 ≠ tq) (hqs : gq ≠ gs) (hn : (n != IntKind.u64.wrap (a0 + 1)) = false) (hm : decide (4611686018427387904 < n) = false) (hf : state_Find.f a0 a1 l r2 = some (t, true)) (hv : record_Valid.f k r0 r1 r2 r3 r4 r5 r6 r7 r8 r9 r10 = some true) (h1 : (r0 == 1) = false) (h2 : (r0 == 2) = false) (h3 : (r0 == 3) = false) (q : Int) (hq : (if a1 < r1 then r1 else a1) = q) :
    Calls Tryd.prog 36 #[.pointer (some ⟨gs, 0, none⟩), .int .u64 n, .agg #[.int .i64 r0, .int .u64 r1, .string r2, .int .i64 r3, .int .u64 r4, .int .u64 r5, .int .u64 r6, .int .u64 r7, .int .u64 r8, .int .u64 r9, .int .u64 r10]] W fun e w' => ∃ v : Value, e = .returned (errW 0) ∧ w'.heap[gs]? = some (.cells #[.int .u64 n, .int .u64 q, v] 27 (0, 0)) ∧ Kd.R k56 56 w' w.heap.size (fun _ => True) v l ∧ w'.heap[gq]? = some (.cells oq tq (0, 0)) ∧ Below w.heap.size w w' := by
  have hu27 := Tryd.underlying27
  have hu39 := Tryd.underlying39
  have hu35 := Tryd.underlying35
  have hu56 := Tryd.underlying56
  have hu37 := Tryd.underlying37
  have HE := Aside0.mk hE
  have HB := Aside0.mk hB
  have BS := Aside0.mk hblk
  have GE := Aside0.mk hgs
  have HO := Aside0.mk hown
  have BQ := Aside0.mk hbq
  have TQ := Aside0.mk htq
  have NQ := Aside0.mk hqs
  clear hE hB hblk hgs hown hbq htq hqs
  have HV := Aside0.mk hv
  have HF := Aside0.mk hf
  clear hv hf
  go_enter Tryd.func36, Tryd.ntmps36
  go_wp2_with (first | ((with_reducible refine gate_dst (N := 5) rfl ?_); refine bx 5 #[.int .i64 r0, .int .u64 r1, .string r2, .int .i64 r3, .int .u64 r4, .int .u64 r5, .int .u64 r6, .int .u64 r7, .int .u64 r8, .int .u64 r9, .int .u64 r10] 39 ?_; intro gr hg W1 hbox hb; have HO' := Aside0.mk (Kd.R_below (ro HO) hb); have BS' := bb BS hb; have BQ' := bb BQ hb; have HB' := bs HB hb; have BR := Aside0.mk hbox; have GR := sz HB hg; have NB := nl BS hg; have NB' := nr BS hg; clear HO BS BQ HB; have HO := HO'; have BS := BS'; have BQ := BQ'; have HB := HB'; clear HO' BS' BQ' HB' hb hbox hg; obtain ⟨rc0, rc1, rc2, rc3, rc4, rc5, rc6, rc7, rc8, rc9, rc10, rf0, rf1, rf2, rf3, rf4, rf5, rf6, rf7, rf8, rf9, rf10⟩ := bc11 BR) | ((with_reducible refine gate_callee (f := 44) rfl ?_); refine gm (some 11) Tryd.func44 #[.agg #[.int .i64 r0, .int .u64 r1, .string r2, .int .i64 r3, .int .u64 r4, .int .u64 r5, .int .u64 r6, .int .u64 r7, .int .u64 r8, .int .u64 r9, .int .u64 r10]] (record_Valid.calls k r0 r1 r2 r3 r4 r5 r6 r7 r8 r9 r10 true _ HV.out) ?_; clear rc0 rc1 rc2 rc3 rc4 rc5 rc6 rc7 rc8 rc9 rc10 rf0 rf1 rf2 rf3 rf4 rf5 rf6 rf7 rf8 rf9 rf10; intro W2 hb; have n0_ := Aside0.mk (Kd.R_below (ro HO) hb); have n1_ := bb BS hb; have n2_ := bb BR hb; have n3_ := bb BQ hb; have n4_ := bs HB hb; clear HO BS BR BQ HB; have HO := n0_; have BS := n1_; have BR := n2_; have BQ := n3_; have HB := n4_; clear n0_ n1_ n2_ n3_ n4_; clear hb; obtain ⟨sc0, sc1, sc2, sf0, sf1, sf2⟩ := bc3 BS; obtain ⟨rc0, rc1, rc2, rc3, rc4, rc5, rc6, rc7, rc8, rc9, rc10, rf0, rf1, rf2, rf3, rf4, rf5, rf6, rf7, rf8, rf9, rf10⟩ := bc11 BR))
  clear rc0 rc1 rc2 rc3 rc4 rc5 rc6 rc7 rc8 rc9 rc10 rf0 rf1 rf2 rf3 rf4 rf5 rf6 rf7 rf8 rf9 rf10 sc0 sc1 sc2 sf0 sf1 sf2
  have n0_ := Aside0.mk (Kd.R_drew HO.out)
  have n1_ := Aside0.mk (blk_drew BS.out)
  have n2_ := Aside0.mk (blk_drew BR.out)
  have n3_ := Aside0.mk (blk_drew BQ.out)
  have n4_ := Aside0.mk (below_drew1 HB.out)
  clear HO BS BR BQ HB
  have HO := n0_
  have BS := n1_
  have BR := n2_
  have BQ := n3_
  have HB := n4_
  clear n0_ n1_ n2_ n3_ n4_
  refine start_ (n := 11) (S := fun w' => w'.cell? ⟨gs, 0, none⟩ = some (.int .u64 a0) ∧ w'.cell? ⟨gs, 1, none⟩ = some (.int .u64 a1) ∧ w'.cell? ⟨gs, 2, none⟩ = some (.slice A l.length c) ∧ w'.cell? ⟨gr, 0, none⟩ = some (.int .i64 r0) ∧ w'.cell? ⟨gr, 1, none⟩ = some (.int .u64 r1) ∧ w'.cell? ⟨gr, 2, none⟩ = some (.string r2) ∧ w'.cell? ⟨gr, 3, none⟩ = some (.int .i64 r3) ∧ w'.cell? ⟨gr, 4, none⟩ = some (.int .u64 r4) ∧ w'.cell? ⟨gr, 5, none⟩ = some (.int .u64 r5) ∧ w'.cell? ⟨gr, 6, none⟩ = some (.int .u64 r6) ∧ w'.cell? ⟨gr, 7, none⟩ = some (.int .u64 r7) ∧ w'.cell? ⟨gr, 8, none⟩ = some (.int .u64 r8) ∧ w'.cell? ⟨gr, 9, none⟩ = some (.int .u64 r9) ∧ w'.cell? ⟨gr, 10, none⟩ = some (.int .u64 r10)) (ds := []) #[false, false, false, false, false, false, false, false, false, false, false] (by kernel_rfl) rfl rfl ⟨(blk_cell BS.out 0).trans rfl, (blk_cell BS.out 1).trans rfl, (blk_cell BS.out 2).trans rfl, (blk_cell BR.out 0).trans rfl, (blk_cell BR.out 1).trans rfl, (blk_cell BR.out 2).trans rfl, (blk_cell BR.out 3).trans rfl, (blk_cell BR.out 4).trans rfl, (blk_cell BR.out 5).trans rfl, (blk_cell BR.out 6).trans rfl, (blk_cell BR.out 7).trans rfl, (blk_cell BR.out 8).trans rfl, (blk_cell BR.out 9).trans rfl, (blk_cell BR.out 10).trans rfl⟩ (fun hHeld => ?_); refine with_tabW state_step.tab5 state_step.bits5 (fun HT_ HW_ => ?_)
  generalize W2.drew = W3 at HO BS BR BQ HB hHeld ⊢
  refine chain_ (fuel := 6) [(0, 0, some 27), (1, 0, some 28), (3, 0, some 30), (2, 1, some 29), (4, 1, some 31)] #[true, true, true, true, true, false, false, false, false, false, false] HT_.out HW_.out (by kernel_rfl) (fun _ _ _ _ _ h => h) (Or.inr hHeld) rfl ?_
  (iterate 3 refine lkP ?_); (iterate 2 refine lkT ?_); refine .nil ?_
  refine one_ (i := 5) (N := some 32) #[true, true, true, true, true, true, false, false, false, false, false] rfl rfl (one_of HT_.out (by kernel_rfl)) (by decide) (fun K hK => ?_)
  refine ge Tryd.func11 #[.agg #[.int .u64 a0, .int .u64 a1, .slice A l.length c], .string r2] ?_
  with_reducible refine (state_Find.calls a0 a1 _ _ l r2 t true _ ?side1 ?side2 HF.out).mono ?_
  (case side1 => exact co (Kd.R_reads' HO.out).2.2)
  (case side2 => exact (Kd.R_reads' HO.out).2.1)
  rintro e W4 ⟨rfl, hb⟩
  refine ⟨_, rfl, ?_⟩
  have n0_ := Aside0.mk (Kd.R_below (ro HO) hb)
  have n1_ := bb BS hb
  have n2_ := bb BR hb
  have n3_ := bb BQ hb
  have n4_ := bs HB hb
  clear HO BS BR BQ HB
  have HO := n0_
  have BS := n1_
  have BR := n2_
  have BQ := n3_
  have HB := n4_
  clear n0_ n1_ n2_ n3_ n4_
  clear hb
  refine hK.out _ _ ⟨(blk_cell BS.out 0).trans rfl, (blk_cell BS.out 1).trans rfl, (blk_cell BS.out 2).trans rfl, (blk_cell BR.out 0).trans rfl, (blk_cell BR.out 1).trans rfl, (blk_cell BR.out 2).trans rfl, (blk_cell BR.out 3).trans rfl, (blk_cell BR.out 4).trans rfl, (blk_cell BR.out 5).trans rfl, (blk_cell BR.out 6).trans rfl, (blk_cell BR.out 7).trans rfl, (blk_cell BR.out 8).trans rfl, (blk_cell BR.out 9).trans rfl, (blk_cell BR.out 10).trans rfl⟩ (fun hHeld => ?_)
  clear hK K
  refine norm_ (a' := ?_) ?_ ?_
  rotate_left
  · show Act.put _ (some 32) _ = _
    simp only [Act.put, List.setIfInBounds_toArray, List.set_cons_zero, List.set_cons_succ, i64_w, i32_w]
    rfl
  refine chain_ (fuel := 0) [(6, 0, some 26), (7, 0, some 33), (8, 0, some 34), (9, 0, some 7), (10, 0, some 8)] #[true, true, true, true, true, true, true, true, true, true, true] HT_.out HW_.out (by kernel_rfl) (fun _ _ _ _ _ h => h) (Or.inl (by decide)) rfl ?_
  (iterate 5 refine lkP ?_); refine .nil ?_
  refine done_ (done_of HT_.out (by kernel_rfl)) ?_
  clear hHeld HT_ HW_
  obtain ⟨sc0, sc1, sc2, sf0, sf1, sf2⟩ := bc3 BS; obtain ⟨rc0, rc1, rc2, rc3, rc4, rc5, rc6, rc7, rc8, rc9, rc10, rf0, rf1, rf2, rf3, rf4, rf5, rf6, rf7, rf8, rf9, rf10⟩ := bc11 BR
  obtain ⟨sc0, sc1, sc2, sf0, sf1, sf2⟩ := bc3 BS; obtain ⟨rc0, rc1, rc2, rc3, rc4, rc5, rc6, rc7, rc8, rc9, rc10, rf0, rf1, rf2, rf3, rf4, rf5, rf6, rf7, rf8, rf9, rf10⟩ := bc11 BR
  have nbs := NB.out; have nbr := NB'.out
  go_wp2
  clear nbs nbr
  clear rc0 rc1 rc2 rc3 rc4 rc5 rc6 rc7 rc8 rc9 rc10 rf0 rf1 rf2 rf3 rf4 rf5 rf6 rf7 rf8 rf9 rf10 sc0 sc1 sc2 sf0 sf1 sf2
  have n0_ : Aside0 (Kd.R k56 56 (W4.setCell ⟨gs, 0, none⟩ (.int .u64 n)) w.heap.size (fun _ => True) (.slice A l.length c) l) := ⟨Kd.R_mono (Kd.R_far (p := ⟨gs, 0, none⟩) (Kd.R_types HO.out BS.out (by decide)) (fun _ hk => hk.2) _) (fun _ hk => trivial)⟩
  have n1_ : Aside0 ((W4.setCell ⟨gs, 0, none⟩ (.int .u64 n)).heap[gs]? = some (.cells #[.int .u64 n, .int .u64 a1, .slice A l.length c] 27 (0, 0))) := ⟨bk BS⟩
  have n2_ : Aside0 ((W4.setCell ⟨gs, 0, none⟩ (.int .u64 n)).heap[gr]? = some (.cells #[.int .i64 r0, .int .u64 r1, .string r2, .int .i64 r3, .int .u64 r4, .int .u64 r5, .int .u64 r6, .int .u64 r7, .int .u64 r8, .int .u64 r9, .int .u64 r10] 39 (0, 0))) := ⟨bk BR⟩
  have n3_ : Aside0 (Below w.heap.size w (W4.setCell ⟨gs, 0, none⟩ (.int .u64 n))) := ⟨bw HB⟩
  have n4_ : Aside0 ((W4.setCell ⟨gs, 0, none⟩ (.int .u64 n)).heap[gq]? = some (.cells oq tq (0, 0))) := ⟨blk_far BQ.out NQ.out _⟩
  generalize (W4.setCell ⟨gs, 0, none⟩ (.int .u64 n)) = W4n at n0_ n1_ n2_ n3_ n4_ ⊢
  clear HO BS BR BQ HB
  have HO := n0_
  have BS := n1_
  have BR := n2_
  have HB := n3_
  have BQ := n4_
  clear n0_ n1_ n2_ n3_ n4_
  have n0_ := Aside0.mk (Kd.R_drew HO.out)
  have n1_ := Aside0.mk (blk_drew BS.out)
  have n2_ := Aside0.mk (blk_drew BR.out)
  have n3_ := Aside0.mk (blk_drew BQ.out)
  have n4_ := Aside0.mk (below_drew1 HB.out)
  clear HO BS BR BQ HB
  have HO := n0_
  have BS := n1_
  have BR := n2_
  have BQ := n3_
  have HB := n4_
  clear n0_ n1_ n2_ n3_ n4_
  refine start_ (n := 11) (S := fun w' => w'.cell? ⟨gs, 0, none⟩ = some (.int .u64 n) ∧ w'.cell? ⟨gs, 1, none⟩ = some (.int .u64 a1) ∧ w'.cell? ⟨gs, 2, none⟩ = some (.slice A l.length c) ∧ w'.cell? ⟨gr, 0, none⟩ = some (.int .i64 r0) ∧ w'.cell? ⟨gr, 1, none⟩ = some (.int .u64 r1) ∧ w'.cell? ⟨gr, 2, none⟩ = some (.string r2) ∧ w'.cell? ⟨gr, 3, none⟩ = some (.int .i64 r3) ∧ w'.cell? ⟨gr, 4, none⟩ = some (.int .u64 r4) ∧ w'.cell? ⟨gr, 5, none⟩ = some (.int .u64 r5) ∧ w'.cell? ⟨gr, 6, none⟩ = some (.int .u64 r6) ∧ w'.cell? ⟨gr, 7, none⟩ = some (.int .u64 r7) ∧ w'.cell? ⟨gr, 8, none⟩ = some (.int .u64 r8) ∧ w'.cell? ⟨gr, 9, none⟩ = some (.int .u64 r9) ∧ w'.cell? ⟨gr, 10, none⟩ = some (.int .u64 r10)) (ds := [10]) #[false, false, false, false, false, false, false, false, false, false, false] (by kernel_rfl) rfl rfl ⟨(blk_cell BS.out 0).trans rfl, (blk_cell BS.out 1).trans rfl, (blk_cell BS.out 2).trans rfl, (blk_cell BR.out 0).trans rfl, (blk_cell BR.out 1).trans rfl, (blk_cell BR.out 2).trans rfl, (blk_cell BR.out 3).trans rfl, (blk_cell BR.out 4).trans rfl, (blk_cell BR.out 5).trans rfl, (blk_cell BR.out 6).trans rfl, (blk_cell BR.out 7).trans rfl, (blk_cell BR.out 8).trans rfl, (blk_cell BR.out 9).trans rfl, (blk_cell BR.out 10).trans rfl⟩ (fun hHeld => ?_); refine with_tabW state_step.tab21 state_step.bits21 (fun HT_ HW_ => ?_)
  generalize W4n.drew = W4nd at HO BS BR BQ HB hHeld ⊢
  refine chain_ (fuel := 1) [(0, 0, some 120), (1, 0, some 121), (2, 0, some 122), (3, 0, some 123), (5, 0, some 125), (4, 1, some 124), (6, 1, some 126), (7, 0, some 127), (8, 0, some 128), (9, 0, some 129)] #[true, true, true, true, true, true, true, true, true, true, false] HT_.out HW_.out (by kernel_rfl) (fun _ _ _ _ _ h => h) (Or.inr hHeld) rfl ?_
  (iterate 5 refine lkP ?_); (iterate 2 refine lkT ?_); (iterate 3 refine lkP ?_); refine .nil ?_
  refine last_ (i := 10) (N := none) #[true, true, true, true, true, true, true, true, true, true, true] rfl rfl (one_of HT_.out (by kernel_rfl)) (by decide) (fun K hK => ?_)
  have hs_ : W4nd.cell? ⟨gs, 1, none⟩ = some (.int .u64 a1) := (blk_cell BS.out 1).trans rfl
  have hfs_ := blk_frozen BS.out 1
  refine skip_ (w1 := ?_) (by rfl) rfl ?_ ?_
  rotate_left
  · go_simp
    rfl
  refine hK.out _ _ ?_
  clear hK K
  refine done_ (done_of HT_.out (by kernel_rfl)) ?_
  go_wp2
  go_ret
  exact ⟨.slice A l.length c, re, (bk BS), Kd.R_mono (Kd.R_far (p := ⟨gs, 1, none⟩) (Kd.R_types HO.out BS.out (by decide)) (fun _ hk => hk.2) _) (fun _ hk => trivial), blk_far BQ.out NQ.out _, bw HB⟩

set_option maxHeartbeats 8000000 in
set_option maxRecDepth 100000 in
theorem state_step.there [Errs] (w W : World) (hE : Sent w) (gs : Nat) (a0 a1 : Int) (A : Option Addr) (c : Nat) (l : List S56) (n : Int) (r0 r1 : Int) (r2 : ByteArray) (r3 r4 r5 r6 r7 r8 r9 r10 : Int) (k : Nat) (t : Int) (u : Bool) (hB : Below w.heap.size w W) (hgs : w.heap.size ≤ gs) (hblk : W.heap[gs]? = some (.cells #[.int .u64 a0, .int .u64 a1, .slice A l.length c] 27 (0, 0))) (hown : Kd.R k56 56 W w.heap.size (fun _ => True) (.slice A l.length c) l) (gq : Nat) (oq : Array Value) (tq : TypeId) (hbq : W.heap[gq]? = some (.cells oq tq (0, 0))) (htq : 56 ≠ tq) (hqs : gq ≠ gs) (hn : (n != IntKind.u64.wrap (a0 + 1)) = false) (hm : decide (4611686018427387904 < n) = false) (hf : state_Find.f a0 a1 l r2 = some (t, u)) (hv : record_Valid.f k r0 r1 r2 r3 r4 r5 r6 r7 r8 r9 r10 = some true) (ht : (u == (r0 == 1)) = true) :
    Calls Tryd.prog 36 #[.pointer (some ⟨gs, 0, none⟩), .int .u64 n, .agg #[.int .i64 r0, .int .u64 r1, .string r2, .int .i64 r3, .int .u64 r4, .int .u64 r5, .int .u64 r6, .int .u64 r7, .int .u64 r8, .int .u64 r9, .int .u64 r10]] W fun e w' => ∃ v : Value, e = .returned (errW 3) ∧ w'.heap[gs]? = some (.cells #[.int .u64 a0, .int .u64 a1, v] 27 (0, 0)) ∧ Kd.R k56 56 w' w.heap.size (fun _ => True) v l ∧ w'.heap[gq]? = some (.cells oq tq (0, 0)) ∧ Below w.heap.size w w' := by
  have hu27 := Tryd.underlying27
  have hu39 := Tryd.underlying39
  have hu35 := Tryd.underlying35
  have hu56 := Tryd.underlying56
  have hu37 := Tryd.underlying37
  have HE := Aside0.mk hE
  have HB := Aside0.mk hB
  have BS := Aside0.mk hblk
  have GE := Aside0.mk hgs
  have HO := Aside0.mk hown
  have BQ := Aside0.mk hbq
  have TQ := Aside0.mk htq
  have NQ := Aside0.mk hqs
  clear hE hB hblk hgs hown hbq htq hqs
  have HV := Aside0.mk hv
  have HF := Aside0.mk hf
  clear hv hf
  go_enter Tryd.func36, Tryd.ntmps36
  go_wp2_with (first | ((with_reducible refine gate_dst (N := 5) rfl ?_); refine bx 5 #[.int .i64 r0, .int .u64 r1, .string r2, .int .i64 r3, .int .u64 r4, .int .u64 r5, .int .u64 r6, .int .u64 r7, .int .u64 r8, .int .u64 r9, .int .u64 r10] 39 ?_; intro gr hg W1 hbox hb; have HO' := Aside0.mk (Kd.R_below (ro HO) hb); have BS' := bb BS hb; have BQ' := bb BQ hb; have HB' := bs HB hb; have BR := Aside0.mk hbox; have GR := sz HB hg; have NB := nl BS hg; have NB' := nr BS hg; clear HO BS BQ HB; have HO := HO'; have BS := BS'; have BQ := BQ'; have HB := HB'; clear HO' BS' BQ' HB' hb hbox hg; obtain ⟨rc0, rc1, rc2, rc3, rc4, rc5, rc6, rc7, rc8, rc9, rc10, rf0, rf1, rf2, rf3, rf4, rf5, rf6, rf7, rf8, rf9, rf10⟩ := bc11 BR) | ((with_reducible refine gate_callee (f := 44) rfl ?_); refine gm (some 11) Tryd.func44 #[.agg #[.int .i64 r0, .int .u64 r1, .string r2, .int .i64 r3, .int .u64 r4, .int .u64 r5, .int .u64 r6, .int .u64 r7, .int .u64 r8, .int .u64 r9, .int .u64 r10]] (record_Valid.calls k r0 r1 r2 r3 r4 r5 r6 r7 r8 r9 r10 true _ HV.out) ?_; clear rc0 rc1 rc2 rc3 rc4 rc5 rc6 rc7 rc8 rc9 rc10 rf0 rf1 rf2 rf3 rf4 rf5 rf6 rf7 rf8 rf9 rf10; intro W2 hb; have n0_ := Aside0.mk (Kd.R_below (ro HO) hb); have n1_ := bb BS hb; have n2_ := bb BR hb; have n3_ := bb BQ hb; have n4_ := bs HB hb; clear HO BS BR BQ HB; have HO := n0_; have BS := n1_; have BR := n2_; have BQ := n3_; have HB := n4_; clear n0_ n1_ n2_ n3_ n4_; clear hb; obtain ⟨sc0, sc1, sc2, sf0, sf1, sf2⟩ := bc3 BS; obtain ⟨rc0, rc1, rc2, rc3, rc4, rc5, rc6, rc7, rc8, rc9, rc10, rf0, rf1, rf2, rf3, rf4, rf5, rf6, rf7, rf8, rf9, rf10⟩ := bc11 BR))
  clear rc0 rc1 rc2 rc3 rc4 rc5 rc6 rc7 rc8 rc9 rc10 rf0 rf1 rf2 rf3 rf4 rf5 rf6 rf7 rf8 rf9 rf10 sc0 sc1 sc2 sf0 sf1 sf2
  have n0_ := Aside0.mk (Kd.R_drew HO.out)
  have n1_ := Aside0.mk (blk_drew BS.out)
  have n2_ := Aside0.mk (blk_drew BR.out)
  have n3_ := Aside0.mk (blk_drew BQ.out)
  have n4_ := Aside0.mk (below_drew1 HB.out)
  clear HO BS BR BQ HB
  have HO := n0_
  have BS := n1_
  have BR := n2_
  have BQ := n3_
  have HB := n4_
  clear n0_ n1_ n2_ n3_ n4_
  refine start_ (n := 11) (S := fun w' => w'.cell? ⟨gs, 0, none⟩ = some (.int .u64 a0) ∧ w'.cell? ⟨gs, 1, none⟩ = some (.int .u64 a1) ∧ w'.cell? ⟨gs, 2, none⟩ = some (.slice A l.length c) ∧ w'.cell? ⟨gr, 0, none⟩ = some (.int .i64 r0) ∧ w'.cell? ⟨gr, 1, none⟩ = some (.int .u64 r1) ∧ w'.cell? ⟨gr, 2, none⟩ = some (.string r2) ∧ w'.cell? ⟨gr, 3, none⟩ = some (.int .i64 r3) ∧ w'.cell? ⟨gr, 4, none⟩ = some (.int .u64 r4) ∧ w'.cell? ⟨gr, 5, none⟩ = some (.int .u64 r5) ∧ w'.cell? ⟨gr, 6, none⟩ = some (.int .u64 r6) ∧ w'.cell? ⟨gr, 7, none⟩ = some (.int .u64 r7) ∧ w'.cell? ⟨gr, 8, none⟩ = some (.int .u64 r8) ∧ w'.cell? ⟨gr, 9, none⟩ = some (.int .u64 r9) ∧ w'.cell? ⟨gr, 10, none⟩ = some (.int .u64 r10)) (ds := []) #[false, false, false, false, false, false, false, false, false, false, false] (by kernel_rfl) rfl rfl ⟨(blk_cell BS.out 0).trans rfl, (blk_cell BS.out 1).trans rfl, (blk_cell BS.out 2).trans rfl, (blk_cell BR.out 0).trans rfl, (blk_cell BR.out 1).trans rfl, (blk_cell BR.out 2).trans rfl, (blk_cell BR.out 3).trans rfl, (blk_cell BR.out 4).trans rfl, (blk_cell BR.out 5).trans rfl, (blk_cell BR.out 6).trans rfl, (blk_cell BR.out 7).trans rfl, (blk_cell BR.out 8).trans rfl, (blk_cell BR.out 9).trans rfl, (blk_cell BR.out 10).trans rfl⟩ (fun hHeld => ?_); refine with_tabW state_step.tab5 state_step.bits5 (fun HT_ HW_ => ?_)
  generalize W2.drew = W3 at HO BS BR BQ HB hHeld ⊢
  refine chain_ (fuel := 6) [(0, 0, some 27), (1, 0, some 28), (3, 0, some 30), (2, 1, some 29), (4, 1, some 31)] #[true, true, true, true, true, false, false, false, false, false, false] HT_.out HW_.out (by kernel_rfl) (fun _ _ _ _ _ h => h) (Or.inr hHeld) rfl ?_
  (iterate 3 refine lkP ?_); (iterate 2 refine lkT ?_); refine .nil ?_
  refine one_ (i := 5) (N := some 32) #[true, true, true, true, true, true, false, false, false, false, false] rfl rfl (one_of HT_.out (by kernel_rfl)) (by decide) (fun K hK => ?_)
  refine ge Tryd.func11 #[.agg #[.int .u64 a0, .int .u64 a1, .slice A l.length c], .string r2] ?_
  with_reducible refine (state_Find.calls a0 a1 _ _ l r2 t u _ ?side1 ?side2 HF.out).mono ?_
  (case side1 => exact co (Kd.R_reads' HO.out).2.2)
  (case side2 => exact (Kd.R_reads' HO.out).2.1)
  rintro e W4 ⟨rfl, hb⟩
  refine ⟨_, rfl, ?_⟩
  have n0_ := Aside0.mk (Kd.R_below (ro HO) hb)
  have n1_ := bb BS hb
  have n2_ := bb BR hb
  have n3_ := bb BQ hb
  have n4_ := bs HB hb
  clear HO BS BR BQ HB
  have HO := n0_
  have BS := n1_
  have BR := n2_
  have BQ := n3_
  have HB := n4_
  clear n0_ n1_ n2_ n3_ n4_
  clear hb
  refine hK.out _ _ ⟨(blk_cell BS.out 0).trans rfl, (blk_cell BS.out 1).trans rfl, (blk_cell BS.out 2).trans rfl, (blk_cell BR.out 0).trans rfl, (blk_cell BR.out 1).trans rfl, (blk_cell BR.out 2).trans rfl, (blk_cell BR.out 3).trans rfl, (blk_cell BR.out 4).trans rfl, (blk_cell BR.out 5).trans rfl, (blk_cell BR.out 6).trans rfl, (blk_cell BR.out 7).trans rfl, (blk_cell BR.out 8).trans rfl, (blk_cell BR.out 9).trans rfl, (blk_cell BR.out 10).trans rfl⟩ (fun hHeld => ?_)
  clear hK K
  refine norm_ (a' := ?_) ?_ ?_
  rotate_left
  · show Act.put _ (some 32) _ = _
    simp only [Act.put, List.setIfInBounds_toArray, List.set_cons_zero, List.set_cons_succ, i64_w, i32_w]
    rfl
  refine chain_ (fuel := 0) [(6, 0, some 26), (7, 0, some 33), (8, 0, some 34), (9, 0, some 7), (10, 0, some 8)] #[true, true, true, true, true, true, true, true, true, true, true] HT_.out HW_.out (by kernel_rfl) (fun _ _ _ _ _ h => h) (Or.inl (by decide)) rfl ?_
  (iterate 5 refine lkP ?_); refine .nil ?_
  refine done_ (done_of HT_.out (by kernel_rfl)) ?_
  clear hHeld HT_ HW_
  obtain ⟨sc0, sc1, sc2, sf0, sf1, sf2⟩ := bc3 BS; obtain ⟨rc0, rc1, rc2, rc3, rc4, rc5, rc6, rc7, rc8, rc9, rc10, rf0, rf1, rf2, rf3, rf4, rf5, rf6, rf7, rf8, rf9, rf10⟩ := bc11 BR
  go_wp2_with (first | ((with_reducible refine gate_dst (N := 40) rfl ?_); refine ld_err 3 1 (HE.out.below (bw HB)) ?_ rfl rfl (by decide) (by have := Errs.five; omega) rfl))
  go_ret
  exact ⟨.slice A l.length c, re, bk BS, by (with_reducible repeat (first | apply Kd.R_alloc | apply Kd.R_drewN | apply Kd.R_drew)); exact HO.out, bk BQ, bw HB⟩

/-- What a step does: the fault, the state behind it. -/
def state_step.f (k : Nat) (a0 a1 : Int) (l : List S56) (n : Int) (r0 r1 : Int) (r2 : ByteArray) (r3 r4 r5 r6 r7 r8 r9 r10 : Int) : Option (Int × Int × Int × List S56) :=
  (record_Valid.f k r0 r1 r2 r3 r4 r5 r6 r7 r8 r9 r10).bind fun b => if b = true then
    (if n = IntKind.u64.wrap (a0 + 1) then (if n ≤ 4611686018427387904 then
      (if state_Find.is_ l r2 = (r0 == 1) then some (3, a0, a1, l)
       else if r0 = 1 then (if l.length < 4096 then some (0, n, mx a1 r1, l.take (state_Find.at_ l r2) ++ [(⟨r2, (⟨r3, r4, r5, r6, r7⟩ : S35), (⟨0, 0, 0⟩ : S37)⟩ : S56)] ++ l.drop (state_Find.at_ l r2)) else some (3, a0, a1, l))
       else if r0 = 2 then some (0, n, mx a1 r1, l.take (state_Find.at_ l r2) ++ l.drop ((state_Find.at_ l r2) + 1))
       else if r0 = 3 then ((policy_Fits.f (l.getD (state_Find.at_ l r2) z56).f1.f0 (l.getD (state_Find.at_ l r2) z56).f1.f1 (l.getD (state_Find.at_ l r2) z56).f1.f2 (l.getD (state_Find.at_ l r2) z56).f1.f3 (l.getD (state_Find.at_ l r2) z56).f1.f4 r8 r9 r10).bind fun b => if b = true then ((policy_Covers.f (l.getD (state_Find.at_ l r2) z56).f1.f0 (l.getD (state_Find.at_ l r2) z56).f1.f1 (l.getD (state_Find.at_ l r2) z56).f1.f2 (l.getD (state_Find.at_ l r2) z56).f1.f3 (l.getD (state_Find.at_ l r2) z56).f1.f4 r8 r9 r10 (l.getD (state_Find.at_ l r2) z56).f2.f0 (l.getD (state_Find.at_ l r2) z56).f2.f1 (l.getD (state_Find.at_ l r2) z56).f2.f2).bind fun b => if b = true then some (0, n, mx a1 r1, l.set (state_Find.at_ l r2) (⟨(l.getD (state_Find.at_ l r2) z56).f0, (l.getD (state_Find.at_ l r2) z56).f1, (⟨r8, r9, r10⟩ : S37)⟩ : S56)) else some (3, a0, a1, l)) else some (3, a0, a1, l))
       else some (0, n, mx a1 r1, l))
     else some (2, a0, a1, l)) else some (2, a0, a1, l)) else some (1, a0, a1, l)
theorem state_step.mono : ∀ a0 a1 l n r0 r1 r2 r3 r4 r5 r6 r7 r8 r9 r10 k, LeO (state_step.f k a0 a1 l n r0 r1 r2 r3 r4 r5 r6 r7 r8 r9 r10) (state_step.f (k + 1) a0 a1 l n r0 r1 r2 r3 r4 r5 r6 r7 r8 r9 r10) := by
  intro a0 a1 l n r0 r1 r2 r3 r4 r5 r6 r7 r8 r9 r10 k
  exact LeO.bind (record_Valid.mono _ _ _ _ _ _ _ _ _ _ _ _) (fun _ => LeO.refl _)
theorem state_step.is_lt {l : List S56} {key : ByteArray} (h : state_Find.is_ l key = true) : state_Find.at_ l key < l.length := by
  unfold state_Find.is_ at h
  simp only [Bool.and_eq_true, decide_eq_true_eq] at h
  exact h.1
set_option maxHeartbeats 4000000 in
theorem state_step.calls (k : Nat) [Errs] (w W : World) (hE : Sent w) (gs : Nat) (a0 a1 : Int) (A : Option Addr) (c : Nat) (l : List S56) (n : Int) (r0 r1 : Int) (r2 : ByteArray) (r3 r4 r5 r6 r7 r8 r9 r10 : Int) (x1 x2 x3 : Int) (x4 : List S56) (hB : Below w.heap.size w W) (hgs : w.heap.size ≤ gs) (hblk : W.heap[gs]? = some (.cells #[.int .u64 a0, .int .u64 a1, .slice A l.length c] 27 (0, 0))) (hown : Kd.R k56 56 W w.heap.size (fun _ => True) (.slice A l.length c) l) (gq : Nat) (oq : Array Value) (tq : TypeId) (hbq : W.heap[gq]? = some (.cells oq tq (0, 0))) (htq : 56 ≠ tq) (hqs : gq ≠ gs)
    (h : state_step.f k a0 a1 l n r0 r1 r2 r3 r4 r5 r6 r7 r8 r9 r10 = some (x1, x2, x3, x4)) :
    Calls Tryd.prog 36 #[.pointer (some ⟨gs, 0, none⟩), .int .u64 n, .agg #[.int .i64 r0, .int .u64 r1, .string r2, .int .i64 r3, .int .u64 r4, .int .u64 r5, .int .u64 r6, .int .u64 r7, .int .u64 r8, .int .u64 r9, .int .u64 r10]] W fun e w' => ∃ v : Value, e = .returned (errW x1) ∧ w'.heap[gs]? = some (.cells #[.int .u64 x2, .int .u64 x3, v] 27 (0, 0)) ∧ Kd.R k56 56 w' w.heap.size (fun _ => True) v x4 ∧ w'.heap[gq]? = some (.cells oq tq (0, 0)) ∧ Below w.heap.size w w' := by
  unfold state_step.f at h
  obtain ⟨b, hv, h⟩ := Option.bind_eq_some_iff.mp h
  by_cases hb : b = true
  · subst hb
    rw [if_pos rfl] at h
    by_cases hn : n = IntKind.u64.wrap (a0 + 1)
    · rw [if_pos hn] at h
      have hn' : (n != IntKind.u64.wrap (a0 + 1)) = false := bne_eq_false_iff_eq.mpr hn
      by_cases hm : n ≤ 4611686018427387904
      · rw [if_pos hm] at h
        have hm' : decide (4611686018427387904 < n) = false := decide_eq_false (by omega)
        have hf : state_Find.f a0 a1 l r2 = some (((state_Find.at_ l r2 : Nat) : Int), state_Find.is_ l r2) := rfl
        by_cases ht : state_Find.is_ l r2 = (r0 == 1)
        · rw [if_pos ht] at h
          simp only [Option.some.injEq, Prod.mk.injEq] at h
          obtain ⟨rfl, rfl, rfl, rfl⟩ := h
          exact state_step.there w W hE gs a0 a1 A c l n r0 r1 r2 r3 r4 r5 r6 r7 r8 r9 r10 k _ _ hB hgs hblk hown gq oq tq hbq htq hqs hn' hm' hf hv (by rw [ht]; simp)
        · rw [if_neg ht] at h
          by_cases h1 : r0 = 1
          · subst h1
            rw [if_pos rfl] at h
            have hu : state_Find.is_ l r2 = false := by
              cases e : state_Find.is_ l r2
              · rfl
              · exact absurd e (by simpa using ht)
            rw [hu] at hf
            by_cases hl : l.length < 4096
            · rw [if_pos hl] at h
              simp only [Option.some.injEq, Prod.mk.injEq] at h
              obtain ⟨rfl, rfl, rfl, rfl⟩ := h
              exact state_step.define w W hE gs a0 a1 A c l n r1 r2 r3 r4 r5 r6 r7 r8 r9 r10 k _ hB hgs hblk hown gq oq tq hbq htq hqs hn' hm' hf hv hl _ (by rw [Int.toNat_natCast]) _ rfl
            · rw [if_neg hl] at h
              simp only [Option.some.injEq, Prod.mk.injEq] at h
              obtain ⟨rfl, rfl, rfl, rfl⟩ := h
              exact state_step.full w W hE gs a0 a1 A c l n r1 r2 r3 r4 r5 r6 r7 r8 r9 r10 k _ hB hgs hblk hown gq oq tq hbq htq hqs hn' hm' hf hv (decide_eq_true (by omega)) (decide_eq_true (by omega))
          · rw [if_neg h1] at h
            have h1' : (r0 == 1) = false := beq_eq_false_iff_ne.mpr h1
            have hu : state_Find.is_ l r2 = true := by
              rw [h1'] at ht
              simpa using ht
            have hlt := state_step.is_lt hu
            rw [hu] at hf
            by_cases h2 : r0 = 2
            · subst h2
              rw [if_pos rfl] at h
              simp only [Option.some.injEq, Prod.mk.injEq] at h
              obtain ⟨rfl, rfl, rfl, rfl⟩ := h
              exact state_step.delete w W hE gs a0 a1 A c l n r1 r2 r3 r4 r5 r6 r7 r8 r9 r10 k _ hB hgs hblk hown gq oq tq hbq htq hqs hn' hm' hf hv (Int.natCast_nonneg _) (by omega) _ (by rw [Int.toNat_natCast]) _ rfl
            · rw [if_neg h2] at h
              by_cases h3 : r0 = 3
              · subst h3
                rw [if_pos rfl] at h
                obtain ⟨b, hft, h⟩ := Option.bind_eq_some_iff.mp h
                by_cases hb : b = true
                · subst hb
                  rw [if_pos rfl] at h
                  obtain ⟨b, hcv, h⟩ := Option.bind_eq_some_iff.mp h
                  by_cases hb : b = true
                  · subst hb
                    rw [if_pos rfl] at h
                    simp only [Option.some.injEq, Prod.mk.injEq] at h
                    obtain ⟨rfl, rfl, rfl, rfl⟩ := h
                    exact state_step.ceil w W hE gs a0 a1 A c l n r1 r2 r3 r4 r5 r6 r7 r8 r9 r10 k _ hB hgs hblk hown gq oq tq hbq htq hqs hn' hm' hf hv hlt _ rfl hft hcv _ rfl
                  · rw [if_neg hb] at h
                    simp only [Option.some.injEq, Prod.mk.injEq] at h
                    obtain ⟨rfl, rfl, rfl, rfl⟩ := h
                    exact state_step.nocov w W hE gs a0 a1 A c l n r1 r2 r3 r4 r5 r6 r7 r8 r9 r10 k _ hB hgs hblk hown gq oq tq hbq htq hqs hn' hm' hf hv hlt _ rfl hft (by rw [hcv, Bool.eq_false_iff.mpr hb])
                · rw [if_neg hb] at h
                  simp only [Option.some.injEq, Prod.mk.injEq] at h
                  obtain ⟨rfl, rfl, rfl, rfl⟩ := h
                  exact state_step.nofit w W hE gs a0 a1 A c l n r1 r2 r3 r4 r5 r6 r7 r8 r9 r10 k _ hB hgs hblk hown gq oq tq hbq htq hqs hn' hm' hf hv hlt _ rfl (by rw [hft, Bool.eq_false_iff.mpr hb])
              · rw [if_neg h3] at h
                simp only [Option.some.injEq, Prod.mk.injEq] at h
                obtain ⟨rfl, rfl, rfl, rfl⟩ := h
                exact state_step.other w W hE gs a0 a1 A c l n r0 r1 r2 r3 r4 r5 r6 r7 r8 r9 r10 k _ hB hgs hblk hown gq oq tq hbq htq hqs hn' hm' hf hv h1' (beq_eq_false_iff_ne.mpr h2) (beq_eq_false_iff_ne.mpr h3) _ rfl
      · rw [if_neg hm] at h
        simp only [Option.some.injEq, Prod.mk.injEq] at h
        obtain ⟨rfl, rfl, rfl, rfl⟩ := h
        exact state_step.gap2 w W hE gs a0 a1 A c l n r0 r1 r2 r3 r4 r5 r6 r7 r8 r9 r10 k 0 true hB hgs hblk hown gq oq tq hbq htq hqs hv hn' (decide_eq_true (by omega))
    · rw [if_neg hn] at h
      simp only [Option.some.injEq, Prod.mk.injEq] at h
      obtain ⟨rfl, rfl, rfl, rfl⟩ := h
      exact state_step.gap1 w W hE gs a0 a1 A c l n r0 r1 r2 r3 r4 r5 r6 r7 r8 r9 r10 k 0 true hB hgs hblk hown gq oq tq hbq htq hqs hv (bne_iff_ne.mpr hn)
  · rw [if_neg hb] at h
    simp only [Option.some.injEq, Prod.mk.injEq] at h
    obtain ⟨rfl, rfl, rfl, rfl⟩ := h
    exact state_step.bad w W hE gs a0 a1 A c l n r0 r1 r2 r3 r4 r5 r6 r7 r8 r9 r10 k 0 true hB hgs hblk hown gq oq tq hbq htq hqs (by rw [hv, Bool.eq_false_iff.mpr hb])

end Go.Proofs.YtnhngjhodcikiaaDoor.F
