/- Written by hand: 'copy', 'clear' and cuts over rows of elements of several cells; a value put into the midst of a row; one taken out. -/
import Derived.Test.YtnhngjhodcikiaaDoorWShort
import Derived.Shelf.Spec.SlicesInsert
import Derived.Lib.AppendZerosOnto
import Derived.Laws.CopyRow
import Derived.Maps.AppendAt
namespace Go.Proofs.YtnhngjhodcikiaaDoorW.PrintWords
open Go.RowKit Go.Lib
set_option linter.unusedVariables false
section
variable {P : Program}
/-- 'copy' into a known block, elements of any size. -/
theorem run_copyS (w : World) (dT sT ty elem : TypeId) (sz g o dLen dCap : Nat) (a : Addr) (sLen sCap : Nat) (cur : Array Value) (t : TypeId) (cs : List Value)
    (hu : P.underlying dT = some (.slice elem)) (hs : (P.info? elem).map (·.size) = some sz)
    (hg : w.heap[g]? = some (.cells cur t (0, 0))) (hn : cs.length = Nat.min sLen dLen * sz)
    (hsrc : ∀ j v, cs[j]? = some v → w.cell? (a.add j) = some v) (hfit : o + cs.length ≤ cur.size) (h1 : ∀ v ∈ cs, v.oneCell' = true) :
    (Builtin.copy_ #[dT, sT] ty #[.slice (some ⟨g, o, none⟩) dLen dCap, .slice (some a) sLen sCap]).run P w =
      .ok (goInt (Nat.min sLen dLen)) (w.setRow g (cur.toList.take o ++ cs ++ cur.toList.drop (o + cs.length)).toArray) := by
  have hl := run_loadCells_list (P := P) w a cs hsrc
  have hst := run_storeCells_at P g o t cs 0 cur w hg (by simpa using hfit) h1
  cases hq : P.info? elem with
  | none => simp [hq] at hs
  | some i =>
    have hi : i.size = sz := by simpa [hq] using hs
    simp [Builtin.copy_, run_underlying hu, Builtin.lenOf, Builtin.firstCells, sizeOf, typeInfo, hq, hi, ← hn, hl, hst]
theorem zeroCells_len (z : Array Value) : ∀ n, (Builtin.zeroCells z n).size = n * z.size := by
  intro n
  simp [Builtin.zeroCells]
theorem zeroCells_one (z : Array Value) : Builtin.zeroCells z 1 = z := by
  apply Array.ext
  · rw [zeroCells_len, Nat.one_mul]
  · intro i h1 h2
    simp only [Builtin.zeroCells, Array.getElem_map, Array.getElem_range]
    rw [Nat.mod_eq_of_lt h2, getElem!_pos z i h2]
theorem zeroCells_oneCell {z : Array Value} (h : ∀ v ∈ z.toList, v.oneCell' = true) (n : Nat) : ∀ v ∈ (Builtin.zeroCells z n).toList, v.oneCell' = true := by
  intro v hv
  simp only [Builtin.zeroCells, Array.toList_map, List.mem_map] at hv
  obtain ⟨i, hi, rfl⟩ := hv
  have hi2 : i < n * z.size := by simpa using hi
  have hp : 0 < z.size := by
    rcases Nat.eq_zero_or_pos z.size with e | e
    · rw [e, Nat.mul_zero] at hi2
      exact absurd hi2 (Nat.not_lt_zero _)
    · exact e
  have hm := Nat.mod_lt i hp
  rw [getElem!_pos z _ hm]
  exact h _ (by simp)
/-- 'clear' of one element in a known block. -/
theorem run_clear1 (w : World) (t e ty : TypeId) (z : Value) (g o c : Nat) (cur : Array Value) (q : TypeId) (ht : P.underlying t = some (.slice e)) (hv : ∀ w, (zeroValue e).run P w = .ok z w)
    (h1 : ∀ v ∈ z.cells.toList, v.oneCell' = true) (hg : w.heap[g]? = some (.cells cur q (0, 0))) (hfit : o + z.cells.size ≤ cur.size) :
    (Builtin.clear_ #[t] ty #[.slice (some ⟨g, o, none⟩) 1 c]).run P w = .ok (.tuple #[]) (w.setRow g (cur.toList.take o ++ z.cells.toList ++ cur.toList.drop (o + z.cells.size)).toArray) := by
  have hst := run_storeCells_at P g o q z.cells.toList 0 cur w hg (by simpa using hfit) h1
  simp [Builtin.clear_, run_underlying ht, hv w, zeroCells_one, hst, Result.andThen]
/-- What lies in a row behind the two copies. -/
theorem ins_cells {cur vs : List Value} {a s m : Nat} (ha : a + s ≤ m) (hm : m + s ≤ cur.length) (hv : vs.length = s) :
    ∀ cur1, cur1 = cur.take (a + s) ++ (cur.take m).drop a ++ cur.drop (a + s + ((cur.take m).drop a).length) →
    cur1.length = cur.length ∧ (cur1.take a ++ vs ++ cur1.drop (a + vs.length)).length = cur.length ∧ (cur1.take a ++ vs ++ cur1.drop (a + vs.length)).take (m + s) = (cur.take m).take a ++ vs ++ (cur.take m).drop a := by
  intro cur1 h1
  have l1 : ((cur.take m).drop a).length = m - a := by rw [List.length_drop, List.length_take]; omega
  have l2 : (cur.take (a + s)).length = a + s := by rw [List.length_take]; omega
  have e1 : cur1.length = cur.length := by
    rw [h1, List.length_append, List.length_append, l1, l2, List.length_drop]
    omega
  have e2 : cur1.take a = (cur.take m).take a := by
    rw [h1, List.append_assoc, List.take_append_of_le_length (by omega), List.take_take, List.take_take]
    congr 1
    omega
  have e3 : cur1.drop (a + vs.length) = (cur.take m).drop a ++ cur.drop (m + s) := by
    rw [h1, hv, List.append_assoc, List.drop_append_of_le_length (by omega), l1, List.drop_eq_nil_of_le (by omega), List.nil_append]
    congr 2
    omega
  refine ⟨e1, ?_, ?_⟩
  · rw [List.length_append, List.length_append, List.length_take, List.length_drop, hv, e1]
    omega
  · rw [e2, e3, ← List.append_assoc]
    have l3 : ((cur.take m).take a ++ vs ++ (cur.take m).drop a).length = m + s := by
      rw [List.length_append, List.length_append, l1, hv, List.length_take, List.length_take]
      omega
    rw [List.take_append_of_le_length (by omega), List.take_of_length_le (by omega)]
/-- What lies in a new row behind the two copies. -/
theorem ins_new {row cs vs : List Value} {a s m : Nat} (ha : a ≤ m) (hc : cs.length = m) (hr : m + s ≤ row.length) (hv : vs.length = s) (ht : row.take a = cs.take a) :
    ∀ r1, r1 = row.take a ++ vs ++ row.drop (a + vs.length) → r1.length = row.length ∧
    (r1.take (a + s) ++ cs.drop a ++ r1.drop (a + s + (cs.drop a).length)).length = row.length ∧ (r1.take (a + s) ++ cs.drop a ++ r1.drop (a + s + (cs.drop a).length)).take (m + s) = cs.take a ++ vs ++ cs.drop a := by
  intro r1 h1
  have l0 : (row.take a).length = a := by rw [List.length_take]; omega
  have l1 : (cs.drop a).length = m - a := by rw [List.length_drop]; omega
  have e1 : r1.length = row.length := by
    rw [h1, List.length_append, List.length_append, l0, hv, List.length_drop]
    omega
  have e2 : r1.take (a + s) = cs.take a ++ vs := by
    rw [h1, List.take_append_of_le_length (by rw [List.length_append]; omega), List.take_of_length_le (by rw [List.length_append]; omega), ht]
  have l2 : (cs.take a).length = a := by rw [List.length_take]; omega
  refine ⟨e1, ?_, ?_⟩
  · rw [List.length_append, List.length_append, List.length_take, l1, List.length_drop, e1]
    omega
  · rw [e2, List.take_append_of_le_length (by rw [List.length_append, List.length_append]; omega), List.take_of_length_le (by rw [List.length_append, List.length_append]; omega)]
/-- What lies in a row behind an element taken out and the last place cleared. -/
theorem del_cells {cur z : List Value} {a s m : Nat} (ha : a ≤ m) (hm : m + s ≤ cur.length) (hz : z.length = s) :
    ∀ cur1, cur1 = cur.take a ++ (cur.take (m + s)).drop (a + s) ++ cur.drop (a + ((cur.take (m + s)).drop (a + s)).length) →
    cur1.length = cur.length ∧ (cur1.take m ++ z ++ cur1.drop (m + z.length)).length = cur.length ∧ (cur1.take m ++ z ++ cur1.drop (m + z.length)).take m = (cur.take (m + s)).take a ++ (cur.take (m + s)).drop (a + s) := by
  intro cur1 h1
  have l1 : ((cur.take (m + s)).drop (a + s)).length = m - a := by rw [List.length_drop, List.length_take]; omega
  have l2 : (cur.take a).length = a := by rw [List.length_take]; omega
  have l3 : (cur.take a ++ (cur.take (m + s)).drop (a + s)).length = m := by rw [List.length_append, l1, l2]; omega
  have e1 : cur1.length = cur.length := by
    rw [h1, List.length_append, l3, List.length_drop, l1]
    omega
  have e2 : cur1.take m = (cur.take (m + s)).take a ++ (cur.take (m + s)).drop (a + s) := by
    rw [h1, List.take_append_of_le_length (by omega), List.take_of_length_le (by omega), List.take_take, Nat.min_eq_left (by omega)]
  have l4 : (cur1.take m).length = m := by rw [List.length_take]; omega
  refine ⟨e1, ?_, ?_⟩
  · rw [List.length_append, List.length_append, l4, List.length_drop, hz, e1]
    omega
  · rw [List.append_assoc, List.take_append_of_le_length (by omega), List.take_of_length_le (by omega), e2]
/-- A row with elements is a block. -/
theorem own_parts {w : World} {base e size n : Nat} {v : Value} {cs : List Value} (h : w.ownsRow base e size v n cs) (hn : 0 < n) : ∃ g cap cur, v = .slice (some ⟨g, 0, none⟩) n cap ∧ base ≤ g ∧ w.heap[g]? = some (.cells cur e (0, 0)) ∧ n ≤ cap ∧ cap ≤ maxLen ∧ cur.size = cap * size ∧ cur.toList.take (n * size) = cs := by
  rcases h.2 with ⟨_, h0⟩ | h2
  · omega
  · exact h2
theorem grown_setRow {w W : World} {g : Nat} {cs : Array Value} {row : Option Nat} (h : w.grownBy W row) (hg : row = some g ∨ w.heap.size ≤ g) : w.grownBy (W.setRow g cs) row :=
  ⟨h.os, h.tape, h.output, by simpa [World.setRow] using h.size, fun i hi hr => (setRow_other W g i cs (by
    rintro rfl
    rcases hg with rfl | hg
    · exact hr rfl
    · omega)).trans (h.block i hi hr)⟩
theorem grown_drew {w W : World} {row : Option Nat} (h : w.grownBy W row) : w.grownBy W.drew row := ⟨h.os, h.tape, h.output, h.size, h.block⟩
end
section
variable {α : Type} {cl : α → List Value} {s : Nat}
/-- The cells of a row's elements, one behind the other. -/
def flat (cl : α → List Value) (l : List α) : List Value := l.flatMap cl
theorem flat_len (h : ∀ x, (cl x).length = s) : ∀ l : List α, (flat cl l).length = l.length * s
  | [] => by simp [flat]
  | x :: l => by
    have h1 := flat_len h l
    have h2 : flat cl (x :: l) = cl x ++ flat cl l := by simp [flat]
    rw [h2, List.length_append, h x, h1, List.length_cons, Nat.add_mul, Nat.one_mul, Nat.add_comm]
theorem flat_app (a b : List α) : flat cl (a ++ b) = flat cl a ++ flat cl b := by simp [flat]
theorem flat_one (x : α) : flat cl [x] = cl x := by simp [flat]
theorem flat_ones (h : ∀ x, ∀ u ∈ cl x, u.oneCell' = true) (l : List α) : ∀ u ∈ flat cl l, u.oneCell' = true := by
  intro u hu
  obtain ⟨x, _, hx⟩ := List.mem_flatMap.1 hu
  exact h x u hx
theorem flat_take (h : ∀ x, (cl x).length = s) (l : List α) (i : Nat) : (flat cl l).take (i * s) = flat cl (l.take i) := by
  rcases Nat.le_total i l.length with hi | hi
  · have e : flat cl l = flat cl (l.take i) ++ flat cl (l.drop i) := by rw [← flat_app, List.take_append_drop]
    have e2 : (flat cl (l.take i)).length = i * s := by rw [flat_len h, List.length_take, Nat.min_eq_left hi]
    rw [e, ← e2, List.take_left]
  · rw [List.take_of_length_le hi, List.take_of_length_le (by rw [flat_len h]; exact Nat.mul_le_mul_right _ hi)]
theorem flat_drop (h : ∀ x, (cl x).length = s) (l : List α) (i : Nat) : (flat cl l).drop (i * s) = flat cl (l.drop i) := by
  rcases Nat.le_total i l.length with hi | hi
  · have e : flat cl l = flat cl (l.take i) ++ flat cl (l.drop i) := by rw [← flat_app, List.take_append_drop]
    have e2 : (flat cl (l.take i)).length = i * s := by rw [flat_len h, List.length_take, Nat.min_eq_left hi]
    rw [e, ← e2, List.drop_left]
  · rw [List.drop_eq_nil_of_le hi, List.drop_eq_nil_of_le (by rw [flat_len h]; exact Nat.mul_le_mul_right _ hi)]
    rfl
theorem flat_get (h : ∀ x, (cl x).length = s) {l : List α} {j : Nat} {x : α} (hj : l[j]? = some x) : ((flat cl l).drop (j * s)).take s = cl x := by
  obtain ⟨hlt, e⟩ := List.getElem?_eq_some_iff.1 hj
  rw [flat_drop h, List.drop_eq_getElem_cons hlt, e]
  have h2 : flat cl (x :: l.drop (j + 1)) = cl x ++ flat cl (l.drop (j + 1)) := by simp [flat]
  rw [h2, ← h x, List.take_left]
/-- A row of one's own, its elements told by a kind. -/
theorem R_of_flat {d : Kd α} {e base : Nat} {ok : Nat → Prop} {w : World} {v : Value} {l : List α} (h : ∀ x, (cl x).length = d.sz) (hM : ∀ (w : World) (base : Nat) (ok : Nat → Prop) (x : α), d.M w base ok x (cl x))
    (ho : w.ownsRow base e d.sz v l.length (flat cl l)) (hok : ∀ k, ok k) : d.R e w base ok v l :=
  ⟨fun k _ => hok k, _, ho, flat_len h l, fun j p hj => by rw [flat_get h hj]; exact hM _ _ _ _⟩
theorem flat_of_Reps (h : ∀ x, (cl x).length = s) {R : α → List Value → Prop} (hK : ∀ x cs, R x cs → cs = cl x) : ∀ (l : List α) (cs : List Value), Reps R s l cs → cs = flat cl l
  | [], cs, hr => by
    have := hr.1
    rw [List.length_nil, Nat.zero_mul] at this
    rw [List.eq_nil_of_length_eq_zero this]
    rfl
  | x :: l, cs, hr => by
    have h0 := hK _ _ (hr.2 0 x rfl)
    rw [Nat.zero_mul, List.drop_zero] at h0
    have h1 := flat_of_Reps h hK l (cs.drop s) ⟨by rw [List.length_drop, hr.1, List.length_cons, Nat.add_mul, Nat.one_mul, Nat.add_sub_cancel], fun j p hj => by
      have := hr.2 (j + 1) p hj
      rw [List.drop_drop, show s + j * s = (j + 1) * s by rw [Nat.add_mul, Nat.one_mul, Nat.add_comm]]
      exact this⟩
    have h2 : flat cl (x :: l) = cl x ++ flat cl l := by simp [flat]
    rw [h2, ← h0, ← h1, List.take_append_drop]
theorem flat_of_R {d : Kd α} {e base : Nat} {ok : Nat → Prop} {w : World} {v : Value} {l : List α} (h : ∀ x, (cl x).length = d.sz) (hK : ∀ (w : World) (x : α) (cs : List Value), d.K w x cs → cs = cl x)
    (hr : d.R e w base ok v l) : w.ownsRow base e d.sz v l.length (flat cl l) := by
  obtain ⟨_, inner, ho, hi⟩ := hr
  rw [← flat_of_Reps h (fun x cs hx => hK w x cs (d.K_of_M hx)) l inner hi]
  exact ho
/-- A row that came in: its cells. -/
theorem C_flat {d : Kd α} {w : World} {ad : Addr} {l : List α} (hs : 0 < d.sz) (h : ∀ x, (cl x).length = d.sz) (hK : ∀ (w : World) (x : α) (cs : List Value), d.K w x cs → cs = cl x)
    (hr : d.C w (some ad) l.length l) : ∀ j u, (flat cl l)[j]? = some u → w.cell? (ad.add j) = some u := by
  intro j u hj
  have hlt := (List.getElem?_eq_some_iff.1 hj).1
  rw [flat_len h] at hlt
  have hq : j / d.sz < l.length := Nat.div_lt_of_lt_mul (by rw [Nat.mul_comm]; exact hlt)
  obtain ⟨ad2, e, hc⟩ := hr.2.2 (Nat.lt_of_le_of_lt (Nat.zero_le _) hq)
  cases e
  obtain ⟨c, _, hcx, hcell⟩ := hc _ _ (List.getElem?_eq_getElem hq)
  have e1 := hK _ _ _ hcx
  have e2 := flat_get h (List.getElem?_eq_getElem hq)
  have hm := Nat.mod_lt j hs
  have hdj : j / d.sz * d.sz + j % d.sz = j := by rw [Nat.mul_comm]; exact Nat.div_add_mod j d.sz
  have := hcell (j % d.sz) u (by
    rw [e1, ← e2, List.getElem?_take_of_lt hm, List.getElem?_drop, hdj]
    exact hj)
  rw [hdj] at this
  exact this
end
end Go.Proofs.YtnhngjhodcikiaaDoorW.PrintWords
