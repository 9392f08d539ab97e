/- The audit's two rules, told by whole numbers: a Flow by its tat, a Grid by the sums of its windows. -/
import Derived.Test.YtdoifmefhofnnaaMAud
import Derived.Test.YtdoifmefhofnnaaMPolD
import Derived.Test.YtdoifmefhofnnaaDx15
import Derived.Test.YtdoifmefhofnnaaDx21
import Derived.Test.YtdoifmefhofnnaaDx22
import Derived.Test.YtdoifmefhofnnaaDx24
namespace Go.Proofs.Ytdoifmefhofnnaa.M
set_option linter.unusedVariables false
open Go.RowKit Go.Proofs.Ytdoifmefhofnnaa.D Go.Proofs.YtdoifmefhofnnaaW.PrintWords Go.Proofs.YtdoifmefhofnnaaW.PrintMore
theorem dv2 {a b : Int} (ha : U a) (hb : U b) : IntKind.u64.wrap (Int.tdiv a b) = a / b := by
  rw [Int.tdiv_eq_ediv_of_nonneg ha.1]
  apply wr_id
  refine ⟨Int.ediv_nonneg ha.1 hb.1, Int.lt_of_le_of_lt (Int.ediv_le_self _ ha.1) ha.2⟩
/-- The units of a window. -/
def wsum (span : Int) : List S31 → Int → Int
  | [], _ => 0
  | e :: es, w => (if e.f0 / span = w then e.f1 else 0) + wsum span es w
/-- The greatest window. -/
def wlast (span : Int) : List S31 → Int → Int
  | [], a => a
  | e :: es, a => wlast span es (if a < e.f0 / span then e.f0 / span else a)
theorem wsum_nonneg {span : Int} : ∀ (l : List S31), (∀ y ∈ l, q31 y) → ∀ w, 0 ≤ wsum span l w
  | [], _, _ => Int.le_refl 0
  | e :: es, hq, w => by
    have h := wsum_nonneg (span := span) es (fun y hy => hq y (List.mem_cons_of_mem _ hy)) w
    have hu : U e.f1 := U_wf (hq e (List.mem_cons_self ..)).2
    unfold wsum
    have := hu.1
    split <;> omega
theorem wsum_append {span : Int} : ∀ (l m : List S31) (w : Int), wsum span (l ++ m) w = wsum span l w + wsum span m w
  | [], m, w => by simp [wsum]
  | e :: es, m, w => by
    have h := wsum_append (span := span) es m w
    simp only [List.cons_append, wsum]
    rw [h]
    omega
def Gok (span lim : Int) (M : Int → Int) (l : List S31) : Prop := (∀ e ∈ l, e.f1 ≠ 0) ∧ ∀ w, M w + wsum span l w ≤ lim
theorem over_law {span lim : Int} (hs : U span) (hl : U lim) : ∀ (l : List S31), (∀ y ∈ l, q31 y) → ∀ (a : Int) (M : Int → Int), (∀ w, 0 ≤ M w ∧ M w ≤ lim) →
    (Gok span lim M l ∧ gr.over span lim 0 0 l a (fun w => T3 (M w)) = some (wlast span l a, fun w => T3 (M w + wsum span l w), true)) ∨
    (¬ Gok span lim M l ∧ ∃ x y, gr.over span lim 0 0 l a (fun w => T3 (M w)) = some (x, y, false))
  | [], hq, a, M, hM => by
    left
    refine ⟨⟨fun e he => absurd he (by simp), fun w => ?_⟩, ?_⟩
    · have := hM w
      simp only [wsum]
      omega
    · simp only [gr.over, wlast, wsum, Int.add_zero]
  | e :: es, hq, a, M, hM => by
    have hqe := hq e (List.mem_cons_self ..)
    have ha : U e.f0 := U_wf hqe.1
    have hu : U e.f1 := U_wf hqe.2
    have hqs : ∀ y ∈ es, q31 y := fun y hy => hq y (List.mem_cons_of_mem _ hy)
    simp only [gr.over]
    by_cases c : e.f1 = 0
    · rw [if_pos c]
      right
      exact ⟨fun h => h.1 e (List.mem_cons_self ..) c, _, _, rfl⟩
    rw [if_neg c, dv2 ha hs]
    have hMw := hM (e.f0 / span)
    have p1 : audit_plus.f (T3 (M (e.f0 / span))).1 (T3 (M (e.f0 / span))).2.1 (T3 (M (e.f0 / span))).2.2 e.f1 0 0 = some (T3 (M (e.f0 / span) + e.f1)) := by
      have h := plus3 (a := M (e.f0 / span)) (b := e.f1) (by unfold Sm U at *; omega) (by unfold Sm U at *; omega)
      have h3 := T3_of hu
      rw [h3] at h
      exact h
    have a1 : audit_above.f (T3 (M (e.f0 / span) + e.f1)).1 (T3 (M (e.f0 / span) + e.f1)).2.1 (T3 (M (e.f0 / span) + e.f1)).2.2 lim 0 0 = some (decide (lim < M (e.f0 / span) + e.f1)) := by
      have h := above3 (a := M (e.f0 / span) + e.f1) (b := lim) (by unfold Sm U at *; omega) (by unfold Sm U at *; omega)
      have h3 := T3_of hl
      rw [h3] at h
      exact h
    rw [p1]
    simp only [Option.bind_some]
    rw [a1]
    simp only [Option.bind_some]
    have hM' : ∀ w, M w + wsum span (e :: es) w = (if w = e.f0 / span then M (e.f0 / span) + e.f1 else M w) + wsum span es w := by
      intro w
      simp only [wsum]
      by_cases d : w = e.f0 / span
      · subst d
        rw [if_pos rfl, if_pos rfl]
        omega
      · rw [if_neg (fun h => d h.symm), if_neg d]
        omega
    by_cases d : lim < M (e.f0 / span) + e.f1
    · rw [if_pos (by simpa using d)]
      right
      refine ⟨fun h => ?_, _, _, rfl⟩
      have h2 := h.2 (e.f0 / span)
      rw [hM', if_pos rfl] at h2
      have := wsum_nonneg (span := span) es hqs (e.f0 / span)
      omega
    · rw [if_neg (by simpa using d)]
      have eu : gr.upd (fun w => T3 (M w)) (e.f0 / span) (T3 (M (e.f0 / span) + e.f1)) = fun w => T3 ((fun w => if w = e.f0 / span then M (e.f0 / span) + e.f1 else M w) w) := by
        funext w
        unfold gr.upd
        simp only
        split <;> rfl
      rw [eu]
      have ih := over_law hs hl es hqs (if a < e.f0 / span then e.f0 / span else a) (fun w => if w = e.f0 / span then M (e.f0 / span) + e.f1 else M w) (by
        intro w
        have := hM w
        have := hu.1
        try simp only
        split <;> omega)
      have eG : Gok span lim (fun w => if w = e.f0 / span then M (e.f0 / span) + e.f1 else M w) es ↔ Gok span lim M (e :: es) := by
        unfold Gok
        refine and_congr ⟨fun h y hy => ?_, fun h y hy => h y (List.mem_cons_of_mem _ hy)⟩ ⟨fun h w => ?_, fun h w => ?_⟩
        · rcases List.mem_cons.mp hy with rfl | hy
          · exact c
          · exact h y hy
        · rw [hM']
          exact h w
        · have := h w
          rw [hM'] at this
          exact this
      rw [eG] at ih
      rcases ih with ⟨h1, h2⟩ | ⟨h1, h2⟩
      · left
        refine ⟨h1, ?_⟩
        rw [h2]
        simp only [wlast]
        congr 3
        funext w
        rw [hM']
      · right
        exact ⟨h1, h2⟩
/-- What a policy asks of events. -/
def cOk (p : Pol) (l : List S31) : Prop := pv p = true ∧ (p.kind = 1 → (run p.gap p.slack l 0).2 = true) ∧ (p.kind = 2 → Gok p.span p.lim (fun _ => 0) l)
theorem over_law0 {p : Pol} (hp : p.U) (l : List S31) (hq : ∀ y ∈ l, q31 y) :
    (Gok p.span p.lim (fun _ => 0) l ∧ gr.over p.span p.lim 0 0 l 0 (fun _ => (0, 0, 0)) = some (wlast p.span l 0, fun w => T3 (wsum p.span l w), true)) ∨
    (¬ Gok p.span p.lim (fun _ => 0) l ∧ ∃ x y, gr.over p.span p.lim 0 0 l 0 (fun _ => (0, 0, 0)) = some (x, y, false)) := by
  have h := over_law hp.2.2.2 hp.2.2.1 l hq 0 (fun _ => 0) (fun w => ⟨Int.le_refl 0, hp.2.2.1.1⟩)
  have e : (fun w : Int => T3 ((fun _ => (0 : Int)) w)) = fun _ => (0, 0, 0) := by
    funext w
    exact T3_of (x := 0) ⟨Int.le_refl 0, by decide⟩
  rw [e] at h
  simp only [Int.zero_add] at h
  exact h
theorem PConf {p : Pol} (hp : p.U) (l : List S31) (hq : ∀ y ∈ l, q31 y) (hl : l.length ≤ 4194304) (k : Nat) :
    ∃ b : Bool, audit_Conforms.f (k + 1) p.kind p.gap p.slack p.lim p.span l = some b ∧ (b = true ↔ cOk p l) := by
  unfold audit_Conforms.f audit_whole.f cOk
  rw [PValid p]
  simp only [Option.bind_some]
  cases hv : pv p with
  | false =>
    rw [if_neg (by simp)]
    exact ⟨false, rfl, by simp⟩
  | true =>
    rw [if_pos rfl]
    rw [pv_iff] at hv
    by_cases c : p.kind = 1
    · rw [if_pos c, c, flowF hp.1 hp.2.1 k l hq (by omega)]
      simp only [Option.bind_some]
      refine ⟨_, rfl, fun h => ⟨?_, fun _ => h, fun h => ?_⟩, fun h => h.2.1 trivial⟩
      · first | rfl | trivial
      · omega
    · rw [if_neg c]
      unfold audit_grid.f
      rw [if_neg (by omega), if_pos (by omega)]
      have h2 : p.kind = 2 := by omega
      rcases over_law0 hp l hq with ⟨g, e⟩ | ⟨g, x, y, e⟩
      · rw [e]
        exact ⟨true, rfl, fun _ => ⟨rfl, fun h => absurd h c, fun _ => g⟩, fun _ => rfl⟩
      · rw [e]
        exact ⟨false, rfl, fun h => absurd h (by decide), fun h => absurd (h.2.2 h2) g⟩
theorem run_c0 {gap slack : Int} {a : S31} (l : List S31) (t : Int) (c : a.f1 = 0) : run gap slack (a :: l) t = (t, false) := by
  simp only [run]
  rw [if_pos c]
theorem run_c1 {gap slack : Int} {a : S31} (l : List S31) (t : Int) (c : ¬ a.f1 = 0) (d : (step gap slack t a.f0 a.f1).2 = true) : run gap slack (a :: l) t = run gap slack l (step gap slack t a.f0 a.f1).1 := by
  simp only [run]
  rw [if_neg c, if_pos d]
theorem run_c2 {gap slack : Int} {a : S31} (l : List S31) (t : Int) (c : ¬ a.f1 = 0) (d : ¬ (step gap slack t a.f0 a.f1).2 = true) : run gap slack (a :: l) t = (t, false) := by
  simp only [run]
  rw [if_neg c, if_neg d]
end Go.Proofs.Ytdoifmefhofnnaa.M
