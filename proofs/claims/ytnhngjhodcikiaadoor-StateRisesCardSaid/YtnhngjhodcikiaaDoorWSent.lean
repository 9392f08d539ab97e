/- Written by hand: what a row's list of sentinels gives: the numbers' addresses, and that all of the list are told ('Sent'). -/
import Derived.Test.YtnhngjhodcikiaaDoorWErr
import Derived.LaidLaws
import Derived.MakeChecks
import Derived.Stop.LaidErr
import Derived.OpenShut
namespace Go.Proofs.YtnhngjhodcikiaaDoorW.PrintWords
open Go.RowKit
set_option linter.unusedVariables false
/-- A sentinel's datum. -/
def eDatum (text : List UInt8) : DataW Unit := .iface "*errors.errorString" (.ptr (.agg [.lit (.string text)]))
set_option maxRecDepth 100000 in
theorem laid_list {W : World} : ∀ (L : List (String × List UInt8)) (ps : List MemPlace), DataW.LaidVars Tryd.prog W (L.map fun x => (x.1, eDatum x.2)) ps → ps.Nodup → (∀ b off, MemPlace.cell b off ∈ ps → (∃ c t, W.heap[b]? = some (.cells c t (0, 0))) ∧ ∀ u v, W.cell? ⟨b, off, none⟩ = some (.iface u v) → Value.okWide Tryd.prog W .any 0 u v) → (∀ x ∈ L, ∃ g, Tryd.prog.globalNamed x.1 = some g ∧ (Tryd.prog.globals[g]?).map (·.type) = some 46) →
    ∃ ads : List Addr, ads.length = L.length ∧ ads.Nodup ∧ (∀ a ∈ ads, MemPlace.cell a.block a.off ∈ ps ∧ ∃ c t, W.heap[a.block]? = some (.cells c t (0, 0))) ∧ ∀ (i : Nat) (x : String × List UInt8), L[i]? = some x → ∃ a g, ads[i]? = some a ∧ Tryd.prog.globalNamed x.1 = some g ∧ W.cell? ⟨g, 0, none⟩ = some (.iface 120 (.pointer (some a)))
  | [], ps, h, hn, hr, hg => ⟨[], rfl, List.nodup_nil, by simp, by simp⟩
  | (nm, tx) :: L, ps, h, hn, hr, hg => by
    obtain ⟨g, t, cs, fuel, p, q, h1, h2, h3, h4, h5, rfl⟩ := h
    obtain ⟨g', e1, e2⟩ := hg (nm, tx) (List.mem_cons_self ..)
    obtain rfl : g' = g := Option.some.inj (e1.symm.trans h1)
    obtain rfl : t = 46 := Option.some.inj (h2.symm.trans e2)
    obtain ⟨l0⟩ := cs
    have hrow : ∀ u, Tryd.prog.typeName? 3 u = some "*errors.errorString" → u = 120 := fun u h => typeName_ptr_named (nm := "errors.errorString") (by kernel_rfl) (by kernel_rfl) (by decide) u h
    have ok0 : ∀ u v, l0 = [.iface u v] → Value.okWide Tryd.prog W .any 0 u v := fun u v e => by
      subst e
      exact (hr g' 0 (by simp [MemPlace.row])).2 u v (by simpa using World.var?_cell h1 h3 0)
    obtain ⟨a0, s0, rfl, hc0, hs0, hz0, rfl⟩ := errorString_of_trod Tryd.underlying46 hrow Tryd.underlying120 Tryd.underlying138 rfl rfl Tryd.underlying9 (by kernel_rfl) (by kernel_rfl) h4 ok0
    have hq : q.Nodup := (List.nodup_append.1 hn).2.1
    obtain ⟨ads, i1, i2, i3, i4⟩ := laid_list L q h5 hq (fun b off hm => hr b off (List.mem_append_right _ hm)) (fun x hx => hg x (List.mem_cons_of_mem _ hx))
    have m0 : MemPlace.cell a0.block a0.off ∈ MemPlace.row ⟨g', 0, none⟩ (List.toArray [Value.iface 120 (.pointer (some a0))]).size ++ MemPlace.row a0 1 := by simp [MemPlace.row]
    refine ⟨a0 :: ads, by simp [i1], List.nodup_cons.2 ⟨fun hm => ?_, i2⟩, ?_, ?_⟩
    · exact (List.nodup_append.1 hn).2.2 _ m0 _ (i3 a0 hm).1 rfl
    · intro a ha
      rcases List.mem_cons.1 ha with rfl | ha
      · exact ⟨List.mem_append_left _ m0, (hr _ _ (List.mem_append_left _ m0)).1⟩
      · exact ⟨List.mem_append_right _ (i3 a ha).1, (i3 a ha).2⟩
    · intro i x hx
      cases i with
      | zero =>
        simp only [List.getElem?_cons_zero, Option.some.injEq] at hx
        subst hx
        exact ⟨a0, g', rfl, h1, by simpa using World.var?_cell h1 h3 0⟩
      | succ i =>
        simp only [List.getElem?_cons_succ] at hx ⊢
        exact i4 i x hx
/-- The sentinels by their addresses; pos: where the n-th stands in the row's list. -/
@[reducible] noncomputable def mkErrs (ads : List Addr) (pos : List Nat) (lim : Nat) (h : 3 ≤ lim) : Errs := ⟨fun n => ads.getD (pos.getD n.toNat 0) ⟨0, 0, none⟩, lim, by omega⟩
theorem sent_of_ps {W : World} (L : List (String × List UInt8)) (pos : List Nat) (lim : Nat) (h5 : 3 ≤ lim) (ps : List MemPlace) (hv : DataW.LaidVars Tryd.prog W (L.map fun x => (x.1, eDatum x.2)) ps) (hn : ps.Nodup)
    (hr : ∀ b off, MemPlace.cell b off ∈ ps → (∃ c t, W.heap[b]? = some (.cells c t (0, 0))) ∧ ∀ u v, W.cell? ⟨b, off, none⟩ = some (.iface u v) → Value.okWide Tryd.prog W .any 0 u v) (hTab : Tabs W)
    (hT : (L.all fun x => match Tryd.prog.globalNamed x.1 with | some g => ((Tryd.prog.globals[g]?).map (·.type)) == some 46 | none => false) = true)
    (hP : ((List.range lim).all fun k => decide (pos.getD (k + 1) 0 < L.length) && (match L[pos.getD (k + 1) 0]? with | some x => Tryd.prog.globalNamed x.1 == some (eglob ((k + 1 : Nat) : Int)) | none => false)) = true)
    (hI : ((List.range lim).all fun k => (List.range lim).all fun m => pos.getD (k + 1) 0 != pos.getD (m + 1) 0 || k == m) = true) : ∃ E : Errs, E.lim = lim ∧ @Sent E W := by
  obtain ⟨ads, l1, l2, l3, l4⟩ := laid_list L ps hv hn hr (fun x hx => by
    have := List.all_eq_true.1 hT x hx
    cases hg : Tryd.prog.globalNamed x.1 with
    | none => rw [hg] at this; cases this
    | some g => rw [hg] at this; exact ⟨g, rfl, by simpa using this⟩)
  have key : ∀ n : Int, 1 ≤ n → n ≤ lim → ∃ k : Nat, n = ((k + 1 : Nat) : Int) ∧ k < lim := fun n h1 h2 => ⟨(n - 1).toNat, by omega, by omega⟩
  have look : ∀ k : Nat, k < lim → ∃ a x, ads[pos.getD (k + 1) 0]? = some a ∧ W.cell? ⟨eglob ((k + 1 : Nat) : Int), 0, none⟩ = some (.iface 120 (.pointer (some a))) ∧ pos.getD (k + 1) 0 < ads.length ∧ L[pos.getD (k + 1) 0]? = some x := fun k hk => by
    have h := List.all_eq_true.1 hP k (List.mem_range.2 hk)
    simp only [Bool.and_eq_true, decide_eq_true_eq] at h
    obtain ⟨h1, h2⟩ := h
    cases hx : L[pos.getD (k + 1) 0]? with
    | none => rw [hx] at h2; cases h2
    | some x =>
      rw [hx] at h2
      obtain ⟨a, g, e1, e2, e3⟩ := l4 _ x hx
      simp only [beq_iff_eq] at h2
      obtain rfl : g = eglob ((k + 1 : Nat) : Int) := Option.some.inj (e2.symm.trans h2)
      exact ⟨a, x, e1, e3, by omega, rfl⟩
  have at_eq : ∀ k : Nat, ∀ a, ads[pos.getD (k + 1) 0]? = some a → (mkErrs ads pos lim h5).at_ ((k + 1 : Nat) : Int) = a := fun k a e => by
    show ads.getD (pos.getD (((k + 1 : Nat) : Int)).toNat 0) ⟨0, 0, none⟩ = a
    rw [Int.toNat_natCast, List.getD_eq_getElem?_getD, e]
    rfl
  refine ⟨mkErrs ads pos lim h5, rfl, @Sent.mk (mkErrs ads pos lim h5) W (fun n h1 h2 => ?_) (fun n h1 h2 => ?_) (fun n m h1 h2 h3 h4 e => ?_) hTab⟩
  · obtain ⟨k, rfl, hk⟩ := key n h1 h2
    obtain ⟨a, x, e1, e2, _, _⟩ := look k hk
    rw [@errW_pos (mkErrs ads pos lim h5) _ h1, at_eq k a e1]
    exact e2
  · obtain ⟨k, rfl, hk⟩ := key n h1 h2
    obtain ⟨a, x, e1, e2, _, _⟩ := look k hk
    rw [at_eq k a e1]
    exact (l3 a (List.mem_of_getElem? e1)).2
  · obtain ⟨k, rfl, hk⟩ := key n h1 h2
    obtain ⟨j, rfl, hj⟩ := key m h3 h4
    obtain ⟨a, _, e1, _, p1, _⟩ := look k hk
    obtain ⟨b, _, e2, _, p2, _⟩ := look j hj
    rw [at_eq k a e1, at_eq j b e2] at e
    subst e
    have hh := List.all_eq_true.1 (List.all_eq_true.1 hI k (List.mem_range.2 hk)) j (List.mem_range.2 hj)
    simp only [Bool.or_eq_true, bne_iff_ne, beq_iff_eq] at hh
    rcases hh with hh | rfl
    · exact absurd ((List.getElem?_inj p1 l2).1 (e1.trans e2.symm)) hh
    · rfl
theorem sent_of_list {W : World} {laid : List (String × DataW Unit)} (L : List (String × List UInt8)) (pos : List Nat) (lim : Nat) (h5 : 3 ≤ lim) (hL : laidMetH Tryd.prog laid W) (hpl : (laid.all fun x => x.2.handleName?.isNone) = true) (hl : laid = L.map fun x => (x.1, eDatum x.2))
    (hT : (L.all fun x => match Tryd.prog.globalNamed x.1 with | some g => ((Tryd.prog.globals[g]?).map (·.type)) == some 46 | none => false) = true)
    (hP : ((List.range lim).all fun k => decide (pos.getD (k + 1) 0 < L.length) && (match L[pos.getD (k + 1) 0]? with | some x => Tryd.prog.globalNamed x.1 == some (eglob ((k + 1 : Nat) : Int)) | none => false)) = true)
    (hI : ((List.range lim).all fun k => (List.range lim).all fun m => pos.getD (k + 1) 0 != pos.getD (m + 1) 0 || k == m) = true) : ∃ E : Errs, E.lim = lim ∧ @Sent E W := by
  subst hl
  rw [MakeChecks.laidMetH_plain _ _ _ hpl] at hL
  obtain ⟨ps, hv, hn, hr⟩ := hL
  have hTab : Tabs W := trivial
  exact sent_of_ps L pos lim h5 _ hv hn hr hTab hT hP hI
end Go.Proofs.YtnhngjhodcikiaaDoorW.PrintWords
