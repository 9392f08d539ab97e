/- Written by hand: what is read as data of a type is told by a kind (Kd): for the rows of laws over structs and slices of structs. -/
import Derived.SizedLaws
import Derived.Deep.Slices
import Derived.WideShapes
import Derived.ProofKit
import Derived.OpenShut
import Derived.Test.YtnhngjhodcikiaaDoorWAll
namespace Go.Proofs.YtnhngjhodcikiaaDoorW.PrintOpen
open Go.ChangeShapes Go.WideShapes Go.RowKit Go.Deep Go.Proofs.YtnhngjhodcikiaaDoorW.PrintWords
variable {H : Type} {enc : TypeId × Value → H} {P : Program}
def Opens (enc : TypeId × Value → H) (P : Program) (t : TypeId) {α : Type} (d : Kd α) (Q : α → Prop) : Prop :=
  ∀ (W : World) (fuel : Nat) (cs : List Value) (y : DataW H × List MemPlace), DataW.trod enc P W 0 (fun _ => true) true fuel t cs = some y → (∀ n ∈ y.1.weights P t, n ≤ reachBytes) → ∃ x, d.K W x cs ∧ Q x
theorem Opens.imp {t : TypeId} {α : Type} {d : Kd α} {Q Q' : α → Prop} (h : Opens enc P t d Q) (hq : ∀ x, Q x → Q' x) : Opens enc P t d Q' := fun W fuel cs y hy hw => by
  obtain ⟨x, hx, hQ⟩ := h W fuel cs y hy hw
  exact ⟨x, hx, hq x hQ⟩
theorem opens_int {t : TypeId} {k : IntKind} (hu : P.underlying t = some (.int k)) : Opens enc P t (Kd.int k) (fun x => (Lit.int k x).wf = true) := fun W fuel cs y hy _ => by
  obtain ⟨n, rfl, _, hw⟩ := DataW.trod_int hu hy
  exact ⟨n, rfl, hw⟩
theorem opens_bool {t : TypeId} (hu : P.underlying t = some .bool) : Opens enc P t Kd.bool (fun _ => True) := fun W fuel cs y hy _ => by
  obtain ⟨n, rfl, _⟩ := DataW.trod_bool hu hy
  exact ⟨n, rfl, trivial⟩
theorem opens_string {t : TypeId} (hu : P.underlying t = some .string) : Opens enc P t Kd.string (fun s => s.size ≤ 140737488351232) := fun W fuel cs y hy hw => by
  obtain ⟨s, rfl, rfl, _⟩ := DataW.trod_string hu hy
  refine ⟨s, rfl, ?_⟩
  have := hw s.data.toList.length (by simp [DataW.weights])
  rw [Array.length_toList] at this
  exact this
theorem weights_all {e : TypeId} : ∀ {l : List (DataW H)} {d : DataW H}, d ∈ l → ∀ n ∈ d.weights P e, n ∈ DataW.weightsAll P e l
  | [], d, h, _, _ => by cases h
  | a :: r, d, h, n, hn => by
    rw [DataW.weightsAll]
    rcases List.mem_cons.1 h with rfl | h
    · exact List.mem_append_left _ hn
    · exact List.mem_append_right _ (weights_all h n hn)
theorem opens_slice {t e : TypeId} {B : Nat} {α : Type} {d : Kd α} {Q : α → Prop} (hu : P.underlying t = some (.slice e)) (hc : P.cellsOf e = d.sz) (hB : P.bytesOf e = B) (h : Opens enc P e d Q) :
    Opens enc P t (Kd.slice e d) (fun l => l.length ≤ maxLen ∧ l.length * B ≤ 140737488351232 ∧ ∀ x ∈ l, Q x) := fun W fuel cs y hy hw => by
  rcases open_slice hu hy with ⟨rfl, rfl⟩ | ⟨a, len, cap, m, n, D, Pl, rfl, _, hl, hm, hmm, rfl, hx⟩
  · exact ⟨[], ⟨none, 0, rfl, Nat.le_refl _, Kd.C_nil _ _⟩, by simp, by simp, by simp⟩
  · simp only [if_true] at hmm
    obtain rfl : m = cap := hmm
    have hwt : ∀ i, i < len → ∀ q ∈ (D i).weights P e, q ≤ reachBytes := fun i hi q hq => hw q (by
      simp only [DataW.weights, hu]
      refine List.mem_cons_of_mem _ (List.mem_append_left _ ?_)
      exact weights_all (List.mem_map.2 ⟨i, List.mem_range.2 hi, rfl⟩) q hq)
    have hw0 : (len + (m - len)) * B ≤ reachBytes := by
      have := hw _ (by simp only [DataW.weights, hu]; exact List.mem_cons_self)
      simpa [hB] using this
    have key : ∀ i, i < len → ∃ x : α, (∃ cs', W.cells? 0 (a.add (i * d.sz)) d.sz = some cs' ∧ d.K W x cs') ∧ Q x := fun i hi => by
      obtain ⟨cs', h1, h2⟩ := hx i (by omega)
      obtain ⟨x, hK, hQ⟩ := h W n cs' _ h2 (hwt i hi)
      rw [hc] at h1
      exact ⟨x, ⟨cs', h1, hK⟩, hQ⟩
    by_cases h0 : len = 0
    · subst h0
      refine ⟨[], ⟨some a, m, rfl, Nat.zero_le _, ?_⟩, by simp, by simp, by simp⟩
      exact ⟨rfl, by simp, fun hp => absurd hp (by simp)⟩
    · obtain ⟨x0, _⟩ := key 0 (by omega)
      haveI : Inhabited α := ⟨x0⟩
      obtain ⟨f, hf⟩ := choose_lt key
      have hlen : ((List.range len).map f).length = len := by simp
      refine ⟨(List.range len).map f, ⟨some a, m, by rw [hlen], by rw [hlen]; exact hl, ?_⟩, by rw [hlen]; omega, ?_, ?_⟩
      · refine ⟨rfl, by rw [hlen]; unfold maxLen at hm; omega, fun _ => ⟨a, rfl, fun j p hj => ?_⟩⟩
        have hjl : j < len := by have := (List.getElem?_eq_some_iff.1 hj).1; rwa [hlen] at this
        have hp : p = f j := by simp [hjl] at hj; exact hj.symm
        subst hp
        obtain ⟨⟨cs', h1, hK⟩, _⟩ := hf j hjl
        obtain ⟨_, hl1, hcell⟩ := World.cells?_some h1
        refine ⟨cs', hl1, hK, fun q u hu' => ?_⟩
        have hq : q < cs'.length := (List.getElem?_eq_some_iff.1 hu').1
        have := hcell q (by omega)
        rw [Go.Deep.add_add] at this
        rw [this, hu']
      · rw [hlen]
        have : len * B ≤ (len + (m - len)) * B := Nat.mul_le_mul_right _ (by omega)
        exact Nat.le_trans this hw0
      · intro x hx'
        obtain ⟨i, hi, rfl⟩ := List.mem_map.1 hx'
        exact (hf i (List.mem_range.1 hi)).2
/-- The fields from one on, from this place on. -/
def OpensF (enc : TypeId × Value → H) (P : Program) (fs : List Field) (off total : Nat) {α : Type} (d : Kd α) (Q : α → Prop) : Prop :=
  ∀ (W : World) (n : Nat) (cs : List Value) (xs : List (DataW H × List MemPlace)), cs.length = total → (∀ (i : Nat) (f : Field), fs[i]? = some f → DataW.trod enc P W 0 (fun _ => true) true n f.type ((cs.drop f.offset).take (P.cellsOf f.type)) = xs[i]?) → xs.length = fs.length →
    (∀ q ∈ DataW.weightsEach P (fs.map (·.type)) (xs.map (·.1)), q ≤ reachBytes) → ∃ x, d.K W x (cs.drop off) ∧ Q x
theorem opensF_one {f : Field} {off total : Nat} {α : Type} {d : Kd α} {Q : α → Prop} (ho : f.offset = off) (hc : P.cellsOf f.type = d.sz) (ht : off + d.sz = total) (h : Opens enc P f.type d Q) : OpensF enc P [f] off total d Q := fun W n cs xs hl hx hxl hw => by
  match xs, hxl with
  | [y], _ =>
    have h1 := hx 0 f rfl
    rw [ho, hc, List.take_of_length_le (by rw [List.length_drop]; omega)] at h1
    exact h W n _ y h1 (fun q hq => hw q (by simp only [List.map, DataW.weightsEach]; exact List.mem_append_left _ hq))
theorem opensF_cons {f : Field} {fs : List Field} {off off' total : Nat} {α β : Type} {d : Kd α} {d' : Kd β} {Q : α → Prop} {Q' : β → Prop} (ho : f.offset = off) (hc : P.cellsOf f.type = d.sz) (ho' : off' = off + d.sz) (h : Opens enc P f.type d Q) (h' : OpensF enc P fs off' total d' Q') :
    OpensF enc P (f :: fs) off total (Kd.pair d d') (fun x => Q x.1 ∧ Q' x.2) := fun W n cs xs hl hx hxl hw => by
  match xs, hxl with
  | y :: ys, hxl =>
    have h1 := hx 0 f rfl
    rw [ho, hc] at h1
    obtain ⟨x, hK, hQ⟩ := h W n _ y h1 (fun q hq => hw q (by simp only [List.map, DataW.weightsEach]; exact List.mem_append_left _ hq))
    obtain ⟨x', hK', hQ'⟩ := h' W n cs ys hl (fun i g hg => hx (i + 1) g hg) (by simpa using hxl) (fun q hq => hw q (by simp only [List.map, DataW.weightsEach]; exact List.mem_append_right _ hq))
    refine ⟨(x, x'), ⟨_, _, ?_, hK, hK'⟩, hQ, hQ'⟩
    rw [ho', ← List.drop_drop, List.take_append_drop]
theorem opens_struct {t : TypeId} {fs : Array Field} {total : Nat} {α β : Type} {d : Kd α} {Q : α → Prop} {Q' : β → Prop} {f : β → α} {g : α → β} (hu : P.underlying t = some (.struct fs)) (hc : P.cellsOf t = total) (h : OpensF enc P fs.toList 0 total d Q) (hg : ∀ a, f (g a) = a) (hq : ∀ a, Q a → Q' (g a)) : Opens enc P t (Kd.iso d f) Q' := fun W fuel cs y hy hw => by
  obtain ⟨xs, n, rfl, rfl, hl, hxl, hx⟩ := DataW.trod_struct hu hy
  obtain ⟨x, hK, hQ⟩ := h W n cs xs (by rw [hl, hc]) (fun i f hf => hx i f (by simpa using hf)) (by simpa using hxl) (fun q hq => hw q (by simp only [DataW.weights, hu]; exact hq))
  refine ⟨g x, ?_, hq x hQ⟩
  show d.K W (f (g x)) cs
  rw [hg]
  simpa using hK
/-- An argument. -/
theorem Opens.arg {t : TypeId} {α : Type} {d : Kd α} {Q : α → Prop} (h : Opens enc P t d Q) {W : World} {v : Value} {y : DataW H} {ps : List MemPlace} {ts : List TypeId} {ds : List (DataW H)} {j : Nat} (hsz : (DataW.weightsEach P ts ds).all (· ≤ reachBytes) = true) (ht : ts[j]? = some t) (hd : ds[j]? = some y)
    (hr : DataW.Trod enc P W 0 (fun _ => true) true t v y ps) : ∃ x, d.K W x v.cells.toList ∧ Q x := by
  obtain ⟨fuel, hf⟩ := hr
  refine h W fuel _ _ hf (fun n hn => ?_)
  have := List.all_eq_true.1 hsz n (DataW.weights_mem_each ht hd n hn)
  simpa using this
end Go.Proofs.YtnhngjhodcikiaaDoorW.PrintOpen
