/- Written by the session's own program hyb.py: what functions of the program compute; Lean checks it. -/
import Derived.Test.YtkgjepmminmjjaaDoorEx0
import Derived.Laws.BitsLemmas
import Derived.Test.YtkgjepmminmjjaaDoorWErr
namespace Go.Proofs.YtkgjepmminmjjaaDoor.E
open Go.RowKit Go.Proofs.YtkgjepmminmjjaaDoorW.PrintWords Go.Proofs.YtkgjepmminmjjaaDoorW.PrintLast Go.Proofs.YtkgjepmminmjjaaDoorW.PrintMore Go.Proofs.YtkgjepmminmjjaaDoorW.PrintShort
attribute [local go_sem] run_Add64 run_Sub64
attribute [local go_sem] max2_int min2_int max_two min_two max_three min_three max_four min_four   -- for this text's walks alone
set_option linter.unusedVariables false
set_option linter.unusedSimpArgs false
/-! ### pack_NewReader: function 38 -/
-- NEEDSLIB Derived.Laws.BitsLemmas
set_option linter.unusedSectionVars false
/-- A block is of a type. -/
def TB (W : World) (b : Nat) (t : TypeId) : Prop := ∃ cs, W.heap[b]? = some (.cells cs t (0, 0))
theorem TB.set {W : World} {b b' j : Nat} {t : TypeId} (h : TB W b t) (u : Value) : TB (W.setCell ⟨b', j, none⟩ u) b t := by
  obtain ⟨cs, h⟩ := h
  by_cases e : b = b'
  · subst e
    exact ⟨_, blk_set h j u⟩
  · exact ⟨_, blk_far h e u⟩
theorem TB.drewN {W : World} {b : Nat} {t : TypeId} (h : TB W b t) (n : Nat) : TB (W.drewN n) b t := h
theorem TB.drew {W : World} {b : Nat} {t : TypeId} (h : TB W b t) : TB W.drew b t := h
/-- A reader at block g: what is left of its bytes, its fault; the bytes are a row of the call's own. -/
def IsS114 [Errs] (w0 W : World) (g : Nat) (f0 : List Int) (f1 : Int) : Prop := ∃ v, W.heap[g]? = some (.cells #[v, errW f1] 114 (0, 0)) ∧ w0.heap.size ≤ g ∧ Kd.Q (Kd.int .u8) 5 W w0.heap.size (fun _ => True) v f0 ∧ ∀ x ∈ f0, 0 ≤ x ∧ x < 256
section
variable [Errs] {w0 W W1 : World} {g : Nat} {f0 : List Int} {f1 : Int}
theorem IsS114.below (h : IsS114 w0 W g f0 f1) (hw : Below W.heap.size W W1) : IsS114 w0 W1 g f0 f1 := by
  obtain ⟨v, hb, hg, hq, hx⟩ := h
  exact ⟨v, blk_below hb hw, hg, Kd.Q_below hq hw, hx⟩
theorem IsS114.drewN (h : IsS114 w0 W g f0 f1) (m : Nat) : IsS114 w0 (W.drewN m) g f0 f1 := h.below (pw_below_drewN (Below.refl _ _) m)
theorem IsS114.drew (h : IsS114 w0 W g f0 f1) : IsS114 w0 W.drew g f0 f1 := h.below (below_drew (Below.refl _ _))
theorem IsS114.at_ {w' : World} {m : Nat} (hq : W.drewN m = w') (h : IsS114 w0 W g f0 f1) : IsS114 w0 w' g f0 f1 := by subst hq; exact h.drewN m
theorem IsS114.lt (h : IsS114 w0 W g f0 f1) : g < W.heap.size := by
  obtain ⟨v, hb, hg, hq, hx⟩ := h
  exact blk_lt hb
theorem IsS114.ne_blk {a : Nat} {cs : Array Value} {t : TypeId} {fr : Nat × Nat} (h : IsS114 w0 W g f0 f1) (hb2 : W.heap[a]? = some (.cells cs t fr)) (ht : t ≠ 114) : g ≠ a := by
  obtain ⟨v, hb, hg, hq, hx⟩ := h
  rintro rfl
  rw [hb] at hb2
  injection hb2 with hb2
  injection hb2 with _ ht2
  exact ht ht2.symm
theorem IsS114.far {b j t : Nat} (h : IsS114 w0 W g f0 f1) (hne : g ≠ b) (hb : TB W b t) (ht : t ≠ 5) (u : Value) : IsS114 w0 (W.setCell ⟨b, j, none⟩ u) g f0 f1 := by
  obtain ⟨v, hv, hg, hq, hx⟩ := h
  obtain ⟨cs, hb⟩ := hb
  refine ⟨v, blk_far hv hne u, hg, Kd.Q_set hq hb ?_ j u, hx⟩
  intro q hq
  have : q = 5 := by simpa [Kd.int, Kd.scalar] using hq
  rw [this]
  exact fun e => ht e.symm
theorem IsS114.new {v : Value} (hB : Below w0.heap.size w0 W) (hq : Kd.Q (Kd.int .u8) 5 W w0.heap.size (fun _ => True) v f0) (hx : ∀ x ∈ f0, 0 ≤ x ∧ x < 256) (h1 : W1.heap[g]? = some (.cells #[v, errW f1] 114 (0, 0))) (hb : Below W.heap.size W W1) (hg : g = W.heap.size) : IsS114 w0 W1 g f0 f1 :=
  ⟨v, h1, by rw [hg]; exact hB.size, Kd.Q_below hq hb, hx⟩
end
/-- What 'take' does: the bytes that are taken, whether it went, what is left, the fault behind it. -/
def pk_take (f0 : List Int) (f1 : Int) (n : Nat) : List Int × Bool × List Int × Int :=
  if f1 = 0 then (if f0.length < n then ([], false, f0, 2) else (f0.take n, true, f0.drop n, 0)) else ([], false, f0, f1)
/-- A number of bytes, the lowest first. -/
def le : List Int → Int
  | [] => 0
  | b :: bs => b + 256 * le bs
theorem le_range : ∀ (l : List Int), (∀ x ∈ l, 0 ≤ x ∧ x < 256) → 0 ≤ le l ∧ le l < 256 ^ l.length
  | [], _ => by simp [le]
  | b :: bs, h => by
    have h1 := h b (List.mem_cons_self ..)
    have h2 := le_range bs (fun x hx => h x (List.mem_cons_of_mem _ hx))
    simp only [le, List.length_cons, Int.pow_succ]
    omega
theorem pk_take_range {f0 : List Int} {f1 : Int} {n : Nat} (h : ∀ x ∈ f0, 0 ≤ x ∧ x < 256) : ∀ x ∈ (pk_take f0 f1 n).1, 0 ≤ x ∧ x < 256 := by
  unfold pk_take
  split
  · split
    · intro x hx
      cases hx
    · exact fun x hx => h x (List.mem_of_mem_take hx)
  · intro x hx
    cases hx
theorem pk_take_len {f0 : List Int} {f1 : Int} {n : Nat} : (pk_take f0 f1 n).1.length ≤ n := by
  unfold pk_take
  split
  · split
    · exact Nat.zero_le _
    · rw [List.length_take]
      omega
  · exact Nat.zero_le _
section
variable [Errs]
set_option maxHeartbeats 1600000 in
set_option maxRecDepth 100000 in
theorem pk_take.fault (g : Nat) (f0 : List Int) (f1 : Int) (n : Nat) (w0 w : World) (hE : Sent w) (hI : IsS114 w0 w g f0 f1) (hB : Below w0.heap.size w0 w) (h0 : 0 ≤ f1) (h1 : f1 ≠ 0) :
    Calls Tryd.prog 72 #[.pointer (some ⟨g, 0, none⟩), .int .i64 n] w fun e w' => e = .returned (.tuple #[.slice none 0 0, .bool false]) ∧ w' = w := by
  obtain ⟨v, hb, hg, hq, hx⟩ := hI
  obtain ⟨A, c, rfl, hl, hC⟩ := Kd.Q_reads hq
  have hc0 : w.cell? ⟨g, 0, none⟩ = some (.slice A f0.length c) := (blk_cell hb 0).trans rfl
  have hc1 : w.cell? ⟨g, 1, none⟩ = some (errW f1) := (blk_cell hb 1).trans rfl
  have e0 : (f1 == 0) = false := beq_eq_false_iff_ne.2 h1
  have e1 : (f1 != 0) = true := bne_iff_ne.2 h1
  have H0 := Aside0.mk h0
  clear hb hq hx hC hg hB h0 hE h1
  go_enter Tryd.func72, Tryd.ntmps72
  go_wp2_with (first | ((with_reducible refine gate_dst (N := 11) rfl ?_); refine eqn_err f1 (b := (f1 == 0)) ?_ rfl H0.out) | ((with_reducible refine gate_dst (N := 29) rfl ?_); refine nen_err f1 (b := (f1 != 0)) ?_ rfl H0.out))
  go_ret2
  exact ⟨rfl, rfl⟩
set_option maxHeartbeats 1600000 in
set_option maxRecDepth 100000 in
theorem pk_take.short (g : Nat) (f0 : List Int) (n : Nat) (w0 w : World) (hE : Sent w) (hI : IsS114 w0 w g f0 0) (hB : Below w0.heap.size w0 w) (hn : f0.length < n) (hm : n < 9223372036854775808) :
    Calls Tryd.prog 72 #[.pointer (some ⟨g, 0, none⟩), .int .i64 n] w fun e w' => e = .returned (.tuple #[.slice none 0 0, .bool false]) ∧ IsS114 w0 w' g f0 2 ∧ Below w0.heap.size w0 w' ∧ KeepBut w w' g none := by
  obtain ⟨v, hb, hg, hq, hx⟩ := hI
  obtain ⟨A, c, rfl, hl, hC⟩ := Kd.Q_reads hq
  have hc0 : w.cell? ⟨g, 0, none⟩ = some (.slice A f0.length c) := (blk_cell hb 0).trans rfl
  have hc1 : w.cell? ⟨g, 1, none⟩ = some .nilIface := (blk_cell hb 1).trans rfl
  have hf1 : w.frozen? ⟨g, 1, none⟩ = false := blk_frozen hb 1
  have HE := Aside0.mk hE
  have c0 : decide (f0.length < n) = true := decide_eq_true hn
  have hu := Tryd.underlying37
  have hcl := errW_cells 2
  have HP : Aside0 (∀ W', W' = w.setCell ⟨g, 1, none⟩ (errW 2) → IsS114 w0 W' g f0 2 ∧ Below w0.heap.size w0 W' ∧ KeepBut w W' g none) := ⟨fun W' e => by
    subst e
    exact ⟨⟨_, blk_put hb 1 _ rfl, hg, Kd.Q_set hq hb (by intro q hq; rw [show q = 5 by simpa [Kd.int, Kd.scalar] using hq]; decide) 1 _, hx⟩, below_set hB hg, KeepBut.set_ (KeepBut.refl _ _ _) _ _⟩⟩
  clear hb hq hx hC hg hB hE hn hl
  go_enter Tryd.func72, Tryd.ntmps72
  go_wp2_with (first | ((with_reducible refine gate_dst (N := 11) rfl ?_); refine eqn_err 0 (b := true) ?_ rfl (by decide)) | ((with_reducible refine gate_dst (N := 22) rfl ?_); refine ld_err 2 1 HE.out ?_ rfl rfl (by decide) (by have := Errs.five; omega) rfl) | ((with_reducible refine gate_dst (N := 29) rfl ?_); refine nen_err 2 (b := true) ?_ rfl (by decide)))
  go_simp
  go_wp2_with (first | ((with_reducible refine gate_dst (N := 11) rfl ?_); refine eqn_err 0 (b := true) ?_ rfl (by decide)) | ((with_reducible refine gate_dst (N := 22) rfl ?_); refine ld_err 2 1 HE.out ?_ rfl rfl (by decide) (by have := Errs.five; omega) rfl) | ((with_reducible refine gate_dst (N := 29) rfl ?_); refine nen_err 2 (b := true) ?_ rfl (by decide)))
  go_ret2
  exact ⟨rfl, HP.out _ rfl⟩
set_option maxHeartbeats 1600000 in
set_option maxRecDepth 100000 in
theorem pk_take.ok (g : Nat) (f0 : List Int) (n : Nat) (w0 w : World) (hI : IsS114 w0 w g f0 0) (hB : Below w0.heap.size w0 w) (hn : n ≤ f0.length) :
    Calls Tryd.prog 72 #[.pointer (some ⟨g, 0, none⟩), .int .i64 n] w fun e w' => ∃ A c, e = .returned (.tuple #[.slice A (f0.take n).length c, .bool true]) ∧ (f0.take n).length ≤ c ∧ Kd.C (Kd.int .u8) w' A (f0.take n).length (f0.take n) ∧ IsS114 w0 w' g (f0.drop n) 0 ∧ Below w0.heap.size w0 w' ∧ KeepBut w w' g none := by
  obtain ⟨v, hb, hg, hq, hx⟩ := hI
  obtain ⟨A, c, rfl, hl, hC⟩ := Kd.Q_reads hq
  have hm := hC
  have hc0 : w.cell? ⟨g, 0, none⟩ = some (.slice A f0.length c) := (blk_cell hb 0).trans rfl
  have hc1 : w.cell? ⟨g, 1, none⟩ = some .nilIface := (blk_cell hb 1).trans rfl
  have hf0 : w.frozen? ⟨g, 0, none⟩ = false := blk_frozen hb 0
  have c0 : decide (f0.length < n) = false := decide_eq_false (by omega)
  have c1 : n ≤ c := by omega
  have hu := Tryd.underlying37
  have HQ : Aside0 (∀ A' c', A' = (if c = n then A else A.map (·.add n)) → c' = c - n → ∀ W', W' = w.setCell ⟨g, 0, none⟩ (.slice A' (f0.length - n) c') → (Kd.C (Kd.int .u8) W' A n (f0.take n) ∧ IsS114 w0 W' g (f0.drop n) 0 ∧ Below w0.heap.size w0 W' ∧ KeepBut w W' g none)) := ⟨by
    intro A' c' hA' hc' W' e
    subst e
    have hq2 := Kd.Q_set hq hb (by intro q hq; rw [show q = 5 by simpa [Kd.int, Kd.scalar] using hq]; decide) 0 (.slice A' (f0.length - n) c')
    have hR := (Kd.Q_reads' (Kd.Q_take hq2 hn)).2.2
    rw [List.length_take, Nat.min_eq_left hn] at hR
    refine ⟨hR, ⟨_, blk_put hb 0 _ rfl, hg, ?_, fun x h => hx x (List.mem_of_mem_drop h)⟩, below_set hB hg, KeepBut.set_ (KeepBut.refl _ _ _) _ _⟩
    have h2 := Kd.Q_drop hq2 hn
    rw [show (Kd.int .u8).sz = 1 from rfl] at h2
    simp only [Nat.mul_one] at h2
    rw [← hA', ← hc'] at h2
    exact h2⟩
  clear hb hq hx hC hg hB hm
  have hz : ((n : Int) = 0 ∨ True) := Or.inr trivial
  go_enter Tryd.func72, Tryd.ntmps72
  go_wp2
  all_goals go_ret2
  all_goals first
    | exact ⟨A, c, rfl, c1, HQ.out _ _ (if_neg (by assumption)).symm rfl _ rfl⟩
    | exact ⟨A, c, rfl, c1, HQ.out _ _ (if_pos (by assumption)).symm (by omega) _ rfl⟩
    | exact ⟨A, n, rfl, Nat.le_refl _, HQ.out A 0 (if_pos (by assumption)).symm (by omega) _ rfl⟩
theorem pk_take.calls (g : Nat) (f0 : List Int) (f1 : Int) (n : Nat) (w0 w : World) (hE : Sent w0) (hI : IsS114 w0 w g f0 f1) (hB : Below w0.heap.size w0 w) (h0 : 0 ≤ f1) (hm : n < 9223372036854775808) :
 Calls Tryd.prog 72 #[.pointer (some ⟨g, 0, none⟩), .int .i64 n] w fun e w' => ∃ A c, e = .returned (.tuple #[.slice A (pk_take f0 f1 n).1.length c, .bool (pk_take f0 f1 n).2.1]) ∧ (pk_take f0 f1 n).1.length ≤ c ∧ Kd.C (Kd.int .u8) w' A (pk_take f0 f1 n).1.length (pk_take f0 f1 n).1 ∧ IsS114 w0 w' g (pk_take f0 f1 n).2.2.1 (pk_take f0 f1 n).2.2.2 ∧ Below w0.heap.size w0 w' ∧ KeepBut w w' g none := by
 have hnil : ∀ W : World, Kd.C (Kd.int .u8) W none 0 [] := fun W => Kd.C_nil _ _
 unfold pk_take
 by_cases c : f1 = 0
 · subst c
   rw [if_pos rfl]
   by_cases d : f0.length < n
   · rw [if_pos d]
     exact (pk_take.short g f0 n w0 w (hE.below hB) hI hB d hm).mono fun e w' h => ⟨none, 0, h.1, Nat.le_refl _, hnil _, h.2⟩
   · rw [if_neg d]
     exact (pk_take.ok g f0 n w0 w hI hB (by omega)).mono fun e w' h => h
 · rw [if_neg c]
   refine (pk_take.fault g f0 f1 n w0 w (hE.below hB) hI hB h0 c).mono fun e w' h => ?_
   obtain ⟨h1, rfl⟩ := h
   exact ⟨none, 0, h1, Nat.le_refl _, hnil _, hI, hB, KeepBut.refl _ _ _⟩
theorem or_le {x b : Int} (h0 : 0 ≤ x) (h1 : x < 72057594037927936) (h2 : 0 ≤ b) (h3 : b < 256) : Go.bits .or .u64 (x * 256) b = x * 256 + b := by
 refine bits_join .u64 64 (by decide) (fun n h0 h1 => ?_) 8 (x * 256) b (by omega) (by omega) (by omega) h2 (by omega) (by omega)
 have e : IntKind.u64.wrap n = n % 18446744073709551616 := by simp [IntKind.wrap, IntKind.bits, IntKind.signed]
 rw [e]
 omega
set_option maxHeartbeats 1600000 in
set_option maxRecDepth 100000 in
theorem pk_number.calls (g : Nat) (f0 : List Int) (f1 : Int) (n : Nat) (w0 w : World) (hE : Sent w0) (hI : IsS114 w0 w g f0 f1) (hB : Below w0.heap.size w0 w) (h0 : 0 ≤ f1) (hm : n ≤ 8) :
 Calls Tryd.prog 62 #[.pointer (some ⟨g, 0, none⟩), .int .i64 n] w fun e w' => e = .returned (.int .u64 (le (pk_take f0 f1 n).1)) ∧ IsS114 w0 w' g (pk_take f0 f1 n).2.2.1 (pk_take f0 f1 n).2.2.2 ∧ Below w0.heap.size w0 w' ∧ KeepBut w w' g none := by
 have hx : ∀ x ∈ f0, 0 ≤ x ∧ x < 256 := by obtain ⟨v, _, _, _, hx⟩ := hI; exact hx
 have hr := pk_take_range (f1 := f1) (n := n) hx; have hl := pk_take_len (f0 := f0) (f1 := f1) (n := n); have T := pk_take.calls g f0 f1 n w0 w hE hI hB h0 (by omega)
 generalize pk_take f0 f1 n = t at *
 obtain ⟨bs, ok, rest, er⟩ := t
 dsimp only at *
 have HR := Aside0.mk hr
 have HL := Aside0.mk (show bs.length ≤ 8 by omega)
 clear hx hr hl hm h0 hB hI hE
 go_enter Tryd.func62, Tryd.ntmps62
 go_wp2_with (go_at_call 72; refine T.mono ?_; rintro e w' ⟨A, c, rfl, hc, hC, hI, hB, hK⟩)
 have hl8 : bs.length ≤ 8 := HL.out
 go_loop [7, 8] (fun v7 v8 => ∃ j : Nat, Aside0 (j ≤ bs.length) ∧ v7 = .int .u64 (le (bs.drop j)) ∧ v8 = .int .i64 ((j : Int) - 1)) (fun _ v8 => (intOf v8 + 1).toNat)
 case atStart =>
  refine ⟨bs.length, ⟨Nat.le_refl _⟩, by rw [List.drop_length]; rfl, ?_⟩
  rw [show wrap64 ((bs.length : Int) - 1) = (bs.length : Int) - 1 by unfold wrap64; omega]
 case round =>
  obtain ⟨j, hj, rfl, rfl⟩ := hrel
  have hj := hj.out
  by_cases e : j = 0
  · subst e
    go_wp2
    go_ret
    exact ⟨rfl, hI, hB, hK⟩
  · obtain ⟨i, rfl⟩ : ∃ i, j = i + 1 := ⟨j - 1, by omega⟩
    have ei : ((i + 1 : Nat) : Int) - 1 = (i : Int) := by omega
    rw [ei]
    obtain ⟨ad, eA, hx⟩ := Kd.at_int hC (i : Int) (by omega) (by omega)
    cases eA
    rw [Int.toNat_natCast] at hx
    have hb : 0 ≤ rd bs (i : Int) ∧ rd bs (i : Int) < 256 := by
     have h : i < bs.length := by omega
     have e : rd bs (i : Int) = bs[i] := by unfold rd; simp [List.getD_eq_getElem?_getD, List.getElem?_eq_getElem h]
     rw [e]
     exact HR.out _ (List.getElem_mem h)
    obtain ⟨hb1, hb2⟩ := hb
    have hq1 : 0 ≤ le (bs.drop (i + 1)) ∧ le (bs.drop (i + 1)) < 72057594037927936 := by
     have h := le_range (bs.drop (i + 1)) (fun x hx => HR.out x (List.mem_of_mem_drop hx))
     refine ⟨h.1, Int.lt_of_lt_of_le h.2 ?_⟩
     have h7 : (bs.drop (i + 1)).length ≤ 7 := by rw [List.length_drop]; omega
     generalize (bs.drop (i + 1)).length = m at h7
     have h8 : m = 0 ∨ m = 1 ∨ m = 2 ∨ m = 3 ∨ m = 4 ∨ m = 5 ∨ m = 6 ∨ m = 7 := by omega
     rcases h8 with rfl | rfl | rfl | rfl | rfl | rfl | rfl | rfl <;> decide
    obtain ⟨hq1, hq2⟩ := hq1
    clear ei e
    go_wp2
    go_round
    case measure => first | (simp [intOf]; done) | (simp [intOf]; omega)
    case rel =>
     refine ⟨i, ⟨by omega⟩, ?_, rfl⟩
     rw [or_le hq1 hq2 hb1 hb2, List.drop_eq_getElem_cons (show i < bs.length by omega)]
     have e : rd bs (i : Int) = bs[i] := by unfold rd; simp [List.getD_eq_getElem?_getD, List.getElem?_eq_getElem (show i < bs.length by omega)]
     rw [← e]
     simp only [le]
     congr 1
     omega
/-- What 'text' does: the text, what is left, the fault. -/
def pk_text (f0 : List Int) (f1 : Int) : ByteArray × List Int × Int :=
 let t := pk_take f0 f1 2
 let u := pk_take t.2.2.1 t.2.2.2 (le t.1).toNat
 if u.2.1 = true then (strOfNums u.1, u.2.2.1, u.2.2.2) else (strOfNums [], f0, u.2.2.2)
theorem pk_take_er {f0 : List Int} {f1 : Int} {n : Nat} (h : 0 ≤ f1) : 0 ≤ (pk_take f0 f1 n).2.2.2 := by
 unfold pk_take
 split
 · split <;> simp
 · exact h
theorem pk_take_no {f0 : List Int} {f1 : Int} {n : Nat} (h : (pk_take f0 f1 n).2.1 = false) : (pk_take f0 f1 n).1 = [] := by
 unfold pk_take at h ⊢
 split
 · split
   · rfl
   · rename_i a b
     rw [if_pos a, if_neg b] at h
     cases h
 · rfl
set_option maxHeartbeats 1600000 in
set_option maxRecDepth 100000 in
theorem pk_text.calls (g : Nat) (f0 : List Int) (f1 : Int) (w0 w : World) (hE : Sent w0) (hI : IsS114 w0 w g f0 f1) (hB : Below w0.heap.size w0 w) (h0 : 0 ≤ f1) :
 Calls Tryd.prog 63 #[.pointer (some ⟨g, 0, none⟩)] w fun e w' => e = .returned (.string (pk_text f0 f1).1) ∧ IsS114 w0 w' g (pk_text f0 f1).2.1 (pk_text f0 f1).2.2 ∧ Below w0.heap.size w0 w' ∧ KeepBut w w' g none := by
 have hI0 := hI
 obtain ⟨v, hb, hg, hq, hx⟩ := hI
 obtain ⟨A, c, rfl, hl, hC⟩ := Kd.Q_reads hq
 have T1 := pk_number.calls g f0 f1 2 w0 w hE hI0 hB h0 (by decide)
 rw [show ((2 : Nat) : Int) = 2 from rfl] at T1
 have hr := pk_take_range (f1 := f1) (n := 2) hx; have hl2 := pk_take_len (f0 := f0) (f1 := f1) (n := 2); have he := pk_take_er (f0 := f0) (f1 := f1) (n := 2) h0; have hm := le_range _ hr
 unfold pk_text
 generalize pk_take f0 f1 2 = t at *
 obtain ⟨bs, ok, rest, er⟩ := t
 dsimp only at *
 obtain ⟨m, em⟩ := Int.eq_ofNat_of_zero_le hm.1
 rw [em] at T1 hm ⊢
 rw [Int.toNat_natCast]
 have hm2 : m < 65536 := by
  have h8 : bs.length = 0 ∨ bs.length = 1 ∨ bs.length = 2 := by omega
  have := hm.2
  rcases h8 with h8 | h8 | h8 <;> rw [h8] at this <;> omega
 have T2 : ∀ w1, IsS114 w0 w1 g rest er → Below w0.heap.size w0 w1 → _ := fun w1 h2 h3 => pk_take.calls g rest er m w0 w1 hE h2 h3 he (by omega)
 have hno := pk_take_no (f0 := rest) (f1 := er) (n := m)
 generalize pk_take rest er m = u at *
 obtain ⟨bs2, ok2, rest2, er2⟩ := u
 dsimp only at *
 have HB0 := Aside0.mk hb
 have HQ0 := Aside0.mk (Kd.Q_types hq hb (by intro q hq; rw [show q = 5 by simpa [Kd.int, Kd.scalar] using hq]; decide))
 have HX0 := Aside0.mk hx; have HG0 := Aside0.mk hg; have HM := Aside0.mk hm2; have HNO := Aside0.mk hno; have HE := Aside0.mk hE; have HC0 := Aside0.mk hC
 have hc0 : w.cell? ⟨g, 0, none⟩ = some (.slice A f0.length c) := (blk_cell hb 0).trans rfl
 clear hb hq hx hl hC hr hl2 he hm em hno hI0 hE hg; have hu := Tryd.underlying33; have hu5 := Tryd.underlying5; have hu9 := Tryd.underlying9
 cases ok2 with
 | true =>
  rw [if_pos rfl]
  dsimp only
  go_enter Tryd.func63, Tryd.ntmps63
  go_wp2_with (first | (go_at_call 62; refine T1.mono ?_; rintro e w1 ⟨rfl, hI1, hB1, hK1⟩) | (go_at_call 72; refine (T2 _ hI1 hB1).mono ?_; rintro e w2 ⟨A2, c2, rfl, hc2, hC2, hI2, hB2, hK2⟩; have hcv := Kd.C_string (P := Tryd.prog) (A := A2) (c := c2) Tryd.underlying33 Tryd.underlying5 Tryd.underlying9 hC2; clear T1 T2 hI1 hB1))
  go_ret
  exact ⟨rfl, hI2, hB2, hK1.trans hK2 (Or.inl rfl)⟩
 | false =>
  have e2 := HNO.out rfl
  subst e2
  rw [if_neg (by decide)]
  dsimp only
  go_enter Tryd.func63, Tryd.ntmps63
  go_wp2_with (first | (go_at_call 62; refine T1.mono ?_; rintro e w1 ⟨rfl, hI1, hB1, hK1⟩) | (go_at_call 72; refine (T2 _ hI1 hB1).mono ?_; rintro e w2 ⟨A2, c2, rfl, hc2, hC2, hI2, hB2, hK2⟩; have hcv : ∀ W : World, (convert 33 9 (.slice A2 0 c2)).run Tryd.prog W = .ok (.string (strOfNums [])) W := fun W : World => Kd.C_string (P := Tryd.prog) (w := W) (A := A2) (c := c2) Tryd.underlying33 Tryd.underlying5 Tryd.underlying9 (show Kd.C (Kd.int .u8) W A2 ([] : List Int).length [] from ⟨rfl, by simp, fun h => absurd h (Nat.lt_irrefl 0)⟩); obtain ⟨v2, hb2, hg2, hq2, hx2⟩ := hI2; have hcz : w2.cell? ⟨g, 0, none⟩ = some v2 := (blk_cell hb2 0).trans rfl; have hfz : w2.frozen? ⟨g, 0, none⟩ = false := blk_frozen hb2 0; have HB2 := Aside0.mk hb2; have HQ2 := Aside0.mk hq2; clear T1 T2 hI1 hB1 hb2 hq2 hx2))
  go_ret
  have hK := hK1.trans hK2 (Or.inl rfl)
  have hq3 := Kd.Q_keep HQ0.out hK (fun k h => h.2)
  exact ⟨rfl, ⟨_, blk_put HB2.out 0 _ rfl, HG0.out, Kd.Q_mono (Kd.Q_set hq3 HB2.out (by intro q hq; rw [show q = 5 by simpa [Kd.int, Kd.scalar] using hq]; decide) 0 _) (fun _ _ => trivial), HX0.out⟩, below_set hB2 HG0.out, KeepBut.set_ hK _ _⟩
end
def pack_NewReader.f (l0 : List Int) : Option (List Int × Int) := if l0.length ≤ 140737488355328 then (if l0.all (fun x => decide (0 ≤ x) && decide (x < 256)) = true then some (l0, 0) else none) else none
set_option maxHeartbeats 1600000 in
set_option maxRecDepth 100000 in
theorem pack_NewReader.calls [Errs] (A0 : Option Addr) (c0 : Nat) (l0 : List Int) (r1 : List Int) (r2 : Int) (w0 w : World) (hB : Below w0.heap.size w0 w) (hr0 : Kd.C (Kd.int .u8) w0 A0 l0.length l0) (hc0 : l0.length ≤ c0) (h : pack_NewReader.f l0 = some (r1, r2)) :
 Calls Tryd.prog 38 #[.slice A0 l0.length c0] w fun e w' => ∃ g_ : Nat, e = .returned (.pointer (some ⟨g_, 0, none⟩)) ∧ IsS114 w0 w' g_ r1 r2 ∧ Below w0.heap.size w0 w' ∧ Below w.heap.size w w' := by
 unfold pack_NewReader.f at h
 by_cases hl : l0.length ≤ 140737488355328
 rotate_left
 · rw [if_neg hl] at h
   cases h
 rw [if_pos hl] at h
 by_cases ha : l0.all (fun x => decide (0 ≤ x) && decide (x < 256)) = true
 rotate_left
 · rw [if_neg ha] at h
   cases h
 rw [if_pos ha] at h
 simp only [Option.some.injEq, Prod.mk.injEq] at h
 obtain ⟨rfl, rfl⟩ := h
 have HX : Aside0 (∀ x ∈ l0, 0 ≤ x ∧ x < 256) := ⟨fun x hx => by
  have := List.all_eq_true.1 ha x hx
  simpa using this⟩
 have HL := Aside0.mk hl; have HB := Aside0.mk hB
 have HR := Aside0.mk (Kd.reads_of_C (enc := Value.int .u8) (d := (0 : Int)) (h1 := fun _ => rfl) (Kd.C_below hr0 (Below.mono hB (Nat.le_refl _))))
 clear ha hl hr0 hB
 go_enter Tryd.func38, Tryd.ntmps38
 go_wp2_with (first | ((with_reducible refine gate_dst (N := 4) rfl ?_); refine print_append_row (w0 := w0) w0.heap.size rfl _ _ 33 5 .u8 1 rfl Tryd.underlying33 (by kernel_rfl) (by decide) (.slice none 0 0) [] l0 A0 l0.length c0 rfl rfl (own_nil _ _ _ _) HR.out HB.out HB.out.size (by have := HL.out; simp only [List.length_nil]; omega) ?_; intro v1 w1 hown hB1 hg1 _; obtain ⟨A1, c1, rfl⟩ := own_slice hown; have HO := Aside0.mk hown; have HB1 := Aside0.mk hB1; have HG := Aside0.mk hg1; clear hown hB1 hg1) | ((with_reducible refine gate_dst (N := 7) rfl ?_); refine bx 7 #[.slice A1 l0.length c1, .nilIface] 114 ?_; intro g hg w2 hbox hb; have HBX := Aside0.mk hbox; have HBW := Aside0.mk hb; have HGE := Aside0.mk hg; clear hg hbox hb))
 go_ret
 have hb1 : Below w.heap.size w w1 := pw_below_grown (Below.refl _ _) none (Nat.le_refl _) HG.out (fun k hk => by cases hk)
 refine ⟨g, rfl, IsS114.new HB1.out (Kd.Q_of_R (Kd.R_of_own HO.out (fun _ _ => trivial))) HX.out HBX.out HBW.out HGE.out, below_step HB1.out HBW.out, below_step hb1 HBW.out⟩
end Go.Proofs.YtkgjepmminmjjaaDoor.E
