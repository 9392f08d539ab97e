/- Written by the session's own program hyb.py: what functions of the program compute; Lean checks it. -/
import Derived.Test.YtkgjepmminmjjaaDoorEx0
import Derived.Test.YtkgjepmminmjjaaDoorEx15
import Derived.Test.YtkgjepmminmjjaaDoorEx16
import Derived.Test.YtkgjepmminmjjaaDoorEx18
import Derived.Test.YtkgjepmminmjjaaDoorEx20
import Derived.Test.YtkgjepmminmjjaaDoorEx22
import Derived.Defers
import Derived.Recover
import Derived.Test.YtkgjepmminmjjaaDoorWErr
namespace Go.Proofs.YtkgjepmminmjjaaDoor.E
open Go.RowKit Go.Proofs.YtkgjepmminmjjaaDoorW.PrintWords Go.Proofs.YtkgjepmminmjjaaDoorW.PrintLast Go.Proofs.YtkgjepmminmjjaaDoorW.PrintMore Go.Proofs.YtkgjepmminmjjaaDoorW.PrintShort
attribute [local go_sem] run_Add64 run_Sub64
attribute [local go_sem] max2_int min2_int max_two min_two max_three min_three max_four min_four   -- for this text's walks alone
set_option linter.unusedVariables false
set_option linter.unusedSimpArgs false
/-! ### image_Decode: function 27 -/
-- NEEDSLIB Derived.Recover
-- NEEDSLIB Derived.Defers
set_option linter.unusedSectionVars false
set_option maxHeartbeats 4000000 in
set_option maxRecDepth 100000 in
theorem image_entry.must_ok [Errs] (w : World) :
    Calls Tryd.prog 68 #[errW 0] w fun e w' => e = .returned (.tuple #[]) ∧ w' = w := by
  go_enter Tryd.func68, Tryd.ntmps68
  go_wp2_with (first | ((with_reducible refine gate_dst (N := 3) rfl ?_); refine nen_err 0 (b := false) ?_ rfl (by decide)))
  go_end0
  exact ⟨rfl, rfl⟩
set_option maxHeartbeats 4000000 in
set_option maxRecDepth 100000 in
theorem image_entry.must_bad [Errs] (x : Int) (h0 : 0 ≤ x) (h1 : ¬ x = 0) (w : World) :
    Calls Tryd.prog 68 #[errW x] w fun e w' => e = .panicked [{ v := .iface 89 (.agg #[errW x]), recovered := false }] ∧ w' = w := by
  have H0 := Aside0.mk h0
  have H1 := Aside0.mk h1
  have hu := Tryd.underlying89
  have hpn : ∀ (t : TypeId) (v : Value) (w : World), (Instr.panic (.iface t v)).run Tryd.prog w = .halt (.panic (.iface t v)) w := fun _ _ _ => rfl
  clear h0 h1
  have he := errW_pos (n := x) (by have := H0.out; have := H1.out; omega)
  generalize hp : Errs.at_ x = p at he
  go_enter Tryd.func68, Tryd.ntmps68
  go_upto_region 1 with (first | ((with_reducible refine gate_dst (N := 3) rfl ?_); refine nen_err x (b := true) ?_ (by simpa using H1.out) H0.out))
  rw [he]
  have HP := Aside0.mk he
  clear he hp
  go_wp2
  exact ⟨rfl, by rw [HP.out], rfl⟩
/-- What holds beside the reader while an entry is read: the blocks of the answer and of the entry. -/
structure image_entry.At [Errs] (w0 w W : World) (g : Nat) (xs : List Int) (e : Int) (g2 g3 : Nat) (c : Array Value) : Prop where
  rd : IsS114 w0 W g xs e
  bel : Below w0.heap.size w0 W
  keep : KeepBut w W g none
  b2 : W.heap[g2]? = some (.cells #[.string ⟨#[]⟩, .int .i64 0, .int .u64 0, .int .u64 0, .int .u64 0, .int .u64 0, .int .u64 0, .int .u64 0, .int .u64 0] 79 (0, 0))
  b3 : W.heap[g3]? = some (.cells c 79 (0, 0))
structure image_entry.Fix (w0 w : World) (g g2 g3 : Nat) : Prop where
  n2 : g2 ≠ g
  n3 : g3 ≠ g
  n23 : g2 ≠ g3
  h2 : w.heap.size ≤ g2
  h3 : w.heap.size ≤ g3
  h0 : w0.heap.size ≤ w.heap.size
theorem image_entry.keep_far {w W : World} {g b j : Nat} (h : KeepBut w W g none) (hb : w.heap.size ≤ b) (v : Value) : KeepBut w (W.setCell ⟨b, j, none⟩ v) g none := by
  refine ⟨by rw [World.size_setCell]; exact h.1, fun i hi hg hr => ?_⟩
  have hne : i ≠ b := by omega
  exact (Below.heap_setCell W ⟨b, j, none⟩ v i hne).trans (h.2 i hi hg hr)
section
variable [Errs] {w0 w W : World} {g : Nat} {xs : List Int} {e : Int} {g2 g3 : Nat} {c : Array Value}
theorem image_entry.At.set (h : image_entry.At w0 w W g xs e g2 g3 c) (f : image_entry.Fix w0 w g g2 g3) (j : Nat) (v : Value) : image_entry.At w0 w (W.setCell ⟨g3, j, none⟩ v) g xs e g2 g3 (c.setIfInBounds j v) :=
  ⟨h.rd.far (Ne.symm f.n3) ⟨_, h.b3⟩ (by decide) v, below_set h.bel (Nat.le_trans f.h0 f.h3), image_entry.keep_far h.keep f.h3 v, blk_far h.b2 f.n23 v, blk_set h.b3 j v⟩
theorem image_entry.At.call {W1 : World} {ys : List Int} {d : Int} (h : image_entry.At w0 w W g xs e g2 g3 c) (f : image_entry.Fix w0 w g g2 g3) (h1 : IsS114 w0 W1 g ys d) (h2 : Below w0.heap.size w0 W1) (h3 : KeepBut W W1 g none) : image_entry.At w0 w W1 g ys d g2 g3 c :=
  ⟨h1, h2, h.keep.trans h3 (.inl rfl), h3.blk h.b2 f.n2 (by simp), h3.blk h.b3 f.n3 (by simp)⟩
theorem image_entry.At.drew (h : image_entry.At w0 w W g xs e g2 g3 c) : image_entry.At w0 w W.drew g xs e g2 g3 c :=
  ⟨h.rd.drew, pw_below_drewN h.bel 1, ⟨h.keep.1, h.keep.2⟩, h.b2, h.b3⟩
end
theorem image_entry.bc9 {w : World} {g : Nat} {t : TypeId} {a0 a1 a2 a3 a4 a5 a6 a7 a8 : Value} (B : Aside0 (w.heap[g]? = some (.cells #[a0, a1, a2, a3, a4, a5, a6, a7, a8] t (0, 0)))) : w.cell? ⟨g, 0, none⟩ = some a0 ∧ w.cell? ⟨g, 1, none⟩ = some a1 ∧ w.cell? ⟨g, 2, none⟩ = some a2 ∧ w.cell? ⟨g, 3, none⟩ = some a3 ∧ w.cell? ⟨g, 4, none⟩ = some a4 ∧ w.cell? ⟨g, 5, none⟩ = some a5 ∧ w.cell? ⟨g, 6, none⟩ = some a6 ∧ w.cell? ⟨g, 7, none⟩ = some a7 ∧ w.cell? ⟨g, 8, none⟩ = some a8 ∧ w.frozen? ⟨g, 0, none⟩ = false ∧ w.frozen? ⟨g, 1, none⟩ = false ∧ w.frozen? ⟨g, 2, none⟩ = false ∧ w.frozen? ⟨g, 3, none⟩ = false ∧ w.frozen? ⟨g, 4, none⟩ = false ∧ w.frozen? ⟨g, 5, none⟩ = false ∧ w.frozen? ⟨g, 6, none⟩ = false ∧ w.frozen? ⟨g, 7, none⟩ = false ∧ w.frozen? ⟨g, 8, none⟩ = false :=
  ⟨(blk_cell B.out 0).trans rfl, (blk_cell B.out 1).trans rfl, (blk_cell B.out 2).trans rfl, (blk_cell B.out 3).trans rfl, (blk_cell B.out 4).trans rfl, (blk_cell B.out 5).trans rfl, (blk_cell B.out 6).trans rfl, (blk_cell B.out 7).trans rfl, (blk_cell B.out 8).trans rfl, blk_frozen B.out 0, blk_frozen B.out 1, blk_frozen B.out 2, blk_frozen B.out 3, blk_frozen B.out 4, blk_frozen B.out 5, blk_frozen B.out 6, blk_frozen B.out 7, blk_frozen B.out 8⟩
section
variable [Errs] {w0 w W W' : World} {g : Nat} {xs : List Int} {e : Int} {g2 g3 : Nat} {c c' : Array Value}
theorem image_entry.here {P : Program} {f : FuncId} {args : Array Value} {R : Ending → World → Prop} (H : image_entry.At w0 w W' g xs e g2 g3 c') (k : Aside0 (image_entry.At w0 w W' g xs e g2 g3 c') → Calls P f args W' R) : Calls P f args W' R := k ⟨H⟩
theorem image_entry.init (hB : Below w0.heap.size w0 w) (h2 : g2 = w.heap.size) (n2 : g2 ≠ g) (b2 : W.heap[g2]? = some (.cells #[.string ⟨#[]⟩, .int .i64 0, .int .u64 0, .int .u64 0, .int .u64 0, .int .u64 0, .int .u64 0, .int .u64 0, .int .u64 0] 79 (0, 0)))
    (r3 : IsS114 w0 W g xs e) (l3 : Below w0.heap.size w0 W) (k3 : KeepBut w W g none) (h3 : g3 = W.heap.size) (b3 : W'.heap[g3]? = some (.cells c 79 (0, 0))) (hw : Below W.heap.size W W') : image_entry.At w0 w W' g xs e g2 g3 c ∧ image_entry.Fix w0 w g g2 g3 := by
  have hl := r3.lt
  have h4 := blk_lt b2
  exact ⟨⟨r3.below hw, below_step l3 hw, k3.trans (KeepBut.of_below hw g none) (.inl rfl), blk_below b2 hw, b3⟩, ⟨n2, by omega, by omega, by omega, by have := k3.1; omega, below_size hB⟩⟩
theorem image_entry.back {b0 b1 b2 b3 b4 b5 b6 b7 b8 : Value} (H : Aside0 (image_entry.At w0 w W g xs e g2 g3 c)) (FX : Aside0 (image_entry.Fix w0 w g g2 g3)) :
    IsS114 w0 (((((((((W.setCell ⟨g2, 0, none⟩ b0).setCell ⟨g2, 1, none⟩ b1).setCell ⟨g2, 2, none⟩ b2).setCell ⟨g2, 3, none⟩ b3).setCell ⟨g2, 4, none⟩ b4).setCell ⟨g2, 5, none⟩ b5).setCell ⟨g2, 6, none⟩ b6).setCell ⟨g2, 7, none⟩ b7).setCell ⟨g2, 8, none⟩ b8) g xs e ∧
    Below w0.heap.size w0 (((((((((W.setCell ⟨g2, 0, none⟩ b0).setCell ⟨g2, 1, none⟩ b1).setCell ⟨g2, 2, none⟩ b2).setCell ⟨g2, 3, none⟩ b3).setCell ⟨g2, 4, none⟩ b4).setCell ⟨g2, 5, none⟩ b5).setCell ⟨g2, 6, none⟩ b6).setCell ⟨g2, 7, none⟩ b7).setCell ⟨g2, 8, none⟩ b8) ∧
    KeepBut w (((((((((W.setCell ⟨g2, 0, none⟩ b0).setCell ⟨g2, 1, none⟩ b1).setCell ⟨g2, 2, none⟩ b2).setCell ⟨g2, 3, none⟩ b3).setCell ⟨g2, 4, none⟩ b4).setCell ⟨g2, 5, none⟩ b5).setCell ⟨g2, 6, none⟩ b6).setCell ⟨g2, 7, none⟩ b7).setCell ⟨g2, 8, none⟩ b8) g none := by
  have f := FX.out
  have one : ∀ {V : World} {cs : Array Value} (h : IsS114 w0 V g xs e ∧ Below w0.heap.size w0 V ∧ KeepBut w V g none ∧ TB V g2 79) (j : Nat) (v : Value), IsS114 w0 (V.setCell ⟨g2, j, none⟩ v) g xs e ∧ Below w0.heap.size w0 (V.setCell ⟨g2, j, none⟩ v) ∧ KeepBut w (V.setCell ⟨g2, j, none⟩ v) g none ∧ TB (V.setCell ⟨g2, j, none⟩ v) g2 79 :=
    fun h j v => ⟨h.1.far (Ne.symm f.n2) h.2.2.2 (by decide) v, below_set h.2.1 (Nat.le_trans f.h0 f.h2), image_entry.keep_far h.2.2.1 f.h2 v, h.2.2.2.set v⟩
  have h := H.out
  have r := one (cs := c) (one (cs := c) (one (cs := c) (one (cs := c) (one (cs := c) (one (cs := c) (one (cs := c) (one (cs := c) (one (cs := c) ⟨h.rd, h.bel, h.keep, ⟨_, h.b2⟩⟩ 0 b0) 1 b1) 2 b2) 3 b3) 4 b4) 5 b5) 6 b6) 7 b7) 8 b8
  exact ⟨r.1, r.2.1, r.2.2.1⟩
end
set_option maxHeartbeats 8000000 in
set_option maxRecDepth 100000 in
theorem image_entry.short [Errs] (g : Nat) (xs : List Int) (w0 w : World) (hE : Sent w0) (hI : IsS114 w0 w g xs 0) (hB : Below w0.heap.size w0 w) (s : ByteArray) (x1 : List Int) (e1 : Int) (hT : pack_Reader_Text.f xs 0 = some (s, x1, e1)) (k : Int) (x2 : List Int) (e2 : Int) (hK : pack_Reader_U8.f x1 e1 = some (k, x2, e2)) (hw : wrap64 k = k) (he2 : 0 ≤ e2) (h0 : ¬ e2 = 0) :
    Calls Tryd.prog 69 #[.pointer (some ⟨g, 0, none⟩)] w fun e w' => e = .panicked [{ v := .iface 89 (.agg #[errW e2]), recovered := false }] ∧ Below w0.heap.size w0 w' ∧ KeepBut w w' g none := by
  have HE := Aside0.mk hE
  have hu := Tryd.underlying79
  have hu2 := Tryd.underlying28
  have hu3 := Tryd.underlying30
  have HI := Aside0.mk hI
  have HB := Aside0.mk hB
  have HT := Aside0.mk hT
  have HK := Aside0.mk hK
  have HW := Aside0.mk hw
  have HE2 := Aside0.mk he2
  have H0 := Aside0.mk h0
  clear hE hI hB hT hK hw he2 h0
  go_enter Tryd.func69, Tryd.ntmps69
  go_wp2_with (first | ((with_reducible refine gate_dst (N := 2) rfl ?_); refine bx 2 #[.string ⟨#[]⟩, .int .i64 0, .int .u64 0, .int .u64 0, .int .u64 0, .int .u64 0, .int .u64 0, .int .u64 0, .int .u64 0] 79 ?_; intro g2 hg2 W2 hb2 hw2; have B2 := Aside0.mk hb2; have HW2 := Aside0.mk hw2; have G2 := Aside0.mk hg2; clear hb2 hw2 hg2))
  have hgl := HI.out.lt
  have n2_ : g2 ≠ g := by have := G2.out; omega
  have N2 := Aside0.mk n2_
  clear hgl n2_
  refine (pack_Reader_Text.calls g xs 0 s x1 e1 w0 _ HE.out (HI.out.below HW2.out) (below_step HB.out HW2.out) HT.out).mono ?_
  rintro e W3 ⟨rfl, h1_, h2_, h3_⟩
  have b2_ := h3_.blk B2.out N2.out (by simp)
  have k2_ := (KeepBut.of_below HW2.out g none).trans h3_ (.inl rfl)
  clear B2
  have B2 := Aside0.mk b2_
  have R3 := Aside0.mk h1_
  have L3 := Aside0.mk h2_
  have K3 := Aside0.mk k2_
  clear b2_ k2_ h1_ h2_ h3_
  go_wp2_with (first | ((with_reducible refine gate_dst (N := 3) rfl ?_); refine bx 3 #[.string ⟨#[]⟩, .int .i64 0, .int .u64 0, .int .u64 0, .int .u64 0, .int .u64 0, .int .u64 0, .int .u64 0, .int .u64 0] 79 ?_; intro g3 hg3 W4 hb3 hw3; have h_ := image_entry.init HB.out G2.out N2.out B2.out R3.out L3.out K3.out hg3 hb3 hw3; have H := Aside0.mk h_.1; have FX := Aside0.mk h_.2; clear h_ hb3 hw3 hg3; obtain ⟨p0, p1, p2, p3, p4, p5, p6, p7, p8, q0, q1, q2, q3, q4, q5, q6, q7, q8⟩ := image_entry.bc9 ⟨H.out.b3⟩))
  refine image_entry.here ((((((((((H.out.set FX.out _ _).set FX.out _ _).set FX.out _ _).set FX.out _ _).set FX.out _ _).set FX.out _ _).set FX.out _ _).set FX.out _ _).set FX.out _ _)) (fun h_ => ?_)
  clear H
  replace h_ := h_.out
  try simp only [List.setIfInBounds_toArray, List.set_cons_zero, List.set_cons_succ] at h_
  have H := Aside0.mk h_
  clear h_
  clear p0 p1 p2 p3 p4 p5 p6 p7 p8 q0 q1 q2 q3 q4 q5 q6 q7 q8
  refine (pack_Reader_U8.calls g x1 e1 k x2 e2 w0 _ HE.out H.out.rd H.out.bel HK.out).mono ?_
  rintro e W5 ⟨rfl, h1_, h2_, h3_⟩
  have h_ := H.out.call FX.out h1_ h2_ h3_
  clear H h1_ h2_ h3_
  have H := Aside0.mk h_
  clear h_
  obtain ⟨p0, p1, p2, p3, p4, p5, p6, p7, p8, q0, q1, q2, q3, q4, q5, q6, q7, q8⟩ := image_entry.bc9 ⟨H.out.b3⟩
  go_wp2_with fail
  refine image_entry.here ((H.out.set FX.out _ _)) (fun h_ => ?_)
  clear H
  replace h_ := h_.out
  try simp only [List.setIfInBounds_toArray, List.set_cons_zero, List.set_cons_succ] at h_
  have H := Aside0.mk h_
  clear h_
  clear p0 p1 p2 p3 p4 p5 p6 p7 p8 q0 q1 q2 q3 q4 q5 q6 q7 q8
  refine (pack_Reader_Err.calls g x2 e2 e2 x2 e2 w0 _ HE.out H.out.rd H.out.bel rfl).mono ?_
  rintro e W6 ⟨rfl, h1_, h2_, h3_⟩
  have h_ := H.out.call FX.out h1_ h2_ h3_
  clear H h1_ h2_ h3_
  have H := Aside0.mk h_
  clear h_
  obtain ⟨p0, p1, p2, p3, p4, p5, p6, p7, p8, q0, q1, q2, q3, q4, q5, q6, q7, q8⟩ := image_entry.bc9 ⟨H.out.b3⟩
  go_wp2_with fail
  refine (image_entry.must_bad e2 HE2.out H0.out _).mono ?_
  rintro e W_ ⟨rfl, rfl⟩
  exact ⟨rfl, rfl, H.out.bel, H.out.keep⟩
set_option maxHeartbeats 8000000 in
set_option maxRecDepth 100000 in
theorem image_entry.flow_ok [Errs] (g : Nat) (xs : List Int) (w0 w : World) (hE : Sent w0) (hI : IsS114 w0 w g xs 0) (hB : Below w0.heap.size w0 w) (s : ByteArray) (x1 : List Int) (e1 : Int) (hT : pack_Reader_Text.f xs 0 = some (s, x1, e1)) (x2 : List Int) (hK : pack_Reader_U8.f x1 e1 = some (1, x2, 0)) (a1 : Int) (y1 : List Int) (d1 : Int) (hA1 : pack_Reader_U64.f x2 0 = some (a1, y1, d1)) (a2 : Int) (y2 : List Int) (d2 : Int) (hA2 : pack_Reader_U64.f y1 d1 = some (a2, y2, d2)) (a3 : Int) (y3 : List Int) (hA3 : pack_Reader_U64.f y2 d2 = some (a3, y3, 0)) :
    Calls Tryd.prog 69 #[.pointer (some ⟨g, 0, none⟩)] w fun e w' => e = .returned (.agg #[.string s, .int .i64 1, .int .u64 a1, .int .u64 a2, .int .u64 0, .int .u64 0, .int .u64 a3, .int .u64 0, .int .u64 0]) ∧ IsS114 w0 w' g y3 0 ∧ Below w0.heap.size w0 w' ∧ KeepBut w w' g none := by
  have HE := Aside0.mk hE
  have hu := Tryd.underlying79
  have hu2 := Tryd.underlying28
  have hu3 := Tryd.underlying30
  have HI := Aside0.mk hI
  have HB := Aside0.mk hB
  have HT := Aside0.mk hT
  have HK := Aside0.mk hK
  have HA1 := Aside0.mk hA1
  have HA2 := Aside0.mk hA2
  have HA3 := Aside0.mk hA3
  clear hE hI hB hT hK hA1 hA2 hA3
  go_enter Tryd.func69, Tryd.ntmps69
  go_wp2_with (first | ((with_reducible refine gate_dst (N := 2) rfl ?_); refine bx 2 #[.string ⟨#[]⟩, .int .i64 0, .int .u64 0, .int .u64 0, .int .u64 0, .int .u64 0, .int .u64 0, .int .u64 0, .int .u64 0] 79 ?_; intro g2 hg2 W2 hb2 hw2; have B2 := Aside0.mk hb2; have HW2 := Aside0.mk hw2; have G2 := Aside0.mk hg2; clear hb2 hw2 hg2))
  have hgl := HI.out.lt
  have n2_ : g2 ≠ g := by have := G2.out; omega
  have N2 := Aside0.mk n2_
  clear hgl n2_
  refine (pack_Reader_Text.calls g xs 0 s x1 e1 w0 _ HE.out (HI.out.below HW2.out) (below_step HB.out HW2.out) HT.out).mono ?_
  rintro e W3 ⟨rfl, h1_, h2_, h3_⟩
  have b2_ := h3_.blk B2.out N2.out (by simp)
  have k2_ := (KeepBut.of_below HW2.out g none).trans h3_ (.inl rfl)
  clear B2
  have B2 := Aside0.mk b2_
  have R3 := Aside0.mk h1_
  have L3 := Aside0.mk h2_
  have K3 := Aside0.mk k2_
  clear b2_ k2_ h1_ h2_ h3_
  go_wp2_with (first | ((with_reducible refine gate_dst (N := 3) rfl ?_); refine bx 3 #[.string ⟨#[]⟩, .int .i64 0, .int .u64 0, .int .u64 0, .int .u64 0, .int .u64 0, .int .u64 0, .int .u64 0, .int .u64 0] 79 ?_; intro g3 hg3 W4 hb3 hw3; have h_ := image_entry.init HB.out G2.out N2.out B2.out R3.out L3.out K3.out hg3 hb3 hw3; have H := Aside0.mk h_.1; have FX := Aside0.mk h_.2; clear h_ hb3 hw3 hg3; obtain ⟨p0, p1, p2, p3, p4, p5, p6, p7, p8, q0, q1, q2, q3, q4, q5, q6, q7, q8⟩ := image_entry.bc9 ⟨H.out.b3⟩))
  refine image_entry.here ((((((((((H.out.set FX.out _ _).set FX.out _ _).set FX.out _ _).set FX.out _ _).set FX.out _ _).set FX.out _ _).set FX.out _ _).set FX.out _ _).set FX.out _ _)) (fun h_ => ?_)
  clear H
  replace h_ := h_.out
  try simp only [List.setIfInBounds_toArray, List.set_cons_zero, List.set_cons_succ] at h_
  have H := Aside0.mk h_
  clear h_
  clear p0 p1 p2 p3 p4 p5 p6 p7 p8 q0 q1 q2 q3 q4 q5 q6 q7 q8
  refine (pack_Reader_U8.calls g x1 e1 1 x2 0 w0 _ HE.out H.out.rd H.out.bel HK.out).mono ?_
  rintro e W5 ⟨rfl, h1_, h2_, h3_⟩
  have h_ := H.out.call FX.out h1_ h2_ h3_
  clear H h1_ h2_ h3_
  have H := Aside0.mk h_
  clear h_
  obtain ⟨p0, p1, p2, p3, p4, p5, p6, p7, p8, q0, q1, q2, q3, q4, q5, q6, q7, q8⟩ := image_entry.bc9 ⟨H.out.b3⟩
  go_wp2_with fail
  refine image_entry.here ((H.out.set FX.out _ _)) (fun h_ => ?_)
  clear H
  replace h_ := h_.out
  try simp only [List.setIfInBounds_toArray, List.set_cons_zero, List.set_cons_succ] at h_
  have H := Aside0.mk h_
  clear h_
  clear p0 p1 p2 p3 p4 p5 p6 p7 p8 q0 q1 q2 q3 q4 q5 q6 q7 q8
  refine (pack_Reader_Err.calls g x2 0 0 x2 0 w0 _ HE.out H.out.rd H.out.bel rfl).mono ?_
  rintro e W6 ⟨rfl, h1_, h2_, h3_⟩
  have h_ := H.out.call FX.out h1_ h2_ h3_
  clear H h1_ h2_ h3_
  have H := Aside0.mk h_
  clear h_
  obtain ⟨p0, p1, p2, p3, p4, p5, p6, p7, p8, q0, q1, q2, q3, q4, q5, q6, q7, q8⟩ := image_entry.bc9 ⟨H.out.b3⟩
  go_wp2_with fail
  refine (image_entry.must_ok _).mono ?_
  rintro e W_ ⟨rfl, rfl⟩
  go_wp2_with fail
  refine image_entry.here (H.out) (fun h_ => ?_)
  clear H
  replace h_ := h_.out
  try simp only [List.setIfInBounds_toArray, List.set_cons_zero, List.set_cons_succ] at h_
  have H := Aside0.mk h_
  clear h_
  clear p0 p1 p2 p3 p4 p5 p6 p7 p8 q0 q1 q2 q3 q4 q5 q6 q7 q8
  refine (pack_Reader_U64.calls g x2 0 a1 y1 d1 w0 _ HE.out H.out.rd H.out.bel HA1.out).mono ?_
  rintro e W7 ⟨rfl, h1_, h2_, h3_⟩
  have h_ := H.out.call FX.out h1_ h2_ h3_
  clear H h1_ h2_ h3_
  have H := Aside0.mk h_
  clear h_
  obtain ⟨p0, p1, p2, p3, p4, p5, p6, p7, p8, q0, q1, q2, q3, q4, q5, q6, q7, q8⟩ := image_entry.bc9 ⟨H.out.b3⟩
  go_wp2_with fail
  refine image_entry.here (H.out) (fun h_ => ?_)
  clear H
  replace h_ := h_.out
  try simp only [List.setIfInBounds_toArray, List.set_cons_zero, List.set_cons_succ] at h_
  have H := Aside0.mk h_
  clear h_
  clear p0 p1 p2 p3 p4 p5 p6 p7 p8 q0 q1 q2 q3 q4 q5 q6 q7 q8
  refine (pack_Reader_U64.calls g y1 d1 a2 y2 d2 w0 _ HE.out H.out.rd H.out.bel HA2.out).mono ?_
  rintro e W8 ⟨rfl, h1_, h2_, h3_⟩
  have h_ := H.out.call FX.out h1_ h2_ h3_
  clear H h1_ h2_ h3_
  have H := Aside0.mk h_
  clear h_
  obtain ⟨p0, p1, p2, p3, p4, p5, p6, p7, p8, q0, q1, q2, q3, q4, q5, q6, q7, q8⟩ := image_entry.bc9 ⟨H.out.b3⟩
  go_wp2_with fail
  refine image_entry.here (((H.out.set FX.out _ _).set FX.out _ _)) (fun h_ => ?_)
  clear H
  replace h_ := h_.out
  try simp only [List.setIfInBounds_toArray, List.set_cons_zero, List.set_cons_succ] at h_
  have H := Aside0.mk h_
  clear h_
  clear p0 p1 p2 p3 p4 p5 p6 p7 p8 q0 q1 q2 q3 q4 q5 q6 q7 q8
  refine (pack_Reader_U64.calls g y2 d2 a3 y3 0 w0 _ HE.out H.out.rd H.out.bel HA3.out).mono ?_
  rintro e W9 ⟨rfl, h1_, h2_, h3_⟩
  have h_ := H.out.call FX.out h1_ h2_ h3_
  clear H h1_ h2_ h3_
  have H := Aside0.mk h_
  clear h_
  obtain ⟨p0, p1, p2, p3, p4, p5, p6, p7, p8, q0, q1, q2, q3, q4, q5, q6, q7, q8⟩ := image_entry.bc9 ⟨H.out.b3⟩
  go_wp2_with fail
  refine image_entry.here ((H.out.set FX.out _ _)) (fun h_ => ?_)
  clear H
  replace h_ := h_.out
  try simp only [List.setIfInBounds_toArray, List.set_cons_zero, List.set_cons_succ] at h_
  have H := Aside0.mk h_
  clear h_
  clear p0 p1 p2 p3 p4 p5 p6 p7 p8 q0 q1 q2 q3 q4 q5 q6 q7 q8
  refine (pack_Reader_Err.calls g y3 0 0 y3 0 w0 _ HE.out H.out.rd H.out.bel rfl).mono ?_
  rintro e W11 ⟨rfl, h1_, h2_, h3_⟩
  have h_ := H.out.call FX.out h1_ h2_ h3_
  clear H h1_ h2_ h3_
  have H := Aside0.mk h_
  clear h_
  obtain ⟨p0, p1, p2, p3, p4, p5, p6, p7, p8, q0, q1, q2, q3, q4, q5, q6, q7, q8⟩ := image_entry.bc9 ⟨H.out.b3⟩
  go_wp2_with fail
  refine (image_entry.must_ok _).mono ?_
  rintro e W_ ⟨rfl, rfl⟩
  obtain ⟨r0, r1, r2, r3, r4, r5, r6, r7, r8, s0, s1, s2, s3, s4, s5, s6, s7, s8⟩ := image_entry.bc9 ⟨H.out.b2⟩
  have nn1 := FX.out.n23
  go_wp2
  with_reducible refine bodyPost_ret (results_cell_row rfl _ _ g2 79 #[.string s, .int .i64 1, .int .u64 a1, .int .u64 a2, .int .u64 0, .int .u64 0, .int .u64 a3, .int .u64 0, .int .u64 0] (0, 0) _ rfl (put9_ H.out.b2) Tryd.underlying79 rfl (by kernel_rfl)) rfl ?_
  exact ⟨rfl, image_entry.back H FX⟩
set_option maxHeartbeats 8000000 in
set_option maxRecDepth 100000 in
theorem image_entry.flow_bad [Errs] (g : Nat) (xs : List Int) (w0 w : World) (hE : Sent w0) (hI : IsS114 w0 w g xs 0) (hB : Below w0.heap.size w0 w) (s : ByteArray) (x1 : List Int) (e1 : Int) (hT : pack_Reader_Text.f xs 0 = some (s, x1, e1)) (x2 : List Int) (hK : pack_Reader_U8.f x1 e1 = some (1, x2, 0)) (a1 : Int) (y1 : List Int) (d1 : Int) (hA1 : pack_Reader_U64.f x2 0 = some (a1, y1, d1)) (a2 : Int) (y2 : List Int) (d2 : Int) (hA2 : pack_Reader_U64.f y1 d1 = some (a2, y2, d2)) (a3 : Int) (y3 : List Int) (d3 : Int) (hA3 : pack_Reader_U64.f y2 d2 = some (a3, y3, d3)) (hd : 0 ≤ d3 ∧ ¬ d3 = 0) :
    Calls Tryd.prog 69 #[.pointer (some ⟨g, 0, none⟩)] w fun e w' => e = .panicked [{ v := .iface 89 (.agg #[errW d3]), recovered := false }] ∧ Below w0.heap.size w0 w' ∧ KeepBut w w' g none := by
  have HE := Aside0.mk hE
  have hu := Tryd.underlying79
  have hu2 := Tryd.underlying28
  have hu3 := Tryd.underlying30
  have HI := Aside0.mk hI
  have HB := Aside0.mk hB
  have HT := Aside0.mk hT
  have HK := Aside0.mk hK
  have HA1 := Aside0.mk hA1
  have HA2 := Aside0.mk hA2
  have HA3 := Aside0.mk hA3
  have HD := Aside0.mk hd; clear hd
  clear hE hI hB hT hK hA1 hA2 hA3
  go_enter Tryd.func69, Tryd.ntmps69
  go_wp2_with (first | ((with_reducible refine gate_dst (N := 2) rfl ?_); refine bx 2 #[.string ⟨#[]⟩, .int .i64 0, .int .u64 0, .int .u64 0, .int .u64 0, .int .u64 0, .int .u64 0, .int .u64 0, .int .u64 0] 79 ?_; intro g2 hg2 W2 hb2 hw2; have B2 := Aside0.mk hb2; have HW2 := Aside0.mk hw2; have G2 := Aside0.mk hg2; clear hb2 hw2 hg2))
  have hgl := HI.out.lt
  have n2_ : g2 ≠ g := by have := G2.out; omega
  have N2 := Aside0.mk n2_
  clear hgl n2_
  refine (pack_Reader_Text.calls g xs 0 s x1 e1 w0 _ HE.out (HI.out.below HW2.out) (below_step HB.out HW2.out) HT.out).mono ?_
  rintro e W3 ⟨rfl, h1_, h2_, h3_⟩
  have b2_ := h3_.blk B2.out N2.out (by simp)
  have k2_ := (KeepBut.of_below HW2.out g none).trans h3_ (.inl rfl)
  clear B2
  have B2 := Aside0.mk b2_
  have R3 := Aside0.mk h1_
  have L3 := Aside0.mk h2_
  have K3 := Aside0.mk k2_
  clear b2_ k2_ h1_ h2_ h3_
  go_wp2_with (first | ((with_reducible refine gate_dst (N := 3) rfl ?_); refine bx 3 #[.string ⟨#[]⟩, .int .i64 0, .int .u64 0, .int .u64 0, .int .u64 0, .int .u64 0, .int .u64 0, .int .u64 0, .int .u64 0] 79 ?_; intro g3 hg3 W4 hb3 hw3; have h_ := image_entry.init HB.out G2.out N2.out B2.out R3.out L3.out K3.out hg3 hb3 hw3; have H := Aside0.mk h_.1; have FX := Aside0.mk h_.2; clear h_ hb3 hw3 hg3; obtain ⟨p0, p1, p2, p3, p4, p5, p6, p7, p8, q0, q1, q2, q3, q4, q5, q6, q7, q8⟩ := image_entry.bc9 ⟨H.out.b3⟩))
  refine image_entry.here ((((((((((H.out.set FX.out _ _).set FX.out _ _).set FX.out _ _).set FX.out _ _).set FX.out _ _).set FX.out _ _).set FX.out _ _).set FX.out _ _).set FX.out _ _)) (fun h_ => ?_)
  clear H
  replace h_ := h_.out
  try simp only [List.setIfInBounds_toArray, List.set_cons_zero, List.set_cons_succ] at h_
  have H := Aside0.mk h_
  clear h_
  clear p0 p1 p2 p3 p4 p5 p6 p7 p8 q0 q1 q2 q3 q4 q5 q6 q7 q8
  refine (pack_Reader_U8.calls g x1 e1 1 x2 0 w0 _ HE.out H.out.rd H.out.bel HK.out).mono ?_
  rintro e W5 ⟨rfl, h1_, h2_, h3_⟩
  have h_ := H.out.call FX.out h1_ h2_ h3_
  clear H h1_ h2_ h3_
  have H := Aside0.mk h_
  clear h_
  obtain ⟨p0, p1, p2, p3, p4, p5, p6, p7, p8, q0, q1, q2, q3, q4, q5, q6, q7, q8⟩ := image_entry.bc9 ⟨H.out.b3⟩
  go_wp2_with fail
  refine image_entry.here ((H.out.set FX.out _ _)) (fun h_ => ?_)
  clear H
  replace h_ := h_.out
  try simp only [List.setIfInBounds_toArray, List.set_cons_zero, List.set_cons_succ] at h_
  have H := Aside0.mk h_
  clear h_
  clear p0 p1 p2 p3 p4 p5 p6 p7 p8 q0 q1 q2 q3 q4 q5 q6 q7 q8
  refine (pack_Reader_Err.calls g x2 0 0 x2 0 w0 _ HE.out H.out.rd H.out.bel rfl).mono ?_
  rintro e W6 ⟨rfl, h1_, h2_, h3_⟩
  have h_ := H.out.call FX.out h1_ h2_ h3_
  clear H h1_ h2_ h3_
  have H := Aside0.mk h_
  clear h_
  obtain ⟨p0, p1, p2, p3, p4, p5, p6, p7, p8, q0, q1, q2, q3, q4, q5, q6, q7, q8⟩ := image_entry.bc9 ⟨H.out.b3⟩
  go_wp2_with fail
  refine (image_entry.must_ok _).mono ?_
  rintro e W_ ⟨rfl, rfl⟩
  go_wp2_with fail
  refine image_entry.here (H.out) (fun h_ => ?_)
  clear H
  replace h_ := h_.out
  try simp only [List.setIfInBounds_toArray, List.set_cons_zero, List.set_cons_succ] at h_
  have H := Aside0.mk h_
  clear h_
  clear p0 p1 p2 p3 p4 p5 p6 p7 p8 q0 q1 q2 q3 q4 q5 q6 q7 q8
  refine (pack_Reader_U64.calls g x2 0 a1 y1 d1 w0 _ HE.out H.out.rd H.out.bel HA1.out).mono ?_
  rintro e W7 ⟨rfl, h1_, h2_, h3_⟩
  have h_ := H.out.call FX.out h1_ h2_ h3_
  clear H h1_ h2_ h3_
  have H := Aside0.mk h_
  clear h_
  obtain ⟨p0, p1, p2, p3, p4, p5, p6, p7, p8, q0, q1, q2, q3, q4, q5, q6, q7, q8⟩ := image_entry.bc9 ⟨H.out.b3⟩
  go_wp2_with fail
  refine image_entry.here (H.out) (fun h_ => ?_)
  clear H
  replace h_ := h_.out
  try simp only [List.setIfInBounds_toArray, List.set_cons_zero, List.set_cons_succ] at h_
  have H := Aside0.mk h_
  clear h_
  clear p0 p1 p2 p3 p4 p5 p6 p7 p8 q0 q1 q2 q3 q4 q5 q6 q7 q8
  refine (pack_Reader_U64.calls g y1 d1 a2 y2 d2 w0 _ HE.out H.out.rd H.out.bel HA2.out).mono ?_
  rintro e W8 ⟨rfl, h1_, h2_, h3_⟩
  have h_ := H.out.call FX.out h1_ h2_ h3_
  clear H h1_ h2_ h3_
  have H := Aside0.mk h_
  clear h_
  obtain ⟨p0, p1, p2, p3, p4, p5, p6, p7, p8, q0, q1, q2, q3, q4, q5, q6, q7, q8⟩ := image_entry.bc9 ⟨H.out.b3⟩
  go_wp2_with fail
  refine image_entry.here (((H.out.set FX.out _ _).set FX.out _ _)) (fun h_ => ?_)
  clear H
  replace h_ := h_.out
  try simp only [List.setIfInBounds_toArray, List.set_cons_zero, List.set_cons_succ] at h_
  have H := Aside0.mk h_
  clear h_
  clear p0 p1 p2 p3 p4 p5 p6 p7 p8 q0 q1 q2 q3 q4 q5 q6 q7 q8
  refine (pack_Reader_U64.calls g y2 d2 a3 y3 d3 w0 _ HE.out H.out.rd H.out.bel HA3.out).mono ?_
  rintro e W9 ⟨rfl, h1_, h2_, h3_⟩
  have h_ := H.out.call FX.out h1_ h2_ h3_
  clear H h1_ h2_ h3_
  have H := Aside0.mk h_
  clear h_
  obtain ⟨p0, p1, p2, p3, p4, p5, p6, p7, p8, q0, q1, q2, q3, q4, q5, q6, q7, q8⟩ := image_entry.bc9 ⟨H.out.b3⟩
  go_wp2_with fail
  refine image_entry.here ((H.out.set FX.out _ _)) (fun h_ => ?_)
  clear H
  replace h_ := h_.out
  try simp only [List.setIfInBounds_toArray, List.set_cons_zero, List.set_cons_succ] at h_
  have H := Aside0.mk h_
  clear h_
  clear p0 p1 p2 p3 p4 p5 p6 p7 p8 q0 q1 q2 q3 q4 q5 q6 q7 q8
  refine (pack_Reader_Err.calls g y3 d3 d3 y3 d3 w0 _ HE.out H.out.rd H.out.bel rfl).mono ?_
  rintro e W11 ⟨rfl, h1_, h2_, h3_⟩
  have h_ := H.out.call FX.out h1_ h2_ h3_
  clear H h1_ h2_ h3_
  have H := Aside0.mk h_
  clear h_
  obtain ⟨p0, p1, p2, p3, p4, p5, p6, p7, p8, q0, q1, q2, q3, q4, q5, q6, q7, q8⟩ := image_entry.bc9 ⟨H.out.b3⟩
  go_wp2_with fail
  refine (image_entry.must_bad d3 HD.out.1 HD.out.2 _).mono ?_
  rintro e W_ ⟨rfl, rfl⟩
  exact ⟨rfl, rfl, H.out.bel, H.out.keep⟩
set_option maxHeartbeats 8000000 in
set_option maxRecDepth 100000 in
theorem image_entry.grid_ok [Errs] (g : Nat) (xs : List Int) (w0 w : World) (hE : Sent w0) (hI : IsS114 w0 w g xs 0) (hB : Below w0.heap.size w0 w) (s : ByteArray) (x1 : List Int) (e1 : Int) (hT : pack_Reader_Text.f xs 0 = some (s, x1, e1)) (x2 : List Int) (hK : pack_Reader_U8.f x1 e1 = some (2, x2, 0)) (a1 : Int) (y1 : List Int) (d1 : Int) (hA1 : pack_Reader_U64.f x2 0 = some (a1, y1, d1)) (a2 : Int) (y2 : List Int) (d2 : Int) (hA2 : pack_Reader_U64.f y1 d1 = some (a2, y2, d2)) (a3 : Int) (y3 : List Int) (d3 : Int) (hA3 : pack_Reader_U64.f y2 d2 = some (a3, y3, d3)) (a4 : Int) (y4 : List Int) (hA4 : pack_Reader_U64.f y3 d3 = some (a4, y4, 0)) :
    Calls Tryd.prog 69 #[.pointer (some ⟨g, 0, none⟩)] w fun e w' => e = .returned (.agg #[.string s, .int .i64 2, .int .u64 0, .int .u64 0, .int .u64 a1, .int .u64 a2, .int .u64 0, .int .u64 a3, .int .u64 a4]) ∧ IsS114 w0 w' g y4 0 ∧ Below w0.heap.size w0 w' ∧ KeepBut w w' g none := by
  have HE := Aside0.mk hE
  have hu := Tryd.underlying79
  have hu2 := Tryd.underlying28
  have hu3 := Tryd.underlying30
  have HI := Aside0.mk hI
  have HB := Aside0.mk hB
  have HT := Aside0.mk hT
  have HK := Aside0.mk hK
  have HA1 := Aside0.mk hA1
  have HA2 := Aside0.mk hA2
  have HA3 := Aside0.mk hA3
  have HA4 := Aside0.mk hA4
  clear hE hI hB hT hK hA1 hA2 hA3 hA4
  go_enter Tryd.func69, Tryd.ntmps69
  go_wp2_with (first | ((with_reducible refine gate_dst (N := 2) rfl ?_); refine bx 2 #[.string ⟨#[]⟩, .int .i64 0, .int .u64 0, .int .u64 0, .int .u64 0, .int .u64 0, .int .u64 0, .int .u64 0, .int .u64 0] 79 ?_; intro g2 hg2 W2 hb2 hw2; have B2 := Aside0.mk hb2; have HW2 := Aside0.mk hw2; have G2 := Aside0.mk hg2; clear hb2 hw2 hg2))
  have hgl := HI.out.lt
  have n2_ : g2 ≠ g := by have := G2.out; omega
  have N2 := Aside0.mk n2_
  clear hgl n2_
  refine (pack_Reader_Text.calls g xs 0 s x1 e1 w0 _ HE.out (HI.out.below HW2.out) (below_step HB.out HW2.out) HT.out).mono ?_
  rintro e W3 ⟨rfl, h1_, h2_, h3_⟩
  have b2_ := h3_.blk B2.out N2.out (by simp)
  have k2_ := (KeepBut.of_below HW2.out g none).trans h3_ (.inl rfl)
  clear B2
  have B2 := Aside0.mk b2_
  have R3 := Aside0.mk h1_
  have L3 := Aside0.mk h2_
  have K3 := Aside0.mk k2_
  clear b2_ k2_ h1_ h2_ h3_
  go_wp2_with (first | ((with_reducible refine gate_dst (N := 3) rfl ?_); refine bx 3 #[.string ⟨#[]⟩, .int .i64 0, .int .u64 0, .int .u64 0, .int .u64 0, .int .u64 0, .int .u64 0, .int .u64 0, .int .u64 0] 79 ?_; intro g3 hg3 W4 hb3 hw3; have h_ := image_entry.init HB.out G2.out N2.out B2.out R3.out L3.out K3.out hg3 hb3 hw3; have H := Aside0.mk h_.1; have FX := Aside0.mk h_.2; clear h_ hb3 hw3 hg3; obtain ⟨p0, p1, p2, p3, p4, p5, p6, p7, p8, q0, q1, q2, q3, q4, q5, q6, q7, q8⟩ := image_entry.bc9 ⟨H.out.b3⟩))
  refine image_entry.here ((((((((((H.out.set FX.out _ _).set FX.out _ _).set FX.out _ _).set FX.out _ _).set FX.out _ _).set FX.out _ _).set FX.out _ _).set FX.out _ _).set FX.out _ _)) (fun h_ => ?_)
  clear H
  replace h_ := h_.out
  try simp only [List.setIfInBounds_toArray, List.set_cons_zero, List.set_cons_succ] at h_
  have H := Aside0.mk h_
  clear h_
  clear p0 p1 p2 p3 p4 p5 p6 p7 p8 q0 q1 q2 q3 q4 q5 q6 q7 q8
  refine (pack_Reader_U8.calls g x1 e1 2 x2 0 w0 _ HE.out H.out.rd H.out.bel HK.out).mono ?_
  rintro e W5 ⟨rfl, h1_, h2_, h3_⟩
  have h_ := H.out.call FX.out h1_ h2_ h3_
  clear H h1_ h2_ h3_
  have H := Aside0.mk h_
  clear h_
  obtain ⟨p0, p1, p2, p3, p4, p5, p6, p7, p8, q0, q1, q2, q3, q4, q5, q6, q7, q8⟩ := image_entry.bc9 ⟨H.out.b3⟩
  go_wp2_with fail
  refine image_entry.here ((H.out.set FX.out _ _)) (fun h_ => ?_)
  clear H
  replace h_ := h_.out
  try simp only [List.setIfInBounds_toArray, List.set_cons_zero, List.set_cons_succ] at h_
  have H := Aside0.mk h_
  clear h_
  clear p0 p1 p2 p3 p4 p5 p6 p7 p8 q0 q1 q2 q3 q4 q5 q6 q7 q8
  refine (pack_Reader_Err.calls g x2 0 0 x2 0 w0 _ HE.out H.out.rd H.out.bel rfl).mono ?_
  rintro e W6 ⟨rfl, h1_, h2_, h3_⟩
  have h_ := H.out.call FX.out h1_ h2_ h3_
  clear H h1_ h2_ h3_
  have H := Aside0.mk h_
  clear h_
  obtain ⟨p0, p1, p2, p3, p4, p5, p6, p7, p8, q0, q1, q2, q3, q4, q5, q6, q7, q8⟩ := image_entry.bc9 ⟨H.out.b3⟩
  go_wp2_with fail
  refine (image_entry.must_ok _).mono ?_
  rintro e W_ ⟨rfl, rfl⟩
  go_wp2_with fail
  refine image_entry.here (H.out) (fun h_ => ?_)
  clear H
  replace h_ := h_.out
  try simp only [List.setIfInBounds_toArray, List.set_cons_zero, List.set_cons_succ] at h_
  have H := Aside0.mk h_
  clear h_
  clear p0 p1 p2 p3 p4 p5 p6 p7 p8 q0 q1 q2 q3 q4 q5 q6 q7 q8
  refine (pack_Reader_U64.calls g x2 0 a1 y1 d1 w0 _ HE.out H.out.rd H.out.bel HA1.out).mono ?_
  rintro e W7 ⟨rfl, h1_, h2_, h3_⟩
  have h_ := H.out.call FX.out h1_ h2_ h3_
  clear H h1_ h2_ h3_
  have H := Aside0.mk h_
  clear h_
  obtain ⟨p0, p1, p2, p3, p4, p5, p6, p7, p8, q0, q1, q2, q3, q4, q5, q6, q7, q8⟩ := image_entry.bc9 ⟨H.out.b3⟩
  go_wp2_with fail
  refine image_entry.here (H.out) (fun h_ => ?_)
  clear H
  replace h_ := h_.out
  try simp only [List.setIfInBounds_toArray, List.set_cons_zero, List.set_cons_succ] at h_
  have H := Aside0.mk h_
  clear h_
  clear p0 p1 p2 p3 p4 p5 p6 p7 p8 q0 q1 q2 q3 q4 q5 q6 q7 q8
  refine (pack_Reader_U64.calls g y1 d1 a2 y2 d2 w0 _ HE.out H.out.rd H.out.bel HA2.out).mono ?_
  rintro e W8 ⟨rfl, h1_, h2_, h3_⟩
  have h_ := H.out.call FX.out h1_ h2_ h3_
  clear H h1_ h2_ h3_
  have H := Aside0.mk h_
  clear h_
  obtain ⟨p0, p1, p2, p3, p4, p5, p6, p7, p8, q0, q1, q2, q3, q4, q5, q6, q7, q8⟩ := image_entry.bc9 ⟨H.out.b3⟩
  go_wp2_with fail
  refine image_entry.here (((H.out.set FX.out _ _).set FX.out _ _)) (fun h_ => ?_)
  clear H
  replace h_ := h_.out
  try simp only [List.setIfInBounds_toArray, List.set_cons_zero, List.set_cons_succ] at h_
  have H := Aside0.mk h_
  clear h_
  clear p0 p1 p2 p3 p4 p5 p6 p7 p8 q0 q1 q2 q3 q4 q5 q6 q7 q8
  refine (pack_Reader_U64.calls g y2 d2 a3 y3 d3 w0 _ HE.out H.out.rd H.out.bel HA3.out).mono ?_
  rintro e W9 ⟨rfl, h1_, h2_, h3_⟩
  have h_ := H.out.call FX.out h1_ h2_ h3_
  clear H h1_ h2_ h3_
  have H := Aside0.mk h_
  clear h_
  obtain ⟨p0, p1, p2, p3, p4, p5, p6, p7, p8, q0, q1, q2, q3, q4, q5, q6, q7, q8⟩ := image_entry.bc9 ⟨H.out.b3⟩
  go_wp2_with fail
  refine image_entry.here (H.out) (fun h_ => ?_)
  clear H
  replace h_ := h_.out
  try simp only [List.setIfInBounds_toArray, List.set_cons_zero, List.set_cons_succ] at h_
  have H := Aside0.mk h_
  clear h_
  clear p0 p1 p2 p3 p4 p5 p6 p7 p8 q0 q1 q2 q3 q4 q5 q6 q7 q8
  refine (pack_Reader_U64.calls g y3 d3 a4 y4 0 w0 _ HE.out H.out.rd H.out.bel HA4.out).mono ?_
  rintro e W10 ⟨rfl, h1_, h2_, h3_⟩
  have h_ := H.out.call FX.out h1_ h2_ h3_
  clear H h1_ h2_ h3_
  have H := Aside0.mk h_
  clear h_
  obtain ⟨p0, p1, p2, p3, p4, p5, p6, p7, p8, q0, q1, q2, q3, q4, q5, q6, q7, q8⟩ := image_entry.bc9 ⟨H.out.b3⟩
  go_wp2_with fail
  refine image_entry.here (((H.out.set FX.out _ _).set FX.out _ _)) (fun h_ => ?_)
  clear H
  replace h_ := h_.out
  try simp only [List.setIfInBounds_toArray, List.set_cons_zero, List.set_cons_succ] at h_
  have H := Aside0.mk h_
  clear h_
  clear p0 p1 p2 p3 p4 p5 p6 p7 p8 q0 q1 q2 q3 q4 q5 q6 q7 q8
  refine (pack_Reader_Err.calls g y4 0 0 y4 0 w0 _ HE.out H.out.rd H.out.bel rfl).mono ?_
  rintro e W11 ⟨rfl, h1_, h2_, h3_⟩
  have h_ := H.out.call FX.out h1_ h2_ h3_
  clear H h1_ h2_ h3_
  have H := Aside0.mk h_
  clear h_
  obtain ⟨p0, p1, p2, p3, p4, p5, p6, p7, p8, q0, q1, q2, q3, q4, q5, q6, q7, q8⟩ := image_entry.bc9 ⟨H.out.b3⟩
  go_wp2_with fail
  refine (image_entry.must_ok _).mono ?_
  rintro e W_ ⟨rfl, rfl⟩
  obtain ⟨r0, r1, r2, r3, r4, r5, r6, r7, r8, s0, s1, s2, s3, s4, s5, s6, s7, s8⟩ := image_entry.bc9 ⟨H.out.b2⟩
  have nn1 := FX.out.n23
  go_wp2
  with_reducible refine bodyPost_ret (results_cell_row rfl _ _ g2 79 #[.string s, .int .i64 2, .int .u64 0, .int .u64 0, .int .u64 a1, .int .u64 a2, .int .u64 0, .int .u64 a3, .int .u64 a4] (0, 0) _ rfl (put9_ H.out.b2) Tryd.underlying79 rfl (by kernel_rfl)) rfl ?_
  exact ⟨rfl, image_entry.back H FX⟩
set_option maxHeartbeats 8000000 in
set_option maxRecDepth 100000 in
theorem image_entry.grid_bad [Errs] (g : Nat) (xs : List Int) (w0 w : World) (hE : Sent w0) (hI : IsS114 w0 w g xs 0) (hB : Below w0.heap.size w0 w) (s : ByteArray) (x1 : List Int) (e1 : Int) (hT : pack_Reader_Text.f xs 0 = some (s, x1, e1)) (x2 : List Int) (hK : pack_Reader_U8.f x1 e1 = some (2, x2, 0)) (a1 : Int) (y1 : List Int) (d1 : Int) (hA1 : pack_Reader_U64.f x2 0 = some (a1, y1, d1)) (a2 : Int) (y2 : List Int) (d2 : Int) (hA2 : pack_Reader_U64.f y1 d1 = some (a2, y2, d2)) (a3 : Int) (y3 : List Int) (d3 : Int) (hA3 : pack_Reader_U64.f y2 d2 = some (a3, y3, d3)) (a4 : Int) (y4 : List Int) (d4 : Int) (hA4 : pack_Reader_U64.f y3 d3 = some (a4, y4, d4)) (hd : 0 ≤ d4 ∧ ¬ d4 = 0) :
    Calls Tryd.prog 69 #[.pointer (some ⟨g, 0, none⟩)] w fun e w' => e = .panicked [{ v := .iface 89 (.agg #[errW d4]), recovered := false }] ∧ Below w0.heap.size w0 w' ∧ KeepBut w w' g none := by
  have HE := Aside0.mk hE
  have hu := Tryd.underlying79
  have hu2 := Tryd.underlying28
  have hu3 := Tryd.underlying30
  have HI := Aside0.mk hI
  have HB := Aside0.mk hB
  have HT := Aside0.mk hT
  have HK := Aside0.mk hK
  have HA1 := Aside0.mk hA1
  have HA2 := Aside0.mk hA2
  have HA3 := Aside0.mk hA3
  have HA4 := Aside0.mk hA4
  have HD := Aside0.mk hd; clear hd
  clear hE hI hB hT hK hA1 hA2 hA3 hA4
  go_enter Tryd.func69, Tryd.ntmps69
  go_wp2_with (first | ((with_reducible refine gate_dst (N := 2) rfl ?_); refine bx 2 #[.string ⟨#[]⟩, .int .i64 0, .int .u64 0, .int .u64 0, .int .u64 0, .int .u64 0, .int .u64 0, .int .u64 0, .int .u64 0] 79 ?_; intro g2 hg2 W2 hb2 hw2; have B2 := Aside0.mk hb2; have HW2 := Aside0.mk hw2; have G2 := Aside0.mk hg2; clear hb2 hw2 hg2))
  have hgl := HI.out.lt
  have n2_ : g2 ≠ g := by have := G2.out; omega
  have N2 := Aside0.mk n2_
  clear hgl n2_
  refine (pack_Reader_Text.calls g xs 0 s x1 e1 w0 _ HE.out (HI.out.below HW2.out) (below_step HB.out HW2.out) HT.out).mono ?_
  rintro e W3 ⟨rfl, h1_, h2_, h3_⟩
  have b2_ := h3_.blk B2.out N2.out (by simp)
  have k2_ := (KeepBut.of_below HW2.out g none).trans h3_ (.inl rfl)
  clear B2
  have B2 := Aside0.mk b2_
  have R3 := Aside0.mk h1_
  have L3 := Aside0.mk h2_
  have K3 := Aside0.mk k2_
  clear b2_ k2_ h1_ h2_ h3_
  go_wp2_with (first | ((with_reducible refine gate_dst (N := 3) rfl ?_); refine bx 3 #[.string ⟨#[]⟩, .int .i64 0, .int .u64 0, .int .u64 0, .int .u64 0, .int .u64 0, .int .u64 0, .int .u64 0, .int .u64 0] 79 ?_; intro g3 hg3 W4 hb3 hw3; have h_ := image_entry.init HB.out G2.out N2.out B2.out R3.out L3.out K3.out hg3 hb3 hw3; have H := Aside0.mk h_.1; have FX := Aside0.mk h_.2; clear h_ hb3 hw3 hg3; obtain ⟨p0, p1, p2, p3, p4, p5, p6, p7, p8, q0, q1, q2, q3, q4, q5, q6, q7, q8⟩ := image_entry.bc9 ⟨H.out.b3⟩))
  refine image_entry.here ((((((((((H.out.set FX.out _ _).set FX.out _ _).set FX.out _ _).set FX.out _ _).set FX.out _ _).set FX.out _ _).set FX.out _ _).set FX.out _ _).set FX.out _ _)) (fun h_ => ?_)
  clear H
  replace h_ := h_.out
  try simp only [List.setIfInBounds_toArray, List.set_cons_zero, List.set_cons_succ] at h_
  have H := Aside0.mk h_
  clear h_
  clear p0 p1 p2 p3 p4 p5 p6 p7 p8 q0 q1 q2 q3 q4 q5 q6 q7 q8
  refine (pack_Reader_U8.calls g x1 e1 2 x2 0 w0 _ HE.out H.out.rd H.out.bel HK.out).mono ?_
  rintro e W5 ⟨rfl, h1_, h2_, h3_⟩
  have h_ := H.out.call FX.out h1_ h2_ h3_
  clear H h1_ h2_ h3_
  have H := Aside0.mk h_
  clear h_
  obtain ⟨p0, p1, p2, p3, p4, p5, p6, p7, p8, q0, q1, q2, q3, q4, q5, q6, q7, q8⟩ := image_entry.bc9 ⟨H.out.b3⟩
  go_wp2_with fail
  refine image_entry.here ((H.out.set FX.out _ _)) (fun h_ => ?_)
  clear H
  replace h_ := h_.out
  try simp only [List.setIfInBounds_toArray, List.set_cons_zero, List.set_cons_succ] at h_
  have H := Aside0.mk h_
  clear h_
  clear p0 p1 p2 p3 p4 p5 p6 p7 p8 q0 q1 q2 q3 q4 q5 q6 q7 q8
  refine (pack_Reader_Err.calls g x2 0 0 x2 0 w0 _ HE.out H.out.rd H.out.bel rfl).mono ?_
  rintro e W6 ⟨rfl, h1_, h2_, h3_⟩
  have h_ := H.out.call FX.out h1_ h2_ h3_
  clear H h1_ h2_ h3_
  have H := Aside0.mk h_
  clear h_
  obtain ⟨p0, p1, p2, p3, p4, p5, p6, p7, p8, q0, q1, q2, q3, q4, q5, q6, q7, q8⟩ := image_entry.bc9 ⟨H.out.b3⟩
  go_wp2_with fail
  refine (image_entry.must_ok _).mono ?_
  rintro e W_ ⟨rfl, rfl⟩
  go_wp2_with fail
  refine image_entry.here (H.out) (fun h_ => ?_)
  clear H
  replace h_ := h_.out
  try simp only [List.setIfInBounds_toArray, List.set_cons_zero, List.set_cons_succ] at h_
  have H := Aside0.mk h_
  clear h_
  clear p0 p1 p2 p3 p4 p5 p6 p7 p8 q0 q1 q2 q3 q4 q5 q6 q7 q8
  refine (pack_Reader_U64.calls g x2 0 a1 y1 d1 w0 _ HE.out H.out.rd H.out.bel HA1.out).mono ?_
  rintro e W7 ⟨rfl, h1_, h2_, h3_⟩
  have h_ := H.out.call FX.out h1_ h2_ h3_
  clear H h1_ h2_ h3_
  have H := Aside0.mk h_
  clear h_
  obtain ⟨p0, p1, p2, p3, p4, p5, p6, p7, p8, q0, q1, q2, q3, q4, q5, q6, q7, q8⟩ := image_entry.bc9 ⟨H.out.b3⟩
  go_wp2_with fail
  refine image_entry.here (H.out) (fun h_ => ?_)
  clear H
  replace h_ := h_.out
  try simp only [List.setIfInBounds_toArray, List.set_cons_zero, List.set_cons_succ] at h_
  have H := Aside0.mk h_
  clear h_
  clear p0 p1 p2 p3 p4 p5 p6 p7 p8 q0 q1 q2 q3 q4 q5 q6 q7 q8
  refine (pack_Reader_U64.calls g y1 d1 a2 y2 d2 w0 _ HE.out H.out.rd H.out.bel HA2.out).mono ?_
  rintro e W8 ⟨rfl, h1_, h2_, h3_⟩
  have h_ := H.out.call FX.out h1_ h2_ h3_
  clear H h1_ h2_ h3_
  have H := Aside0.mk h_
  clear h_
  obtain ⟨p0, p1, p2, p3, p4, p5, p6, p7, p8, q0, q1, q2, q3, q4, q5, q6, q7, q8⟩ := image_entry.bc9 ⟨H.out.b3⟩
  go_wp2_with fail
  refine image_entry.here (((H.out.set FX.out _ _).set FX.out _ _)) (fun h_ => ?_)
  clear H
  replace h_ := h_.out
  try simp only [List.setIfInBounds_toArray, List.set_cons_zero, List.set_cons_succ] at h_
  have H := Aside0.mk h_
  clear h_
  clear p0 p1 p2 p3 p4 p5 p6 p7 p8 q0 q1 q2 q3 q4 q5 q6 q7 q8
  refine (pack_Reader_U64.calls g y2 d2 a3 y3 d3 w0 _ HE.out H.out.rd H.out.bel HA3.out).mono ?_
  rintro e W9 ⟨rfl, h1_, h2_, h3_⟩
  have h_ := H.out.call FX.out h1_ h2_ h3_
  clear H h1_ h2_ h3_
  have H := Aside0.mk h_
  clear h_
  obtain ⟨p0, p1, p2, p3, p4, p5, p6, p7, p8, q0, q1, q2, q3, q4, q5, q6, q7, q8⟩ := image_entry.bc9 ⟨H.out.b3⟩
  go_wp2_with fail
  refine image_entry.here (H.out) (fun h_ => ?_)
  clear H
  replace h_ := h_.out
  try simp only [List.setIfInBounds_toArray, List.set_cons_zero, List.set_cons_succ] at h_
  have H := Aside0.mk h_
  clear h_
  clear p0 p1 p2 p3 p4 p5 p6 p7 p8 q0 q1 q2 q3 q4 q5 q6 q7 q8
  refine (pack_Reader_U64.calls g y3 d3 a4 y4 d4 w0 _ HE.out H.out.rd H.out.bel HA4.out).mono ?_
  rintro e W10 ⟨rfl, h1_, h2_, h3_⟩
  have h_ := H.out.call FX.out h1_ h2_ h3_
  clear H h1_ h2_ h3_
  have H := Aside0.mk h_
  clear h_
  obtain ⟨p0, p1, p2, p3, p4, p5, p6, p7, p8, q0, q1, q2, q3, q4, q5, q6, q7, q8⟩ := image_entry.bc9 ⟨H.out.b3⟩
  go_wp2_with fail
  refine image_entry.here (((H.out.set FX.out _ _).set FX.out _ _)) (fun h_ => ?_)
  clear H
  replace h_ := h_.out
  try simp only [List.setIfInBounds_toArray, List.set_cons_zero, List.set_cons_succ] at h_
  have H := Aside0.mk h_
  clear h_
  clear p0 p1 p2 p3 p4 p5 p6 p7 p8 q0 q1 q2 q3 q4 q5 q6 q7 q8
  refine (pack_Reader_Err.calls g y4 d4 d4 y4 d4 w0 _ HE.out H.out.rd H.out.bel rfl).mono ?_
  rintro e W11 ⟨rfl, h1_, h2_, h3_⟩
  have h_ := H.out.call FX.out h1_ h2_ h3_
  clear H h1_ h2_ h3_
  have H := Aside0.mk h_
  clear h_
  obtain ⟨p0, p1, p2, p3, p4, p5, p6, p7, p8, q0, q1, q2, q3, q4, q5, q6, q7, q8⟩ := image_entry.bc9 ⟨H.out.b3⟩
  go_wp2_with fail
  refine (image_entry.must_bad d4 HD.out.1 HD.out.2 _).mono ?_
  rintro e W_ ⟨rfl, rfl⟩
  exact ⟨rfl, rfl, H.out.bel, H.out.keep⟩
set_option maxHeartbeats 8000000 in
set_option maxRecDepth 100000 in
theorem image_entry.odd [Errs] (g : Nat) (xs : List Int) (w0 w : World) (hE : Sent w0) (hI : IsS114 w0 w g xs 0) (hB : Below w0.heap.size w0 w) (s : ByteArray) (x1 : List Int) (e1 : Int) (hT : pack_Reader_Text.f xs 0 = some (s, x1, e1)) (k : Int) (x2 : List Int) (hK : pack_Reader_U8.f x1 e1 = some (k, x2, 0)) (hw : wrap64 k = k) (hk1 : ¬ k = 1) (hk2 : ¬ k = 2) :
    Calls Tryd.prog 69 #[.pointer (some ⟨g, 0, none⟩)] w fun e w' => e = .panicked [{ v := .iface 89 (.agg #[errW 3]), recovered := false }] ∧ Below w0.heap.size w0 w' ∧ KeepBut w w' g none := by
  have HE := Aside0.mk hE
  have hu := Tryd.underlying79
  have hu2 := Tryd.underlying28
  have hu3 := Tryd.underlying30
  have HI := Aside0.mk hI
  have HB := Aside0.mk hB
  have HT := Aside0.mk hT
  have HK := Aside0.mk hK
  have HW := Aside0.mk hw
  have HK1 := Aside0.mk hk1
  have HK2 := Aside0.mk hk2
  clear hE hI hB hT hK hw hk1 hk2
  go_enter Tryd.func69, Tryd.ntmps69
  go_wp2_with (first | ((with_reducible refine gate_dst (N := 2) rfl ?_); refine bx 2 #[.string ⟨#[]⟩, .int .i64 0, .int .u64 0, .int .u64 0, .int .u64 0, .int .u64 0, .int .u64 0, .int .u64 0, .int .u64 0] 79 ?_; intro g2 hg2 W2 hb2 hw2; have B2 := Aside0.mk hb2; have HW2 := Aside0.mk hw2; have G2 := Aside0.mk hg2; clear hb2 hw2 hg2))
  have hgl := HI.out.lt
  have n2_ : g2 ≠ g := by have := G2.out; omega
  have N2 := Aside0.mk n2_
  clear hgl n2_
  refine (pack_Reader_Text.calls g xs 0 s x1 e1 w0 _ HE.out (HI.out.below HW2.out) (below_step HB.out HW2.out) HT.out).mono ?_
  rintro e W3 ⟨rfl, h1_, h2_, h3_⟩
  have b2_ := h3_.blk B2.out N2.out (by simp)
  have k2_ := (KeepBut.of_below HW2.out g none).trans h3_ (.inl rfl)
  clear B2
  have B2 := Aside0.mk b2_
  have R3 := Aside0.mk h1_
  have L3 := Aside0.mk h2_
  have K3 := Aside0.mk k2_
  clear b2_ k2_ h1_ h2_ h3_
  go_wp2_with (first | ((with_reducible refine gate_dst (N := 3) rfl ?_); refine bx 3 #[.string ⟨#[]⟩, .int .i64 0, .int .u64 0, .int .u64 0, .int .u64 0, .int .u64 0, .int .u64 0, .int .u64 0, .int .u64 0] 79 ?_; intro g3 hg3 W4 hb3 hw3; have h_ := image_entry.init HB.out G2.out N2.out B2.out R3.out L3.out K3.out hg3 hb3 hw3; have H := Aside0.mk h_.1; have FX := Aside0.mk h_.2; clear h_ hb3 hw3 hg3; obtain ⟨p0, p1, p2, p3, p4, p5, p6, p7, p8, q0, q1, q2, q3, q4, q5, q6, q7, q8⟩ := image_entry.bc9 ⟨H.out.b3⟩))
  refine image_entry.here ((((((((((H.out.set FX.out _ _).set FX.out _ _).set FX.out _ _).set FX.out _ _).set FX.out _ _).set FX.out _ _).set FX.out _ _).set FX.out _ _).set FX.out _ _)) (fun h_ => ?_)
  clear H
  replace h_ := h_.out
  try simp only [List.setIfInBounds_toArray, List.set_cons_zero, List.set_cons_succ] at h_
  have H := Aside0.mk h_
  clear h_
  clear p0 p1 p2 p3 p4 p5 p6 p7 p8 q0 q1 q2 q3 q4 q5 q6 q7 q8
  refine (pack_Reader_U8.calls g x1 e1 k x2 0 w0 _ HE.out H.out.rd H.out.bel HK.out).mono ?_
  rintro e W5 ⟨rfl, h1_, h2_, h3_⟩
  have h_ := H.out.call FX.out h1_ h2_ h3_
  clear H h1_ h2_ h3_
  have H := Aside0.mk h_
  clear h_
  obtain ⟨p0, p1, p2, p3, p4, p5, p6, p7, p8, q0, q1, q2, q3, q4, q5, q6, q7, q8⟩ := image_entry.bc9 ⟨H.out.b3⟩
  go_wp2_with fail
  refine image_entry.here ((H.out.set FX.out _ _)) (fun h_ => ?_)
  clear H
  replace h_ := h_.out
  try simp only [List.setIfInBounds_toArray, List.set_cons_zero, List.set_cons_succ] at h_
  have H := Aside0.mk h_
  clear h_
  clear p0 p1 p2 p3 p4 p5 p6 p7 p8 q0 q1 q2 q3 q4 q5 q6 q7 q8
  refine (pack_Reader_Err.calls g x2 0 0 x2 0 w0 _ HE.out H.out.rd H.out.bel rfl).mono ?_
  rintro e W6 ⟨rfl, h1_, h2_, h3_⟩
  have h_ := H.out.call FX.out h1_ h2_ h3_
  clear H h1_ h2_ h3_
  have H := Aside0.mk h_
  clear h_
  obtain ⟨p0, p1, p2, p3, p4, p5, p6, p7, p8, q0, q1, q2, q3, q4, q5, q6, q7, q8⟩ := image_entry.bc9 ⟨H.out.b3⟩
  go_wp2_with fail
  refine (image_entry.must_ok _).mono ?_
  rintro e W_ ⟨rfl, rfl⟩
  have hk1_ := HK1.out; have hk2_ := HK2.out; have hw_ := HW.out
  go_wp2_with (first | ((with_reducible refine gate_dst (N := 18) rfl ?_); refine ld_err 3 2 (HE.out.below H.out.bel) ?_ rfl rfl (by decide) (by have := Errs.five; omega) rfl))
  refine (image_entry.must_bad 3 (by decide) (by decide) _).mono ?_
  rintro e W_ ⟨rfl, rfl⟩
  exact ⟨rfl, rfl, H.out.bel, H.out.keep⟩
/-- A number of eight bytes off the front. -/
def image_entry.n (xs : List Int) (e : Int) : Int × List Int × Int := (le (pk_take xs e 8).1, (pk_take xs e 8).2.2.1, (pk_take xs e 8).2.2.2)
/-- What 'entry' reads: a fault (0 none), the entry, what is left. -/
def image_entry.r (xs : List Int) : Int × S79 × List Int :=
  let t := pk_text xs 0
  let u := pk_take t.2.1 t.2.2 1
  if ¬ u.2.2.2 = 0 then (u.2.2.2, z79, xs)
  else if le u.1 = 1 then
    let a := image_entry.n u.2.2.1 0
    let b := image_entry.n a.2.1 a.2.2
    let c := image_entry.n b.2.1 b.2.2
    (c.2.2, ⟨t.1, ⟨1, a.1, b.1, 0, 0⟩, ⟨c.1, 0, 0⟩⟩, c.2.1)
  else if le u.1 = 2 then
    let a := image_entry.n u.2.2.1 0
    let b := image_entry.n a.2.1 a.2.2
    let c := image_entry.n b.2.1 b.2.2
    let d := image_entry.n c.2.1 c.2.2
    (d.2.2, ⟨t.1, ⟨2, 0, 0, a.1, b.1⟩, ⟨0, c.1, d.1⟩⟩, d.2.1)
  else (3, z79, xs)
theorem image_entry.n_er [Errs] (xs : List Int) {e : Int} (h : 0 ≤ e) : 0 ≤ (image_entry.n xs e).2.2 := pk_take_er h
theorem image_entry.n_f (xs : List Int) {e : Int} (h : 0 ≤ e) : pack_Reader_U64.f xs e = some (image_entry.n xs e) := by unfold pack_Reader_U64.f; rw [if_pos h]; rfl
theorem image_entry.t_er [Errs] (xs : List Int) : 0 ≤ (pk_text xs 0).2.2 := by
  unfold pk_text
  have h := pk_take_er (f0 := xs) (f1 := 0) (n := 2) (by decide)
  dsimp only
  split <;> exact pk_take_er h
theorem image_entry.k_wrap [Errs] (xs : List Int) (hx : ∀ x ∈ xs, 0 ≤ x ∧ x < 256) (e : Int) : wrap64 (le (pk_take xs e 1).1) = le (pk_take xs e 1).1 := by
  have h := le_range _ (pk_take_range (f0 := xs) (f1 := e) (n := 1) hx)
  have hl := pk_take_len (f0 := xs) (f1 := e) (n := 1)
  have h3 : le (pk_take xs e 1).1 < 256 := by
    have h8 : (pk_take xs e 1).1.length = 0 ∨ (pk_take xs e 1).1.length = 1 := by omega
    obtain ⟨_, h2⟩ := h
    rcases h8 with h8 | h8 <;> rw [h8] at h2 <;> omega
  unfold wrap64
  omega
theorem image_entry.er_nn [Errs] (xs : List Int) : 0 ≤ (image_entry.r xs).1 := by
  unfold image_entry.r
  dsimp only
  have h1 := pk_take_er (f0 := (pk_text xs 0).2.1) (n := 1) (image_entry.t_er xs)
  split
  · exact h1
  · split
    · exact image_entry.n_er _ (image_entry.n_er _ (image_entry.n_er _ (by decide)))
    · split
      · exact image_entry.n_er _ (image_entry.n_er _ (image_entry.n_er _ (image_entry.n_er _ (by decide))))
      · exact (by decide : (0 : Int) ≤ 3)
def image_entry.vals (E : S79) : Array Value := #[.string E.f0, .int .i64 E.f1.f0, .int .u64 E.f1.f1, .int .u64 E.f1.f2, .int .u64 E.f1.f3, .int .u64 E.f1.f4, .int .u64 E.f2.f0, .int .u64 E.f2.f1, .int .u64 E.f2.f2]
theorem image_entry.rest_by [Errs] {w0 w w' : World} {g : Nat} {xs : List Int} {e : Int} (hI : IsS114 w0 w g xs e) : ∀ x ∈ xs, 0 ≤ x ∧ x < 256 := by
  obtain ⟨v, _, _, _, hx⟩ := hI
  exact hx
theorem image_entry.take_by {xs : List Int} {e : Int} {n : Nat} (hx : ∀ x ∈ xs, 0 ≤ x ∧ x < 256) : ∀ x ∈ (pk_take xs e n).2.2.1, 0 ≤ x ∧ x < 256 := by
  unfold pk_take
  split
  · split
    · exact hx
    · exact fun x h => hx x (List.mem_of_mem_drop h)
  · exact hx
theorem image_entry.text_by {xs : List Int} (hx : ∀ x ∈ xs, 0 ≤ x ∧ x < 256) : ∀ x ∈ (pk_text xs 0).2.1, 0 ≤ x ∧ x < 256 := by
  unfold pk_text
  dsimp only
  split
  · exact image_entry.take_by (image_entry.take_by hx)
  · exact hx
set_option maxHeartbeats 1600000 in
theorem image_entry.calls [Errs] (g : Nat) (xs : List Int) (w0 w : World) (hE : Sent w0) (hI : IsS114 w0 w g xs 0) (hB : Below w0.heap.size w0 w) :
    Calls Tryd.prog 69 #[.pointer (some ⟨g, 0, none⟩)] w fun e w' => ((image_entry.r xs).1 = 0 → e = .returned (.agg (image_entry.vals (image_entry.r xs).2.1)) ∧ IsS114 w0 w' g (image_entry.r xs).2.2 0 ∧ Below w0.heap.size w0 w' ∧ KeepBut w w' g none) ∧
      (¬ (image_entry.r xs).1 = 0 → e = .panicked [{ v := .iface 89 (.agg #[errW (image_entry.r xs).1]), recovered := false }] ∧ Below w0.heap.size w0 w' ∧ KeepBut w w' g none) := by
  have hx := image_entry.rest_by (w' := w) hI
  have ht := image_entry.t_er xs
  have hT : pack_Reader_Text.f xs 0 = some (pk_text xs 0) := by unfold pack_Reader_Text.f; rw [if_pos (by decide)]
  have hK : pack_Reader_U8.f (pk_text xs 0).2.1 (pk_text xs 0).2.2 = some (le (pk_take (pk_text xs 0).2.1 (pk_text xs 0).2.2 1).1, (pk_take (pk_text xs 0).2.1 (pk_text xs 0).2.2 1).2.2.1, (pk_take (pk_text xs 0).2.1 (pk_text xs 0).2.2 1).2.2.2) := by unfold pack_Reader_U8.f; rw [if_pos ht]
  have hu := pk_take_er (f0 := (pk_text xs 0).2.1) (n := 1) ht
  have hw := image_entry.k_wrap (pk_text xs 0).2.1 (image_entry.text_by hx) (pk_text xs 0).2.2
  unfold image_entry.r
  generalize pk_text xs 0 = t at *
  obtain ⟨s, x1, e1⟩ := t
  dsimp only at *
  generalize pk_take x1 e1 1 = u at *
  obtain ⟨u1, u2, x2, e2⟩ := u
  dsimp only at *
  generalize le u1 = k at *
  by_cases h0 : e2 = 0
  · subst h0
    rw [if_neg (fun h => h rfl)]
    by_cases k1 : k = 1
    · subst k1
      rw [if_pos rfl]
      have a1 := image_entry.n_f x2 (e := 0) (by decide)
      have b1 := image_entry.n_er x2 (e := 0) (by decide)
      generalize image_entry.n x2 0 = a at *
      obtain ⟨a, y1, d1⟩ := a
      dsimp only at *
      have a2 := image_entry.n_f y1 (e := d1) b1
      have b2 := image_entry.n_er y1 (e := d1) b1
      generalize image_entry.n y1 d1 = a2_ at *
      obtain ⟨a2_, y2, d2⟩ := a2_
      dsimp only at *
      have a3 := image_entry.n_f y2 (e := d2) b2
      have b3 := image_entry.n_er y2 (e := d2) b2
      generalize image_entry.n y2 d2 = a3_ at *
      obtain ⟨a3_, y3, d3⟩ := a3_
      dsimp only at *
      by_cases hd : d3 = 0
      · subst hd
        exact (image_entry.flow_ok g xs w0 w hE hI hB s x1 e1 hT x2 hK a y1 d1 a1 a2_ y2 d2 a2 a3_ y3 a3).mono fun e w' h => ⟨fun _ => h, fun h => absurd rfl h⟩
      · exact (image_entry.flow_bad g xs w0 w hE hI hB s x1 e1 hT x2 hK a y1 d1 a1 a2_ y2 d2 a2 a3_ y3 d3 a3 ⟨b3, hd⟩).mono fun e w' h => ⟨fun h => absurd h hd, fun _ => h⟩
    · rw [if_neg k1]
      by_cases k2 : k = 2
      · subst k2
        rw [if_pos rfl]
        have a1 := image_entry.n_f x2 (e := 0) (by decide)
        have b1 := image_entry.n_er x2 (e := 0) (by decide)
        generalize image_entry.n x2 0 = a at *
        obtain ⟨a, y1, d1⟩ := a
        dsimp only at *
        have a2 := image_entry.n_f y1 (e := d1) b1
        have b2 := image_entry.n_er y1 (e := d1) b1
        generalize image_entry.n y1 d1 = a2_ at *
        obtain ⟨a2_, y2, d2⟩ := a2_
        dsimp only at *
        have a3 := image_entry.n_f y2 (e := d2) b2
        have b3 := image_entry.n_er y2 (e := d2) b2
        generalize image_entry.n y2 d2 = a3_ at *
        obtain ⟨a3_, y3, d3⟩ := a3_
        dsimp only at *
        have a4 := image_entry.n_f y3 (e := d3) b3
        have b4 := image_entry.n_er y3 (e := d3) b3
        generalize image_entry.n y3 d3 = a4_ at *
        obtain ⟨a4_, y4, d4⟩ := a4_
        dsimp only at *
        by_cases hd : d4 = 0
        · subst hd
          exact (image_entry.grid_ok g xs w0 w hE hI hB s x1 e1 hT x2 hK a y1 d1 a1 a2_ y2 d2 a2 a3_ y3 d3 a3 a4_ y4 a4).mono fun e w' h => ⟨fun _ => h, fun h => absurd rfl h⟩
        · exact (image_entry.grid_bad g xs w0 w hE hI hB s x1 e1 hT x2 hK a y1 d1 a1 a2_ y2 d2 a2 a3_ y3 d3 a3 a4_ y4 d4 a4 ⟨b4, hd⟩).mono fun e w' h => ⟨fun h => absurd h hd, fun _ => h⟩
      · rw [if_neg k2]
        exact (image_entry.odd g xs w0 w hE hI hB s x1 e1 hT k x2 hK hw k1 k2).mono fun e w' h => ⟨fun h => absurd h (by decide : ¬ (3 : Int) = 0), fun _ => h⟩
  · rw [if_pos h0]
    exact (image_entry.short g xs w0 w hE hI hB s x1 e1 hT k x2 e2 hK hw hu h0).mono fun e w' h => ⟨fun h => absurd h h0, fun _ => h⟩
set_option linter.unusedSectionVars false
/-- What 'whole' makes of entries, one behind the other: a fault, the entries, what is left. -/
def image_whole.go : Nat → List Int → List S79 → Int × List S79 × List Int
  | 0, xs, acc => (0, acc, xs)
  | m + 1, xs, acc => if (image_entry.r xs).1 = 0 then image_whole.go m (image_entry.r xs).2.2 (acc ++ [(image_entry.r xs).2.1]) else ((image_entry.r xs).1, acc, xs)
structure image_whole.At [Errs] (w0 w W : World) (g : Nat) (xs : List Int) (e : Int) (g2 g3 : Nat) (a b : Int) (v : Value) (l : List S79) : Prop where
  rd : IsS114 w0 W g xs e
  bel : Below w0.heap.size w0 W
  keep : KeepBut w W g none
  b2 : W.heap[g2]? = some (.cells #[.int .u64 0, .int .u64 0, .slice none 0 0] 51 (0, 0))
  b3 : W.heap[g3]? = some (.cells #[.int .u64 a, .int .u64 b, v] 51 (0, 0))
  row : Kd.R k79 79 W w.heap.size (fun _ => True) v l
section
variable [Errs] {w0 w W W1 : World} {g : Nat} {xs ys : List Int} {e d : Int} {g2 g3 : Nat} {a b : Int} {v : Value} {l : List S79}
theorem image_whole.At.call (h : image_whole.At w0 w W g xs e g2 g3 a b v l) (f : image_entry.Fix w0 w g g2 g3) (h1 : IsS114 w0 W1 g ys d) (h2 : Below w0.heap.size w0 W1) (h3 : KeepBut W W1 g none) : image_whole.At w0 w W1 g ys d g2 g3 a b v l := by
  refine ⟨h1, h2, h.keep.trans h3 (.inl rfl), h3.blk h.b2 f.n2 (by simp), h3.blk h.b3 f.n3 (by simp), ?_⟩
  obtain ⟨vr, hb, hg, hq, hx⟩ := h.rd
  exact Kd.R_mono (Kd.R_keep (Kd.R_types h.row hb (by decide)) h3 (fun k hk => hk.2)) (fun _ _ => trivial)
theorem image_whole.At.below (h : image_whole.At w0 w W g xs e g2 g3 a b v l) (hw : Below W.heap.size W W1) : image_whole.At w0 w W1 g xs e g2 g3 a b v l :=
  ⟨h.rd.below hw, below_step h.bel hw, h.keep.trans (KeepBut.of_below hw g none) (.inl rfl), blk_below h.b2 hw, blk_below h.b3 hw, Kd.R_below h.row hw⟩
theorem image_whole.own (h : Kd.R k79 79 W w.heap.size (fun _ => True) v l) (k : Nat) (hk : v.ownBlock = some k) : w.heap.size ≤ k ∧ ∃ cur, W.heap[k]? = some (.cells cur 79 (0, 0)) := by
  obtain ⟨_, cs, ho, _⟩ := h
  rcases ho.2 with ⟨e0, _⟩ | ⟨g, cap, cur, e0, hg, hb, _⟩
  · subst e0
    cases hk
  · subst e0
    injection hk with hk
    subst hk
    exact ⟨hg, cur, hb⟩
theorem image_whole.At.app {v1 : Value} {l1 : List S79} (h : image_whole.At w0 w W g xs e g2 g3 a b v l) (f : image_entry.Fix w0 w g g2 g3) (hg : W.grownBy W1 v.ownBlock) (ho : Kd.R k79 79 W1 w.heap.size (fun _ => True) v1 l1) :
    image_whole.At w0 w (W1.setCell ⟨g3, 2, none⟩ v1) g xs e g2 g3 a b v1 l1 := by
  have own := fun k hk => image_whole.own h.row k hk
  have b2 := blk_grown h.b2 hg (Kd.R_ne h.row h.b2 (by decide))
  have b3 := blk_grown h.b3 hg (Kd.R_ne h.row h.b3 (by decide))
  have rd : IsS114 w0 W1 g xs e := by
    obtain ⟨vr, hb, hg0, hq, hx⟩ := h.rd
    refine ⟨vr, blk_grown hb hg (Kd.R_ne h.row hb (by decide)), hg0, ?_, hx⟩
    cases hv : v.ownBlock with
    | none => exact Kd.Q_grown (row := none) hq (hv ▸ hg) (fun _ _ e => by cases e)
    | some k =>
      obtain ⟨_, cur, hk⟩ := own k hv
      exact Kd.Q_mono (Kd.Q_grown (row := some k) (Kd.Q_types hq hk (by intro q hq; rw [show q = 5 by simpa [Kd.int, Kd.scalar] using hq]; decide)) (hv ▸ hg) (fun j hj e => hj.2 (by injection e))) (fun _ _ => trivial)
  refine ⟨rd.far (Ne.symm f.n3) ⟨_, b3⟩ (by decide) v1, below_set (Below.grown h.bel hg h.bel.size (fun k hk => Nat.le_trans f.h0 (own k hk).1)) (Nat.le_trans f.h0 f.h3), image_entry.keep_far (h.keep.trans (KeepBut.of_grown hg g) ?_) f.h3 v1, blk_far b2 f.n23 v1, blk_put b3 2 v1 rfl, Kd.R_mono (Kd.R_far (p := ⟨g3, 2, none⟩) (Kd.R_types ho b3 (by decide)) (fun _ hk => hk.2) v1) (fun _ _ => trivial)⟩
  cases hv : v.ownBlock with
  | none => exact .inl rfl
  | some k => exact .inr ⟨k, rfl, (own k hv).1⟩
theorem image_whole.At.drew (h : image_whole.At w0 w W g xs e g2 g3 a b v l) : image_whole.At w0 w W.drew g xs e g2 g3 a b v l :=
  ⟨h.rd.drew, pw_below_drewN h.bel 1, ⟨h.keep.1, h.keep.2⟩, h.b2, h.b3, Kd.R_drew h.row⟩
theorem image_whole.init {V : World} (hB : Below w0.heap.size w0 w) (h2 : g2 = w.heap.size) (n2 : g2 ≠ g) (b2 : V.heap[g2]? = some (.cells #[.int .u64 0, .int .u64 0, .slice none 0 0] 51 (0, 0)))
    (r3 : IsS114 w0 V g xs e) (l3 : Below w0.heap.size w0 V) (k3 : KeepBut w V g none) (h3 : g3 = V.heap.size) (b3 : W.heap[g3]? = some (.cells #[.int .u64 0, .int .u64 0, .slice none 0 0] 51 (0, 0))) (hw : Below V.heap.size V W) :
    image_whole.At w0 w (((W.setCell ⟨g3, 0, none⟩ (.int .u64 a)).setCell ⟨g3, 1, none⟩ (.int .u64 b)).setCell ⟨g3, 2, none⟩ (.slice none 0 0)) g xs e g2 g3 a b (.slice none 0 0) [] ∧ image_entry.Fix w0 w g g2 g3 := by
  have hl := r3.lt
  have h4 := blk_lt b2
  have f : image_entry.Fix w0 w g g2 g3 := ⟨n2, by omega, by omega, by omega, by have := k3.1; omega, below_size hB⟩
  have one : ∀ {V : World} (h : IsS114 w0 V g xs e ∧ Below w0.heap.size w0 V ∧ KeepBut w V g none ∧ TB V g3 51) (j : Nat) (v : Value), IsS114 w0 (V.setCell ⟨g3, j, none⟩ v) g xs e ∧ Below w0.heap.size w0 (V.setCell ⟨g3, j, none⟩ v) ∧ KeepBut w (V.setCell ⟨g3, j, none⟩ v) g none ∧ TB (V.setCell ⟨g3, j, none⟩ v) g3 51 :=
    fun h j v => ⟨h.1.far (Ne.symm f.n3) h.2.2.2 (by decide) v, below_set h.2.1 (Nat.le_trans f.h0 f.h3), image_entry.keep_far h.2.2.1 f.h3 v, h.2.2.2.set v⟩
  have r := one (one (one ⟨r3.below hw, below_step l3 hw, k3.trans (KeepBut.of_below hw g none) (.inl rfl), ⟨_, b3⟩⟩ 0 (.int .u64 a)) 1 (.int .u64 b)) 2 (.slice none 0 0)
  exact ⟨⟨r.1, r.2.1, r.2.2.1, blk_far (blk_far (blk_far (blk_below b2 hw) f.n23 _) f.n23 _) f.n23 _, blk_put (blk_put (blk_put b3 0 _ rfl) 1 _ rfl) 2 _ rfl, Kd.R_nil _ _ _ _ _⟩, f⟩
/-- A call that panics, in a region that draws. -/
theorem image_whole.gep {P : Program} {ops : Array Oper} {Q : Exit → Act → World → Prop} {act : Act} {oi : Oper} {N : Option Tmp} {w : World} {K : Act → World → Prop} {f : FuncId} {fn : Func} {az : Array Operand} {ts : Array TypeId} (hf : P.funcs[f]? = some fn) (args : Array Value)
    (h : Calls P f args w fun e w' => ∃ c, e = .panicked c ∧ Q (.panic c) act w')
    (hname : (fn.name == "runtime.NumGoroutine") = false := by kernel_rfl) (hb : fn.body.isSome = true := by rfl)
    (hw : Region.wanted oi (yielded ops act.tmps) = true := by rfl)
    (hop : oi.op = .call { callee := .value (.func f), args := az, argTypes := ts } := by rfl)
    (hargs : az.map act.eval = args := by (try simp only [List.map_toArray, List.map_cons, List.map_nil]); first | done | rfl) :
    if Region.wanted oi (yielded ops act.tmps) = true then Oper.wp P oi act w K Q else K (act.put N undef) w := by
  have he := enters_ hf hname hb args w
  have hrun : (execOp act.eval oi).run P w = .ok (.enter f args) w := by
    unfold execOp
    simp [hop, resolve, Deferred.ofValue, invoke, Act.eval, hargs, he]
  rw [if_pos hw]
  unfold Oper.wp
  rw [hrun, Oper.upon_enter]
  refine h.mono fun e w'' hh => ?_
  obtain ⟨c, rfl, hq⟩ := hh
  exact hq
end
def image_whole.T8 : Bool × List (List Nat × List Nat) := (true, [([], []), ([0], [0]), ([], []), ([2], [2]), ([3], [3]), ([1, 4, 3], [1, 4]), ([0, 1, 2, 3, 4, 5], []), ([6, 5, 5, 0, 1, 2, 3, 4, 5], [5, 6])])
def image_whole.B8 : List Nat := [0, 1, 0, 4, 12, 31, 63, 127]
theorem image_whole.tab8 : rtab .any (opsOf Tryd.f51 8) = image_whole.T8 := by kernel_rfl
theorem image_whole.bits8 : waitsOk image_whole.T8.2 image_whole.B8 = true := by kernel_rfl
section
variable [Errs] {w0 w W W1 : World} {g : Nat} {xs ys : List Int} {e d : Int} {g2 g3 : Nat} {a b : Int} {v : Value} {l : List S79}
theorem image_whole.succ {i n : Nat} (h : i < n) (hn : n ≤ 4096) : ((i : Int) + 1) % 4294967296 = ((i + 1 : Nat) : Int) := by omega
theorem image_whole.mea {i n : Nat} (h : i < n) (hn : n ≤ 4096) : n - (intOf (.int .u32 (((i : Int) + 1) % 4294967296))).toNat < n - (intOf (.int .u32 (i : Int))).toNat := by
  rw [image_whole.succ h hn]
  simp only [intOf, Int.toNat_natCast]
  omega
theorem image_whole.go_ok {i n : Nat} {ys zs : List Int} {l : List S79} {F F_ : Int} {L : List S79} {Y : List Int} {E : S79} (h : image_whole.go (n - i) ys l = (F, L, Y)) (hlt : i < n) (hr : image_entry.r ys = (F_, E, zs)) (hz : F_ = 0) : image_whole.go (n - (i + 1)) zs (l ++ [E]) = (F, L, Y) := by
  obtain ⟨m, hm⟩ : ∃ m, n - i = m + 1 := ⟨n - i - 1, by omega⟩
  rw [hm] at h
  unfold image_whole.go at h
  rw [hr, if_pos hz] at h
  rw [show n - (i + 1) = m by omega]
  exact h
theorem image_whole.go_bad {i n : Nat} {ys : List Int} {l : List S79} {F : Int} {L : List S79} {Y : List Int} (h : image_whole.go (n - i) ys l = (F, L, Y)) (hlt : i < n) (hz : ¬ (image_entry.r ys).1 = 0) : (image_entry.r ys).1 = F ∧ True := by
  obtain ⟨m, hm⟩ : ∃ m, n - i = m + 1 := ⟨n - i - 1, by omega⟩
  rw [hm] at h
  unfold image_whole.go at h
  rw [if_neg hz] at h
  exact ⟨congrArg Prod.fst h, trivial⟩
theorem image_whole.go_end {i n : Nat} {ys : List Int} {l : List S79} {F : Int} {L : List S79} {Y : List Int} (h : i ≤ n ∧ image_whole.go (n - i) ys l = (F, L, Y)) (hlt : ¬ i < n) : F = 0 := by
  rw [show n - i = 0 by omega] at h
  exact (congrArg Prod.fst h.2).symm
theorem image_whole.go_end2 {i n : Nat} {ys : List Int} {l : List S79} {F : Int} {L : List S79} {Y : List Int} (h : i ≤ n ∧ image_whole.go (n - i) ys l = (F, L, Y)) (hlt : ¬ i < n) : L = l ∧ Y = ys := by
  rw [show n - i = 0 by omega] at h
  exact ⟨(congrArg (fun x => x.2.1) h.2).symm, (congrArg (fun x => x.2.2) h.2).symm⟩
theorem image_whole.mk_ {w : World} {base : Nat} {ok : Nat → Prop} (E : S79) : k79.M w base ok E (image_entry.vals E).toList := k79_mkM _ _ _ E
theorem image_whole.bsl_ {oi : Oper} {act : Act} (x : Operand) (E : S79) (w : World) (ho : oi.op = .buildSlice 49 1 #[(0, x)]) (hx : act.eval x = .agg (image_entry.vals E)) :
    (execOp act.eval oi).run Tryd.prog w = .ok (.value (.slice (some ⟨w.heap.size, 0, none⟩) 1 1)) (w.alloc (.cells (image_entry.vals E).toList.toArray 79)) := by
  have hu := Tryd.underlying49
  unfold image_entry.vals at hx ⊢
  unfold execOp
  simp only [ho, List.map_toArray, List.map_cons, List.map_nil, hx]
  go_simp
theorem image_whole.back {u0 u1 u2 : Value} (h : image_whole.At w0 w W g xs e g2 g3 a b v l) (f : image_entry.Fix w0 w g g2 g3) :
    Kd.R k79 79 (((W.setCell ⟨g2, 0, none⟩ u0).setCell ⟨g2, 1, none⟩ u1).setCell ⟨g2, 2, none⟩ u2) w.heap.size (fun _ => True) v l ∧ Below w0.heap.size w0 (((W.setCell ⟨g2, 0, none⟩ u0).setCell ⟨g2, 1, none⟩ u1).setCell ⟨g2, 2, none⟩ u2) ∧ KeepBut w (((W.setCell ⟨g2, 0, none⟩ u0).setCell ⟨g2, 1, none⟩ u1).setCell ⟨g2, 2, none⟩ u2) g none := by
  refine ⟨Kd.R_mono (Kd.R_far (p := ⟨g2, 2, none⟩) (Kd.R_far (p := ⟨g2, 1, none⟩) (Kd.R_far (p := ⟨g2, 0, none⟩) (Kd.R_types h.row h.b2 (by decide)) (fun _ hk => hk.2) u0) (fun _ hk => hk.2) u1) (fun _ hk => hk.2) u2) (fun _ _ => trivial), below_set (below_set (below_set h.bel (Nat.le_trans f.h0 f.h2)) (Nat.le_trans f.h0 f.h2)) (Nat.le_trans f.h0 f.h2), image_entry.keep_far (image_entry.keep_far (image_entry.keep_far h.keep f.h2 u0) f.h2 u1) f.h2 u2⟩
end
theorem image_whole.go_nn [Errs] : ∀ (n : Nat) (xs : List Int) (l : List S79), 0 ≤ (image_whole.go n xs l).1
  | 0, _, _ => by show (0 : Int) ≤ 0; decide
  | n + 1, xs, l => by
    unfold image_whole.go
    split
    · exact image_whole.go_nn n _ _
    · exact image_entry.er_nn xs
set_option maxHeartbeats 8000000 in
set_option maxRecDepth 100000 in
theorem image_whole.short [Errs] (g : Nat) (xs : List Int) (w0 w : World) (hE : Sent w0) (hI : IsS114 w0 w g xs 0) (hB : Below w0.heap.size w0 w) (a : Int) (x1 : List Int) (e1 : Int) (h1 : pack_Reader_U64.f xs 0 = some (a, x1, e1)) (b : Int) (x2 : List Int) (e2 : Int) (h2 : pack_Reader_U64.f x1 e1 = some (b, x2, e2)) (n : Nat) (x3 : List Int) (e3 : Int) (h3 : pack_Reader_U32.f x2 e2 = some ((n : Int), x3, e3)) (h4 : 0 ≤ e3 ∧ ¬ e3 = 0) :
    Calls Tryd.prog 51 #[.pointer (some ⟨g, 0, none⟩)] w fun e w' => e = .panicked [{ v := .iface 89 (.agg #[errW e3]), recovered := false }] ∧ Below w0.heap.size w0 w' ∧ KeepBut w w' g none := by
  have HE := Aside0.mk hE
  have hu := Tryd.underlying51
  have hu2 := Tryd.underlying49
  have HI := Aside0.mk hI
  have HB := Aside0.mk hB
  have H1 := Aside0.mk h1
  have H2 := Aside0.mk h2
  have H3 := Aside0.mk h3
  have H4 := Aside0.mk h4
  clear hE hI hB h1 h2 h3 h4
  go_enter Tryd.func51, Tryd.ntmps51
  go_wp2_with (first | ((with_reducible refine gate_dst (N := 2) rfl ?_); refine bx 2 #[.int .u64 0, .int .u64 0, .slice none 0 0] 51 ?_; intro g2 hg2 W2 hb2 hw2; have B2 := Aside0.mk hb2; have HW2 := Aside0.mk hw2; have G2 := Aside0.mk hg2; clear hb2 hw2 hg2))
  have hgl := HI.out.lt
  have n2_ : g2 ≠ g := by have := G2.out; omega
  have N2 := Aside0.mk n2_
  clear hgl n2_
  refine (pack_Reader_U64.calls g xs 0 a x1 e1 w0 _ HE.out (HI.out.below HW2.out) (below_step HB.out HW2.out) H1.out).mono ?_
  rintro e W3 ⟨rfl, h1_, h2_, h3_⟩
  have b2_ := h3_.blk B2.out N2.out (by simp)
  have k2_ := (KeepBut.of_below HW2.out g none).trans h3_ (.inl rfl)
  clear B2
  have B2 := Aside0.mk b2_
  have R3 := Aside0.mk h1_
  have L3 := Aside0.mk h2_
  have K3 := Aside0.mk k2_
  clear b2_ k2_ h1_ h2_ h3_
  go_wp2_with fail
  refine (pack_Reader_U64.calls g x1 e1 b x2 e2 w0 _ HE.out R3.out L3.out H2.out).mono ?_
  rintro e W4 ⟨rfl, h1_, h2_, h3_⟩
  have b2_ := h3_.blk B2.out N2.out (by simp)
  have k2_ := K3.out.trans h3_ (.inl rfl)
  clear B2 R3 L3 K3
  have B2 := Aside0.mk b2_
  have R3 := Aside0.mk h1_
  have L3 := Aside0.mk h2_
  have K3 := Aside0.mk k2_
  clear b2_ k2_ h1_ h2_ h3_
  go_wp2_with (first | ((with_reducible refine gate_dst (N := 3) rfl ?_); refine bx 3 #[.int .u64 0, .int .u64 0, .slice none 0 0] 51 ?_; intro g3 hg3 W5 hb3 hw3; have B3 := Aside0.mk hb3; have h_ := image_whole.init (a := a) (b := b) HB.out G2.out N2.out B2.out R3.out L3.out K3.out hg3 hb3 hw3; have H := Aside0.mk h_.1; have FX := Aside0.mk h_.2; clear h_ hb3 hw3 hg3; obtain ⟨p0, p1, p2, q0, q1, q2⟩ := bc3 B3))
  refine (pack_Reader_U32.calls g x2 e2 (n : Int) x3 e3 w0 _ HE.out H.out.rd H.out.bel H3.out).mono ?_
  clear p0 p1 p2 q0 q1 q2
  rintro e W6 ⟨rfl, h1_, h2_, h3_⟩
  have h_ := H.out.call FX.out h1_ h2_ h3_
  clear H h1_ h2_ h3_
  have H := Aside0.mk h_
  clear h_
  obtain ⟨p0, p1, p2, q0, q1, q2⟩ := bc3 ⟨H.out.b3⟩
  go_wp2_with fail
  refine (pack_Reader_Err.calls g x3 e3 e3 x3 e3 w0 _ HE.out H.out.rd H.out.bel rfl).mono ?_
  clear p0 p1 p2 q0 q1 q2
  rintro e W7 ⟨rfl, h1_, h2_, h3_⟩
  have h_ := H.out.call FX.out h1_ h2_ h3_
  clear H h1_ h2_ h3_
  have H := Aside0.mk h_
  clear h_
  obtain ⟨p0, p1, p2, q0, q1, q2⟩ := bc3 ⟨H.out.b3⟩
  go_wp2_with fail
  refine (image_entry.must_bad e3 H4.out.1 H4.out.2 _).mono ?_
  rintro e W_ ⟨rfl, rfl⟩
  exact ⟨rfl, rfl, H.out.bel, H.out.keep⟩
set_option maxHeartbeats 8000000 in
set_option maxRecDepth 100000 in
theorem image_whole.big [Errs] (g : Nat) (xs : List Int) (w0 w : World) (hE : Sent w0) (hI : IsS114 w0 w g xs 0) (hB : Below w0.heap.size w0 w) (a : Int) (x1 : List Int) (e1 : Int) (h1 : pack_Reader_U64.f xs 0 = some (a, x1, e1)) (b : Int) (x2 : List Int) (e2 : Int) (h2 : pack_Reader_U64.f x1 e1 = some (b, x2, e2)) (n : Nat) (x3 : List Int) (h3 : pack_Reader_U32.f x2 e2 = some ((n : Int), x3, 0)) (h4 : 4096 < n) :
    Calls Tryd.prog 51 #[.pointer (some ⟨g, 0, none⟩)] w fun e w' => e = .panicked [{ v := .iface 89 (.agg #[errW 3]), recovered := false }] ∧ Below w0.heap.size w0 w' ∧ KeepBut w w' g none := by
  have HE := Aside0.mk hE
  have hu := Tryd.underlying51
  have hu2 := Tryd.underlying49
  have HI := Aside0.mk hI
  have HB := Aside0.mk hB
  have H1 := Aside0.mk h1
  have H2 := Aside0.mk h2
  have H3 := Aside0.mk h3
  have H4 := Aside0.mk h4
  clear hE hI hB h1 h2 h3 h4
  go_enter Tryd.func51, Tryd.ntmps51
  go_wp2_with (first | ((with_reducible refine gate_dst (N := 2) rfl ?_); refine bx 2 #[.int .u64 0, .int .u64 0, .slice none 0 0] 51 ?_; intro g2 hg2 W2 hb2 hw2; have B2 := Aside0.mk hb2; have HW2 := Aside0.mk hw2; have G2 := Aside0.mk hg2; clear hb2 hw2 hg2))
  have hgl := HI.out.lt
  have n2_ : g2 ≠ g := by have := G2.out; omega
  have N2 := Aside0.mk n2_
  clear hgl n2_
  refine (pack_Reader_U64.calls g xs 0 a x1 e1 w0 _ HE.out (HI.out.below HW2.out) (below_step HB.out HW2.out) H1.out).mono ?_
  rintro e W3 ⟨rfl, h1_, h2_, h3_⟩
  have b2_ := h3_.blk B2.out N2.out (by simp)
  have k2_ := (KeepBut.of_below HW2.out g none).trans h3_ (.inl rfl)
  clear B2
  have B2 := Aside0.mk b2_
  have R3 := Aside0.mk h1_
  have L3 := Aside0.mk h2_
  have K3 := Aside0.mk k2_
  clear b2_ k2_ h1_ h2_ h3_
  go_wp2_with fail
  refine (pack_Reader_U64.calls g x1 e1 b x2 e2 w0 _ HE.out R3.out L3.out H2.out).mono ?_
  rintro e W4 ⟨rfl, h1_, h2_, h3_⟩
  have b2_ := h3_.blk B2.out N2.out (by simp)
  have k2_ := K3.out.trans h3_ (.inl rfl)
  clear B2 R3 L3 K3
  have B2 := Aside0.mk b2_
  have R3 := Aside0.mk h1_
  have L3 := Aside0.mk h2_
  have K3 := Aside0.mk k2_
  clear b2_ k2_ h1_ h2_ h3_
  go_wp2_with (first | ((with_reducible refine gate_dst (N := 3) rfl ?_); refine bx 3 #[.int .u64 0, .int .u64 0, .slice none 0 0] 51 ?_; intro g3 hg3 W5 hb3 hw3; have B3 := Aside0.mk hb3; have h_ := image_whole.init (a := a) (b := b) HB.out G2.out N2.out B2.out R3.out L3.out K3.out hg3 hb3 hw3; have H := Aside0.mk h_.1; have FX := Aside0.mk h_.2; clear h_ hb3 hw3 hg3; obtain ⟨p0, p1, p2, q0, q1, q2⟩ := bc3 B3))
  refine (pack_Reader_U32.calls g x2 e2 (n : Int) x3 0 w0 _ HE.out H.out.rd H.out.bel H3.out).mono ?_
  clear p0 p1 p2 q0 q1 q2
  rintro e W6 ⟨rfl, h1_, h2_, h3_⟩
  have h_ := H.out.call FX.out h1_ h2_ h3_
  clear H h1_ h2_ h3_
  have H := Aside0.mk h_
  clear h_
  obtain ⟨p0, p1, p2, q0, q1, q2⟩ := bc3 ⟨H.out.b3⟩
  go_wp2_with fail
  refine (pack_Reader_Err.calls g x3 0 0 x3 0 w0 _ HE.out H.out.rd H.out.bel rfl).mono ?_
  clear p0 p1 p2 q0 q1 q2
  rintro e W7 ⟨rfl, h1_, h2_, h3_⟩
  have h_ := H.out.call FX.out h1_ h2_ h3_
  clear H h1_ h2_ h3_
  have H := Aside0.mk h_
  clear h_
  obtain ⟨p0, p1, p2, q0, q1, q2⟩ := bc3 ⟨H.out.b3⟩
  go_wp2_with fail
  refine (image_entry.must_ok _).mono ?_
  rintro e W_ ⟨rfl, rfl⟩
  have hn_ : (4096 : Int) < (n : Int) := by have := H4.out; omega
  go_wp2_with (first | ((with_reducible refine gate_dst (N := 17) rfl ?_); refine ld_err 3 2 (HE.out.below H.out.bel) ?_ rfl rfl (by decide) (by have := Errs.five; omega) rfl))
  refine (image_entry.must_bad 3 (by decide) (by decide) _).mono ?_
  rintro e W_ ⟨rfl, rfl⟩
  exact ⟨rfl, rfl, H.out.bel, H.out.keep⟩
set_option maxHeartbeats 8000000 in
set_option maxRecDepth 100000 in
theorem image_whole.loopbad [Errs] (g : Nat) (xs : List Int) (w0 w : World) (hE : Sent w0) (hI : IsS114 w0 w g xs 0) (hB : Below w0.heap.size w0 w) (a : Int) (x1 : List Int) (e1 : Int) (h1 : pack_Reader_U64.f xs 0 = some (a, x1, e1)) (b : Int) (x2 : List Int) (e2 : Int) (h2 : pack_Reader_U64.f x1 e1 = some (b, x2, e2)) (n : Nat) (x3 : List Int) (h3 : pack_Reader_U32.f x2 e2 = some ((n : Int), x3, 0)) (F : Int) (L : List S79) (Y : List Int) (h4 : n ≤ 4096) (hf : image_whole.go n x3 [] = (F, L, Y)) (hnz : ¬ F = 0) :
    Calls Tryd.prog 51 #[.pointer (some ⟨g, 0, none⟩)] w fun e w' => e = .panicked [{ v := .iface 89 (.agg #[errW F]), recovered := false }] ∧ Below w0.heap.size w0 w' ∧ KeepBut w w' g none := by
  have HE := Aside0.mk hE
  have hu := Tryd.underlying51
  have hu2 := Tryd.underlying49
  have HI := Aside0.mk hI
  have HB := Aside0.mk hB
  have H1 := Aside0.mk h1
  have H2 := Aside0.mk h2
  have H3 := Aside0.mk h3
  have H4 := Aside0.mk h4
  have HF := Aside0.mk hf
  have HNZ := Aside0.mk hnz
  clear hE hI hB h1 h2 h3 h4 hf hnz
  go_enter Tryd.func51, Tryd.ntmps51
  go_wp2_with (first | ((with_reducible refine gate_dst (N := 2) rfl ?_); refine bx 2 #[.int .u64 0, .int .u64 0, .slice none 0 0] 51 ?_; intro g2 hg2 W2 hb2 hw2; have B2 := Aside0.mk hb2; have HW2 := Aside0.mk hw2; have G2 := Aside0.mk hg2; clear hb2 hw2 hg2))
  have hgl := HI.out.lt
  have n2_ : g2 ≠ g := by have := G2.out; omega
  have N2 := Aside0.mk n2_
  clear hgl n2_
  refine (pack_Reader_U64.calls g xs 0 a x1 e1 w0 _ HE.out (HI.out.below HW2.out) (below_step HB.out HW2.out) H1.out).mono ?_
  rintro e W3 ⟨rfl, h1_, h2_, h3_⟩
  have b2_ := h3_.blk B2.out N2.out (by simp)
  have k2_ := (KeepBut.of_below HW2.out g none).trans h3_ (.inl rfl)
  clear B2
  have B2 := Aside0.mk b2_
  have R3 := Aside0.mk h1_
  have L3 := Aside0.mk h2_
  have K3 := Aside0.mk k2_
  clear b2_ k2_ h1_ h2_ h3_
  go_wp2_with fail
  refine (pack_Reader_U64.calls g x1 e1 b x2 e2 w0 _ HE.out R3.out L3.out H2.out).mono ?_
  rintro e W4 ⟨rfl, h1_, h2_, h3_⟩
  have b2_ := h3_.blk B2.out N2.out (by simp)
  have k2_ := K3.out.trans h3_ (.inl rfl)
  clear B2 R3 L3 K3
  have B2 := Aside0.mk b2_
  have R3 := Aside0.mk h1_
  have L3 := Aside0.mk h2_
  have K3 := Aside0.mk k2_
  clear b2_ k2_ h1_ h2_ h3_
  go_wp2_with (first | ((with_reducible refine gate_dst (N := 3) rfl ?_); refine bx 3 #[.int .u64 0, .int .u64 0, .slice none 0 0] 51 ?_; intro g3 hg3 W5 hb3 hw3; have B3 := Aside0.mk hb3; have h_ := image_whole.init (a := a) (b := b) HB.out G2.out N2.out B2.out R3.out L3.out K3.out hg3 hb3 hw3; have H := Aside0.mk h_.1; have FX := Aside0.mk h_.2; clear h_ hb3 hw3 hg3; obtain ⟨p0, p1, p2, q0, q1, q2⟩ := bc3 B3))
  refine (pack_Reader_U32.calls g x2 e2 (n : Int) x3 0 w0 _ HE.out H.out.rd H.out.bel H3.out).mono ?_
  clear p0 p1 p2 q0 q1 q2
  rintro e W6 ⟨rfl, h1_, h2_, h3_⟩
  have h_ := H.out.call FX.out h1_ h2_ h3_
  clear H h1_ h2_ h3_
  have H := Aside0.mk h_
  clear h_
  obtain ⟨p0, p1, p2, q0, q1, q2⟩ := bc3 ⟨H.out.b3⟩
  go_wp2_with fail
  refine (pack_Reader_Err.calls g x3 0 0 x3 0 w0 _ HE.out H.out.rd H.out.bel rfl).mono ?_
  clear p0 p1 p2 q0 q1 q2
  rintro e W7 ⟨rfl, h1_, h2_, h3_⟩
  have h_ := H.out.call FX.out h1_ h2_ h3_
  clear H h1_ h2_ h3_
  have H := Aside0.mk h_
  clear h_
  obtain ⟨p0, p1, p2, q0, q1, q2⟩ := bc3 ⟨H.out.b3⟩
  go_wp2_with fail
  refine (image_entry.must_ok _).mono ?_
  rintro e W_ ⟨rfl, rfl⟩
  have hn_ : ¬ (4096 : Int) < (n : Int) := by have := H4.out; omega
  go_wp2
  clear hn_
  clear p0 p1 p2 q0 q1 q2
  go_loopw [20] (fun v20 wr => ∃ (i : Nat) (ys : List Int) (l : List S79) (v : Value), v20 = .int .u32 i ∧ Aside0 (i ≤ n ∧ image_whole.go (n - i) ys l = (F, L, Y)) ∧ Aside0 (image_whole.At w0 w wr g ys 0 g2 g3 a b v l ∧ l.length ≤ i)) (fun v20 _ => n - (intOf v20).toNat)
  case atStart => exact ⟨0, x3, [], _, rfl, ⟨Nat.zero_le _, HF.out⟩, ⟨H.out, Nat.le_refl _⟩⟩
  case round =>
    clear H
    obtain ⟨i, ys, l, v, rfl, HI, H⟩ := hrel
    obtain ⟨A_, c_, ev_⟩ := Kd.R_slice H.out.1.row
    have HN := Aside0.mk H.out.2
    replace H := Aside0.mk H.out.1
    subst ev_
    by_cases hlt : i < n
    · have hlt2 : (i : Int) < (n : Int) := by omega
      have HLT := Aside0.mk hlt
      go_upto_region 8 with fail
      clear hlt2 hlt
      have HX := Aside0.mk (image_entry.er_nn ys)
      have h_ := H.out.drew
      clear H
      have H := Aside0.mk h_
      clear h_
      refine start_ (n := 8) (S := fun w' => w'.cell? ⟨g3, 2, none⟩ = some (.slice A_ l.length c_) ∧ True) (ds := [7]) #[false, false, false, false, false, false, false, false] (by kernel_rfl) rfl rfl ⟨(blk_cell H.out.b3 2).trans rfl, trivial⟩ (fun hHeld => ?_); refine with_tabW image_whole.tab8 image_whole.bits8 (fun HT_ HW_ => ?_)
      generalize wr.drew = W8 at H hHeld ⊢
      refine chain_ (fuel := 5) [(0, 0, some 22), (1, 1, some 23), (2, 0, some 24)] #[true, true, true, false, false, false, false, false] HT_.out HW_.out (by kernel_rfl) (fun _ _ _ _ _ h => h) (Or.inr hHeld) rfl ?_
      refine lkP ?_; refine lkT ?_; refine lkP ?_; refine .nil ?_
      refine one_ (i := 3) (N := some 25) #[true, true, true, true, false, false, false, false] rfl rfl (one_of HT_.out (by kernel_rfl)) (by decide) (fun K hK => ?_)
      by_cases hz : (image_entry.r ys).1 = 0
      · refine ge Tryd.func69 #[.pointer (some ⟨g, 0, none⟩)] ?_
        refine (image_entry.calls g ys w0 _ HE.out H.out.rd H.out.bel).mono ?_
        rintro e W9 ⟨hy_, _⟩
        obtain ⟨rfl, h1_, h2_, h3_⟩ := hy_ hz
        refine ⟨_, rfl, ?_⟩
        have h_ := H.out.call FX.out h1_ h2_ h3_
        clear H h1_ h2_ h3_ hy_
        have H := Aside0.mk h_
        clear h_
        refine hK.out _ _ ⟨(blk_cell H.out.b3 2).trans rfl, trivial⟩ (fun hHeld => ?_)
        clear hK K
        refine norm_ (a' := ?_) ?_ ?_
        rotate_left
        · show Act.put _ (some 25) _ = _
          simp only [Act.put, List.setIfInBounds_toArray, List.set_cons_zero, List.set_cons_succ, i64_w, i32_w]
          rfl
        have HZ := Aside0.mk hz; clear hz
        obtain ⟨R, hR⟩ : ∃ R, image_entry.r ys = R := ⟨_, rfl⟩
        rw [hR] at HZ H ⊢
        have HR := Aside0.mk hR; clear hR
        obtain ⟨F_, E, zs⟩ := R
        dsimp only at HZ H ⊢
        refine one_ (i := 4) (N := some 26) #[true, true, true, true, true, false, false, false] rfl rfl (one_of HT_.out (by kernel_rfl)) (by decide) (fun K hK => ?_)
        refine value_ (by rfl) rfl (image_whole.bsl_ (.tmp 25) E _ rfl rfl) ?_
        refine hK.out _ _ ⟨(blk_cell (blk_alloc H.out.b3 _) 2).trans rfl, trivial⟩ (fun hHeld => ?_)
        clear hK K
        refine norm_ (a' := ?_) ?_ ?_
        rotate_left
        · show Act.put _ (some 26) _ = _
          simp only [Act.put, List.setIfInBounds_toArray, List.set_cons_zero, List.set_cons_succ, i64_w, i32_w]
          rfl
        refine one_ (i := 5) (N := some 27) #[true, true, true, true, true, true, false, false] rfl rfl (one_of HT_.out (by kernel_rfl)) (by decide) (fun K hK => ?_)
        refine Kd.R_append_step k79 (w0 := W9) w.heap.size (by rfl) (.tmp 23) (.tmp 26) 49 79 (.agg #[.string ⟨#[]⟩, .int .i64 0, .int .u64 0, .int .u64 0, .int .u64 0, .int .u64 0, .int .u64 0, .int .u64 0, .int .u64 0]) 80 rfl Tryd.underlying49 info79 rfl (by decide) (by omega) (.slice A_ l.length c_) l E (image_entry.vals E).toList (fun _ => True) (fun _ => False) rfl rfl ?aP (fun _ hk => hk.elim) ?aF H.out.row (Below.refl _ _) ?aS ?aL ?_
        case aP => exact image_whole.mk_ E
        case aF => exact (fun _ _ => trivial)
        case aS => exact H.out.keep.1
        case aL => have := HN.out; have := H4.out; have := HLT.out; omega
        intro v6 W10 ho hb_ hg_ _
        obtain ⟨A2, c2, e2_⟩ := Kd.R_slice ho
        subst e2_
        have h_ := H.out.app FX.out hg_ ho
        rw [List.length_append, List.length_singleton] at h_
        have hs_ : W10.cell? ⟨g3, 2, none⟩ = some (.slice A_ l.length c_) := (blk_cell (blk_grown H.out.b3 hg_ (Kd.R_ne H.out.row H.out.b3 (by decide))) 2).trans rfl
        have hf_ : W10.frozen? ⟨g3, 2, none⟩ = false := blk_frozen (blk_grown H.out.b3 hg_ (Kd.R_ne H.out.row H.out.b3 (by decide))) 2
        clear H ho hb_ hg_
        have H := Aside0.mk h_
        clear h_
        refine hK.out _ _ ⟨hs_, trivial⟩ (fun hHeld => ?_)
        clear hK K
        refine norm_ (a' := ?_) ?_ ?_
        rotate_left
        · show Act.put _ (some 27) _ = _
          simp only [Act.put, List.setIfInBounds_toArray, List.set_cons_zero, List.set_cons_succ, i64_w, i32_w]
          rfl
        refine chain_ (fuel := 1) [(6, 0, some 28)] #[true, true, true, true, true, true, true, false] HT_.out HW_.out (by kernel_rfl) (fun _ _ _ _ _ h => h) (Or.inl (by decide)) rfl ?_
        refine lkP ?_; refine .nil ?_
        refine last_ (i := 7) (N := none) #[true, true, true, true, true, true, true, true] rfl rfl (one_of HT_.out (by kernel_rfl)) (by decide) (fun K hK => ?_)
        refine skip_ (w1 := ?_) (by rfl) rfl ?_ ?_
        rotate_left
        · go_simp
          rfl
        refine hK.out _ _ ?_
        clear hK K
        refine done_ (done_of HT_.out (by kernel_rfl)) ?_
        clear hHeld HT_ HW_ hs_ hf_
        generalize W10.setCell ⟨g3, 2, none⟩ (.slice A2 (l.length + 1) c2) = W11 at H ⊢
        go_wp2
        go_roundw
        case rel =>
          have e_ := image_whole.go_ok HI.out.2 HLT.out HR.out HZ.out
          exact ⟨i + 1, zs, l ++ [E], _, by rw [image_whole.succ HLT.out H4.out], ⟨HLT.out, e_⟩, ⟨H.out, by rw [List.length_append, List.length_singleton]; have := HN.out; omega⟩⟩
        case measure => exact image_whole.mea HLT.out H4.out
      · refine image_whole.gep Tryd.func69 #[.pointer (some ⟨g, 0, none⟩)] ?_
        refine (image_entry.calls g ys w0 _ HE.out H.out.rd H.out.bel).mono ?_
        rintro e W9 ⟨_, hy_⟩
        obtain ⟨rfl, h2_, h3_⟩ := hy_ hz
        obtain ⟨hf_, _⟩ := image_whole.go_bad HI.out.2 HLT.out hz
        refine ⟨_, rfl, ?_⟩
        rw [hf_]
        exact ⟨rfl, rfl, h2_, H.out.keep.trans h3_ (.inl rfl)⟩
    · exact absurd (image_whole.go_end HI.out hlt) HNZ.out
set_option maxHeartbeats 8000000 in
set_option maxRecDepth 100000 in
theorem image_whole.left [Errs] (g : Nat) (xs : List Int) (w0 w : World) (hE : Sent w0) (hI : IsS114 w0 w g xs 0) (hB : Below w0.heap.size w0 w) (a : Int) (x1 : List Int) (e1 : Int) (h1 : pack_Reader_U64.f xs 0 = some (a, x1, e1)) (b : Int) (x2 : List Int) (e2 : Int) (h2 : pack_Reader_U64.f x1 e1 = some (b, x2, e2)) (n : Nat) (x3 : List Int) (h3 : pack_Reader_U32.f x2 e2 = some ((n : Int), x3, 0)) (L : List S79) (Y : List Int) (h4 : n ≤ 4096) (hf : image_whole.go n x3 [] = (0, L, Y)) (hend : pack_Reader_End.f Y 0 = some (3, Y, 0)) :
    Calls Tryd.prog 51 #[.pointer (some ⟨g, 0, none⟩)] w fun e w' => e = .panicked [{ v := .iface 89 (.agg #[errW 3]), recovered := false }] ∧ Below w0.heap.size w0 w' ∧ KeepBut w w' g none := by
  have HE := Aside0.mk hE
  have hu := Tryd.underlying51
  have hu2 := Tryd.underlying49
  have HI := Aside0.mk hI
  have HB := Aside0.mk hB
  have H1 := Aside0.mk h1
  have H2 := Aside0.mk h2
  have H3 := Aside0.mk h3
  have H4 := Aside0.mk h4
  have HF := Aside0.mk hf
  have HEND := Aside0.mk hend
  clear hE hI hB h1 h2 h3 h4 hf hend
  go_enter Tryd.func51, Tryd.ntmps51
  go_wp2_with (first | ((with_reducible refine gate_dst (N := 2) rfl ?_); refine bx 2 #[.int .u64 0, .int .u64 0, .slice none 0 0] 51 ?_; intro g2 hg2 W2 hb2 hw2; have B2 := Aside0.mk hb2; have HW2 := Aside0.mk hw2; have G2 := Aside0.mk hg2; clear hb2 hw2 hg2))
  have hgl := HI.out.lt
  have n2_ : g2 ≠ g := by have := G2.out; omega
  have N2 := Aside0.mk n2_
  clear hgl n2_
  refine (pack_Reader_U64.calls g xs 0 a x1 e1 w0 _ HE.out (HI.out.below HW2.out) (below_step HB.out HW2.out) H1.out).mono ?_
  rintro e W3 ⟨rfl, h1_, h2_, h3_⟩
  have b2_ := h3_.blk B2.out N2.out (by simp)
  have k2_ := (KeepBut.of_below HW2.out g none).trans h3_ (.inl rfl)
  clear B2
  have B2 := Aside0.mk b2_
  have R3 := Aside0.mk h1_
  have L3 := Aside0.mk h2_
  have K3 := Aside0.mk k2_
  clear b2_ k2_ h1_ h2_ h3_
  go_wp2_with fail
  refine (pack_Reader_U64.calls g x1 e1 b x2 e2 w0 _ HE.out R3.out L3.out H2.out).mono ?_
  rintro e W4 ⟨rfl, h1_, h2_, h3_⟩
  have b2_ := h3_.blk B2.out N2.out (by simp)
  have k2_ := K3.out.trans h3_ (.inl rfl)
  clear B2 R3 L3 K3
  have B2 := Aside0.mk b2_
  have R3 := Aside0.mk h1_
  have L3 := Aside0.mk h2_
  have K3 := Aside0.mk k2_
  clear b2_ k2_ h1_ h2_ h3_
  go_wp2_with (first | ((with_reducible refine gate_dst (N := 3) rfl ?_); refine bx 3 #[.int .u64 0, .int .u64 0, .slice none 0 0] 51 ?_; intro g3 hg3 W5 hb3 hw3; have B3 := Aside0.mk hb3; have h_ := image_whole.init (a := a) (b := b) HB.out G2.out N2.out B2.out R3.out L3.out K3.out hg3 hb3 hw3; have H := Aside0.mk h_.1; have FX := Aside0.mk h_.2; clear h_ hb3 hw3 hg3; obtain ⟨p0, p1, p2, q0, q1, q2⟩ := bc3 B3))
  refine (pack_Reader_U32.calls g x2 e2 (n : Int) x3 0 w0 _ HE.out H.out.rd H.out.bel H3.out).mono ?_
  clear p0 p1 p2 q0 q1 q2
  rintro e W6 ⟨rfl, h1_, h2_, h3_⟩
  have h_ := H.out.call FX.out h1_ h2_ h3_
  clear H h1_ h2_ h3_
  have H := Aside0.mk h_
  clear h_
  obtain ⟨p0, p1, p2, q0, q1, q2⟩ := bc3 ⟨H.out.b3⟩
  go_wp2_with fail
  refine (pack_Reader_Err.calls g x3 0 0 x3 0 w0 _ HE.out H.out.rd H.out.bel rfl).mono ?_
  clear p0 p1 p2 q0 q1 q2
  rintro e W7 ⟨rfl, h1_, h2_, h3_⟩
  have h_ := H.out.call FX.out h1_ h2_ h3_
  clear H h1_ h2_ h3_
  have H := Aside0.mk h_
  clear h_
  obtain ⟨p0, p1, p2, q0, q1, q2⟩ := bc3 ⟨H.out.b3⟩
  go_wp2_with fail
  refine (image_entry.must_ok _).mono ?_
  rintro e W_ ⟨rfl, rfl⟩
  have hn_ : ¬ (4096 : Int) < (n : Int) := by have := H4.out; omega
  go_wp2
  clear hn_
  clear p0 p1 p2 q0 q1 q2
  go_loopw [20] (fun v20 wr => ∃ (i : Nat) (ys : List Int) (l : List S79) (v : Value), v20 = .int .u32 i ∧ Aside0 (i ≤ n ∧ image_whole.go (n - i) ys l = (0, L, Y)) ∧ Aside0 (image_whole.At w0 w wr g ys 0 g2 g3 a b v l ∧ l.length ≤ i)) (fun v20 _ => n - (intOf v20).toNat)
  case atStart => exact ⟨0, x3, [], _, rfl, ⟨Nat.zero_le _, HF.out⟩, ⟨H.out, Nat.le_refl _⟩⟩
  case round =>
    clear H
    obtain ⟨i, ys, l, v, rfl, HI, H⟩ := hrel
    obtain ⟨A_, c_, ev_⟩ := Kd.R_slice H.out.1.row
    have HN := Aside0.mk H.out.2
    replace H := Aside0.mk H.out.1
    subst ev_
    by_cases hlt : i < n
    · have hlt2 : (i : Int) < (n : Int) := by omega
      have HLT := Aside0.mk hlt
      go_upto_region 8 with fail
      clear hlt2 hlt
      have HX := Aside0.mk (image_entry.er_nn ys)
      have h_ := H.out.drew
      clear H
      have H := Aside0.mk h_
      clear h_
      refine start_ (n := 8) (S := fun w' => w'.cell? ⟨g3, 2, none⟩ = some (.slice A_ l.length c_) ∧ True) (ds := [7]) #[false, false, false, false, false, false, false, false] (by kernel_rfl) rfl rfl ⟨(blk_cell H.out.b3 2).trans rfl, trivial⟩ (fun hHeld => ?_); refine with_tabW image_whole.tab8 image_whole.bits8 (fun HT_ HW_ => ?_)
      generalize wr.drew = W8 at H hHeld ⊢
      refine chain_ (fuel := 5) [(0, 0, some 22), (1, 1, some 23), (2, 0, some 24)] #[true, true, true, false, false, false, false, false] HT_.out HW_.out (by kernel_rfl) (fun _ _ _ _ _ h => h) (Or.inr hHeld) rfl ?_
      refine lkP ?_; refine lkT ?_; refine lkP ?_; refine .nil ?_
      refine one_ (i := 3) (N := some 25) #[true, true, true, true, false, false, false, false] rfl rfl (one_of HT_.out (by kernel_rfl)) (by decide) (fun K hK => ?_)
      by_cases hz : (image_entry.r ys).1 = 0
      · refine ge Tryd.func69 #[.pointer (some ⟨g, 0, none⟩)] ?_
        refine (image_entry.calls g ys w0 _ HE.out H.out.rd H.out.bel).mono ?_
        rintro e W9 ⟨hy_, _⟩
        obtain ⟨rfl, h1_, h2_, h3_⟩ := hy_ hz
        refine ⟨_, rfl, ?_⟩
        have h_ := H.out.call FX.out h1_ h2_ h3_
        clear H h1_ h2_ h3_ hy_
        have H := Aside0.mk h_
        clear h_
        refine hK.out _ _ ⟨(blk_cell H.out.b3 2).trans rfl, trivial⟩ (fun hHeld => ?_)
        clear hK K
        refine norm_ (a' := ?_) ?_ ?_
        rotate_left
        · show Act.put _ (some 25) _ = _
          simp only [Act.put, List.setIfInBounds_toArray, List.set_cons_zero, List.set_cons_succ, i64_w, i32_w]
          rfl
        have HZ := Aside0.mk hz; clear hz
        obtain ⟨R, hR⟩ : ∃ R, image_entry.r ys = R := ⟨_, rfl⟩
        rw [hR] at HZ H ⊢
        have HR := Aside0.mk hR; clear hR
        obtain ⟨F_, E, zs⟩ := R
        dsimp only at HZ H ⊢
        refine one_ (i := 4) (N := some 26) #[true, true, true, true, true, false, false, false] rfl rfl (one_of HT_.out (by kernel_rfl)) (by decide) (fun K hK => ?_)
        refine value_ (by rfl) rfl (image_whole.bsl_ (.tmp 25) E _ rfl rfl) ?_
        refine hK.out _ _ ⟨(blk_cell (blk_alloc H.out.b3 _) 2).trans rfl, trivial⟩ (fun hHeld => ?_)
        clear hK K
        refine norm_ (a' := ?_) ?_ ?_
        rotate_left
        · show Act.put _ (some 26) _ = _
          simp only [Act.put, List.setIfInBounds_toArray, List.set_cons_zero, List.set_cons_succ, i64_w, i32_w]
          rfl
        refine one_ (i := 5) (N := some 27) #[true, true, true, true, true, true, false, false] rfl rfl (one_of HT_.out (by kernel_rfl)) (by decide) (fun K hK => ?_)
        refine Kd.R_append_step k79 (w0 := W9) w.heap.size (by rfl) (.tmp 23) (.tmp 26) 49 79 (.agg #[.string ⟨#[]⟩, .int .i64 0, .int .u64 0, .int .u64 0, .int .u64 0, .int .u64 0, .int .u64 0, .int .u64 0, .int .u64 0]) 80 rfl Tryd.underlying49 info79 rfl (by decide) (by omega) (.slice A_ l.length c_) l E (image_entry.vals E).toList (fun _ => True) (fun _ => False) rfl rfl ?aP (fun _ hk => hk.elim) ?aF H.out.row (Below.refl _ _) ?aS ?aL ?_
        case aP => exact image_whole.mk_ E
        case aF => exact (fun _ _ => trivial)
        case aS => exact H.out.keep.1
        case aL => have := HN.out; have := H4.out; have := HLT.out; omega
        intro v6 W10 ho hb_ hg_ _
        obtain ⟨A2, c2, e2_⟩ := Kd.R_slice ho
        subst e2_
        have h_ := H.out.app FX.out hg_ ho
        rw [List.length_append, List.length_singleton] at h_
        have hs_ : W10.cell? ⟨g3, 2, none⟩ = some (.slice A_ l.length c_) := (blk_cell (blk_grown H.out.b3 hg_ (Kd.R_ne H.out.row H.out.b3 (by decide))) 2).trans rfl
        have hf_ : W10.frozen? ⟨g3, 2, none⟩ = false := blk_frozen (blk_grown H.out.b3 hg_ (Kd.R_ne H.out.row H.out.b3 (by decide))) 2
        clear H ho hb_ hg_
        have H := Aside0.mk h_
        clear h_
        refine hK.out _ _ ⟨hs_, trivial⟩ (fun hHeld => ?_)
        clear hK K
        refine norm_ (a' := ?_) ?_ ?_
        rotate_left
        · show Act.put _ (some 27) _ = _
          simp only [Act.put, List.setIfInBounds_toArray, List.set_cons_zero, List.set_cons_succ, i64_w, i32_w]
          rfl
        refine chain_ (fuel := 1) [(6, 0, some 28)] #[true, true, true, true, true, true, true, false] HT_.out HW_.out (by kernel_rfl) (fun _ _ _ _ _ h => h) (Or.inl (by decide)) rfl ?_
        refine lkP ?_; refine .nil ?_
        refine last_ (i := 7) (N := none) #[true, true, true, true, true, true, true, true] rfl rfl (one_of HT_.out (by kernel_rfl)) (by decide) (fun K hK => ?_)
        refine skip_ (w1 := ?_) (by rfl) rfl ?_ ?_
        rotate_left
        · go_simp
          rfl
        refine hK.out _ _ ?_
        clear hK K
        refine done_ (done_of HT_.out (by kernel_rfl)) ?_
        clear hHeld HT_ HW_ hs_ hf_
        generalize W10.setCell ⟨g3, 2, none⟩ (.slice A2 (l.length + 1) c2) = W11 at H ⊢
        go_wp2
        go_roundw
        case rel =>
          have e_ := image_whole.go_ok HI.out.2 HLT.out HR.out HZ.out
          exact ⟨i + 1, zs, l ++ [E], _, by rw [image_whole.succ HLT.out H4.out], ⟨HLT.out, e_⟩, ⟨H.out, by rw [List.length_append, List.length_singleton]; have := HN.out; omega⟩⟩
        case measure => exact image_whole.mea HLT.out H4.out
      · refine image_whole.gep Tryd.func69 #[.pointer (some ⟨g, 0, none⟩)] ?_
        refine (image_entry.calls g ys w0 _ HE.out H.out.rd H.out.bel).mono ?_
        rintro e W9 ⟨_, hy_⟩
        obtain ⟨rfl, h2_, h3_⟩ := hy_ hz
        obtain ⟨hf_, _⟩ := image_whole.go_bad HI.out.2 HLT.out hz
        exact absurd hf_ (fun e_ => hz e_)
    · have hlt2 : ¬ (i : Int) < (n : Int) := by omega
      obtain ⟨el_, ey_⟩ := image_whole.go_end2 HI.out hlt
      subst el_; subst ey_
      obtain ⟨p0, p1, p2, q0, q1, q2⟩ := bc3 ⟨H.out.b3⟩
      go_wp2_with fail
      refine (pack_Reader_End.calls g Y 0 3 Y 0 w0 _ HE.out H.out.rd H.out.bel HEND.out).mono ?_
      clear p0 p1 p2 q0 q1 q2
      rintro e W12 ⟨rfl, h1_, h2_, h3_⟩
      have h_ := H.out.call FX.out h1_ h2_ h3_
      clear H h1_ h2_ h3_
      have H := Aside0.mk h_
      clear h_
      obtain ⟨p0, p1, p2, q0, q1, q2⟩ := bc3 ⟨H.out.b3⟩
      go_wp2_with fail
      refine (image_entry.must_bad 3 (by decide) (by decide) _).mono ?_
      rintro e W_ ⟨rfl, rfl⟩
      exact ⟨rfl, rfl, H.out.bel, H.out.keep⟩
set_option maxHeartbeats 8000000 in
set_option maxRecDepth 100000 in
theorem image_whole.inval [Errs] (g : Nat) (xs : List Int) (w0 w : World) (hE : Sent w0) (hI : IsS114 w0 w g xs 0) (hB : Below w0.heap.size w0 w) (a : Int) (x1 : List Int) (e1 : Int) (h1 : pack_Reader_U64.f xs 0 = some (a, x1, e1)) (b : Int) (x2 : List Int) (e2 : Int) (h2 : pack_Reader_U64.f x1 e1 = some (b, x2, e2)) (n : Nat) (x3 : List Int) (h3 : pack_Reader_U32.f x2 e2 = some ((n : Int), x3, 0)) (L : List S79) (Y : List Int) (h4 : n ≤ 4096) (hf : image_whole.go n x3 [] = (0, L, Y)) (hend : pack_Reader_End.f Y 0 = some (0, Y, 0)) (hval : state_Valid.f a b L = some false) :
    Calls Tryd.prog 51 #[.pointer (some ⟨g, 0, none⟩)] w fun e w' => e = .panicked [{ v := .iface 89 (.agg #[errW 3]), recovered := false }] ∧ Below w0.heap.size w0 w' ∧ KeepBut w w' g none := by
  have HE := Aside0.mk hE
  have hu := Tryd.underlying51
  have hu2 := Tryd.underlying49
  have HI := Aside0.mk hI
  have HB := Aside0.mk hB
  have H1 := Aside0.mk h1
  have H2 := Aside0.mk h2
  have H3 := Aside0.mk h3
  have H4 := Aside0.mk h4
  have HF := Aside0.mk hf
  have HEND := Aside0.mk hend
  have HVAL := Aside0.mk hval
  clear hE hI hB h1 h2 h3 h4 hf hend hval
  go_enter Tryd.func51, Tryd.ntmps51
  go_wp2_with (first | ((with_reducible refine gate_dst (N := 2) rfl ?_); refine bx 2 #[.int .u64 0, .int .u64 0, .slice none 0 0] 51 ?_; intro g2 hg2 W2 hb2 hw2; have B2 := Aside0.mk hb2; have HW2 := Aside0.mk hw2; have G2 := Aside0.mk hg2; clear hb2 hw2 hg2))
  have hgl := HI.out.lt
  have n2_ : g2 ≠ g := by have := G2.out; omega
  have N2 := Aside0.mk n2_
  clear hgl n2_
  refine (pack_Reader_U64.calls g xs 0 a x1 e1 w0 _ HE.out (HI.out.below HW2.out) (below_step HB.out HW2.out) H1.out).mono ?_
  rintro e W3 ⟨rfl, h1_, h2_, h3_⟩
  have b2_ := h3_.blk B2.out N2.out (by simp)
  have k2_ := (KeepBut.of_below HW2.out g none).trans h3_ (.inl rfl)
  clear B2
  have B2 := Aside0.mk b2_
  have R3 := Aside0.mk h1_
  have L3 := Aside0.mk h2_
  have K3 := Aside0.mk k2_
  clear b2_ k2_ h1_ h2_ h3_
  go_wp2_with fail
  refine (pack_Reader_U64.calls g x1 e1 b x2 e2 w0 _ HE.out R3.out L3.out H2.out).mono ?_
  rintro e W4 ⟨rfl, h1_, h2_, h3_⟩
  have b2_ := h3_.blk B2.out N2.out (by simp)
  have k2_ := K3.out.trans h3_ (.inl rfl)
  clear B2 R3 L3 K3
  have B2 := Aside0.mk b2_
  have R3 := Aside0.mk h1_
  have L3 := Aside0.mk h2_
  have K3 := Aside0.mk k2_
  clear b2_ k2_ h1_ h2_ h3_
  go_wp2_with (first | ((with_reducible refine gate_dst (N := 3) rfl ?_); refine bx 3 #[.int .u64 0, .int .u64 0, .slice none 0 0] 51 ?_; intro g3 hg3 W5 hb3 hw3; have B3 := Aside0.mk hb3; have h_ := image_whole.init (a := a) (b := b) HB.out G2.out N2.out B2.out R3.out L3.out K3.out hg3 hb3 hw3; have H := Aside0.mk h_.1; have FX := Aside0.mk h_.2; clear h_ hb3 hw3 hg3; obtain ⟨p0, p1, p2, q0, q1, q2⟩ := bc3 B3))
  refine (pack_Reader_U32.calls g x2 e2 (n : Int) x3 0 w0 _ HE.out H.out.rd H.out.bel H3.out).mono ?_
  clear p0 p1 p2 q0 q1 q2
  rintro e W6 ⟨rfl, h1_, h2_, h3_⟩
  have h_ := H.out.call FX.out h1_ h2_ h3_
  clear H h1_ h2_ h3_
  have H := Aside0.mk h_
  clear h_
  obtain ⟨p0, p1, p2, q0, q1, q2⟩ := bc3 ⟨H.out.b3⟩
  go_wp2_with fail
  refine (pack_Reader_Err.calls g x3 0 0 x3 0 w0 _ HE.out H.out.rd H.out.bel rfl).mono ?_
  clear p0 p1 p2 q0 q1 q2
  rintro e W7 ⟨rfl, h1_, h2_, h3_⟩
  have h_ := H.out.call FX.out h1_ h2_ h3_
  clear H h1_ h2_ h3_
  have H := Aside0.mk h_
  clear h_
  obtain ⟨p0, p1, p2, q0, q1, q2⟩ := bc3 ⟨H.out.b3⟩
  go_wp2_with fail
  refine (image_entry.must_ok _).mono ?_
  rintro e W_ ⟨rfl, rfl⟩
  have hn_ : ¬ (4096 : Int) < (n : Int) := by have := H4.out; omega
  go_wp2
  clear hn_
  clear p0 p1 p2 q0 q1 q2
  go_loopw [20] (fun v20 wr => ∃ (i : Nat) (ys : List Int) (l : List S79) (v : Value), v20 = .int .u32 i ∧ Aside0 (i ≤ n ∧ image_whole.go (n - i) ys l = (0, L, Y)) ∧ Aside0 (image_whole.At w0 w wr g ys 0 g2 g3 a b v l ∧ l.length ≤ i)) (fun v20 _ => n - (intOf v20).toNat)
  case atStart => exact ⟨0, x3, [], _, rfl, ⟨Nat.zero_le _, HF.out⟩, ⟨H.out, Nat.le_refl _⟩⟩
  case round =>
    clear H
    obtain ⟨i, ys, l, v, rfl, HI, H⟩ := hrel
    obtain ⟨A_, c_, ev_⟩ := Kd.R_slice H.out.1.row
    have HN := Aside0.mk H.out.2
    replace H := Aside0.mk H.out.1
    subst ev_
    by_cases hlt : i < n
    · have hlt2 : (i : Int) < (n : Int) := by omega
      have HLT := Aside0.mk hlt
      go_upto_region 8 with fail
      clear hlt2 hlt
      have HX := Aside0.mk (image_entry.er_nn ys)
      have h_ := H.out.drew
      clear H
      have H := Aside0.mk h_
      clear h_
      refine start_ (n := 8) (S := fun w' => w'.cell? ⟨g3, 2, none⟩ = some (.slice A_ l.length c_) ∧ True) (ds := [7]) #[false, false, false, false, false, false, false, false] (by kernel_rfl) rfl rfl ⟨(blk_cell H.out.b3 2).trans rfl, trivial⟩ (fun hHeld => ?_); refine with_tabW image_whole.tab8 image_whole.bits8 (fun HT_ HW_ => ?_)
      generalize wr.drew = W8 at H hHeld ⊢
      refine chain_ (fuel := 5) [(0, 0, some 22), (1, 1, some 23), (2, 0, some 24)] #[true, true, true, false, false, false, false, false] HT_.out HW_.out (by kernel_rfl) (fun _ _ _ _ _ h => h) (Or.inr hHeld) rfl ?_
      refine lkP ?_; refine lkT ?_; refine lkP ?_; refine .nil ?_
      refine one_ (i := 3) (N := some 25) #[true, true, true, true, false, false, false, false] rfl rfl (one_of HT_.out (by kernel_rfl)) (by decide) (fun K hK => ?_)
      by_cases hz : (image_entry.r ys).1 = 0
      · refine ge Tryd.func69 #[.pointer (some ⟨g, 0, none⟩)] ?_
        refine (image_entry.calls g ys w0 _ HE.out H.out.rd H.out.bel).mono ?_
        rintro e W9 ⟨hy_, _⟩
        obtain ⟨rfl, h1_, h2_, h3_⟩ := hy_ hz
        refine ⟨_, rfl, ?_⟩
        have h_ := H.out.call FX.out h1_ h2_ h3_
        clear H h1_ h2_ h3_ hy_
        have H := Aside0.mk h_
        clear h_
        refine hK.out _ _ ⟨(blk_cell H.out.b3 2).trans rfl, trivial⟩ (fun hHeld => ?_)
        clear hK K
        refine norm_ (a' := ?_) ?_ ?_
        rotate_left
        · show Act.put _ (some 25) _ = _
          simp only [Act.put, List.setIfInBounds_toArray, List.set_cons_zero, List.set_cons_succ, i64_w, i32_w]
          rfl
        have HZ := Aside0.mk hz; clear hz
        obtain ⟨R, hR⟩ : ∃ R, image_entry.r ys = R := ⟨_, rfl⟩
        rw [hR] at HZ H ⊢
        have HR := Aside0.mk hR; clear hR
        obtain ⟨F_, E, zs⟩ := R
        dsimp only at HZ H ⊢
        refine one_ (i := 4) (N := some 26) #[true, true, true, true, true, false, false, false] rfl rfl (one_of HT_.out (by kernel_rfl)) (by decide) (fun K hK => ?_)
        refine value_ (by rfl) rfl (image_whole.bsl_ (.tmp 25) E _ rfl rfl) ?_
        refine hK.out _ _ ⟨(blk_cell (blk_alloc H.out.b3 _) 2).trans rfl, trivial⟩ (fun hHeld => ?_)
        clear hK K
        refine norm_ (a' := ?_) ?_ ?_
        rotate_left
        · show Act.put _ (some 26) _ = _
          simp only [Act.put, List.setIfInBounds_toArray, List.set_cons_zero, List.set_cons_succ, i64_w, i32_w]
          rfl
        refine one_ (i := 5) (N := some 27) #[true, true, true, true, true, true, false, false] rfl rfl (one_of HT_.out (by kernel_rfl)) (by decide) (fun K hK => ?_)
        refine Kd.R_append_step k79 (w0 := W9) w.heap.size (by rfl) (.tmp 23) (.tmp 26) 49 79 (.agg #[.string ⟨#[]⟩, .int .i64 0, .int .u64 0, .int .u64 0, .int .u64 0, .int .u64 0, .int .u64 0, .int .u64 0, .int .u64 0]) 80 rfl Tryd.underlying49 info79 rfl (by decide) (by omega) (.slice A_ l.length c_) l E (image_entry.vals E).toList (fun _ => True) (fun _ => False) rfl rfl ?aP (fun _ hk => hk.elim) ?aF H.out.row (Below.refl _ _) ?aS ?aL ?_
        case aP => exact image_whole.mk_ E
        case aF => exact (fun _ _ => trivial)
        case aS => exact H.out.keep.1
        case aL => have := HN.out; have := H4.out; have := HLT.out; omega
        intro v6 W10 ho hb_ hg_ _
        obtain ⟨A2, c2, e2_⟩ := Kd.R_slice ho
        subst e2_
        have h_ := H.out.app FX.out hg_ ho
        rw [List.length_append, List.length_singleton] at h_
        have hs_ : W10.cell? ⟨g3, 2, none⟩ = some (.slice A_ l.length c_) := (blk_cell (blk_grown H.out.b3 hg_ (Kd.R_ne H.out.row H.out.b3 (by decide))) 2).trans rfl
        have hf_ : W10.frozen? ⟨g3, 2, none⟩ = false := blk_frozen (blk_grown H.out.b3 hg_ (Kd.R_ne H.out.row H.out.b3 (by decide))) 2
        clear H ho hb_ hg_
        have H := Aside0.mk h_
        clear h_
        refine hK.out _ _ ⟨hs_, trivial⟩ (fun hHeld => ?_)
        clear hK K
        refine norm_ (a' := ?_) ?_ ?_
        rotate_left
        · show Act.put _ (some 27) _ = _
          simp only [Act.put, List.setIfInBounds_toArray, List.set_cons_zero, List.set_cons_succ, i64_w, i32_w]
          rfl
        refine chain_ (fuel := 1) [(6, 0, some 28)] #[true, true, true, true, true, true, true, false] HT_.out HW_.out (by kernel_rfl) (fun _ _ _ _ _ h => h) (Or.inl (by decide)) rfl ?_
        refine lkP ?_; refine .nil ?_
        refine last_ (i := 7) (N := none) #[true, true, true, true, true, true, true, true] rfl rfl (one_of HT_.out (by kernel_rfl)) (by decide) (fun K hK => ?_)
        refine skip_ (w1 := ?_) (by rfl) rfl ?_ ?_
        rotate_left
        · go_simp
          rfl
        refine hK.out _ _ ?_
        clear hK K
        refine done_ (done_of HT_.out (by kernel_rfl)) ?_
        clear hHeld HT_ HW_ hs_ hf_
        generalize W10.setCell ⟨g3, 2, none⟩ (.slice A2 (l.length + 1) c2) = W11 at H ⊢
        go_wp2
        go_roundw
        case rel =>
          have e_ := image_whole.go_ok HI.out.2 HLT.out HR.out HZ.out
          exact ⟨i + 1, zs, l ++ [E], _, by rw [image_whole.succ HLT.out H4.out], ⟨HLT.out, e_⟩, ⟨H.out, by rw [List.length_append, List.length_singleton]; have := HN.out; omega⟩⟩
        case measure => exact image_whole.mea HLT.out H4.out
      · refine image_whole.gep Tryd.func69 #[.pointer (some ⟨g, 0, none⟩)] ?_
        refine (image_entry.calls g ys w0 _ HE.out H.out.rd H.out.bel).mono ?_
        rintro e W9 ⟨_, hy_⟩
        obtain ⟨rfl, h2_, h3_⟩ := hy_ hz
        obtain ⟨hf_, _⟩ := image_whole.go_bad HI.out.2 HLT.out hz
        exact absurd hf_ (fun e_ => hz e_)
    · have hlt2 : ¬ (i : Int) < (n : Int) := by omega
      obtain ⟨el_, ey_⟩ := image_whole.go_end2 HI.out hlt
      subst el_; subst ey_
      obtain ⟨p0, p1, p2, q0, q1, q2⟩ := bc3 ⟨H.out.b3⟩
      go_wp2_with fail
      refine (pack_Reader_End.calls g Y 0 0 Y 0 w0 _ HE.out H.out.rd H.out.bel HEND.out).mono ?_
      clear p0 p1 p2 q0 q1 q2
      rintro e W12 ⟨rfl, h1_, h2_, h3_⟩
      have h_ := H.out.call FX.out h1_ h2_ h3_
      clear H h1_ h2_ h3_
      have H := Aside0.mk h_
      clear h_
      obtain ⟨p0, p1, p2, q0, q1, q2⟩ := bc3 ⟨H.out.b3⟩
      go_wp2_with fail
      refine (image_entry.must_ok _).mono ?_
      rintro e W_ ⟨rfl, rfl⟩
      go_wp2_with fail
      refine (state_Valid.calls a b A_ c_ L false _ (Kd.R_reads' H.out.row).2.2 (Kd.R_reads' H.out.row).2.1 HVAL.out).mono ?_
      clear p0 p1 p2 q0 q1 q2
      rintro e W13 ⟨rfl, hw_⟩
      have h_ := H.out.below hw_
      clear H hw_
      have H := Aside0.mk h_
      clear h_
      go_wp2_with (first | ((with_reducible refine gate_dst (N := 36) rfl ?_); refine ld_err 3 2 (HE.out.below H.out.bel) ?_ rfl rfl (by decide) (by have := Errs.five; omega) rfl))
      refine (image_entry.must_bad 3 (by decide) (by decide) _).mono ?_
      rintro e W_ ⟨rfl, rfl⟩
      exact ⟨rfl, rfl, H.out.bel, H.out.keep⟩
set_option maxHeartbeats 8000000 in
set_option maxRecDepth 100000 in
theorem image_whole.ok [Errs] (g : Nat) (xs : List Int) (w0 w : World) (hE : Sent w0) (hI : IsS114 w0 w g xs 0) (hB : Below w0.heap.size w0 w) (a : Int) (x1 : List Int) (e1 : Int) (h1 : pack_Reader_U64.f xs 0 = some (a, x1, e1)) (b : Int) (x2 : List Int) (e2 : Int) (h2 : pack_Reader_U64.f x1 e1 = some (b, x2, e2)) (n : Nat) (x3 : List Int) (h3 : pack_Reader_U32.f x2 e2 = some ((n : Int), x3, 0)) (L : List S79) (Y : List Int) (h4 : n ≤ 4096) (hf : image_whole.go n x3 [] = (0, L, Y)) (hend : pack_Reader_End.f Y 0 = some (0, Y, 0)) (hval : state_Valid.f a b L = some true) :
    Calls Tryd.prog 51 #[.pointer (some ⟨g, 0, none⟩)] w fun e w' => ∃ v, e = .returned (.agg #[.int .u64 a, .int .u64 b, v]) ∧ Kd.R k79 79 w' w.heap.size (fun _ => True) v L ∧ Below w0.heap.size w0 w' ∧ KeepBut w w' g none := by
  have HE := Aside0.mk hE
  have hu := Tryd.underlying51
  have hu2 := Tryd.underlying49
  have HI := Aside0.mk hI
  have HB := Aside0.mk hB
  have H1 := Aside0.mk h1
  have H2 := Aside0.mk h2
  have H3 := Aside0.mk h3
  have H4 := Aside0.mk h4
  have HF := Aside0.mk hf
  have HEND := Aside0.mk hend
  have HVAL := Aside0.mk hval
  clear hE hI hB h1 h2 h3 h4 hf hend hval
  go_enter Tryd.func51, Tryd.ntmps51
  go_wp2_with (first | ((with_reducible refine gate_dst (N := 2) rfl ?_); refine bx 2 #[.int .u64 0, .int .u64 0, .slice none 0 0] 51 ?_; intro g2 hg2 W2 hb2 hw2; have B2 := Aside0.mk hb2; have HW2 := Aside0.mk hw2; have G2 := Aside0.mk hg2; clear hb2 hw2 hg2))
  have hgl := HI.out.lt
  have n2_ : g2 ≠ g := by have := G2.out; omega
  have N2 := Aside0.mk n2_
  clear hgl n2_
  refine (pack_Reader_U64.calls g xs 0 a x1 e1 w0 _ HE.out (HI.out.below HW2.out) (below_step HB.out HW2.out) H1.out).mono ?_
  rintro e W3 ⟨rfl, h1_, h2_, h3_⟩
  have b2_ := h3_.blk B2.out N2.out (by simp)
  have k2_ := (KeepBut.of_below HW2.out g none).trans h3_ (.inl rfl)
  clear B2
  have B2 := Aside0.mk b2_
  have R3 := Aside0.mk h1_
  have L3 := Aside0.mk h2_
  have K3 := Aside0.mk k2_
  clear b2_ k2_ h1_ h2_ h3_
  go_wp2_with fail
  refine (pack_Reader_U64.calls g x1 e1 b x2 e2 w0 _ HE.out R3.out L3.out H2.out).mono ?_
  rintro e W4 ⟨rfl, h1_, h2_, h3_⟩
  have b2_ := h3_.blk B2.out N2.out (by simp)
  have k2_ := K3.out.trans h3_ (.inl rfl)
  clear B2 R3 L3 K3
  have B2 := Aside0.mk b2_
  have R3 := Aside0.mk h1_
  have L3 := Aside0.mk h2_
  have K3 := Aside0.mk k2_
  clear b2_ k2_ h1_ h2_ h3_
  go_wp2_with (first | ((with_reducible refine gate_dst (N := 3) rfl ?_); refine bx 3 #[.int .u64 0, .int .u64 0, .slice none 0 0] 51 ?_; intro g3 hg3 W5 hb3 hw3; have B3 := Aside0.mk hb3; have h_ := image_whole.init (a := a) (b := b) HB.out G2.out N2.out B2.out R3.out L3.out K3.out hg3 hb3 hw3; have H := Aside0.mk h_.1; have FX := Aside0.mk h_.2; clear h_ hb3 hw3 hg3; obtain ⟨p0, p1, p2, q0, q1, q2⟩ := bc3 B3))
  refine (pack_Reader_U32.calls g x2 e2 (n : Int) x3 0 w0 _ HE.out H.out.rd H.out.bel H3.out).mono ?_
  clear p0 p1 p2 q0 q1 q2
  rintro e W6 ⟨rfl, h1_, h2_, h3_⟩
  have h_ := H.out.call FX.out h1_ h2_ h3_
  clear H h1_ h2_ h3_
  have H := Aside0.mk h_
  clear h_
  obtain ⟨p0, p1, p2, q0, q1, q2⟩ := bc3 ⟨H.out.b3⟩
  go_wp2_with fail
  refine (pack_Reader_Err.calls g x3 0 0 x3 0 w0 _ HE.out H.out.rd H.out.bel rfl).mono ?_
  clear p0 p1 p2 q0 q1 q2
  rintro e W7 ⟨rfl, h1_, h2_, h3_⟩
  have h_ := H.out.call FX.out h1_ h2_ h3_
  clear H h1_ h2_ h3_
  have H := Aside0.mk h_
  clear h_
  obtain ⟨p0, p1, p2, q0, q1, q2⟩ := bc3 ⟨H.out.b3⟩
  go_wp2_with fail
  refine (image_entry.must_ok _).mono ?_
  rintro e W_ ⟨rfl, rfl⟩
  have hn_ : ¬ (4096 : Int) < (n : Int) := by have := H4.out; omega
  go_wp2
  clear hn_
  clear p0 p1 p2 q0 q1 q2
  go_loopw [20] (fun v20 wr => ∃ (i : Nat) (ys : List Int) (l : List S79) (v : Value), v20 = .int .u32 i ∧ Aside0 (i ≤ n ∧ image_whole.go (n - i) ys l = (0, L, Y)) ∧ Aside0 (image_whole.At w0 w wr g ys 0 g2 g3 a b v l ∧ l.length ≤ i)) (fun v20 _ => n - (intOf v20).toNat)
  case atStart => exact ⟨0, x3, [], _, rfl, ⟨Nat.zero_le _, HF.out⟩, ⟨H.out, Nat.le_refl _⟩⟩
  case round =>
    clear H
    obtain ⟨i, ys, l, v, rfl, HI, H⟩ := hrel
    obtain ⟨A_, c_, ev_⟩ := Kd.R_slice H.out.1.row
    have HN := Aside0.mk H.out.2
    replace H := Aside0.mk H.out.1
    subst ev_
    by_cases hlt : i < n
    · have hlt2 : (i : Int) < (n : Int) := by omega
      have HLT := Aside0.mk hlt
      go_upto_region 8 with fail
      clear hlt2 hlt
      have HX := Aside0.mk (image_entry.er_nn ys)
      have h_ := H.out.drew
      clear H
      have H := Aside0.mk h_
      clear h_
      refine start_ (n := 8) (S := fun w' => w'.cell? ⟨g3, 2, none⟩ = some (.slice A_ l.length c_) ∧ True) (ds := [7]) #[false, false, false, false, false, false, false, false] (by kernel_rfl) rfl rfl ⟨(blk_cell H.out.b3 2).trans rfl, trivial⟩ (fun hHeld => ?_); refine with_tabW image_whole.tab8 image_whole.bits8 (fun HT_ HW_ => ?_)
      generalize wr.drew = W8 at H hHeld ⊢
      refine chain_ (fuel := 5) [(0, 0, some 22), (1, 1, some 23), (2, 0, some 24)] #[true, true, true, false, false, false, false, false] HT_.out HW_.out (by kernel_rfl) (fun _ _ _ _ _ h => h) (Or.inr hHeld) rfl ?_
      refine lkP ?_; refine lkT ?_; refine lkP ?_; refine .nil ?_
      refine one_ (i := 3) (N := some 25) #[true, true, true, true, false, false, false, false] rfl rfl (one_of HT_.out (by kernel_rfl)) (by decide) (fun K hK => ?_)
      by_cases hz : (image_entry.r ys).1 = 0
      · refine ge Tryd.func69 #[.pointer (some ⟨g, 0, none⟩)] ?_
        refine (image_entry.calls g ys w0 _ HE.out H.out.rd H.out.bel).mono ?_
        rintro e W9 ⟨hy_, _⟩
        obtain ⟨rfl, h1_, h2_, h3_⟩ := hy_ hz
        refine ⟨_, rfl, ?_⟩
        have h_ := H.out.call FX.out h1_ h2_ h3_
        clear H h1_ h2_ h3_ hy_
        have H := Aside0.mk h_
        clear h_
        refine hK.out _ _ ⟨(blk_cell H.out.b3 2).trans rfl, trivial⟩ (fun hHeld => ?_)
        clear hK K
        refine norm_ (a' := ?_) ?_ ?_
        rotate_left
        · show Act.put _ (some 25) _ = _
          simp only [Act.put, List.setIfInBounds_toArray, List.set_cons_zero, List.set_cons_succ, i64_w, i32_w]
          rfl
        have HZ := Aside0.mk hz; clear hz
        obtain ⟨R, hR⟩ : ∃ R, image_entry.r ys = R := ⟨_, rfl⟩
        rw [hR] at HZ H ⊢
        have HR := Aside0.mk hR; clear hR
        obtain ⟨F_, E, zs⟩ := R
        dsimp only at HZ H ⊢
        refine one_ (i := 4) (N := some 26) #[true, true, true, true, true, false, false, false] rfl rfl (one_of HT_.out (by kernel_rfl)) (by decide) (fun K hK => ?_)
        refine value_ (by rfl) rfl (image_whole.bsl_ (.tmp 25) E _ rfl rfl) ?_
        refine hK.out _ _ ⟨(blk_cell (blk_alloc H.out.b3 _) 2).trans rfl, trivial⟩ (fun hHeld => ?_)
        clear hK K
        refine norm_ (a' := ?_) ?_ ?_
        rotate_left
        · show Act.put _ (some 26) _ = _
          simp only [Act.put, List.setIfInBounds_toArray, List.set_cons_zero, List.set_cons_succ, i64_w, i32_w]
          rfl
        refine one_ (i := 5) (N := some 27) #[true, true, true, true, true, true, false, false] rfl rfl (one_of HT_.out (by kernel_rfl)) (by decide) (fun K hK => ?_)
        refine Kd.R_append_step k79 (w0 := W9) w.heap.size (by rfl) (.tmp 23) (.tmp 26) 49 79 (.agg #[.string ⟨#[]⟩, .int .i64 0, .int .u64 0, .int .u64 0, .int .u64 0, .int .u64 0, .int .u64 0, .int .u64 0, .int .u64 0]) 80 rfl Tryd.underlying49 info79 rfl (by decide) (by omega) (.slice A_ l.length c_) l E (image_entry.vals E).toList (fun _ => True) (fun _ => False) rfl rfl ?aP (fun _ hk => hk.elim) ?aF H.out.row (Below.refl _ _) ?aS ?aL ?_
        case aP => exact image_whole.mk_ E
        case aF => exact (fun _ _ => trivial)
        case aS => exact H.out.keep.1
        case aL => have := HN.out; have := H4.out; have := HLT.out; omega
        intro v6 W10 ho hb_ hg_ _
        obtain ⟨A2, c2, e2_⟩ := Kd.R_slice ho
        subst e2_
        have h_ := H.out.app FX.out hg_ ho
        rw [List.length_append, List.length_singleton] at h_
        have hs_ : W10.cell? ⟨g3, 2, none⟩ = some (.slice A_ l.length c_) := (blk_cell (blk_grown H.out.b3 hg_ (Kd.R_ne H.out.row H.out.b3 (by decide))) 2).trans rfl
        have hf_ : W10.frozen? ⟨g3, 2, none⟩ = false := blk_frozen (blk_grown H.out.b3 hg_ (Kd.R_ne H.out.row H.out.b3 (by decide))) 2
        clear H ho hb_ hg_
        have H := Aside0.mk h_
        clear h_
        refine hK.out _ _ ⟨hs_, trivial⟩ (fun hHeld => ?_)
        clear hK K
        refine norm_ (a' := ?_) ?_ ?_
        rotate_left
        · show Act.put _ (some 27) _ = _
          simp only [Act.put, List.setIfInBounds_toArray, List.set_cons_zero, List.set_cons_succ, i64_w, i32_w]
          rfl
        refine chain_ (fuel := 1) [(6, 0, some 28)] #[true, true, true, true, true, true, true, false] HT_.out HW_.out (by kernel_rfl) (fun _ _ _ _ _ h => h) (Or.inl (by decide)) rfl ?_
        refine lkP ?_; refine .nil ?_
        refine last_ (i := 7) (N := none) #[true, true, true, true, true, true, true, true] rfl rfl (one_of HT_.out (by kernel_rfl)) (by decide) (fun K hK => ?_)
        refine skip_ (w1 := ?_) (by rfl) rfl ?_ ?_
        rotate_left
        · go_simp
          rfl
        refine hK.out _ _ ?_
        clear hK K
        refine done_ (done_of HT_.out (by kernel_rfl)) ?_
        clear hHeld HT_ HW_ hs_ hf_
        generalize W10.setCell ⟨g3, 2, none⟩ (.slice A2 (l.length + 1) c2) = W11 at H ⊢
        go_wp2
        go_roundw
        case rel =>
          have e_ := image_whole.go_ok HI.out.2 HLT.out HR.out HZ.out
          exact ⟨i + 1, zs, l ++ [E], _, by rw [image_whole.succ HLT.out H4.out], ⟨HLT.out, e_⟩, ⟨H.out, by rw [List.length_append, List.length_singleton]; have := HN.out; omega⟩⟩
        case measure => exact image_whole.mea HLT.out H4.out
      · refine image_whole.gep Tryd.func69 #[.pointer (some ⟨g, 0, none⟩)] ?_
        refine (image_entry.calls g ys w0 _ HE.out H.out.rd H.out.bel).mono ?_
        rintro e W9 ⟨_, hy_⟩
        obtain ⟨rfl, h2_, h3_⟩ := hy_ hz
        obtain ⟨hf_, _⟩ := image_whole.go_bad HI.out.2 HLT.out hz
        exact absurd hf_ (fun e_ => hz e_)
    · have hlt2 : ¬ (i : Int) < (n : Int) := by omega
      obtain ⟨el_, ey_⟩ := image_whole.go_end2 HI.out hlt
      subst el_; subst ey_
      obtain ⟨p0, p1, p2, q0, q1, q2⟩ := bc3 ⟨H.out.b3⟩
      go_wp2_with fail
      refine (pack_Reader_End.calls g Y 0 0 Y 0 w0 _ HE.out H.out.rd H.out.bel HEND.out).mono ?_
      clear p0 p1 p2 q0 q1 q2
      rintro e W12 ⟨rfl, h1_, h2_, h3_⟩
      have h_ := H.out.call FX.out h1_ h2_ h3_
      clear H h1_ h2_ h3_
      have H := Aside0.mk h_
      clear h_
      obtain ⟨p0, p1, p2, q0, q1, q2⟩ := bc3 ⟨H.out.b3⟩
      go_wp2_with fail
      refine (image_entry.must_ok _).mono ?_
      rintro e W_ ⟨rfl, rfl⟩
      go_wp2_with fail
      refine (state_Valid.calls a b A_ c_ L true _ (Kd.R_reads' H.out.row).2.2 (Kd.R_reads' H.out.row).2.1 HVAL.out).mono ?_
      clear p0 p1 p2 q0 q1 q2
      rintro e W13 ⟨rfl, hw_⟩
      have h_ := H.out.below hw_
      clear H hw_
      have H := Aside0.mk h_
      clear h_
      obtain ⟨p0, p1, p2, q0, q1, q2⟩ := bc3 ⟨H.out.b3⟩
      obtain ⟨r0, r1, r2, s0, s1, s2⟩ := bc3 ⟨H.out.b2⟩
      have nn1 := FX.out.n23
      go_wp2
      refine bodyPost_ret (results_cell_row rfl _ _ g2 51 #[.int .u64 a, .int .u64 b, .slice A_ L.length c_] (0, 0) _ rfl (blk_put (blk_put (blk_put H.out.b2 0 _ rfl) 1 _ rfl) 2 _ rfl) Tryd.underlying51 rfl (by kernel_rfl)) rfl ?_
      exact ⟨.slice A_ L.length c_, rfl, image_whole.back H.out FX.out⟩
/-- What 'whole' reads: a fault (0 none), the state. -/
def image_whole.r (xs : List Int) : Option (Int × Int × Int × List S79) :=
  let a := image_entry.n xs 0
  let b := image_entry.n a.2.1 a.2.2
  let c := pk_take b.2.1 b.2.2 4
  if ¬ c.2.2.2 = 0 then some (c.2.2.2, 0, 0, [])
  else if 4096 < (le c.1).toNat then some (3, 0, 0, [])
  else
    let t := image_whole.go (le c.1).toNat c.2.2.1 []
    if ¬ t.1 = 0 then some (t.1, 0, 0, [])
    else if 0 < t.2.2.length then some (3, 0, 0, [])
    else (state_Valid.f a.1 b.1 t.2.1).bind fun v => if v = true then some (0, a.1, b.1, t.2.1) else some (3, 0, 0, [])
theorem image_entry.n_by {xs : List Int} {e : Int} (hx : ∀ x ∈ xs, 0 ≤ x ∧ x < 256) : ∀ x ∈ (image_entry.n xs e).2.1, 0 ≤ x ∧ x < 256 := image_entry.take_by hx
set_option maxHeartbeats 1600000 in
theorem image_whole.calls [Errs] (g : Nat) (xs : List Int) (w0 w : World) (hE : Sent w0) (hI : IsS114 w0 w g xs 0) (hB : Below w0.heap.size w0 w) (F A B : Int) (L : List S79) (h : image_whole.r xs = some (F, A, B, L)) :
    Calls Tryd.prog 51 #[.pointer (some ⟨g, 0, none⟩)] w fun e w' => (F = 0 → ∃ v, e = .returned (.agg #[.int .u64 A, .int .u64 B, v]) ∧ Kd.R k79 79 w' w.heap.size (fun _ => True) v L ∧ Below w0.heap.size w0 w' ∧ KeepBut w w' g none) ∧
      (¬ F = 0 → e = .panicked [{ v := .iface 89 (.agg #[errW F]), recovered := false }] ∧ Below w0.heap.size w0 w' ∧ KeepBut w w' g none) ∧ 0 ≤ F := by
  have hx := image_entry.rest_by (w' := w) hI
  unfold image_whole.r at h
  dsimp only at h
  have h1 := image_entry.n_f xs (e := 0) (by decide)
  have n1 := image_entry.n_er xs (e := 0) (by decide)
  have y1 := image_entry.n_by (e := 0) hx
  generalize image_entry.n xs 0 = a at *
  obtain ⟨a, x1, e1⟩ := a
  dsimp only at *
  have h2 := image_entry.n_f x1 (e := e1) n1
  have n2 := image_entry.n_er x1 (e := e1) n1
  have y2 := image_entry.n_by (e := e1) y1
  generalize image_entry.n x1 e1 = b at *
  obtain ⟨b, x2, e2⟩ := b
  dsimp only at *
  have h3 : pack_Reader_U32.f x2 e2 = some (le (pk_take x2 e2 4).1, (pk_take x2 e2 4).2.2.1, (pk_take x2 e2 4).2.2.2) := by unfold pack_Reader_U32.f; rw [if_pos n2]
  have n3 := pk_take_er (f0 := x2) (n := 4) n2
  have l3 := (le_range _ (pk_take_range (f1 := e2) (n := 4) y2)).1
  generalize pk_take x2 e2 4 = c at *
  obtain ⟨bs, _, x3, e3⟩ := c
  dsimp only at *
  obtain ⟨n, hn⟩ := Int.eq_ofNat_of_zero_le l3
  rw [hn] at h h3
  rw [Int.toNat_natCast] at h
  have f3 : ¬ (3 : Int) = 0 := by decide
  by_cases he : e3 = 0
  · subst he
    rw [if_neg (fun q => q rfl)] at h
    by_cases hbig : 4096 < n
    · rw [if_pos hbig] at h
      simp only [Option.some.injEq, Prod.mk.injEq] at h
      obtain ⟨rfl, _, _, _⟩ := h
      exact (image_whole.big g xs w0 w hE hI hB a x1 e1 h1 b x2 e2 h2 n x3 h3 hbig).mono fun e w' q => ⟨fun z => absurd z f3, fun _ => q, by decide⟩
    · rw [if_neg hbig] at h
      have hle : n ≤ 4096 := by omega
      have hnn := image_whole.go_nn n x3 []
      generalize hgo : image_whole.go n x3 [] = t at *
      obtain ⟨F0, L0, Y⟩ := t
      dsimp only at *
      by_cases hF : F0 = 0
      · subst hF
        rw [if_neg (fun q => q rfl)] at h
        by_cases hY : 0 < Y.length
        · rw [if_pos hY] at h
          simp only [Option.some.injEq, Prod.mk.injEq] at h
          obtain ⟨rfl, _, _, _⟩ := h
          have hend : pack_Reader_End.f Y 0 = some (3, Y, 0) := by unfold pack_Reader_End.f; rw [if_pos (by decide), if_pos rfl, if_pos hY]
          exact (image_whole.left g xs w0 w hE hI hB a x1 e1 h1 b x2 e2 h2 n x3 h3 L0 Y hle hgo hend).mono fun e w' q => ⟨fun z => absurd z f3, fun _ => q, by decide⟩
        · rw [if_neg hY] at h
          have hend : pack_Reader_End.f Y 0 = some (0, Y, 0) := by unfold pack_Reader_End.f; rw [if_pos (by decide), if_pos rfl, if_neg hY]
          cases hv : state_Valid.f a b L0 with
          | none => rw [hv] at h; cases h
          | some v =>
            rw [hv] at h
            rw [Option.bind_some] at h
            cases v with
            | true =>
              rw [if_pos rfl] at h
              simp only [Option.some.injEq, Prod.mk.injEq] at h
              obtain ⟨rfl, rfl, rfl, rfl⟩ := h
              exact (image_whole.ok g xs w0 w hE hI hB a x1 e1 h1 b x2 e2 h2 n x3 h3 L0 Y hle hgo hend hv).mono fun e w' q => ⟨fun _ => q, fun z => absurd rfl z, by decide⟩
            | false =>
              rw [if_neg (by decide)] at h
              simp only [Option.some.injEq, Prod.mk.injEq] at h
              obtain ⟨rfl, _, _, _⟩ := h
              exact (image_whole.inval g xs w0 w hE hI hB a x1 e1 h1 b x2 e2 h2 n x3 h3 L0 Y hle hgo hend hv).mono fun e w' q => ⟨fun z => absurd z f3, fun _ => q, by decide⟩
      · rw [if_pos hF] at h
        simp only [Option.some.injEq, Prod.mk.injEq] at h
        obtain ⟨rfl, _, _, _⟩ := h
        exact (image_whole.loopbad g xs w0 w hE hI hB a x1 e1 h1 b x2 e2 h2 n x3 h3 F0 L0 Y hle hgo hF).mono fun e w' q => ⟨fun z => absurd z hF, fun _ => q, hnn⟩
  · rw [if_pos he] at h
    simp only [Option.some.injEq, Prod.mk.injEq] at h
    obtain ⟨rfl, _, _, _⟩ := h
    exact (image_whole.short g xs w0 w hE hI hB a x1 e1 h1 b x2 e2 h2 n x3 e3 h3 ⟨n3, he⟩).mono fun e w' q => ⟨fun z => absurd z he, fun _ => q, n3⟩
theorem image_Decode_1.tmps_ (x y : Value) : (#[x, y] ++ Array.replicate (Tryd.f49.ntmps - (#[x, y] : Array Value).size) undef) = #[x, y, undef, undef, undef, undef, undef, undef, undef, undef, undef, undef, undef, undef, undef, undef, undef, undef, undef] := by rw [Tryd.ntmps49]; kernel_rfl
theorem image_Decode_1.then_ {next : Act → List Frame → World → Prop} {Q : Exit → Act → List Frame → World → Prop} {a : Act} {cs : List Frame} {w : World} (h : next a cs w) : Exit.thenS next Q .normal a cs w := h
theorem image_Decode_1.idle (p q : Addr) (w : World) :
    CallsD Tryd.prog 49 #[.pointer (some p), .pointer (some q)] .returning w fun e u' w' => e = .returned (.tuple #[]) ∧ u' = .returning ∧ w' = w := by
  refine callsD_of_wpS Tryd.func49 rfl fun c₀ cs hu => ?_
  rw [image_Decode_1.tmps_]
  apply wpS_seq
  apply wpS_region
  generalize hQ : Exit.thenS _ _ = Q
  simp [wpOpsS, go_sem, recoverD, hu]
  subst hQ
  with_reducible refine image_Decode_1.then_ ?_
  with_reducible refine wpS_of_wp ?_
  go_wp2
  cases c₀
  simp_all [bodyPostS, results, Tryd.results49]
def image_Decode_1.T5 : Bool × List (List Nat × List Nat) := (true, [([], []), ([], []), ([1], [1]), ([0, 0], [0]), ([2, 3, 0, 1, 2, 3], [2])])
def image_Decode_1.B5 : List Nat := [0, 0, 2, 1, 15]
theorem image_Decode_1.tab5 : rtab .any (opsOf Tryd.f49 5) = image_Decode_1.T5 := by kernel_rfl
theorem image_Decode_1.bits5 : waitsOk image_Decode_1.T5.2 image_Decode_1.B5 = true := by kernel_rfl
set_option maxHeartbeats 4000000 in
set_option maxRecDepth 100000 in
theorem image_Decode_1.catch_ (tx : TypeId) (x : Value) (g2 g3 : Nat) (wE w : World) (hB : Below wE.heap.size wE w) (h2 : wE.heap.size ≤ g2) (h3 : wE.heap.size ≤ g3)
    (b2 : w.heap[g2]? = some (.cells #[.int .u64 0, .int .u64 0, .slice none 0 0] 51 (0, 0))) (b3 : w.heap[g3]? = some (.cells #[.nilIface] 37 (0, 0))) (older : List PanicEntry) :
    CallsD Tryd.prog 49 #[.pointer (some ⟨g2, 0, none⟩), .pointer (some ⟨g3, 0, none⟩)] (.panicking ({ v := .iface 89 (.agg #[.iface tx x]), recovered := false } :: older)) w fun e u' w' =>
      e = .returned (.tuple #[]) ∧ u' = .panicking ({ v := .iface 89 (.agg #[.iface tx x]), recovered := true } :: older) ∧ w'.heap[g2]? = some (.cells #[.int .u64 0, .int .u64 0, .slice none 0 0] 51 (0, 0)) ∧ w'.heap[g3]? = some (.cells #[.iface tx x] 37 (0, 0)) ∧ Below wE.heap.size wE w' := by
  have hu1 := Tryd.underlying89
  have hu2 := Tryd.underlying51
  have hu3 := Tryd.underlying20
  have hta : ∀ (v : Value) (w : World), (Instr.typeAssert (.iface 89 v) 20 89 true).run Tryd.prog w = .ok (.tuple #[v, .bool true]) w := fun v w => by kernel_rfl
  have HB := Aside0.mk hB
  have B2 := Aside0.mk b2
  have B3 := Aside0.mk b3
  have G2 := Aside0.mk h2
  have G3 := Aside0.mk h3
  have n23 : g2 ≠ g3 := fun e => by subst e; rw [b2] at b3; injection b3 with b3; injection b3 with _ e2; cases e2
  have N23 := Aside0.mk n23
  clear hB b2 b3 h2 h3 n23
  refine callsD_of_wpS Tryd.func49 rfl fun c₀ cs hu => ?_
  rw [image_Decode_1.tmps_]
  apply wpS_seq
  apply wpS_region
  generalize hQ : Exit.thenS _ _ = Q
  simp [wpOpsS, go_sem, recoverD, hu]
  subst hQ
  with_reducible refine image_Decode_1.then_ ?_
  with_reducible refine wpS_of_wp ?_
  go_wp2_with (first | ((with_reducible refine gate_dst (N := 3) rfl ?_); refine bx 3 #[.nilIface] 89 ?_; intro gf hgf Wf hbf hwf; have BF := Aside0.mk hbf; have HF := bs HB hwf; have C2 := bb B2 hwf; have C3 := bb B3 hwf; have GF := sz HB hgf; have NF2 := nl B2 hgf; have NF3 := nl B3 hgf; clear HB B2 B3; obtain ⟨p0, q0⟩ := bc1 BF; clear hbf hwf hgf))
  have b_ : (Wf.setCell ⟨gf, 0, none⟩ (.iface tx x)).heap[gf]? = some (.cells #[.iface tx x] 89 (0, 0)) := blk_put BF.out 0 _ rfl
  have c2_ : (Wf.setCell ⟨gf, 0, none⟩ (.iface tx x)).heap[g2]? = some (.cells #[.int .u64 0, .int .u64 0, .slice none 0 0] 51 (0, 0)) := blk_far C2.out NF2.out _
  have c3_ : (Wf.setCell ⟨gf, 0, none⟩ (.iface tx x)).heap[g3]? = some (.cells #[.nilIface] 37 (0, 0)) := blk_far C3.out NF3.out _
  have hb_ : Below wE.heap.size wE (Wf.setCell ⟨gf, 0, none⟩ (.iface tx x)) := below_set HF.out GF.out
  generalize Wf.setCell ⟨gf, 0, none⟩ (.iface tx x) = W0 at b_ c2_ c3_ hb_ ⊢
  clear HF C2 C3 BF p0 q0
  have BF := Aside0.mk (blk_drew b_)
  have C2 := Aside0.mk (blk_drew c2_)
  have C3 := Aside0.mk (blk_drew c3_)
  have HB := Aside0.mk (below_drew1 hb_)
  clear b_ c2_ c3_ hb_
  refine start_ (n := 5) (S := fun w' => w'.cell? ⟨gf, 0, none⟩ = some (.iface tx x) ∧ True) (ds := [4]) #[false, false, false, false, false] (by kernel_rfl) rfl rfl ⟨(blk_cell BF.out 0).trans rfl, trivial⟩ (fun hHeld => ?_); refine with_tabW image_Decode_1.tab5 image_Decode_1.bits5 (fun HT_ HW_ => ?_)
  generalize W0.drew = W1 at BF C2 C3 HB hHeld ⊢
  refine chain_ (fuel := 2) [(0, 0, some 16), (1, 0, some 17), (2, 1, some 18)] #[true, true, true, false, false] HT_.out HW_.out (by kernel_rfl) (fun _ _ _ _ _ h => h) (Or.inr hHeld) rfl ?_
  refine lkP ?_; refine lkP ?_; refine lkT ?_; refine .nil ?_
  refine one_ (i := 3) (N := none) #[true, true, true, true, false] rfl rfl (one_of HT_.out (by kernel_rfl)) (by decide) (fun K hK => ?_)
  obtain ⟨p0, p1, p2, q0, q1, q2⟩ := bc3 C2
  refine skip_ (w1 := ?_) (by rfl) rfl ?_ ?_
  rotate_left
  · go_simp
    rfl
  have bf_ : (((W1.setCell ⟨g2, 0, none⟩ (.int .u64 0)).setCell ⟨g2, 1, none⟩ (.int .u64 0)).setCell ⟨g2, 2, none⟩ (.slice none 0 0)).heap[gf]? = some (.cells #[.iface tx x] 89 (0, 0)) := blk_far (blk_far (blk_far BF.out NF2.out.symm _) NF2.out.symm _) NF2.out.symm _
  refine hK.out _ _ ⟨(blk_cell bf_ 0).trans rfl, trivial⟩ (fun hHeld => ?_)
  clear hK K p0 p1 p2 q0 q1 q2
  have c2_ : (((W1.setCell ⟨g2, 0, none⟩ (.int .u64 0)).setCell ⟨g2, 1, none⟩ (.int .u64 0)).setCell ⟨g2, 2, none⟩ (.slice none 0 0)).heap[g2]? = some (.cells #[.int .u64 0, .int .u64 0, .slice none 0 0] 51 (0, 0)) := blk_put (blk_put (blk_put C2.out 0 _ rfl) 1 _ rfl) 2 _ rfl
  have c3_ : (((W1.setCell ⟨g2, 0, none⟩ (.int .u64 0)).setCell ⟨g2, 1, none⟩ (.int .u64 0)).setCell ⟨g2, 2, none⟩ (.slice none 0 0)).heap[g3]? = some (.cells #[.nilIface] 37 (0, 0)) := blk_far (blk_far (blk_far C3.out N23.out.symm _) N23.out.symm _) N23.out.symm _
  have hb_ : Below wE.heap.size wE (((W1.setCell ⟨g2, 0, none⟩ (.int .u64 0)).setCell ⟨g2, 1, none⟩ (.int .u64 0)).setCell ⟨g2, 2, none⟩ (.slice none 0 0)) := below_set (below_set (below_set HB.out G2.out) G2.out) G2.out
  generalize ((W1.setCell ⟨g2, 0, none⟩ (.int .u64 0)).setCell ⟨g2, 1, none⟩ (.int .u64 0)).setCell ⟨g2, 2, none⟩ (.slice none 0 0) = W2 at c2_ c3_ hb_ hHeld ⊢
  clear bf_ C2 C3 HB BF
  have C2 := Aside0.mk c2_
  have C3 := Aside0.mk c3_
  have HB := Aside0.mk hb_
  clear c2_ c3_ hb_
  refine last_ (i := 4) (N := none) #[true, true, true, true, true] rfl rfl (one_of HT_.out (by kernel_rfl)) (by decide) (fun K hK => ?_)
  obtain ⟨p0, q0⟩ := bc1 C3
  refine skip_ (w1 := ?_) (by rfl) rfl ?_ ?_
  rotate_left
  · go_simp
    rfl
  refine hK.out _ _ ?_
  clear hK K
  refine done_ (done_of HT_.out (by kernel_rfl)) ?_
  refine ⟨rfl, _, rfl, _, results_none rfl _ _ _, rfl, rfl, ?_, ?_, ?_⟩
  · exact blk_far C2.out N23.out _
  · exact blk_put C3.out 0 _ rfl
  · exact below_set HB.out G3.out
theorem image_Decode.res {fn : Func} (h : fn.results = #[.cell 2 51, .cell 3 37]) (tmps : Array Value) (w : World) (g2 g3 : Nat) (a b c u : Value)
    (h2 : tmps.getD 2 undef = .pointer (some ⟨g2, 0, none⟩)) (h3 : tmps.getD 3 undef = .pointer (some ⟨g3, 0, none⟩)) (b2 : w.heap[g2]? = some (.cells #[a, b, c] 51 (0, 0))) (b3 : w.heap[g3]? = some (.cells #[u] 37 (0, 0))) :
    (results fn tmps).run Tryd.prog w = .ok (.tuple #[.agg #[a, b, c], u]) w := by
  have h2' : tmps[2]?.getD undef = .pointer (some ⟨g2, 0, none⟩) := by simpa using h2
  have h3' : tmps[3]?.getD undef = .pointer (some ⟨g3, 0, none⟩) := by simpa using h3
  have r2 := run_loadVar_row (P := Tryd.prog) w g2 51 51 #[a, b, c] (0, 0) _ b2 Tryd.underlying51 rfl (by kernel_rfl)
  have c3 : w.cell? ⟨g3, 0, none⟩ = some u := (blk_cell b3 0).trans rfl
  have hu := Tryd.underlying37
  have r3 : (loadVar 37 ⟨g3, 0, none⟩).run Tryd.prog w = .ok u w := by
    simp [go_sem, hu, c3]
  simp [results, h, h2', h3', asAddr, r2, r3, Result.andThen]
theorem image_Decode.past {w : World} {g2 b : Nat} {a0 a1 a2 v : Value} (h : b ≠ g2) (hc : w.cell? ⟨b, 0, none⟩ = some v) : (((w.setCell ⟨g2, 0, none⟩ a0).setCell ⟨g2, 1, none⟩ a1).setCell ⟨g2, 2, none⟩ a2).cell? ⟨b, 0, none⟩ = some v := by
  have one : ∀ {W : World} {j : Nat} {u : Value}, W.cell? ⟨b, 0, none⟩ = some v → (W.setCell ⟨g2, j, none⟩ u).cell? ⟨b, 0, none⟩ = some v := fun hw => by
    rw [World.cell?_setCell_other _ _ _ _ (by simp [h])]
    exact hw
  exact one (one (one hc))
theorem image_Decode.res_put {fn : Func} (h : fn.results = #[.cell 2 51, .cell 3 37]) (N : Nat) (hN : N ≠ 2 ∧ N ≠ 3) (tmps : Array Value) (v : Value) : results fn (tmps.setIfInBounds N v) = results fn tmps := by
  have e2 : (tmps.setIfInBounds N v)[2]?.getD undef = tmps[2]?.getD undef := by rw [Array.getElem?_setIfInBounds_ne hN.1]
  have e3 : (tmps.setIfInBounds N v)[3]?.getD undef = tmps[3]?.getD undef := by rw [Array.getElem?_setIfInBounds_ne hN.2]
  simp [results, h, e2, e3]
theorem image_Decode.leaves_put {P : Program} {fn : Func} (h : fn.results = #[.cell 2 51, .cell 3 37]) (N : Nat) (hN : N ≠ 2 ∧ N ≠ 3) {R : Ending → World → Prop} (tmps : Array Value) (v : Value) : ∀ (ds : List Deferred) (u : FrameMode) (w : World), Leaves P fn (tmps.setIfInBounds N v) R ds u w → Leaves P fn tmps R ds u w
  | [], .returning, w, hl => by
    obtain ⟨r, hr, hR⟩ := hl
    rw [image_Decode.res_put h N hN] at hr
    exact ⟨r, hr, hR⟩
  | [], .panicking c, w, hl => hl
  | [], .run, w, hl => hl.elim
  | d :: ds, u, w, hl => by
    obtain ⟨hu, fv, cap, f, args, h1, h2, h3⟩ := hl
    refine ⟨hu, fv, cap, f, args, h1, h2, h3.mono fun e u' w' hh => ?_⟩
    cases e with
    | returned _ => exact image_Decode.leaves_put h N hN tmps v ds _ _ hh
    | panicked _ => exact image_Decode.leaves_put h N hN tmps v ds _ _ hh
    | outgrown => exact hh
theorem image_Decode.sub4 {n m : Nat} (h : 28 ≤ n) (hn : n ≤ 9223372036854775807) (hm : n - 4 = m) : wrap64 ((n : Int) - 4) = (m : Int) := by unfold wrap64; omega
def image_Decode.T3 : Bool × List (List Nat × List Nat) := (true, [([], []), ([], []), ([0, 0], [0]), ([1, 2, 0, 1, 2], [1])])
def image_Decode.B3 : List Nat := [0, 0, 1, 7]
theorem image_Decode.tab3 : rtab .any (opsOf Tryd.f27 3) = image_Decode.T3 := by kernel_rfl
theorem image_Decode.bits3 : waitsOk image_Decode.T3.2 image_Decode.B3 = true := by kernel_rfl
def image_Decode.T5 : Bool × List (List Nat × List Nat) := (true, [([], []), ([], []), ([0, 0], [0]), ([1, 2, 0, 1, 2], [1])])
def image_Decode.B5 : List Nat := [0, 0, 1, 7]
theorem image_Decode.tab5 : rtab .any (opsOf Tryd.f27 5) = image_Decode.T5 := by kernel_rfl
theorem image_Decode.bits5 : waitsOk image_Decode.T5.2 image_Decode.B5 = true := by kernel_rfl
def image_Decode.T7 : Bool × List (List Nat × List Nat) := (true, [([], []), ([], []), ([0, 1], [0, 1]), ([2], [2]), ([3, 3], [3]), ([], []), ([], []), ([5, 6], [5, 6]), ([7, 4], [7]), ([4, 8], [4, 8])])
def image_Decode.B7 : List Nat := [0, 0, 3, 7, 15, 0, 0, 96, 255, 511]
theorem image_Decode.tab7 : rtab .any (opsOf Tryd.f27 7) = image_Decode.T7 := by kernel_rfl
theorem image_Decode.bits7 : waitsOk image_Decode.T7.2 image_Decode.B7 = true := by kernel_rfl
def image_Decode.T8 : Bool × List (List Nat × List Nat) := (true, [([], []), ([], []), ([0, 0], [0]), ([1, 2, 0, 1, 2], [1])])
def image_Decode.B8 : List Nat := [0, 0, 1, 7]
theorem image_Decode.tab8 : rtab .any (opsOf Tryd.f27 8) = image_Decode.T8 := by kernel_rfl
theorem image_Decode.bits8 : waitsOk image_Decode.T8.2 image_Decode.B8 = true := by kernel_rfl
set_option maxHeartbeats 8000000 in
set_option maxRecDepth 100000 in
theorem image_Decode.short [Errs] (A0 : Option Addr) (c0 : Nat) (l0 : List Int) (w : World) (hE : Sent w) (hr0 : Kd.C (Kd.int .u8) w A0 l0.length l0) (hc0 : l0.length ≤ c0) (h1 : l0.length < 28) :
    Calls Tryd.prog 27 #[.slice A0 l0.length c0] w fun e w' => ∃ v, e = .returned (.tuple #[.agg #[.int .u64 0, .int .u64 0, v], errW 2]) ∧ Kd.R k79 79 w' w.heap.size (fun _ => True) v [] ∧ Below w.heap.size w w' := by
  have HE := Aside0.mk hE
  have hu := Tryd.underlying51
  have hu2 := Tryd.underlying33
  have hu3 := Tryd.underlying37
  have hu9 := Tryd.underlying9
  have hu5 := Tryd.underlying5
  obtain ⟨i5, hi5, hz5_⟩ := Option.map_eq_some_iff.1 info5
  have hs5 : i5.size = 1 := congrArg (fun x => x.2.1) hz5_
  clear hz5_
  have HC := Aside0.mk hr0
  have HL := Aside0.mk hc0
  have HB := Aside0.mk (Below.refl w.heap.size w)
  have H1 := Aside0.mk h1
  clear hE hr0 hc0 h1
  have hmf : ∀ (fn : Fn) (first cap : Array Value) (w : World), (Instr.makeFunc fn first cap).run Tryd.prog w = .ok (.func fn first cap) w := fun _ _ _ _ => rfl
  have hlt : (l0.length : Int) < 28 := by have := H1.out; omega
  go_enter_defers Tryd.func27, Tryd.ntmps27
  go_wp2_with (first | ((with_reducible refine gate_dst (N := 2) rfl ?_); refine bx 2 #[.int .u64 0, .int .u64 0, .slice none 0 0] 51 ?_; intro g2 hg2 W2 hb2 hw2; have B2 := Aside0.mk hb2; have G2 := sz HB hg2; have n0_ := bs HB hw2; clear HB; have HB := n0_; clear n0_ hb2 hw2 hg2) | ((with_reducible refine gate_dst (N := 3) rfl ?_); refine bx 3 #[.nilIface] 37 ?_; intro g3 hg3 W3 hb3 hw3; have B3 := Aside0.mk hb3; have G3 := sz HB hg3; have N23 := nl B2 hg3; have n1_ := bb B2 hw3; have n0_ := bs HB hw3; clear HB B2; have HB := n0_; have B2 := n1_; clear n0_ n1_ hb3 hw3 hg3))
  clear hlt
  have he_ := errW_pos (n := 2) (by decide)
  have s0_ := sent_cell 2 1 (HE.out.below HB.out)
  generalize hp_ : Errs.at_ 2 = p at he_
  rw [he_] at s0_
  have HP := Aside0.mk he_
  clear he_ hp_
  have n0_ := Aside0.mk (blk_drew B2.out)
  have n1_ := Aside0.mk (blk_drew B3.out)
  have n2_ := Aside0.mk (below_drew1 HB.out)
  clear B2 B3 HB
  have B2 := n0_; have B3 := n1_; have HB := n2_
  clear n0_ n1_ n2_
  have S0 : Aside0 (W3.drew.cell? ⟨1, 0, none⟩ = some (.iface 155 (.pointer (some p)))) := ⟨s0_⟩
  clear s0_
  refine start_ (n := 4) (S := fun w' => w'.cell? ⟨1, 0, none⟩ = some (.iface 155 (.pointer (some p))) ∧ True) (ds := [3]) #[false, false, false, false] (by kernel_rfl) rfl rfl ⟨S0.out, trivial⟩ (fun hHeld => ?_); refine with_tabW image_Decode.tab3 image_Decode.bits3 (fun HT_ HW_ => ?_)
  generalize W3.drew = W6 at B2 B3 HB S0 hHeld ⊢
  refine pure_ (i := 0) (N := some 9) (v := ?_) #[true, false, false, false] rfl rfl (any_of HT_.out (by kernel_rfl)) (fun _ _ _ h => image_Decode.leaves_put rfl 9 (by decide) _ _ _ _ _ h) (Or.inl ⟨by rfl, fun w => ?_⟩) (a' := ?_) ?_ ?_
  rotate_left 1
  · go_simp; first | done | (with_reducible rfl)
  rotate_left 1
  · first | (simp only [Act.put, List.setIfInBounds_toArray, List.set_cons_zero, List.set_cons_succ, i64_w, i32_w]; rfl) | rfl
  refine take_ (i := 1) (N := some 10) (v := ?_) #[true, true, false, false] rfl rfl (take_ofW HT_.out HW_.out (by kernel_rfl)) (fun _ _ _ h => image_Decode.leaves_put rfl 10 (by decide) _ _ _ _ _ h) (Or.inl ⟨by rfl, fun w hs_ => ?_⟩) hHeld (a' := ?_) ?_ ?_
  rotate_left 1
  · have s_ := hs_.1; clear hs_; go_simp; with_reducible rfl
  rotate_left 1
  · first | (simp only [Act.put, List.setIfInBounds_toArray, List.set_cons_zero, List.set_cons_succ, i64_w, i32_w]; rfl) | rfl
  refine one_ (i := 2) (N := none) #[true, true, true, false] rfl rfl (one_of HT_.out (by kernel_rfl)) (by decide) (fun K hK => ?_)
  obtain ⟨p0, p1, p2, q0, q1, q2⟩ := bc3 B2
  refine skip_ (w1 := ?_) (by rfl) rfl ?_ ?_
  rotate_left
  · go_simp
    rfl
  have hne_ : g2 ≠ 1 := by have := World.block_lt_of_cell? _ _ (sent_cell 2 1 HE.out); have := G2.out; simp only at *; omega
  refine hK.out _ _ ⟨image_Decode.past hne_.symm S0.out, trivial⟩ (fun hHeld => ?_)
  clear hK K p0 p1 p2 q0 q1 q2 hne_
  have c2_ : (((W6.setCell ⟨g2, 0, none⟩ (.int .u64 0)).setCell ⟨g2, 1, none⟩ (.int .u64 0)).setCell ⟨g2, 2, none⟩ (.slice none 0 0)).heap[g2]? = some (.cells #[.int .u64 0, .int .u64 0, .slice none 0 0] 51 (0, 0)) := blk_put (blk_put (blk_put B2.out 0 _ rfl) 1 _ rfl) 2 _ rfl
  have c3_ : (((W6.setCell ⟨g2, 0, none⟩ (.int .u64 0)).setCell ⟨g2, 1, none⟩ (.int .u64 0)).setCell ⟨g2, 2, none⟩ (.slice none 0 0)).heap[g3]? = some (.cells #[.nilIface] 37 (0, 0)) := blk_far (blk_far (blk_far B3.out N23.out.symm _) N23.out.symm _) N23.out.symm _
  have hb_ : Below w.heap.size w (((W6.setCell ⟨g2, 0, none⟩ (.int .u64 0)).setCell ⟨g2, 1, none⟩ (.int .u64 0)).setCell ⟨g2, 2, none⟩ (.slice none 0 0)) := below_set (below_set (below_set HB.out G2.out) G2.out) G2.out
  generalize ((W6.setCell ⟨g2, 0, none⟩ (.int .u64 0)).setCell ⟨g2, 1, none⟩ (.int .u64 0)).setCell ⟨g2, 2, none⟩ (.slice none 0 0) = W7 at c2_ c3_ hb_ hHeld ⊢
  clear B2 B3 HB S0
  have B2 := Aside0.mk c2_; have B3 := Aside0.mk c3_; have HB := Aside0.mk hb_
  clear c2_ c3_ hb_
  refine last_ (i := 3) (N := none) #[true, true, true, true] rfl rfl (one_of HT_.out (by kernel_rfl)) (by decide) (fun K hK => ?_)
  obtain ⟨p0, q0⟩ := bc1 B3
  refine skip_ (w1 := ?_) (by rfl) rfl ?_ ?_
  rotate_left
  · go_simp
    rfl
  refine hK.out _ _ ?_
  clear hK K p0 q0 hHeld
  refine done_ (done_of HT_.out (by kernel_rfl)) ?_
  clear HT_ HW_
  go_wp2
  refine leaves_cons (f := 49) (args := #[.pointer (some ⟨g2, 0, none⟩), .pointer (some ⟨g3, 0, none⟩)]) (by simp) (by simp [go_sem]) ?_
  refine (image_Decode_1.idle ⟨g2, 0, none⟩ ⟨g3, 0, none⟩ _).mono ?_
  rintro e u' w'' ⟨rfl, rfl, rfl⟩
  exact ⟨_, image_Decode.res rfl _ _ g2 g3 _ _ _ _ rfl rfl (blk_far B2.out N23.out _) (blk_put B3.out 0 _ rfl), .slice none 0 0, by rw [HP.out], Kd.R_nil _ _ _ _ _, below_set HB.out G3.out⟩
set_option maxHeartbeats 8000000 in
set_option maxRecDepth 100000 in
theorem image_Decode.magic [Errs] (A0 : Option Addr) (c0 : Nat) (l0 : List Int) (w : World) (hE : Sent w) (hr0 : Kd.C (Kd.int .u8) w A0 l0.length l0) (hc0 : l0.length ≤ c0) (h1 : 28 ≤ l0.length) (hm : ((strOfNums (l0.take 4)).toList == [84, 73, 48, 49]) = false) :
    Calls Tryd.prog 27 #[.slice A0 l0.length c0] w fun e w' => ∃ v, e = .returned (.tuple #[.agg #[.int .u64 0, .int .u64 0, v], errW 3]) ∧ Kd.R k79 79 w' w.heap.size (fun _ => True) v [] ∧ Below w.heap.size w w' := by
  have HE := Aside0.mk hE
  have hu := Tryd.underlying51
  have hu2 := Tryd.underlying33
  have hu3 := Tryd.underlying37
  have hu9 := Tryd.underlying9
  have hu5 := Tryd.underlying5
  obtain ⟨i5, hi5, hz5_⟩ := Option.map_eq_some_iff.1 info5
  have hs5 : i5.size = 1 := congrArg (fun x => x.2.1) hz5_
  clear hz5_
  have HC := Aside0.mk hr0
  have HL := Aside0.mk hc0
  have HB := Aside0.mk (Below.refl w.heap.size w)
  have H1 := Aside0.mk h1
  have HM := Aside0.mk hm
  clear hE hr0 hc0 h1 hm
  have hmf : ∀ (fn : Fn) (first cap : Array Value) (w : World), (Instr.makeFunc fn first cap).run Tryd.prog w = .ok (.func fn first cap) w := fun _ _ _ _ => rfl
  have hlt : ¬ (l0.length : Int) < 28 := by have := H1.out; omega
  go_enter_defers Tryd.func27, Tryd.ntmps27
  go_upto_region 4 with (first | ((with_reducible refine gate_dst (N := 2) rfl ?_); refine bx 2 #[.int .u64 0, .int .u64 0, .slice none 0 0] 51 ?_; intro g2 hg2 W2 hb2 hw2; have B2 := Aside0.mk hb2; have G2 := sz HB hg2; have n0_ := bs HB hw2; clear HB; have HB := n0_; clear n0_ hb2 hw2 hg2) | ((with_reducible refine gate_dst (N := 3) rfl ?_); refine bx 3 #[.nilIface] 37 ?_; intro g3 hg3 W3 hb3 hw3; have B3 := Aside0.mk hb3; have G3 := sz HB hg3; have N23 := nl B2 hg3; have n1_ := bb B2 hw3; have n0_ := bs HB hw3; clear HB B2; have HB := n0_; have B2 := n1_; clear n0_ n1_ hb3 hw3 hg3))
  clear hlt
  have hlen_ : (l0.take 4).length = 4 := by have := H1.out; rw [List.length_take]; omega
  have hcut_ := cut_to 33 5 .i64 hu2 hi5 A0 l0.length c0 4 (by decide) (by have := H1.out; omega) HL.out
  rw [show (4 : Int).toNat = 4 from rfl] at hcut_
  have hcv_ := Kd.C_string (P := Tryd.prog) (A := A0) (c := c0) hu2 hu5 hu9 (Kd.C_take (m := 4) (Kd.C_below HC.out HB.out) (by have := H1.out; omega))
  rw [hlen_] at hcv_
  clear hlen_
  obtain ⟨st, hst⟩ : ∃ s, strOfNums (l0.take 4) = s := ⟨_, rfl⟩
  have hm_ := HM.out
  rw [hst] at hcv_ hm_
  go_wp2
  clear hcv_ hcut_ hm_ hst HM
  have he_ := errW_pos (n := 3) (by decide)
  have s0_ := sent_cell 3 2 (HE.out.below HB.out)
  generalize hp_ : Errs.at_ 3 = p at he_
  rw [he_] at s0_
  have HP := Aside0.mk he_
  clear he_ hp_
  have n0_ := Aside0.mk (blk_drew B2.out)
  have n1_ := Aside0.mk (blk_drew B3.out)
  have n2_ := Aside0.mk (below_drew1 HB.out)
  clear B2 B3 HB
  have B2 := n0_; have B3 := n1_; have HB := n2_
  clear n0_ n1_ n2_
  have S0 : Aside0 (W3.drew.cell? ⟨2, 0, none⟩ = some (.iface 155 (.pointer (some p)))) := ⟨s0_⟩
  clear s0_
  refine start_ (n := 4) (S := fun w' => w'.cell? ⟨2, 0, none⟩ = some (.iface 155 (.pointer (some p))) ∧ True) (ds := [3]) #[false, false, false, false] (by kernel_rfl) rfl rfl ⟨S0.out, trivial⟩ (fun hHeld => ?_); refine with_tabW image_Decode.tab5 image_Decode.bits5 (fun HT_ HW_ => ?_)
  generalize W3.drew = W6 at B2 B3 HB S0 hHeld ⊢
  refine pure_ (i := 0) (N := some 15) (v := ?_) #[true, false, false, false] rfl rfl (any_of HT_.out (by kernel_rfl)) (fun _ _ _ h => image_Decode.leaves_put rfl 15 (by decide) _ _ _ _ _ h) (Or.inl ⟨by rfl, fun w => ?_⟩) (a' := ?_) ?_ ?_
  rotate_left 1
  · go_simp; first | done | (with_reducible rfl)
  rotate_left 1
  · first | (simp only [Act.put, List.setIfInBounds_toArray, List.set_cons_zero, List.set_cons_succ, i64_w, i32_w]; rfl) | rfl
  refine take_ (i := 1) (N := some 16) (v := ?_) #[true, true, false, false] rfl rfl (take_ofW HT_.out HW_.out (by kernel_rfl)) (fun _ _ _ h => image_Decode.leaves_put rfl 16 (by decide) _ _ _ _ _ h) (Or.inl ⟨by rfl, fun w hs_ => ?_⟩) hHeld (a' := ?_) ?_ ?_
  rotate_left 1
  · have s_ := hs_.1; clear hs_; go_simp; with_reducible rfl
  rotate_left 1
  · first | (simp only [Act.put, List.setIfInBounds_toArray, List.set_cons_zero, List.set_cons_succ, i64_w, i32_w]; rfl) | rfl
  refine one_ (i := 2) (N := none) #[true, true, true, false] rfl rfl (one_of HT_.out (by kernel_rfl)) (by decide) (fun K hK => ?_)
  obtain ⟨p0, p1, p2, q0, q1, q2⟩ := bc3 B2
  refine skip_ (w1 := ?_) (by rfl) rfl ?_ ?_
  rotate_left
  · go_simp
    rfl
  have hne_ : g2 ≠ 2 := by have := World.block_lt_of_cell? _ _ (sent_cell 3 2 HE.out); have := G2.out; simp only at *; omega
  refine hK.out _ _ ⟨image_Decode.past hne_.symm S0.out, trivial⟩ (fun hHeld => ?_)
  clear hK K p0 p1 p2 q0 q1 q2 hne_
  have c2_ : (((W6.setCell ⟨g2, 0, none⟩ (.int .u64 0)).setCell ⟨g2, 1, none⟩ (.int .u64 0)).setCell ⟨g2, 2, none⟩ (.slice none 0 0)).heap[g2]? = some (.cells #[.int .u64 0, .int .u64 0, .slice none 0 0] 51 (0, 0)) := blk_put (blk_put (blk_put B2.out 0 _ rfl) 1 _ rfl) 2 _ rfl
  have c3_ : (((W6.setCell ⟨g2, 0, none⟩ (.int .u64 0)).setCell ⟨g2, 1, none⟩ (.int .u64 0)).setCell ⟨g2, 2, none⟩ (.slice none 0 0)).heap[g3]? = some (.cells #[.nilIface] 37 (0, 0)) := blk_far (blk_far (blk_far B3.out N23.out.symm _) N23.out.symm _) N23.out.symm _
  have hb_ : Below w.heap.size w (((W6.setCell ⟨g2, 0, none⟩ (.int .u64 0)).setCell ⟨g2, 1, none⟩ (.int .u64 0)).setCell ⟨g2, 2, none⟩ (.slice none 0 0)) := below_set (below_set (below_set HB.out G2.out) G2.out) G2.out
  generalize ((W6.setCell ⟨g2, 0, none⟩ (.int .u64 0)).setCell ⟨g2, 1, none⟩ (.int .u64 0)).setCell ⟨g2, 2, none⟩ (.slice none 0 0) = W7 at c2_ c3_ hb_ hHeld ⊢
  clear B2 B3 HB S0
  have B2 := Aside0.mk c2_; have B3 := Aside0.mk c3_; have HB := Aside0.mk hb_
  clear c2_ c3_ hb_
  refine last_ (i := 3) (N := none) #[true, true, true, true] rfl rfl (one_of HT_.out (by kernel_rfl)) (by decide) (fun K hK => ?_)
  obtain ⟨p0, q0⟩ := bc1 B3
  refine skip_ (w1 := ?_) (by rfl) rfl ?_ ?_
  rotate_left
  · go_simp
    rfl
  refine hK.out _ _ ?_
  clear hK K p0 q0 hHeld
  refine done_ (done_of HT_.out (by kernel_rfl)) ?_
  clear HT_ HW_
  go_wp2
  refine leaves_cons (f := 49) (args := #[.pointer (some ⟨g2, 0, none⟩), .pointer (some ⟨g3, 0, none⟩)]) (by simp) (by simp [go_sem]) ?_
  refine (image_Decode_1.idle ⟨g2, 0, none⟩ ⟨g3, 0, none⟩ _).mono ?_
  rintro e u' w'' ⟨rfl, rfl, rfl⟩
  exact ⟨_, image_Decode.res rfl _ _ g2 g3 _ _ _ _ rfl rfl (blk_far B2.out N23.out _) (blk_put B3.out 0 _ rfl), .slice none 0 0, by rw [HP.out], Kd.R_nil _ _ _ _ _, below_set HB.out G3.out⟩
set_option maxHeartbeats 8000000 in
set_option maxRecDepth 100000 in
theorem image_Decode.sum_ [Errs] (A0 : Option Addr) (c0 : Nat) (l0 : List Int) (w : World) (hE : Sent w) (hr0 : Kd.C (Kd.int .u8) w A0 l0.length l0) (hc0 : l0.length ≤ c0) (h1 : 28 ≤ l0.length) (hm : ((strOfNums (l0.take 4)).toList == [84, 73, 48, 49]) = true) (m : Nat) (hm4 : l0.length - 4 = m) (hnr : pack_NewReader.f (l0.drop m) = some (l0.drop m, 0)) (sv : Int) (y : List Int) (e : Int) (hu32 : pack_Reader_U32.f (l0.drop m) 0 = some (sv, y, e)) (cv : Int) (hsum : crc_Sum.f (l0.take m) = some cv) (heq : (sv != cv) = true) :
    Calls Tryd.prog 27 #[.slice A0 l0.length c0] w fun e w' => ∃ v, e = .returned (.tuple #[.agg #[.int .u64 0, .int .u64 0, v], errW 6]) ∧ Kd.R k79 79 w' w.heap.size (fun _ => True) v [] ∧ Below w.heap.size w w' := by
  have HE := Aside0.mk hE
  have hu := Tryd.underlying51
  have hu2 := Tryd.underlying33
  have hu3 := Tryd.underlying37
  have hu9 := Tryd.underlying9
  have hu5 := Tryd.underlying5
  obtain ⟨i5, hi5, hz5_⟩ := Option.map_eq_some_iff.1 info5
  have hs5 : i5.size = 1 := congrArg (fun x => x.2.1) hz5_
  clear hz5_
  have HC := Aside0.mk hr0
  have HL := Aside0.mk hc0
  have HB := Aside0.mk (Below.refl w.heap.size w)
  have H1 := Aside0.mk h1
  have HM := Aside0.mk hm
  have HM4 := Aside0.mk hm4
  have HNR := Aside0.mk hnr
  have HU32 := Aside0.mk hu32
  have HSUM := Aside0.mk hsum
  have HEQ := Aside0.mk heq
  clear hE hr0 hc0 h1 hm hm4 hnr hu32 hsum heq
  have hmf : ∀ (fn : Fn) (first cap : Array Value) (w : World), (Instr.makeFunc fn first cap).run Tryd.prog w = .ok (.func fn first cap) w := fun _ _ _ _ => rfl
  have hlt : ¬ (l0.length : Int) < 28 := by have := H1.out; omega
  go_enter_defers Tryd.func27, Tryd.ntmps27
  go_upto_region 4 with (first | ((with_reducible refine gate_dst (N := 2) rfl ?_); refine bx 2 #[.int .u64 0, .int .u64 0, .slice none 0 0] 51 ?_; intro g2 hg2 W2 hb2 hw2; have B2 := Aside0.mk hb2; have G2 := sz HB hg2; have n0_ := bs HB hw2; clear HB; have HB := n0_; clear n0_ hb2 hw2 hg2) | ((with_reducible refine gate_dst (N := 3) rfl ?_); refine bx 3 #[.nilIface] 37 ?_; intro g3 hg3 W3 hb3 hw3; have B3 := Aside0.mk hb3; have G3 := sz HB hg3; have N23 := nl B2 hg3; have n1_ := bb B2 hw3; have n0_ := bs HB hw3; clear HB B2; have HB := n0_; have B2 := n1_; clear n0_ n1_ hb3 hw3 hg3))
  clear hlt
  have hlen_ : (l0.take 4).length = 4 := by have := H1.out; rw [List.length_take]; omega
  have hcut_ := cut_to 33 5 .i64 hu2 hi5 A0 l0.length c0 4 (by decide) (by have := H1.out; omega) HL.out
  rw [show (4 : Int).toNat = 4 from rfl] at hcut_
  have hcv_ := Kd.C_string (P := Tryd.prog) (A := A0) (c := c0) hu2 hu5 hu9 (Kd.C_take (m := 4) (Kd.C_below HC.out HB.out) (by have := H1.out; omega))
  rw [hlen_] at hcv_
  clear hlen_
  have hsub_ : wrap64 ((l0.length : Int) - 4) = (m : Int) := image_Decode.sub4 H1.out HC.out.2.1 HM4.out
  obtain ⟨st, hst⟩ : ∃ s, strOfNums (l0.take 4) = s := ⟨_, rfl⟩
  have hm_ := HM.out
  rw [hst] at hcv_ hm_
  go_upto_region 7 with fail
  clear hcv_ hcut_ hm_ hst HM
  rw [hsub_]
  clear hsub_
  have hml_ : m ≤ l0.length := by have := HM4.out; omega
  have C7 : Kd.C (Kd.int .u8) w (if c0 = m then A0 else A0.map (·.add (m * 1))) (l0.drop m).length (l0.drop m) := Kd.C_drop (c := c0) HC.out hml_ HL.out
  have S7 := cut_from 33 5 .i64 hu2 hi5 1 hs5 A0 l0.length c0 (m : Int) (by omega) (by omega)
  rw [Int.toNat_natCast, ← List.length_drop (i := m) (l := l0)] at S7
  have C8 : Kd.C (Kd.int .u8) w A0 (l0.take m).length (l0.take m) := Kd.C_take HC.out hml_
  have S8 := cut_to 33 5 .i64 hu2 hi5 A0 l0.length c0 (m : Int) (by omega) (by omega) HL.out
  have hT_ : (l0.take m).length = m := by rw [List.length_take]; omega
  rw [Int.toNat_natCast] at S8
  rw [hT_] at C8
  have hc7_ : (l0.drop m).length ≤ c0 - m := by have := HL.out; rw [List.length_drop]; omega
  have hc8_ : (l0.take m).length ≤ c0 := by have := HL.out; omega
  have HN7 := HNR.out; have HU7 := HU32.out; have HS7 := HSUM.out
  generalize l0.drop m = D at C7 S7 hc7_ HN7 HU7
  generalize l0.take m = T at C8 hT_ HS7 hc8_
  generalize (if c0 = m then A0 else A0.map (·.add (m * 1))) = A7 at C7 S7
  generalize c0 - m = c7 at S7 hc7_
  subst hT_
  have HC7 := Aside0.mk C7; have HC8 := Aside0.mk C8; have HL7 := Aside0.mk hc7_; have HL8 := Aside0.mk hc8_; have HN7 := Aside0.mk HN7; have HU7 := Aside0.mk HU7; have HS7 := Aside0.mk HS7
  clear C7 C8 hc7_ hc8_ hml_
  have n0_ := Aside0.mk (blk_drew B2.out)
  have n1_ := Aside0.mk (blk_drew B3.out)
  have n2_ := Aside0.mk (below_drew1 HB.out)
  clear B2 B3 HB
  have B2 := n0_; have B3 := n1_; have HB := n2_
  clear n0_ n1_ n2_
  refine start_ (n := 10) (S := fun _ => True) (ds := []) #[false, false, false, false, false, false, false, false, false, false] (by kernel_rfl) rfl rfl trivial (fun hHeld => ?_); refine with_tabW image_Decode.tab7 image_Decode.bits7 (fun HT_ HW_ => ?_)
  generalize W3.drew = W5 at B2 B3 HB hHeld ⊢
  refine pure_ (i := 0) (N := some 20) (v := ?_) #[true, false, false, false, false, false, false, false, false, false] rfl rfl (any_of HT_.out (by kernel_rfl)) (fun _ _ _ h => image_Decode.leaves_put rfl 20 (by decide) _ _ _ _ _ h) (Or.inl ⟨by rfl, fun w => ?_⟩) (a' := ?_) ?_ ?_
  rotate_left 1
  · go_simp; first | done | (with_reducible rfl)
  rotate_left 1
  · first | (simp only [Act.put, List.setIfInBounds_toArray, List.set_cons_zero, List.set_cons_succ, i64_w, i32_w]; rfl) | rfl
  refine pure_ (i := 1) (N := some 21) (v := ?_) #[true, true, false, false, false, false, false, false, false, false] rfl rfl (any_of HT_.out (by kernel_rfl)) (fun _ _ _ h => image_Decode.leaves_put rfl 21 (by decide) _ _ _ _ _ h) (Or.inl ⟨by rfl, fun w => ?_⟩) (a' := ?_) ?_ ?_
  rotate_left 1
  · go_simp; first | done | (with_reducible rfl)
  rotate_left 1
  · first | (simp only [Act.put, List.setIfInBounds_toArray, List.set_cons_zero, List.set_cons_succ, i64_w, i32_w]; rfl) | rfl
  refine pure_ (i := 2) (N := some 22) (v := ?_) #[true, true, true, false, false, false, false, false, false, false] rfl rfl (any_of HT_.out (by kernel_rfl)) (fun _ _ _ h => image_Decode.leaves_put rfl 22 (by decide) _ _ _ _ _ h) (Or.inl ⟨by rfl, fun w => ?_⟩) (a' := ?_) ?_ ?_
  rotate_left 1
  · go_simp; first | done | (with_reducible rfl)
  rotate_left 1
  · first | (simp only [Act.put, List.setIfInBounds_toArray, List.set_cons_zero, List.set_cons_succ, i64_w, i32_w]; rfl) | rfl
  refine pure_ (i := 5) (N := some 25) (v := ?_) #[true, true, true, false, false, true, false, false, false, false] rfl rfl (any_of HT_.out (by kernel_rfl)) (fun _ _ _ h => image_Decode.leaves_put rfl 25 (by decide) _ _ _ _ _ h) (Or.inl ⟨by rfl, fun w => ?_⟩) (a' := ?_) ?_ ?_
  rotate_left 1
  · go_simp; first | done | (with_reducible rfl)
  rotate_left 1
  · first | (simp only [Act.put, List.setIfInBounds_toArray, List.set_cons_zero, List.set_cons_succ, i64_w, i32_w]; rfl) | rfl
  refine pure_ (i := 6) (N := some 26) (v := ?_) #[true, true, true, false, false, true, true, false, false, false] rfl rfl (any_of HT_.out (by kernel_rfl)) (fun _ _ _ h => image_Decode.leaves_put rfl 26 (by decide) _ _ _ _ _ h) (Or.inl ⟨by rfl, fun w => ?_⟩) (a' := ?_) ?_ ?_
  rotate_left 1
  · go_simp; first | done | (with_reducible rfl)
  rotate_left 1
  · first | (simp only [Act.put, List.setIfInBounds_toArray, List.set_cons_zero, List.set_cons_succ, i64_w, i32_w]; rfl) | rfl
  refine pure_ (i := 7) (N := some 27) (v := ?_) #[true, true, true, false, false, true, true, true, false, false] rfl rfl (any_of HT_.out (by kernel_rfl)) (fun _ _ _ h => image_Decode.leaves_put rfl 27 (by decide) _ _ _ _ _ h) (Or.inl ⟨by rfl, fun w => ?_⟩) (a' := ?_) ?_ ?_
  rotate_left 1
  · go_simp; first | done | (with_reducible rfl)
  rotate_left 1
  · first | (simp only [Act.put, List.setIfInBounds_toArray, List.set_cons_zero, List.set_cons_succ, i64_w, i32_w]; rfl) | rfl
  refine one_ (i := 3) (N := some 23) #[true, true, true, true, false, true, true, true, false, false] rfl rfl (one_of HT_.out (by kernel_rfl)) (by decide) (fun K hK => ?_)
  refine ge Tryd.func38 #[.slice A7 D.length c7] ?_
  refine (pack_NewReader.calls A7 c7 D D 0 w _ HB.out HC7.out HL7.out HN7.out).mono ?_
  rintro e_ W8 ⟨gr, rfl, hI_, hb_, hk_⟩
  refine ⟨_, rfl, ?_⟩
  have n0_ := Aside0.mk (blk_below B2.out hk_)
  have n1_ := Aside0.mk (blk_below B3.out hk_)
  clear B2 B3 HB
  have B2 := n0_; have B3 := n1_; have HB := Aside0.mk hb_; have HI := Aside0.mk hI_
  clear n0_ n1_ hb_ hI_ hk_
  refine hK.out _ _ trivial (fun hHeld => ?_)
  clear hK K
  refine norm_ (a' := ?_) ?_ ?_
  rotate_left
  · show Act.put _ (some 23) _ = _
    simp only [Act.put, List.setIfInBounds_toArray, List.set_cons_zero, List.set_cons_succ, i64_w, i32_w]
    rfl
  refine one_ (i := 4) (N := some 24) #[true, true, true, true, true, true, true, true, false, false] rfl rfl (one_of HT_.out (by kernel_rfl)) (by decide) (fun K hK => ?_)
  refine ge Tryd.func50 #[.pointer (some ⟨gr, 0, none⟩)] ?_
  refine (pack_Reader_U32.calls gr D 0 sv y e w _ HE.out HI.out HB.out HU7.out).mono ?_
  rintro e_ W9 ⟨rfl, _, hb_, hk_⟩
  refine ⟨_, rfl, ?_⟩
  have x2_ := HI.out.ne_blk B2.out (by decide)
  have x3_ := HI.out.ne_blk B3.out (by decide)
  have n0_ := Aside0.mk (hk_.blk B2.out x2_.symm (by simp))
  have n1_ := Aside0.mk (hk_.blk B3.out x3_.symm (by simp))
  clear B2 B3 HB HI x2_ x3_
  have B2 := n0_; have B3 := n1_; have HB := Aside0.mk hb_
  clear n0_ n1_ hb_ hk_
  refine hK.out _ _ trivial (fun hHeld => ?_)
  clear hK K
  refine norm_ (a' := ?_) ?_ ?_
  rotate_left
  · show Act.put _ (some 24) _ = _
    simp only [Act.put, List.setIfInBounds_toArray, List.set_cons_zero, List.set_cons_succ, i64_w, i32_w]
    rfl
  refine one_ (i := 8) (N := some 28) #[true, true, true, true, true, true, true, true, true, false] rfl rfl (one_of HT_.out (by kernel_rfl)) (by decide) (fun K hK => ?_)
  refine ge Tryd.func47 #[.slice A0 T.length c0] ?_
  refine (crc_Sum.calls A0 c0 T cv _ (HE.out.below HB.out) (Kd.C_below HC8.out HB.out) HL8.out HS7.out).mono ?_
  rintro e_ W10 ⟨rfl, hk_⟩
  refine ⟨_, rfl, ?_⟩
  have n0_ := Aside0.mk (blk_below B2.out hk_)
  have n1_ := Aside0.mk (blk_below B3.out hk_)
  have n2_ := Aside0.mk (below_step HB.out hk_)
  clear B2 B3 HB
  have B2 := n0_; have B3 := n1_; have HB := n2_
  clear n0_ n1_ n2_ hk_
  refine hK.out _ _ trivial (fun hHeld => ?_)
  clear hK K
  refine norm_ (a' := ?_) ?_ ?_
  rotate_left
  · show Act.put _ (some 28) _ = _
    simp only [Act.put, List.setIfInBounds_toArray, List.set_cons_zero, List.set_cons_succ, i64_w, i32_w]
    rfl
  have heq_ := HEQ.out
  refine pure_ (i := 9) (N := some 29) (v := ?_) #[true, true, true, true, true, true, true, true, true, true] rfl rfl (any_of HT_.out (by kernel_rfl)) (fun _ _ _ h => image_Decode.leaves_put rfl 29 (by decide) _ _ _ _ _ h) (Or.inl ⟨by rfl, fun w => ?_⟩) (a' := ?_) ?_ ?_
  rotate_left 1
  · go_simp; first | done | (with_reducible rfl)
  rotate_left 1
  · first | (simp only [Act.put, List.setIfInBounds_toArray, List.set_cons_zero, List.set_cons_succ, i64_w, i32_w]; rfl) | rfl
  refine done_ (done_of HT_.out (by kernel_rfl)) ?_
  clear HT_ HW_ hHeld
  go_upto_region 8 with fail
  have he_ := errW_pos (n := 6) (by decide)
  have s0_ := sent_cell 6 3 (HE.out.below HB.out)
  generalize hp_ : Errs.at_ 6 = p at he_
  rw [he_] at s0_
  have HP := Aside0.mk he_
  clear he_ hp_
  have n0_ := Aside0.mk (blk_drew B2.out)
  have n1_ := Aside0.mk (blk_drew B3.out)
  have n2_ := Aside0.mk (below_drew1 HB.out)
  clear B2 B3 HB
  have B2 := n0_; have B3 := n1_; have HB := n2_
  clear n0_ n1_ n2_
  have S0 : Aside0 (W10.drew.cell? ⟨3, 0, none⟩ = some (.iface 155 (.pointer (some p)))) := ⟨s0_⟩
  clear s0_
  refine start_ (n := 4) (S := fun w' => w'.cell? ⟨3, 0, none⟩ = some (.iface 155 (.pointer (some p))) ∧ True) (ds := [3]) #[false, false, false, false] (by kernel_rfl) rfl rfl ⟨S0.out, trivial⟩ (fun hHeld => ?_); refine with_tabW image_Decode.tab8 image_Decode.bits8 (fun HT_ HW_ => ?_)
  generalize W10.drew = W6 at B2 B3 HB S0 hHeld ⊢
  refine pure_ (i := 0) (N := some 30) (v := ?_) #[true, false, false, false] rfl rfl (any_of HT_.out (by kernel_rfl)) (fun _ _ _ h => image_Decode.leaves_put rfl 30 (by decide) _ _ _ _ _ h) (Or.inl ⟨by rfl, fun w => ?_⟩) (a' := ?_) ?_ ?_
  rotate_left 1
  · go_simp; first | done | (with_reducible rfl)
  rotate_left 1
  · first | (simp only [Act.put, List.setIfInBounds_toArray, List.set_cons_zero, List.set_cons_succ, i64_w, i32_w]; rfl) | rfl
  refine take_ (i := 1) (N := some 31) (v := ?_) #[true, true, false, false] rfl rfl (take_ofW HT_.out HW_.out (by kernel_rfl)) (fun _ _ _ h => image_Decode.leaves_put rfl 31 (by decide) _ _ _ _ _ h) (Or.inl ⟨by rfl, fun w hs_ => ?_⟩) hHeld (a' := ?_) ?_ ?_
  rotate_left 1
  · have s_ := hs_.1; clear hs_; go_simp; with_reducible rfl
  rotate_left 1
  · first | (simp only [Act.put, List.setIfInBounds_toArray, List.set_cons_zero, List.set_cons_succ, i64_w, i32_w]; rfl) | rfl
  refine one_ (i := 2) (N := none) #[true, true, true, false] rfl rfl (one_of HT_.out (by kernel_rfl)) (by decide) (fun K hK => ?_)
  obtain ⟨p0, p1, p2, q0, q1, q2⟩ := bc3 B2
  refine skip_ (w1 := ?_) (by rfl) rfl ?_ ?_
  rotate_left
  · go_simp
    rfl
  have hne_ : g2 ≠ 3 := by have := World.block_lt_of_cell? _ _ (sent_cell 6 3 HE.out); have := G2.out; simp only at *; omega
  refine hK.out _ _ ⟨image_Decode.past hne_.symm S0.out, trivial⟩ (fun hHeld => ?_)
  clear hK K p0 p1 p2 q0 q1 q2 hne_
  have c2_ : (((W6.setCell ⟨g2, 0, none⟩ (.int .u64 0)).setCell ⟨g2, 1, none⟩ (.int .u64 0)).setCell ⟨g2, 2, none⟩ (.slice none 0 0)).heap[g2]? = some (.cells #[.int .u64 0, .int .u64 0, .slice none 0 0] 51 (0, 0)) := blk_put (blk_put (blk_put B2.out 0 _ rfl) 1 _ rfl) 2 _ rfl
  have c3_ : (((W6.setCell ⟨g2, 0, none⟩ (.int .u64 0)).setCell ⟨g2, 1, none⟩ (.int .u64 0)).setCell ⟨g2, 2, none⟩ (.slice none 0 0)).heap[g3]? = some (.cells #[.nilIface] 37 (0, 0)) := blk_far (blk_far (blk_far B3.out N23.out.symm _) N23.out.symm _) N23.out.symm _
  have hb_ : Below w.heap.size w (((W6.setCell ⟨g2, 0, none⟩ (.int .u64 0)).setCell ⟨g2, 1, none⟩ (.int .u64 0)).setCell ⟨g2, 2, none⟩ (.slice none 0 0)) := below_set (below_set (below_set HB.out G2.out) G2.out) G2.out
  generalize ((W6.setCell ⟨g2, 0, none⟩ (.int .u64 0)).setCell ⟨g2, 1, none⟩ (.int .u64 0)).setCell ⟨g2, 2, none⟩ (.slice none 0 0) = W7 at c2_ c3_ hb_ hHeld ⊢
  clear B2 B3 HB S0
  have B2 := Aside0.mk c2_; have B3 := Aside0.mk c3_; have HB := Aside0.mk hb_
  clear c2_ c3_ hb_
  refine last_ (i := 3) (N := none) #[true, true, true, true] rfl rfl (one_of HT_.out (by kernel_rfl)) (by decide) (fun K hK => ?_)
  obtain ⟨p0, q0⟩ := bc1 B3
  refine skip_ (w1 := ?_) (by rfl) rfl ?_ ?_
  rotate_left
  · go_simp
    rfl
  refine hK.out _ _ ?_
  clear hK K p0 q0 hHeld
  refine done_ (done_of HT_.out (by kernel_rfl)) ?_
  clear HT_ HW_
  go_wp2
  refine leaves_cons (f := 49) (args := #[.pointer (some ⟨g2, 0, none⟩), .pointer (some ⟨g3, 0, none⟩)]) (by simp) (by simp [go_sem]) ?_
  refine (image_Decode_1.idle ⟨g2, 0, none⟩ ⟨g3, 0, none⟩ _).mono ?_
  rintro e u' w'' ⟨rfl, rfl, rfl⟩
  exact ⟨_, image_Decode.res rfl _ _ g2 g3 _ _ _ _ rfl rfl (blk_far B2.out N23.out _) (blk_put B3.out 0 _ rfl), .slice none 0 0, by rw [HP.out], Kd.R_nil _ _ _ _ _, below_set HB.out G3.out⟩
set_option maxHeartbeats 8000000 in
set_option maxRecDepth 100000 in
theorem image_Decode.fault_ [Errs] (A0 : Option Addr) (c0 : Nat) (l0 : List Int) (w : World) (hE : Sent w) (hr0 : Kd.C (Kd.int .u8) w A0 l0.length l0) (hc0 : l0.length ≤ c0) (h1 : 28 ≤ l0.length) (hm : ((strOfNums (l0.take 4)).toList == [84, 73, 48, 49]) = true) (m : Nat) (hm4 : l0.length - 4 = m) (hnr : pack_NewReader.f (l0.drop m) = some (l0.drop m, 0)) (sv : Int) (y : List Int) (e : Int) (hu32 : pack_Reader_U32.f (l0.drop m) 0 = some (sv, y, e)) (cv : Int) (hsum : crc_Sum.f (l0.take m) = some cv) (hnr2 : pack_NewReader.f ((l0.take m).drop 4) = some ((l0.take m).drop 4, 0)) (F a b : Int) (L : List S79) (hw : image_whole.r ((l0.take m).drop 4) = some (F, a, b, L)) (heq : (sv != cv) = false) (hF : ¬ F = 0) :
    Calls Tryd.prog 27 #[.slice A0 l0.length c0] w fun e w' => ∃ v, e = .returned (.tuple #[.agg #[.int .u64 0, .int .u64 0, v], errW F]) ∧ Kd.R k79 79 w' w.heap.size (fun _ => True) v [] ∧ Below w.heap.size w w' := by
  have HE := Aside0.mk hE
  have hu := Tryd.underlying51
  have hu2 := Tryd.underlying33
  have hu3 := Tryd.underlying37
  have hu9 := Tryd.underlying9
  have hu5 := Tryd.underlying5
  obtain ⟨i5, hi5, hz5_⟩ := Option.map_eq_some_iff.1 info5
  have hs5 : i5.size = 1 := congrArg (fun x => x.2.1) hz5_
  clear hz5_
  have HC := Aside0.mk hr0
  have HL := Aside0.mk hc0
  have HB := Aside0.mk (Below.refl w.heap.size w)
  have H1 := Aside0.mk h1
  have HM := Aside0.mk hm
  have HM4 := Aside0.mk hm4
  have HNR := Aside0.mk hnr
  have HU32 := Aside0.mk hu32
  have HSUM := Aside0.mk hsum
  have HNR2 := Aside0.mk hnr2
  have HW := Aside0.mk hw
  have HEQ := Aside0.mk heq
  have HF := Aside0.mk hF
  clear hE hr0 hc0 h1 hm hm4 hnr hu32 hsum hnr2 hw heq hF
  have hmf : ∀ (fn : Fn) (first cap : Array Value) (w : World), (Instr.makeFunc fn first cap).run Tryd.prog w = .ok (.func fn first cap) w := fun _ _ _ _ => rfl
  have hlt : ¬ (l0.length : Int) < 28 := by have := H1.out; omega
  go_enter_defers Tryd.func27, Tryd.ntmps27
  go_upto_region 4 with (first | ((with_reducible refine gate_dst (N := 2) rfl ?_); refine bx 2 #[.int .u64 0, .int .u64 0, .slice none 0 0] 51 ?_; intro g2 hg2 W2 hb2 hw2; have B2 := Aside0.mk hb2; have G2 := sz HB hg2; have n0_ := bs HB hw2; clear HB; have HB := n0_; clear n0_ hb2 hw2 hg2) | ((with_reducible refine gate_dst (N := 3) rfl ?_); refine bx 3 #[.nilIface] 37 ?_; intro g3 hg3 W3 hb3 hw3; have B3 := Aside0.mk hb3; have G3 := sz HB hg3; have N23 := nl B2 hg3; have n1_ := bb B2 hw3; have n0_ := bs HB hw3; clear HB B2; have HB := n0_; have B2 := n1_; clear n0_ n1_ hb3 hw3 hg3))
  clear hlt
  have hlen_ : (l0.take 4).length = 4 := by have := H1.out; rw [List.length_take]; omega
  have hcut_ := cut_to 33 5 .i64 hu2 hi5 A0 l0.length c0 4 (by decide) (by have := H1.out; omega) HL.out
  rw [show (4 : Int).toNat = 4 from rfl] at hcut_
  have hcv_ := Kd.C_string (P := Tryd.prog) (A := A0) (c := c0) hu2 hu5 hu9 (Kd.C_take (m := 4) (Kd.C_below HC.out HB.out) (by have := H1.out; omega))
  rw [hlen_] at hcv_
  clear hlen_
  have hsub_ : wrap64 ((l0.length : Int) - 4) = (m : Int) := image_Decode.sub4 H1.out HC.out.2.1 HM4.out
  obtain ⟨st, hst⟩ : ∃ s, strOfNums (l0.take 4) = s := ⟨_, rfl⟩
  have hm_ := HM.out
  rw [hst] at hcv_ hm_
  go_upto_region 7 with fail
  clear hcv_ hcut_ hm_ hst HM
  rw [hsub_]
  clear hsub_
  have hml_ : m ≤ l0.length := by have := HM4.out; omega
  have C7 : Kd.C (Kd.int .u8) w (if c0 = m then A0 else A0.map (·.add (m * 1))) (l0.drop m).length (l0.drop m) := Kd.C_drop (c := c0) HC.out hml_ HL.out
  have S7 := cut_from 33 5 .i64 hu2 hi5 1 hs5 A0 l0.length c0 (m : Int) (by omega) (by omega)
  rw [Int.toNat_natCast, ← List.length_drop (i := m) (l := l0)] at S7
  have C8 : Kd.C (Kd.int .u8) w A0 (l0.take m).length (l0.take m) := Kd.C_take HC.out hml_
  have S8 := cut_to 33 5 .i64 hu2 hi5 A0 l0.length c0 (m : Int) (by omega) (by omega) HL.out
  have hT_ : (l0.take m).length = m := by rw [List.length_take]; omega
  rw [Int.toNat_natCast] at S8
  rw [hT_] at C8
  have hc7_ : (l0.drop m).length ≤ c0 - m := by have := HL.out; rw [List.length_drop]; omega
  have hc8_ : (l0.take m).length ≤ c0 := by have := HL.out; omega
  have HN7 := HNR.out; have HU7 := HU32.out; have HS7 := HSUM.out
  have C9 : Kd.C (Kd.int .u8) w (if c0 = 4 then A0 else A0.map (·.add (4 * 1))) ((l0.take m).drop 4).length ((l0.take m).drop 4) := Kd.C_mid (lo := 4) (hi := m) (c := c0) HC.out (by have := HM4.out; have := H1.out; omega) hml_ HL.out
  have S9 := cut_mid 33 5 .i64 .i64 hu2 hi5 1 hs5 A0 l0.length c0 4 (m : Int) (by decide) (by have := HM4.out; have := H1.out; omega) (by omega) HL.out
  rw [Int.toNat_natCast, show (4 : Int).toNat = 4 from rfl, show m - 4 = ((l0.take m).drop 4).length by rw [List.length_drop, hT_]] at S9
  have hc9_ : ((l0.take m).drop 4).length ≤ c0 - 4 := by have := HL.out; have := HM4.out; rw [List.length_drop, hT_]; omega
  have HN9 := HNR2.out; have HW9 := HW.out
  generalize (l0.take m).drop 4 = M at C9 S9 hc9_ HN9 HW9
  generalize (if c0 = 4 then A0 else A0.map (·.add (4 * 1))) = A9 at C9 S9
  generalize c0 - 4 = c9 at S9 hc9_
  have HC9 := Aside0.mk C9; have HL9 := Aside0.mk hc9_; replace HN9 := Aside0.mk HN9; replace HW9 := Aside0.mk HW9
  clear C9 hc9_
  generalize l0.drop m = D at C7 S7 hc7_ HN7 HU7
  generalize l0.take m = T at C8 hT_ HS7 hc8_
  generalize (if c0 = m then A0 else A0.map (·.add (m * 1))) = A7 at C7 S7
  generalize c0 - m = c7 at S7 hc7_
  subst hT_
  have HC7 := Aside0.mk C7; have HC8 := Aside0.mk C8; have HL7 := Aside0.mk hc7_; have HL8 := Aside0.mk hc8_; have HN7 := Aside0.mk HN7; have HU7 := Aside0.mk HU7; have HS7 := Aside0.mk HS7
  clear C7 C8 hc7_ hc8_ hml_
  have n0_ := Aside0.mk (blk_drew B2.out)
  have n1_ := Aside0.mk (blk_drew B3.out)
  have n2_ := Aside0.mk (below_drew1 HB.out)
  clear B2 B3 HB
  have B2 := n0_; have B3 := n1_; have HB := n2_
  clear n0_ n1_ n2_
  refine start_ (n := 10) (S := fun _ => True) (ds := []) #[false, false, false, false, false, false, false, false, false, false] (by kernel_rfl) rfl rfl trivial (fun hHeld => ?_); refine with_tabW image_Decode.tab7 image_Decode.bits7 (fun HT_ HW_ => ?_)
  generalize W3.drew = W5 at B2 B3 HB hHeld ⊢
  refine pure_ (i := 0) (N := some 20) (v := ?_) #[true, false, false, false, false, false, false, false, false, false] rfl rfl (any_of HT_.out (by kernel_rfl)) (fun _ _ _ h => image_Decode.leaves_put rfl 20 (by decide) _ _ _ _ _ h) (Or.inl ⟨by rfl, fun w => ?_⟩) (a' := ?_) ?_ ?_
  rotate_left 1
  · go_simp; first | done | (with_reducible rfl)
  rotate_left 1
  · first | (simp only [Act.put, List.setIfInBounds_toArray, List.set_cons_zero, List.set_cons_succ, i64_w, i32_w]; rfl) | rfl
  refine pure_ (i := 1) (N := some 21) (v := ?_) #[true, true, false, false, false, false, false, false, false, false] rfl rfl (any_of HT_.out (by kernel_rfl)) (fun _ _ _ h => image_Decode.leaves_put rfl 21 (by decide) _ _ _ _ _ h) (Or.inl ⟨by rfl, fun w => ?_⟩) (a' := ?_) ?_ ?_
  rotate_left 1
  · go_simp; first | done | (with_reducible rfl)
  rotate_left 1
  · first | (simp only [Act.put, List.setIfInBounds_toArray, List.set_cons_zero, List.set_cons_succ, i64_w, i32_w]; rfl) | rfl
  refine pure_ (i := 2) (N := some 22) (v := ?_) #[true, true, true, false, false, false, false, false, false, false] rfl rfl (any_of HT_.out (by kernel_rfl)) (fun _ _ _ h => image_Decode.leaves_put rfl 22 (by decide) _ _ _ _ _ h) (Or.inl ⟨by rfl, fun w => ?_⟩) (a' := ?_) ?_ ?_
  rotate_left 1
  · go_simp; first | done | (with_reducible rfl)
  rotate_left 1
  · first | (simp only [Act.put, List.setIfInBounds_toArray, List.set_cons_zero, List.set_cons_succ, i64_w, i32_w]; rfl) | rfl
  refine pure_ (i := 5) (N := some 25) (v := ?_) #[true, true, true, false, false, true, false, false, false, false] rfl rfl (any_of HT_.out (by kernel_rfl)) (fun _ _ _ h => image_Decode.leaves_put rfl 25 (by decide) _ _ _ _ _ h) (Or.inl ⟨by rfl, fun w => ?_⟩) (a' := ?_) ?_ ?_
  rotate_left 1
  · go_simp; first | done | (with_reducible rfl)
  rotate_left 1
  · first | (simp only [Act.put, List.setIfInBounds_toArray, List.set_cons_zero, List.set_cons_succ, i64_w, i32_w]; rfl) | rfl
  refine pure_ (i := 6) (N := some 26) (v := ?_) #[true, true, true, false, false, true, true, false, false, false] rfl rfl (any_of HT_.out (by kernel_rfl)) (fun _ _ _ h => image_Decode.leaves_put rfl 26 (by decide) _ _ _ _ _ h) (Or.inl ⟨by rfl, fun w => ?_⟩) (a' := ?_) ?_ ?_
  rotate_left 1
  · go_simp; first | done | (with_reducible rfl)
  rotate_left 1
  · first | (simp only [Act.put, List.setIfInBounds_toArray, List.set_cons_zero, List.set_cons_succ, i64_w, i32_w]; rfl) | rfl
  refine pure_ (i := 7) (N := some 27) (v := ?_) #[true, true, true, false, false, true, true, true, false, false] rfl rfl (any_of HT_.out (by kernel_rfl)) (fun _ _ _ h => image_Decode.leaves_put rfl 27 (by decide) _ _ _ _ _ h) (Or.inl ⟨by rfl, fun w => ?_⟩) (a' := ?_) ?_ ?_
  rotate_left 1
  · go_simp; first | done | (with_reducible rfl)
  rotate_left 1
  · first | (simp only [Act.put, List.setIfInBounds_toArray, List.set_cons_zero, List.set_cons_succ, i64_w, i32_w]; rfl) | rfl
  refine one_ (i := 3) (N := some 23) #[true, true, true, true, false, true, true, true, false, false] rfl rfl (one_of HT_.out (by kernel_rfl)) (by decide) (fun K hK => ?_)
  refine ge Tryd.func38 #[.slice A7 D.length c7] ?_
  refine (pack_NewReader.calls A7 c7 D D 0 w _ HB.out HC7.out HL7.out HN7.out).mono ?_
  rintro e_ W8 ⟨gr, rfl, hI_, hb_, hk_⟩
  refine ⟨_, rfl, ?_⟩
  have n0_ := Aside0.mk (blk_below B2.out hk_)
  have n1_ := Aside0.mk (blk_below B3.out hk_)
  clear B2 B3 HB
  have B2 := n0_; have B3 := n1_; have HB := Aside0.mk hb_; have HI := Aside0.mk hI_
  clear n0_ n1_ hb_ hI_ hk_
  refine hK.out _ _ trivial (fun hHeld => ?_)
  clear hK K
  refine norm_ (a' := ?_) ?_ ?_
  rotate_left
  · show Act.put _ (some 23) _ = _
    simp only [Act.put, List.setIfInBounds_toArray, List.set_cons_zero, List.set_cons_succ, i64_w, i32_w]
    rfl
  refine one_ (i := 4) (N := some 24) #[true, true, true, true, true, true, true, true, false, false] rfl rfl (one_of HT_.out (by kernel_rfl)) (by decide) (fun K hK => ?_)
  refine ge Tryd.func50 #[.pointer (some ⟨gr, 0, none⟩)] ?_
  refine (pack_Reader_U32.calls gr D 0 sv y e w _ HE.out HI.out HB.out HU7.out).mono ?_
  rintro e_ W9 ⟨rfl, _, hb_, hk_⟩
  refine ⟨_, rfl, ?_⟩
  have x2_ := HI.out.ne_blk B2.out (by decide)
  have x3_ := HI.out.ne_blk B3.out (by decide)
  have n0_ := Aside0.mk (hk_.blk B2.out x2_.symm (by simp))
  have n1_ := Aside0.mk (hk_.blk B3.out x3_.symm (by simp))
  clear B2 B3 HB HI x2_ x3_
  have B2 := n0_; have B3 := n1_; have HB := Aside0.mk hb_
  clear n0_ n1_ hb_ hk_
  refine hK.out _ _ trivial (fun hHeld => ?_)
  clear hK K
  refine norm_ (a' := ?_) ?_ ?_
  rotate_left
  · show Act.put _ (some 24) _ = _
    simp only [Act.put, List.setIfInBounds_toArray, List.set_cons_zero, List.set_cons_succ, i64_w, i32_w]
    rfl
  refine one_ (i := 8) (N := some 28) #[true, true, true, true, true, true, true, true, true, false] rfl rfl (one_of HT_.out (by kernel_rfl)) (by decide) (fun K hK => ?_)
  refine ge Tryd.func47 #[.slice A0 T.length c0] ?_
  refine (crc_Sum.calls A0 c0 T cv _ (HE.out.below HB.out) (Kd.C_below HC8.out HB.out) HL8.out HS7.out).mono ?_
  rintro e_ W10 ⟨rfl, hk_⟩
  refine ⟨_, rfl, ?_⟩
  have n0_ := Aside0.mk (blk_below B2.out hk_)
  have n1_ := Aside0.mk (blk_below B3.out hk_)
  have n2_ := Aside0.mk (below_step HB.out hk_)
  clear B2 B3 HB
  have B2 := n0_; have B3 := n1_; have HB := n2_
  clear n0_ n1_ n2_ hk_
  refine hK.out _ _ trivial (fun hHeld => ?_)
  clear hK K
  refine norm_ (a' := ?_) ?_ ?_
  rotate_left
  · show Act.put _ (some 28) _ = _
    simp only [Act.put, List.setIfInBounds_toArray, List.set_cons_zero, List.set_cons_succ, i64_w, i32_w]
    rfl
  have heq_ := HEQ.out
  refine pure_ (i := 9) (N := some 29) (v := ?_) #[true, true, true, true, true, true, true, true, true, true] rfl rfl (any_of HT_.out (by kernel_rfl)) (fun _ _ _ h => image_Decode.leaves_put rfl 29 (by decide) _ _ _ _ _ h) (Or.inl ⟨by rfl, fun w => ?_⟩) (a' := ?_) ?_ ?_
  rotate_left 1
  · go_simp; first | done | (with_reducible rfl)
  rotate_left 1
  · first | (simp only [Act.put, List.setIfInBounds_toArray, List.set_cons_zero, List.set_cons_succ, i64_w, i32_w]; rfl) | rfl
  refine done_ (done_of HT_.out (by kernel_rfl)) ?_
  clear HT_ HW_ hHeld
  go_wp2_with fail
  refine (pack_NewReader.calls A9 c9 M M 0 w _ HB.out HC9.out HL9.out HN9.out).mono ?_
  rintro e_ W11 ⟨gr2, rfl, hI_, hb_, hk_⟩
  have n0_ := Aside0.mk (blk_below B2.out hk_)
  have n1_ := Aside0.mk (blk_below B3.out hk_)
  clear B2 B3 HB
  have B2 := n0_; have B3 := n1_; have HB := Aside0.mk hb_; have HI := Aside0.mk hI_
  clear n0_ n1_ hb_ hI_ hk_
  go_wp2_with fail
  refine (image_whole.calls gr2 M w _ HE.out HI.out HB.out F a b L HW9.out).mono ?_
  rintro e_ W12 ⟨hok_, hbad_, hnn_⟩
  have x2_ := HI.out.ne_blk B2.out (by decide)
  have x3_ := HI.out.ne_blk B3.out (by decide)
  obtain ⟨rfl, hb_, hk_⟩ := hbad_ HF.out
  have n0_ := Aside0.mk (hk_.blk B2.out x2_.symm (by simp))
  have n1_ := Aside0.mk (hk_.blk B3.out x3_.symm (by simp))
  clear B2 B3 HB HI x2_ x3_ hok_ hbad_ hk_
  have B2 := n0_; have B3 := n1_; have HB := Aside0.mk hb_
  clear n0_ n1_ hb_
  have he_ := errW_pos (n := F) (by have := HF.out; omega)
  generalize hp_ : Errs.at_ F = p at he_
  rw [he_]
  have HP := Aside0.mk he_
  clear he_ hp_ hnn_
  refine leaves_cons (f := 49) (args := #[.pointer (some ⟨g2, 0, none⟩), .pointer (some ⟨g3, 0, none⟩)]) (by simp) (by simp [go_sem]) ?_
  refine (image_Decode_1.catch_ 155 (.pointer (some p)) g2 g3 w _ HB.out G2.out G3.out B2.out B3.out []).mono ?_
  rintro e u' w'' ⟨rfl, rfl, hc2, hc3, hb⟩
  exact ⟨_, image_Decode.res rfl _ _ g2 g3 _ _ _ _ rfl rfl hc2 hc3, .slice none 0 0, by rw [HP.out], Kd.R_nil _ _ _ _ _, hb⟩
set_option maxHeartbeats 8000000 in
set_option maxRecDepth 100000 in
theorem image_Decode.done [Errs] (A0 : Option Addr) (c0 : Nat) (l0 : List Int) (w : World) (hE : Sent w) (hr0 : Kd.C (Kd.int .u8) w A0 l0.length l0) (hc0 : l0.length ≤ c0) (h1 : 28 ≤ l0.length) (hm : ((strOfNums (l0.take 4)).toList == [84, 73, 48, 49]) = true) (m : Nat) (hm4 : l0.length - 4 = m) (hnr : pack_NewReader.f (l0.drop m) = some (l0.drop m, 0)) (sv : Int) (y : List Int) (e : Int) (hu32 : pack_Reader_U32.f (l0.drop m) 0 = some (sv, y, e)) (cv : Int) (hsum : crc_Sum.f (l0.take m) = some cv) (hnr2 : pack_NewReader.f ((l0.take m).drop 4) = some ((l0.take m).drop 4, 0)) (a b : Int) (L : List S79) (hw : image_whole.r ((l0.take m).drop 4) = some (0, a, b, L)) (heq : (sv != cv) = false) :
    Calls Tryd.prog 27 #[.slice A0 l0.length c0] w fun e w' => ∃ v, e = .returned (.tuple #[.agg #[.int .u64 a, .int .u64 b, v], errW 0]) ∧ Kd.R k79 79 w' w.heap.size (fun _ => True) v L ∧ Below w.heap.size w w' := by
  have HE := Aside0.mk hE
  have hu := Tryd.underlying51
  have hu2 := Tryd.underlying33
  have hu3 := Tryd.underlying37
  have hu9 := Tryd.underlying9
  have hu5 := Tryd.underlying5
  obtain ⟨i5, hi5, hz5_⟩ := Option.map_eq_some_iff.1 info5
  have hs5 : i5.size = 1 := congrArg (fun x => x.2.1) hz5_
  clear hz5_
  have HC := Aside0.mk hr0
  have HL := Aside0.mk hc0
  have HB := Aside0.mk (Below.refl w.heap.size w)
  have H1 := Aside0.mk h1
  have HM := Aside0.mk hm
  have HM4 := Aside0.mk hm4
  have HNR := Aside0.mk hnr
  have HU32 := Aside0.mk hu32
  have HSUM := Aside0.mk hsum
  have HNR2 := Aside0.mk hnr2
  have HW := Aside0.mk hw
  have HEQ := Aside0.mk heq
  clear hE hr0 hc0 h1 hm hm4 hnr hu32 hsum hnr2 hw heq
  have hmf : ∀ (fn : Fn) (first cap : Array Value) (w : World), (Instr.makeFunc fn first cap).run Tryd.prog w = .ok (.func fn first cap) w := fun _ _ _ _ => rfl
  have hlt : ¬ (l0.length : Int) < 28 := by have := H1.out; omega
  go_enter_defers Tryd.func27, Tryd.ntmps27
  go_upto_region 4 with (first | ((with_reducible refine gate_dst (N := 2) rfl ?_); refine bx 2 #[.int .u64 0, .int .u64 0, .slice none 0 0] 51 ?_; intro g2 hg2 W2 hb2 hw2; have B2 := Aside0.mk hb2; have G2 := sz HB hg2; have n0_ := bs HB hw2; clear HB; have HB := n0_; clear n0_ hb2 hw2 hg2) | ((with_reducible refine gate_dst (N := 3) rfl ?_); refine bx 3 #[.nilIface] 37 ?_; intro g3 hg3 W3 hb3 hw3; have B3 := Aside0.mk hb3; have G3 := sz HB hg3; have N23 := nl B2 hg3; have n1_ := bb B2 hw3; have n0_ := bs HB hw3; clear HB B2; have HB := n0_; have B2 := n1_; clear n0_ n1_ hb3 hw3 hg3))
  clear hlt
  have hlen_ : (l0.take 4).length = 4 := by have := H1.out; rw [List.length_take]; omega
  have hcut_ := cut_to 33 5 .i64 hu2 hi5 A0 l0.length c0 4 (by decide) (by have := H1.out; omega) HL.out
  rw [show (4 : Int).toNat = 4 from rfl] at hcut_
  have hcv_ := Kd.C_string (P := Tryd.prog) (A := A0) (c := c0) hu2 hu5 hu9 (Kd.C_take (m := 4) (Kd.C_below HC.out HB.out) (by have := H1.out; omega))
  rw [hlen_] at hcv_
  clear hlen_
  have hsub_ : wrap64 ((l0.length : Int) - 4) = (m : Int) := image_Decode.sub4 H1.out HC.out.2.1 HM4.out
  obtain ⟨st, hst⟩ : ∃ s, strOfNums (l0.take 4) = s := ⟨_, rfl⟩
  have hm_ := HM.out
  rw [hst] at hcv_ hm_
  go_upto_region 7 with fail
  clear hcv_ hcut_ hm_ hst HM
  rw [hsub_]
  clear hsub_
  have hml_ : m ≤ l0.length := by have := HM4.out; omega
  have C7 : Kd.C (Kd.int .u8) w (if c0 = m then A0 else A0.map (·.add (m * 1))) (l0.drop m).length (l0.drop m) := Kd.C_drop (c := c0) HC.out hml_ HL.out
  have S7 := cut_from 33 5 .i64 hu2 hi5 1 hs5 A0 l0.length c0 (m : Int) (by omega) (by omega)
  rw [Int.toNat_natCast, ← List.length_drop (i := m) (l := l0)] at S7
  have C8 : Kd.C (Kd.int .u8) w A0 (l0.take m).length (l0.take m) := Kd.C_take HC.out hml_
  have S8 := cut_to 33 5 .i64 hu2 hi5 A0 l0.length c0 (m : Int) (by omega) (by omega) HL.out
  have hT_ : (l0.take m).length = m := by rw [List.length_take]; omega
  rw [Int.toNat_natCast] at S8
  rw [hT_] at C8
  have hc7_ : (l0.drop m).length ≤ c0 - m := by have := HL.out; rw [List.length_drop]; omega
  have hc8_ : (l0.take m).length ≤ c0 := by have := HL.out; omega
  have HN7 := HNR.out; have HU7 := HU32.out; have HS7 := HSUM.out
  have C9 : Kd.C (Kd.int .u8) w (if c0 = 4 then A0 else A0.map (·.add (4 * 1))) ((l0.take m).drop 4).length ((l0.take m).drop 4) := Kd.C_mid (lo := 4) (hi := m) (c := c0) HC.out (by have := HM4.out; have := H1.out; omega) hml_ HL.out
  have S9 := cut_mid 33 5 .i64 .i64 hu2 hi5 1 hs5 A0 l0.length c0 4 (m : Int) (by decide) (by have := HM4.out; have := H1.out; omega) (by omega) HL.out
  rw [Int.toNat_natCast, show (4 : Int).toNat = 4 from rfl, show m - 4 = ((l0.take m).drop 4).length by rw [List.length_drop, hT_]] at S9
  have hc9_ : ((l0.take m).drop 4).length ≤ c0 - 4 := by have := HL.out; have := HM4.out; rw [List.length_drop, hT_]; omega
  have HN9 := HNR2.out; have HW9 := HW.out
  generalize (l0.take m).drop 4 = M at C9 S9 hc9_ HN9 HW9
  generalize (if c0 = 4 then A0 else A0.map (·.add (4 * 1))) = A9 at C9 S9
  generalize c0 - 4 = c9 at S9 hc9_
  have HC9 := Aside0.mk C9; have HL9 := Aside0.mk hc9_; replace HN9 := Aside0.mk HN9; replace HW9 := Aside0.mk HW9
  clear C9 hc9_
  generalize l0.drop m = D at C7 S7 hc7_ HN7 HU7
  generalize l0.take m = T at C8 hT_ HS7 hc8_
  generalize (if c0 = m then A0 else A0.map (·.add (m * 1))) = A7 at C7 S7
  generalize c0 - m = c7 at S7 hc7_
  subst hT_
  have HC7 := Aside0.mk C7; have HC8 := Aside0.mk C8; have HL7 := Aside0.mk hc7_; have HL8 := Aside0.mk hc8_; have HN7 := Aside0.mk HN7; have HU7 := Aside0.mk HU7; have HS7 := Aside0.mk HS7
  clear C7 C8 hc7_ hc8_ hml_
  have n0_ := Aside0.mk (blk_drew B2.out)
  have n1_ := Aside0.mk (blk_drew B3.out)
  have n2_ := Aside0.mk (below_drew1 HB.out)
  clear B2 B3 HB
  have B2 := n0_; have B3 := n1_; have HB := n2_
  clear n0_ n1_ n2_
  refine start_ (n := 10) (S := fun _ => True) (ds := []) #[false, false, false, false, false, false, false, false, false, false] (by kernel_rfl) rfl rfl trivial (fun hHeld => ?_); refine with_tabW image_Decode.tab7 image_Decode.bits7 (fun HT_ HW_ => ?_)
  generalize W3.drew = W5 at B2 B3 HB hHeld ⊢
  refine pure_ (i := 0) (N := some 20) (v := ?_) #[true, false, false, false, false, false, false, false, false, false] rfl rfl (any_of HT_.out (by kernel_rfl)) (fun _ _ _ h => image_Decode.leaves_put rfl 20 (by decide) _ _ _ _ _ h) (Or.inl ⟨by rfl, fun w => ?_⟩) (a' := ?_) ?_ ?_
  rotate_left 1
  · go_simp; first | done | (with_reducible rfl)
  rotate_left 1
  · first | (simp only [Act.put, List.setIfInBounds_toArray, List.set_cons_zero, List.set_cons_succ, i64_w, i32_w]; rfl) | rfl
  refine pure_ (i := 1) (N := some 21) (v := ?_) #[true, true, false, false, false, false, false, false, false, false] rfl rfl (any_of HT_.out (by kernel_rfl)) (fun _ _ _ h => image_Decode.leaves_put rfl 21 (by decide) _ _ _ _ _ h) (Or.inl ⟨by rfl, fun w => ?_⟩) (a' := ?_) ?_ ?_
  rotate_left 1
  · go_simp; first | done | (with_reducible rfl)
  rotate_left 1
  · first | (simp only [Act.put, List.setIfInBounds_toArray, List.set_cons_zero, List.set_cons_succ, i64_w, i32_w]; rfl) | rfl
  refine pure_ (i := 2) (N := some 22) (v := ?_) #[true, true, true, false, false, false, false, false, false, false] rfl rfl (any_of HT_.out (by kernel_rfl)) (fun _ _ _ h => image_Decode.leaves_put rfl 22 (by decide) _ _ _ _ _ h) (Or.inl ⟨by rfl, fun w => ?_⟩) (a' := ?_) ?_ ?_
  rotate_left 1
  · go_simp; first | done | (with_reducible rfl)
  rotate_left 1
  · first | (simp only [Act.put, List.setIfInBounds_toArray, List.set_cons_zero, List.set_cons_succ, i64_w, i32_w]; rfl) | rfl
  refine pure_ (i := 5) (N := some 25) (v := ?_) #[true, true, true, false, false, true, false, false, false, false] rfl rfl (any_of HT_.out (by kernel_rfl)) (fun _ _ _ h => image_Decode.leaves_put rfl 25 (by decide) _ _ _ _ _ h) (Or.inl ⟨by rfl, fun w => ?_⟩) (a' := ?_) ?_ ?_
  rotate_left 1
  · go_simp; first | done | (with_reducible rfl)
  rotate_left 1
  · first | (simp only [Act.put, List.setIfInBounds_toArray, List.set_cons_zero, List.set_cons_succ, i64_w, i32_w]; rfl) | rfl
  refine pure_ (i := 6) (N := some 26) (v := ?_) #[true, true, true, false, false, true, true, false, false, false] rfl rfl (any_of HT_.out (by kernel_rfl)) (fun _ _ _ h => image_Decode.leaves_put rfl 26 (by decide) _ _ _ _ _ h) (Or.inl ⟨by rfl, fun w => ?_⟩) (a' := ?_) ?_ ?_
  rotate_left 1
  · go_simp; first | done | (with_reducible rfl)
  rotate_left 1
  · first | (simp only [Act.put, List.setIfInBounds_toArray, List.set_cons_zero, List.set_cons_succ, i64_w, i32_w]; rfl) | rfl
  refine pure_ (i := 7) (N := some 27) (v := ?_) #[true, true, true, false, false, true, true, true, false, false] rfl rfl (any_of HT_.out (by kernel_rfl)) (fun _ _ _ h => image_Decode.leaves_put rfl 27 (by decide) _ _ _ _ _ h) (Or.inl ⟨by rfl, fun w => ?_⟩) (a' := ?_) ?_ ?_
  rotate_left 1
  · go_simp; first | done | (with_reducible rfl)
  rotate_left 1
  · first | (simp only [Act.put, List.setIfInBounds_toArray, List.set_cons_zero, List.set_cons_succ, i64_w, i32_w]; rfl) | rfl
  refine one_ (i := 3) (N := some 23) #[true, true, true, true, false, true, true, true, false, false] rfl rfl (one_of HT_.out (by kernel_rfl)) (by decide) (fun K hK => ?_)
  refine ge Tryd.func38 #[.slice A7 D.length c7] ?_
  refine (pack_NewReader.calls A7 c7 D D 0 w _ HB.out HC7.out HL7.out HN7.out).mono ?_
  rintro e_ W8 ⟨gr, rfl, hI_, hb_, hk_⟩
  refine ⟨_, rfl, ?_⟩
  have n0_ := Aside0.mk (blk_below B2.out hk_)
  have n1_ := Aside0.mk (blk_below B3.out hk_)
  clear B2 B3 HB
  have B2 := n0_; have B3 := n1_; have HB := Aside0.mk hb_; have HI := Aside0.mk hI_
  clear n0_ n1_ hb_ hI_ hk_
  refine hK.out _ _ trivial (fun hHeld => ?_)
  clear hK K
  refine norm_ (a' := ?_) ?_ ?_
  rotate_left
  · show Act.put _ (some 23) _ = _
    simp only [Act.put, List.setIfInBounds_toArray, List.set_cons_zero, List.set_cons_succ, i64_w, i32_w]
    rfl
  refine one_ (i := 4) (N := some 24) #[true, true, true, true, true, true, true, true, false, false] rfl rfl (one_of HT_.out (by kernel_rfl)) (by decide) (fun K hK => ?_)
  refine ge Tryd.func50 #[.pointer (some ⟨gr, 0, none⟩)] ?_
  refine (pack_Reader_U32.calls gr D 0 sv y e w _ HE.out HI.out HB.out HU7.out).mono ?_
  rintro e_ W9 ⟨rfl, _, hb_, hk_⟩
  refine ⟨_, rfl, ?_⟩
  have x2_ := HI.out.ne_blk B2.out (by decide)
  have x3_ := HI.out.ne_blk B3.out (by decide)
  have n0_ := Aside0.mk (hk_.blk B2.out x2_.symm (by simp))
  have n1_ := Aside0.mk (hk_.blk B3.out x3_.symm (by simp))
  clear B2 B3 HB HI x2_ x3_
  have B2 := n0_; have B3 := n1_; have HB := Aside0.mk hb_
  clear n0_ n1_ hb_ hk_
  refine hK.out _ _ trivial (fun hHeld => ?_)
  clear hK K
  refine norm_ (a' := ?_) ?_ ?_
  rotate_left
  · show Act.put _ (some 24) _ = _
    simp only [Act.put, List.setIfInBounds_toArray, List.set_cons_zero, List.set_cons_succ, i64_w, i32_w]
    rfl
  refine one_ (i := 8) (N := some 28) #[true, true, true, true, true, true, true, true, true, false] rfl rfl (one_of HT_.out (by kernel_rfl)) (by decide) (fun K hK => ?_)
  refine ge Tryd.func47 #[.slice A0 T.length c0] ?_
  refine (crc_Sum.calls A0 c0 T cv _ (HE.out.below HB.out) (Kd.C_below HC8.out HB.out) HL8.out HS7.out).mono ?_
  rintro e_ W10 ⟨rfl, hk_⟩
  refine ⟨_, rfl, ?_⟩
  have n0_ := Aside0.mk (blk_below B2.out hk_)
  have n1_ := Aside0.mk (blk_below B3.out hk_)
  have n2_ := Aside0.mk (below_step HB.out hk_)
  clear B2 B3 HB
  have B2 := n0_; have B3 := n1_; have HB := n2_
  clear n0_ n1_ n2_ hk_
  refine hK.out _ _ trivial (fun hHeld => ?_)
  clear hK K
  refine norm_ (a' := ?_) ?_ ?_
  rotate_left
  · show Act.put _ (some 28) _ = _
    simp only [Act.put, List.setIfInBounds_toArray, List.set_cons_zero, List.set_cons_succ, i64_w, i32_w]
    rfl
  have heq_ := HEQ.out
  refine pure_ (i := 9) (N := some 29) (v := ?_) #[true, true, true, true, true, true, true, true, true, true] rfl rfl (any_of HT_.out (by kernel_rfl)) (fun _ _ _ h => image_Decode.leaves_put rfl 29 (by decide) _ _ _ _ _ h) (Or.inl ⟨by rfl, fun w => ?_⟩) (a' := ?_) ?_ ?_
  rotate_left 1
  · go_simp; first | done | (with_reducible rfl)
  rotate_left 1
  · first | (simp only [Act.put, List.setIfInBounds_toArray, List.set_cons_zero, List.set_cons_succ, i64_w, i32_w]; rfl) | rfl
  refine done_ (done_of HT_.out (by kernel_rfl)) ?_
  clear HT_ HW_ hHeld
  go_wp2_with fail
  refine (pack_NewReader.calls A9 c9 M M 0 w _ HB.out HC9.out HL9.out HN9.out).mono ?_
  rintro e_ W11 ⟨gr2, rfl, hI_, hb_, hk_⟩
  have n0_ := Aside0.mk (blk_below B2.out hk_)
  have n1_ := Aside0.mk (blk_below B3.out hk_)
  clear B2 B3 HB
  have B2 := n0_; have B3 := n1_; have HB := Aside0.mk hb_; have HI := Aside0.mk hI_
  clear n0_ n1_ hb_ hI_ hk_
  go_wp2_with fail
  refine (image_whole.calls gr2 M w _ HE.out HI.out HB.out 0 a b L HW9.out).mono ?_
  rintro e_ W12 ⟨hok_, hbad_, hnn_⟩
  have x2_ := HI.out.ne_blk B2.out (by decide)
  have x3_ := HI.out.ne_blk B3.out (by decide)
  obtain ⟨v, rfl, hR_, hb_, hk_⟩ := hok_ rfl
  have n0_ := Aside0.mk (hk_.blk B2.out x2_.symm (by simp))
  have n1_ := Aside0.mk (hk_.blk B3.out x3_.symm (by simp))
  have HR := Aside0.mk (Kd.R_lower hR_ (below_size HB.out))
  clear B2 B3 HB HI x2_ x3_ hok_ hbad_ hk_ hR_
  have B2 := n0_; have B3 := n1_; have HB := Aside0.mk hb_
  clear n0_ n1_ hb_ hnn_
  obtain ⟨AL, cL, ev_⟩ := Kd.R_slice HR.out
  subst ev_
  obtain ⟨p0, p1, p2, q0, q1, q2⟩ := bc3 B2
  obtain ⟨r0, s0⟩ := bc1 B3
  have nn1 := N23.out; have nn2 := N23.out.symm
  go_wp2
  refine leaves_cons (f := 49) (args := #[.pointer (some ⟨g2, 0, none⟩), .pointer (some ⟨g3, 0, none⟩)]) (by simp) (by simp [go_sem]) ?_
  refine (image_Decode_1.idle ⟨g2, 0, none⟩ ⟨g3, 0, none⟩ _).mono ?_
  rintro e u' w'' ⟨rfl, rfl, rfl⟩
  have r2_ := Kd.R_types (Kd.R_types HR.out B2.out (by decide)) B3.out (by decide)
  exact ⟨_, image_Decode.res rfl _ _ g2 g3 _ _ _ _ rfl rfl (blk_far (blk_put (blk_put (blk_put B2.out 0 _ rfl) 1 _ rfl) 2 _ rfl) N23.out _) (blk_put (blk_far (blk_far (blk_far B3.out N23.out.symm _) N23.out.symm _) N23.out.symm _) 0 _ rfl), .slice AL L.length cL, rfl, Kd.R_mono (Kd.R_far (p := ⟨g3, 0, none⟩) (Kd.R_far (p := ⟨g2, 2, none⟩) (Kd.R_far (p := ⟨g2, 1, none⟩) (Kd.R_far (p := ⟨g2, 0, none⟩) r2_ (fun _ hk => hk.1.2) _) (fun _ hk => hk.1.2) _) (fun _ hk => hk.1.2) _) (fun _ hk => hk.2) _) (fun _ _ => trivial), below_set (below_set (below_set (below_set HB.out G2.out) G2.out) G2.out) G3.out⟩
def image_Decode.f (l0 : List Int) : Option (Int × Int × List S79 × Int) :=
  if l0.length ≤ 140737488355328 ∧ l0.all (fun x => decide (0 ≤ x) && decide (x < 256)) = true then
    if l0.length < 28 then some (0, 0, [], 2)
    else if ((strOfNums (l0.take 4)).toList == [84, 73, 48, 49]) = false then some (0, 0, [], 3)
    else (crc_Sum.f (l0.take (l0.length - 4))).bind fun cv =>
      if (le (pk_take (l0.drop (l0.length - 4)) 0 4).1 != cv) = true then some (0, 0, [], 6)
      else (image_whole.r ((l0.take (l0.length - 4)).drop 4)).bind fun t => if t.1 = 0 then some (t.2.1, t.2.2.1, t.2.2.2, 0) else some (0, 0, [], t.1)
  else none
theorem image_Decode.nr {xs : List Int} (hl : xs.length ≤ 140737488355328) (ha : ∀ x ∈ xs, 0 ≤ x ∧ x < 256) : pack_NewReader.f xs = some (xs, 0) := by
  unfold pack_NewReader.f
  rw [if_pos hl, if_pos (List.all_eq_true.2 (fun x hx => by have := ha x hx; simp; omega))]
theorem image_Decode.calls [Errs] (A0 : Option Addr) (c0 : Nat) (l0 : List Int) (r1 r2 : Int) (r3 : List S79) (r4 : Int) (w : World) (hE : Sent w) (hr0 : Kd.C (Kd.int .u8) w A0 l0.length l0) (hc0 : l0.length ≤ c0) (h : image_Decode.f l0 = some (r1, r2, r3, r4)) :
    Calls Tryd.prog 27 #[.slice A0 l0.length c0] w fun e w' => ∃ v, e = .returned (.tuple #[.agg #[.int .u64 r1, .int .u64 r2, v], errW r4]) ∧ Kd.R k79 79 w' w.heap.size (fun _ => True) v r3 ∧ Below w.heap.size w w' := by
  unfold image_Decode.f at h
  split at h
  rotate_left
  · cases h
  rename_i hh
  obtain ⟨hl, ha⟩ := hh
  have hx : ∀ x ∈ l0, 0 ≤ x ∧ x < 256 := fun x hx => by
    have := List.all_eq_true.1 ha x hx
    simpa using this
  by_cases h1 : l0.length < 28
  · rw [if_pos h1] at h
    simp only [Option.some.injEq, Prod.mk.injEq] at h
    obtain ⟨rfl, rfl, rfl, rfl⟩ := h
    exact image_Decode.short A0 c0 l0 w hE hr0 hc0 h1
  rw [if_neg h1] at h
  have h28 : 28 ≤ l0.length := by omega
  cases hm : ((strOfNums (l0.take 4)).toList == [84, 73, 48, 49]) with
  | false =>
    rw [if_pos hm] at h
    simp only [Option.some.injEq, Prod.mk.injEq] at h
    obtain ⟨rfl, rfl, rfl, rfl⟩ := h
    exact image_Decode.magic A0 c0 l0 w hE hr0 hc0 h28 hm
  | true =>
    rw [if_neg (by rw [hm]; decide)] at h
    have hd : pack_NewReader.f (l0.drop (l0.length - 4)) = some (l0.drop (l0.length - 4), 0) := image_Decode.nr (by rw [List.length_drop]; omega) (fun x h => hx x (List.mem_of_mem_drop h))
    have hd2 : pack_NewReader.f ((l0.take (l0.length - 4)).drop 4) = some ((l0.take (l0.length - 4)).drop 4, 0) := image_Decode.nr (by rw [List.length_drop, List.length_take]; omega) (fun x h => hx x (List.mem_of_mem_take (List.mem_of_mem_drop h)))
    have hu : pack_Reader_U32.f (l0.drop (l0.length - 4)) 0 = some (le (pk_take (l0.drop (l0.length - 4)) 0 4).1, (pk_take (l0.drop (l0.length - 4)) 0 4).2.2.1, (pk_take (l0.drop (l0.length - 4)) 0 4).2.2.2) := by unfold pack_Reader_U32.f; rw [if_pos (by decide)]
    cases hs : crc_Sum.f (l0.take (l0.length - 4)) with
    | none => rw [hs] at h; cases h
    | some cv =>
      rw [hs, Option.bind_some] at h
      cases hq : (le (pk_take (l0.drop (l0.length - 4)) 0 4).1 != cv) with
      | true =>
        rw [if_pos hq] at h
        simp only [Option.some.injEq, Prod.mk.injEq] at h
        obtain ⟨rfl, rfl, rfl, rfl⟩ := h
        exact image_Decode.sum_ A0 c0 l0 w hE hr0 hc0 h28 hm _ rfl hd _ _ _ hu cv hs hq
      | false =>
        rw [if_neg (by rw [hq]; decide)] at h
        cases hw : image_whole.r ((l0.take (l0.length - 4)).drop 4) with
        | none => rw [hw] at h; cases h
        | some t =>
          obtain ⟨F, a, b, L⟩ := t
          rw [hw, Option.bind_some] at h
          dsimp only at h
          by_cases hF : F = 0
          · subst hF
            rw [if_pos rfl] at h
            simp only [Option.some.injEq, Prod.mk.injEq] at h
            obtain ⟨rfl, rfl, rfl, rfl⟩ := h
            exact image_Decode.done A0 c0 l0 w hE hr0 hc0 h28 hm _ rfl hd _ _ _ hu cv hs hd2 _ _ _ hw hq
          · rw [if_neg hF] at h
            simp only [Option.some.injEq, Prod.mk.injEq] at h
            obtain ⟨rfl, rfl, rfl, rfl⟩ := h
            exact image_Decode.fault_ A0 c0 l0 w hE hr0 hc0 h28 hm _ rfl hd _ _ _ hu cv hs hd2 _ _ _ _ hw hq hF
end Go.Proofs.YtkgjepmminmjjaaDoor.E
