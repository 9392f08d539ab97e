/- Written by the session's own program hyb.py: what functions of the program compute; Lean checks it. -/
import Derived.Test.YtkgjepmminmjjaaDoorEx0
import Derived.Test.YtkgjepmminmjjaaDoorEx18
import Derived.Test.YtkgjepmminmjjaaDoorWErr
namespace Go.Proofs.YtkgjepmminmjjaaDoor.E
open Go.RowKit Go.Proofs.YtkgjepmminmjjaaDoorW.PrintWords Go.Proofs.YtkgjepmminmjjaaDoorW.PrintLast Go.Proofs.YtkgjepmminmjjaaDoorW.PrintMore Go.Proofs.YtkgjepmminmjjaaDoorW.PrintShort
attribute [local go_sem] run_Add64 run_Sub64
attribute [local go_sem] max2_int min2_int max_two min_two max_three min_three max_four min_four   -- for this text's walks alone
set_option linter.unusedVariables false
set_option linter.unusedSimpArgs false

/-! ### pack_Reader_Text: function 42 -/
def pack_Reader_Text.f (s0_0 : List Int) (s0_1 : Int) : Option (ByteArray × List Int × Int) := if 0 ≤ s0_1 then some ((pk_text s0_0 s0_1).1, (pk_text s0_0 s0_1).2.1, (pk_text s0_0 s0_1).2.2) else none
set_option maxHeartbeats 1600000 in
set_option maxRecDepth 100000 in
theorem pack_Reader_Text.calls [Errs] (g : Nat) (s0_0 : List Int) (s0_1 : Int) (r1 : ByteArray) (r2 : List Int) (r3 : Int) (w0 w : World) (hE : Sent w0) (hI : IsS114 w0 w g s0_0 s0_1) (hB : Below w0.heap.size w0 w) (h : pack_Reader_Text.f s0_0 s0_1 = some (r1, r2, r3)) :
    Calls Tryd.prog 42 #[.pointer (some ⟨g, 0, none⟩)] w fun e w' => e = .returned (.string r1) ∧ IsS114 w0 w' g r2 r3 ∧ Below w0.heap.size w0 w' ∧ KeepBut w w' g none := by
  unfold pack_Reader_Text.f at h
  by_cases h0 : 0 ≤ s0_1
  rotate_left
  · rw [if_neg h0] at h
    cases h
  rw [if_pos h0] at h
  simp only [Option.some.injEq, Prod.mk.injEq] at h
  obtain ⟨rfl, rfl, rfl⟩ := h
  have T := pk_text.calls g s0_0 s0_1 w0 w hE hI hB h0
  generalize pk_text s0_0 s0_1 = t at *
  have hu := Tryd.underlying71
  clear hE hI hB h0
  go_enter Tryd.func42, Tryd.ntmps42
  go_wp2_with (first | (go_at_call 63; refine T.mono ?_; rintro e w1 ⟨rfl, hI1, hB1, hK1⟩))
  go_ret
  exact ⟨rfl, hI1, hB1, hK1⟩

/-! ### pack_Reader_Left: function 43 -/
def pack_Reader_Left.f (s0_0 : List Int) (s0_1 : Int) : Option (Int × List Int × Int) := some ((s0_0.length : Int), s0_0, s0_1)
set_option maxHeartbeats 1600000 in
set_option maxRecDepth 100000 in
theorem pack_Reader_Left.calls [Errs] (g : Nat) (s0_0 : List Int) (s0_1 : Int) (r1 : Int) (r2 : List Int) (r3 : Int) (w0 w : World) (hE : Sent w0) (hI : IsS114 w0 w g s0_0 s0_1) (hB : Below w0.heap.size w0 w) (h : pack_Reader_Left.f s0_0 s0_1 = some (r1, r2, r3)) :
    Calls Tryd.prog 43 #[.pointer (some ⟨g, 0, none⟩)] w fun e w' => e = .returned (.int .i64 r1) ∧ IsS114 w0 w' g r2 r3 ∧ Below w0.heap.size w0 w' ∧ KeepBut w w' g none := by
  simp only [pack_Reader_Left.f, Option.some.injEq, Prod.mk.injEq] at h
  obtain ⟨rfl, rfl, rfl⟩ := h
  have hI0 := Aside0.mk hI
  obtain ⟨v, hb, hg, hq, hx⟩ := hI
  obtain ⟨A, c, rfl, hl, hC⟩ := Kd.Q_reads hq
  have hc0 : w.cell? ⟨g, 0, none⟩ = some (.slice A s0_0.length c) := (blk_cell hb 0).trans rfl
  have hu := Tryd.underlying71
  clear hE hb hg hq hx hC
  go_enter Tryd.func43, Tryd.ntmps43
  go_wp2
  go_ret
  exact ⟨rfl, hI0.out, hB, KeepBut.refl _ _ _⟩

end Go.Proofs.YtkgjepmminmjjaaDoor.E
