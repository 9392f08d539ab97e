/- Written by the session's own program hyb.py: what functions of the program compute; Lean checks it. -/
import Derived.Test.YtkgjepmminmjjaaDoorEx0
import Derived.Test.YtkgjepmminmjjaaDoorEx18
import Derived.Test.YtkgjepmminmjjaaDoorWErr
namespace Go.Proofs.YtkgjepmminmjjaaDoor.E
open Go.RowKit Go.Proofs.YtkgjepmminmjjaaDoorW.PrintWords Go.Proofs.YtkgjepmminmjjaaDoorW.PrintLast Go.Proofs.YtkgjepmminmjjaaDoorW.PrintMore Go.Proofs.YtkgjepmminmjjaaDoorW.PrintShort
attribute [local go_sem] run_Add64 run_Sub64
attribute [local go_sem] max2_int min2_int max_two min_two max_three min_three max_four min_four   -- for this text's walks alone
set_option linter.unusedVariables false
set_option linter.unusedSimpArgs false

/-! ### pack_Reader_U32: function 50 -/
def pack_Reader_U32.f (s0_0 : List Int) (s0_1 : Int) : Option (Int × List Int × Int) := if 0 ≤ s0_1 then some (le (pk_take s0_0 s0_1 4).1, (pk_take s0_0 s0_1 4).2.2.1, (pk_take s0_0 s0_1 4).2.2.2) else none
theorem pack_Reader_U32.range {bs : List Int} (h : 0 ≤ le bs ∧ le bs < 256 ^ bs.length) (hl : bs.length = 0 ∨ bs.length = 4) : IntKind.u32.wrap (le bs) = le bs := by
  obtain ⟨h1, h2⟩ := h
  have h3 : le bs < 4294967296 := by rcases hl with h8 | h8 <;> rw [h8] at h2 <;> omega
  rw [IntKind.wrap_u32]
  omega
theorem pack_Reader_U32.len {f0 : List Int} {f1 : Int} : (pk_take f0 f1 4).1.length = 0 ∨ (pk_take f0 f1 4).1.length = 4 := by
  unfold pk_take
  split
  · split
    · left; rfl
    · right
      simp only [List.length_take]
      omega
  · left; rfl
set_option maxHeartbeats 1600000 in
set_option maxRecDepth 100000 in
theorem pack_Reader_U32.calls [Errs] (g : Nat) (s0_0 : List Int) (s0_1 : Int) (r1 : Int) (r2 : List Int) (r3 : Int) (w0 w : World) (hE : Sent w0) (hI : IsS114 w0 w g s0_0 s0_1) (hB : Below w0.heap.size w0 w) (h : pack_Reader_U32.f s0_0 s0_1 = some (r1, r2, r3)) :
    Calls Tryd.prog 50 #[.pointer (some ⟨g, 0, none⟩)] w fun e w' => e = .returned (.int .u32 r1) ∧ IsS114 w0 w' g r2 r3 ∧ Below w0.heap.size w0 w' ∧ KeepBut w w' g none := by
  have hx : ∀ x ∈ s0_0, 0 ≤ x ∧ x < 256 := by obtain ⟨v, _, _, _, hx⟩ := hI; exact hx
  unfold pack_Reader_U32.f at h
  by_cases h0 : 0 ≤ s0_1
  rotate_left
  · rw [if_neg h0] at h
    cases h
  rw [if_pos h0] at h
  simp only [Option.some.injEq, Prod.mk.injEq] at h
  obtain ⟨rfl, rfl, rfl⟩ := h
  have T := pk_number.calls g s0_0 s0_1 4 w0 w hE hI hB h0 (by decide)
  rw [show ((4 : Nat) : Int) = 4 from rfl] at T
  have hw := pack_Reader_U32.range (le_range _ (pk_take_range (f1 := s0_1) (n := 4) hx)) pack_Reader_U32.len
  generalize pk_take s0_0 s0_1 4 = t at *
  have hu := Tryd.underlying71
  clear hx hE hI hB h0
  go_enter Tryd.func50, Tryd.ntmps50
  go_wp2_with (first | (go_at_call 62; refine T.mono ?_; rintro e w1 ⟨rfl, hI1, hB1, hK1⟩))
  go_ret
  exact ⟨by first | rfl | rw [← hw] | (rw [hw]), hI1, hB1, hK1⟩

/-! ### pack_Reader_Err: function 40 -/
def pack_Reader_Err.f (s0_0 : List Int) (s0_1 : Int) : Option (Int × List Int × Int) := some (s0_1, s0_0, s0_1)
set_option maxHeartbeats 1600000 in
set_option maxRecDepth 100000 in
theorem pack_Reader_Err.calls [Errs] (g : Nat) (s0_0 : List Int) (s0_1 : Int) (r1 : Int) (r2 : List Int) (r3 : Int) (w0 w : World) (hE : Sent w0) (hI : IsS114 w0 w g s0_0 s0_1) (hB : Below w0.heap.size w0 w) (h : pack_Reader_Err.f s0_0 s0_1 = some (r1, r2, r3)) :
    Calls Tryd.prog 40 #[.pointer (some ⟨g, 0, none⟩)] w fun e w' => e = .returned (errW r1) ∧ IsS114 w0 w' g r2 r3 ∧ Below w0.heap.size w0 w' ∧ KeepBut w w' g none := by
  simp only [pack_Reader_Err.f, Option.some.injEq, Prod.mk.injEq] at h
  obtain ⟨rfl, rfl, rfl⟩ := h
  have hI0 := Aside0.mk hI
  obtain ⟨v, hb, hg, hq, hx⟩ := hI
  have hc1 : w.cell? ⟨g, 1, none⟩ = some (errW s0_1) := (blk_cell hb 1).trans rfl
  have hu := Tryd.underlying71
  clear hE hb hg hq hx
  go_enter Tryd.func40, Tryd.ntmps40
  go_wp2
  go_ret
  exact ⟨rfl, hI0.out, hB, KeepBut.refl _ _ _⟩

/-! ### pack_Reader_U64: function 41 -/
def pack_Reader_U64.f (s0_0 : List Int) (s0_1 : Int) : Option (Int × List Int × Int) := if 0 ≤ s0_1 then some (le (pk_take s0_0 s0_1 8).1, (pk_take s0_0 s0_1 8).2.2.1, (pk_take s0_0 s0_1 8).2.2.2) else none
set_option maxHeartbeats 1600000 in
set_option maxRecDepth 100000 in
theorem pack_Reader_U64.calls [Errs] (g : Nat) (s0_0 : List Int) (s0_1 : Int) (r1 : Int) (r2 : List Int) (r3 : Int) (w0 w : World) (hE : Sent w0) (hI : IsS114 w0 w g s0_0 s0_1) (hB : Below w0.heap.size w0 w) (h : pack_Reader_U64.f s0_0 s0_1 = some (r1, r2, r3)) :
    Calls Tryd.prog 41 #[.pointer (some ⟨g, 0, none⟩)] w fun e w' => e = .returned (.int .u64 r1) ∧ IsS114 w0 w' g r2 r3 ∧ Below w0.heap.size w0 w' ∧ KeepBut w w' g none := by
  unfold pack_Reader_U64.f at h
  by_cases h0 : 0 ≤ s0_1
  rotate_left
  · rw [if_neg h0] at h
    cases h
  rw [if_pos h0] at h
  simp only [Option.some.injEq, Prod.mk.injEq] at h
  obtain ⟨rfl, rfl, rfl⟩ := h
  have T := pk_number.calls g s0_0 s0_1 8 w0 w hE hI hB h0 (by decide)
  rw [show ((8 : Nat) : Int) = 8 from rfl] at T
  generalize pk_take s0_0 s0_1 8 = t at *
  have hu := Tryd.underlying71
  clear hE hI hB h0
  go_enter Tryd.func41, Tryd.ntmps41
  go_wp2_with (first | (go_at_call 62; refine T.mono ?_; rintro e w1 ⟨rfl, hI1, hB1, hK1⟩))
  go_ret
  exact ⟨rfl, hI1, hB1, hK1⟩

/-! ### pack_Reader_U8: function 39 -/
def pack_Reader_U8.f (s0_0 : List Int) (s0_1 : Int) : Option (Int × List Int × Int) := if 0 ≤ s0_1 then some (le (pk_take s0_0 s0_1 1).1, (pk_take s0_0 s0_1 1).2.2.1, (pk_take s0_0 s0_1 1).2.2.2) else none
set_option maxHeartbeats 1600000 in
set_option maxRecDepth 100000 in
theorem pack_Reader_U8.calls [Errs] (g : Nat) (s0_0 : List Int) (s0_1 : Int) (r1 : Int) (r2 : List Int) (r3 : Int) (w0 w : World) (hE : Sent w0) (hI : IsS114 w0 w g s0_0 s0_1) (hB : Below w0.heap.size w0 w) (h : pack_Reader_U8.f s0_0 s0_1 = some (r1, r2, r3)) :
    Calls Tryd.prog 39 #[.pointer (some ⟨g, 0, none⟩)] w fun e w' => e = .returned (.int .u8 r1) ∧ IsS114 w0 w' g r2 r3 ∧ Below w0.heap.size w0 w' ∧ KeepBut w w' g none := by
  have hx : ∀ x ∈ s0_0, 0 ≤ x ∧ x < 256 := by obtain ⟨v, _, _, _, hx⟩ := hI; exact hx
  unfold pack_Reader_U8.f at h
  by_cases h0 : 0 ≤ s0_1
  rotate_left
  · rw [if_neg h0] at h
    cases h
  rw [if_pos h0] at h
  simp only [Option.some.injEq, Prod.mk.injEq] at h
  obtain ⟨rfl, rfl, rfl⟩ := h
  have T := pk_number.calls g s0_0 s0_1 1 w0 w hE hI hB h0 (by decide)
  rw [show ((1 : Nat) : Int) = 1 from rfl] at T
  have hl := pk_take_len (f0 := s0_0) (f1 := s0_1) (n := 1)
  obtain ⟨h1, h2⟩ := le_range _ (pk_take_range (f1 := s0_1) (n := 1) hx)
  generalize pk_take s0_0 s0_1 1 = t at *
  have h3 : le t.1 < 256 := by
    have h8 : t.1.length = 0 ∨ t.1.length = 1 := by omega
    rcases h8 with h8 | h8 <;> rw [h8] at h2 <;> omega
  have hu := Tryd.underlying71
  clear hx hl h2 hE hI hB h0
  go_enter Tryd.func39, Tryd.ntmps39
  go_wp2_with (first | (go_at_call 62; refine T.mono ?_; rintro e w1 ⟨rfl, hI1, hB1, hK1⟩))
  go_ret
  exact ⟨rfl, hI1, hB1, hK1⟩

/-! ### pack_Reader_Text: function 42 -/
def pack_Reader_Text.f (s0_0 : List Int) (s0_1 : Int) : Option (ByteArray × List Int × Int) := if 0 ≤ s0_1 then some ((pk_text s0_0 s0_1).1, (pk_text s0_0 s0_1).2.1, (pk_text s0_0 s0_1).2.2) else none
set_option maxHeartbeats 1600000 in
set_option maxRecDepth 100000 in
theorem pack_Reader_Text.calls [Errs] (g : Nat) (s0_0 : List Int) (s0_1 : Int) (r1 : ByteArray) (r2 : List Int) (r3 : Int) (w0 w : World) (hE : Sent w0) (hI : IsS114 w0 w g s0_0 s0_1) (hB : Below w0.heap.size w0 w) (h : pack_Reader_Text.f s0_0 s0_1 = some (r1, r2, r3)) :
    Calls Tryd.prog 42 #[.pointer (some ⟨g, 0, none⟩)] w fun e w' => e = .returned (.string r1) ∧ IsS114 w0 w' g r2 r3 ∧ Below w0.heap.size w0 w' ∧ KeepBut w w' g none := by
  unfold pack_Reader_Text.f at h
  by_cases h0 : 0 ≤ s0_1
  rotate_left
  · rw [if_neg h0] at h
    cases h
  rw [if_pos h0] at h
  simp only [Option.some.injEq, Prod.mk.injEq] at h
  obtain ⟨rfl, rfl, rfl⟩ := h
  have T := pk_text.calls g s0_0 s0_1 w0 w hE hI hB h0
  generalize pk_text s0_0 s0_1 = t at *
  have hu := Tryd.underlying71
  clear hE hI hB h0
  go_enter Tryd.func42, Tryd.ntmps42
  go_wp2_with (first | (go_at_call 63; refine T.mono ?_; rintro e w1 ⟨rfl, hI1, hB1, hK1⟩))
  go_ret
  exact ⟨rfl, hI1, hB1, hK1⟩

end Go.Proofs.YtkgjepmminmjjaaDoor.E
