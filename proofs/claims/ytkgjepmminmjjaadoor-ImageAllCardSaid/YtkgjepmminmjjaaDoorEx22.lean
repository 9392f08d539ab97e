/- Written by the session's own program hyb.py: what functions of the program compute; Lean checks it. -/
import Derived.Test.YtkgjepmminmjjaaDoorEx0
import Derived.Test.YtkgjepmminmjjaaDoorEx18
import Derived.Test.YtkgjepmminmjjaaDoorEx20
import Derived.Test.YtkgjepmminmjjaaDoorWErr
namespace Go.Proofs.YtkgjepmminmjjaaDoor.E
open Go.RowKit Go.Proofs.YtkgjepmminmjjaaDoorW.PrintWords Go.Proofs.YtkgjepmminmjjaaDoorW.PrintLast Go.Proofs.YtkgjepmminmjjaaDoorW.PrintMore Go.Proofs.YtkgjepmminmjjaaDoorW.PrintShort
attribute [local go_sem] run_Add64 run_Sub64
attribute [local go_sem] max2_int min2_int max_two min_two max_three min_three max_four min_four   -- for this text's walks alone
set_option linter.unusedVariables false
set_option linter.unusedSimpArgs false

/-! ### pack_Reader_End: function 70 -/
def pack_Reader_End.f (s0_0 : List Int) (s0_1 : Int) : Option (Int × List Int × Int) := if 0 ≤ s0_1 then some (if s0_1 = 0 then (if 0 < s0_0.length then 3 else 0) else s0_1, s0_0, s0_1) else none
set_option maxHeartbeats 1600000 in
set_option maxRecDepth 100000 in
theorem pack_Reader_End.calls [Errs] (g : Nat) (s0_0 : List Int) (s0_1 : Int) (r1 : Int) (r2 : List Int) (r3 : Int) (w0 w : World) (hE : Sent w0) (hI : IsS114 w0 w g s0_0 s0_1) (hB : Below w0.heap.size w0 w) (h : pack_Reader_End.f s0_0 s0_1 = some (r1, r2, r3)) :
    Calls Tryd.prog 70 #[.pointer (some ⟨g, 0, none⟩)] w fun e w' => e = .returned (errW r1) ∧ IsS114 w0 w' g r2 r3 ∧ Below w0.heap.size w0 w' ∧ KeepBut w w' g none := by
  unfold pack_Reader_End.f at h
  by_cases h0 : 0 ≤ s0_1
  rotate_left
  · rw [if_neg h0] at h
    cases h
  rw [if_pos h0] at h
  simp only [Option.some.injEq, Prod.mk.injEq] at h
  obtain ⟨rfl, rfl, rfl⟩ := h
  have T := pack_Reader_Err.calls g s0_0 s0_1 s0_1 s0_0 s0_1 w0 w hE hI hB rfl
  have HE := Aside0.mk hE
  have H0 := Aside0.mk h0
  have hu := Tryd.underlying71
  have hu2 := Tryd.underlying33
  clear hE hI hB h0
  by_cases hz : s0_1 = 0
  · subst hz
    rw [if_pos rfl]
    by_cases hp : 0 < s0_0.length
    · rw [if_pos hp]
      have hp2 : (0 : Int) < (s0_0.length : Int) := by omega
      go_enter Tryd.func70, Tryd.ntmps70
      go_wp2_with (first | (go_at_call 40; refine T.mono ?_; rintro e w1 ⟨rfl, hI1, hB1, hK1⟩; have HI1 := Aside0.mk hI1; have HB1 := Aside0.mk hB1; have HK1 := Aside0.mk hK1; obtain ⟨v_, hb_, hg_, hq_, hx_⟩ := hI1; obtain ⟨A_, c_, rfl, hl_, hC_⟩ := Kd.Q_reads hq_; have hc0 : w1.cell? ⟨g, 0, none⟩ = some (.slice A_ s0_0.length c_) := (blk_cell hb_ 0).trans rfl; clear hb_ hg_ hq_ hx_ hl_ hC_ hB1 hK1) | ((with_reducible refine gate_dst (N := 7) rfl ?_); refine nen_err 0 (b := false) ?_ rfl (by decide)) | ((with_reducible refine gate_dst (N := 16) rfl ?_); refine ld_err 3 2 (HE.out.below HB1.out) ?_ rfl rfl (by decide) (by have := Errs.five; omega) rfl))
      go_ret
      exact ⟨rfl, HI1.out, HB1.out, HK1.out⟩
    · rw [if_neg hp]
      have hp2 : ¬ (0 : Int) < (s0_0.length : Int) := by omega
      go_enter Tryd.func70, Tryd.ntmps70
      go_wp2_with (first | (go_at_call 40; refine T.mono ?_; rintro e w1 ⟨rfl, hI1, hB1, hK1⟩; have HI1 := Aside0.mk hI1; have HB1 := Aside0.mk hB1; have HK1 := Aside0.mk hK1; obtain ⟨v_, hb_, hg_, hq_, hx_⟩ := hI1; obtain ⟨A_, c_, rfl, hl_, hC_⟩ := Kd.Q_reads hq_; have hc0 : w1.cell? ⟨g, 0, none⟩ = some (.slice A_ s0_0.length c_) := (blk_cell hb_ 0).trans rfl; clear hb_ hg_ hq_ hx_ hl_ hC_ hB1 hK1) | ((with_reducible refine gate_dst (N := 7) rfl ?_); refine nen_err 0 (b := false) ?_ rfl (by decide)))
      go_ret
      exact ⟨rfl, HI1.out, HB1.out, HK1.out⟩
  · rw [if_neg hz]
    have hb : (s0_1 != 0) = true := by simpa using hz
    go_enter Tryd.func70, Tryd.ntmps70
    go_wp2_with (first | (go_at_call 40; refine T.mono ?_; rintro e w1 ⟨rfl, hI1, hB1, hK1⟩) | ((with_reducible refine gate_dst (N := 7) rfl ?_); refine nen_err s0_1 (b := true) ?_ (by simpa using hz) H0.out))
    go_ret
    exact ⟨rfl, hI1, hB1, hK1⟩

end Go.Proofs.YtkgjepmminmjjaaDoor.E
