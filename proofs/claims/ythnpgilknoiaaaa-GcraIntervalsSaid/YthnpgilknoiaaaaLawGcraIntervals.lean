/- GcraIntervals: for every input that can be read the call returns true, and its arguments read as before; no condition. -/
import Derived.Test.YthnpgilknoiaaaaRows
import Derived.Test.YthnpgilknoiaaaaPureGcraIntervals
import Derived.WalkKit
import Derived.ProofKit
import Derived.OpenShut
import Derived.ShutString
import Derived.ChangeOld
import Derived.Below
import Derived.SizedLaws
namespace Go.Proofs.Ythnpgilknoiaaaa.gcraIntervals
open Go.ChangeShapes Go.WideShapes Go.ChangeAt Go.RowKit Go.Proofs.YthnpgilknoiaaaaW.PrintWords Go.Proofs.YthnpgilknoiaaaaW.PrintOpen Go.Proofs.Ythnpgilknoiaaaa.Q
open Go.ChangeMaps (open_string shut_string)
set_option linter.unusedVariables false
theorem own : ownKnob Try.prog.godebug = none := by kernel_rfl
theorem laidOut : laidOutB Try.prog = true := by kernel_rfl
set_option maxRecDepth 100000 in
set_option maxHeartbeats 1600000 in
theorem lifted (os : Os) (started : os.Started) (H : Type) (enc : TypeId × Value → H) :
    ReturnsInHanded {} Try.checked os 14 .any (Rows.gcraIntervalsSpec.pre6 enc Try.prog Try.f14 Rows.gcraIntervalsRow.domain false) (Rows.gcraIntervalsSpec.post enc Try.prog Try.f14 false true false false) := by
  refine returnsInHanded_of_change_sized (C := Try.checked) own started (by kernel_rfl) Try.func14
    (ChangeSpec.witness6 (enc := enc) (C := Try.checked) false ⟨#[], #[.int .u64 0, .int .u64 0, .slice none 0 0], []⟩ 8 (by kernel_rfl) (by kernel_rfl) (by kernel_rfl) (by kernel_rfl)) ?_
  intro W base args ds gs before hval0 hW hcnd hsz0 _
  have hsz : (DataW.weightsEach Try.prog (Try.f14.params.toList ++ Rows.gcraIntervalsSpec.plain.varTypes Try.prog) (ds ++ gs)).all (· ≤ reachBytes) = true := hsz0
  have hval : ∀ (j : Nat) t v, Try.f14.params[j]? = some t → args[j]? = some v → Value.okWide Try.prog W .any base t v := hval0
  have hW' := hW
  obtain ⟨p, q, hA0, hV, rfl, hfz, hnd⟩ := hW
  have hA : DataW.TrodAll enc Try.prog W 0 (fun _ => true) true Try.f14.params.toList args.toList ds p := hA0
  rw [Try.params14] at hA hval hsz
  obtain ⟨v0, vs0, d0, ds0, p0, q0, hargs, rfl, rfl, h0, r0⟩ := trodAll_cons hA
  obtain ⟨v1, vs1, d1, ds1, p1, q1, rfl, rfl, rfl, h1, r1⟩ := trodAll_cons r0
  obtain ⟨v2, vs2, d2, ds2, p2, q2, rfl, rfl, rfl, h2, r2⟩ := trodAll_cons r1
  obtain ⟨rfl, rfl, rfl⟩ := trodAll_nil r2
  obtain rfl : args = #[v0, v1, v2] := by cases args; simp_all
  obtain ⟨rfl, rfl⟩ := trodVars_none hV
  obtain ⟨a0, rfl, rfl, rfl, Q0⟩ := open_int Try.underlying22 (hval 0 22 v0 rfl rfl) h0
  obtain ⟨a1, rfl, rfl, rfl, Q1⟩ := open_int Try.underlying22 (hval 1 22 v1 rfl rfl) h1
  have k2 := h2
  have lt2 : ∀ x ∈ p2, x.block < W.heap.size := by obtain ⟨m, hm⟩ := k2; exact DataW.trod_lt m _ _ _ hm
  obtain ⟨l2, K2, Q2⟩ := (Opens.arg (enc := enc) (opens_slice (B := 16) Try.underlying54 (by kernel_rfl) (by kernel_rfl) op57) hsz (j := 2) (t := 54) rfl rfl h2)
  obtain ⟨y2, len2, cap2, rfl⟩ := okWide_slice Try.underlying54 (hval 2 54 v2 rfl rfl)
  obtain ⟨A2, c2, e2, hc2, hr2⟩ := K2
  obtain ⟨rfl, rfl, rfl⟩ : y2 = A2 ∧ len2 = l2.length ∧ cap2 = c2 := by have e_ := (List.cons.inj e2).1; injection e_ with e1_ e2_ e3_; exact ⟨e1_, e2_, e3_⟩
  clear hA0 hval0 hsz0 hsz
  obtain ⟨k, hp⟩ := Pure.GcraIntervals a0 a1 l2 Q0 Q1 Q2
  refine (turnstilelaw04_GcraIntervals.calls k a0 a1 _ _ l2 true W hr2 hc2 hp).mono fun e W' he => ?_
  obtain ⟨rfl, bel0⟩ := he
  have bel : Below W.heap.size W W' := bel0
  exact ⟨_, rfl, _, _, _, [], _, [], hW', trodAll_mk1 (shut_bool Try.underlying4 _), (trodAll_cons_mk (shut_int Try.underlying22 Q0) (trodAll_cons_mk (shut_int Try.underlying22 Q1) (trodAll_cons_mk (Below.trod laidOut (by kernel_rfl) (of_decide_eq_true (by kernel_rfl)) k2 bel lt2) trodAll_mk0))), rfl, bel.frame _, fun h => by cases h⟩
theorem over : Rows.gcraIntervalsRow.holds Try.pinned (OpenSpec.ofChange Rows.gcraIntervalsSpec) :=
  OpenClaim.holds_of_wide 14 Try.f14 rfl rfl rfl rfl rfl rfl rfl ⟨rfl, rfl, rfl, rfl, rfl⟩ rfl rfl rfl rfl rfl (by kernel_rfl) Try.func14 (by kernel_rfl)
    (of_decide_eq_true (by kernel_rfl)) (by unfold Func.isWrapper; first | (rw [if_pos (by decide +kernel)]; kernel_rfl) | (rw [if_neg (by decide +kernel)]; exact ⟨rfl, rfl⟩))
    (fun os started H enc _ => lifted os started H enc)
theorem proved : Rows.GcraIntervalsSaid := over
#print axioms proved
end Go.Proofs.Ythnpgilknoiaaaa.gcraIntervals
namespace Go.Proofs.Ythnpgilknoiaaaa
/-- The row, under a short name, for the claim. -/
theorem gcraIntervals_holds : Rows.GcraIntervalsSaid := gcraIntervals.proved
end Go.Proofs.Ythnpgilknoiaaaa
