/- AuditSplits, the second form: for every input of small bulk the call returns true, and its arguments read as before. -/
import Derived.Test.YtdoifmefhofnnaaRows
import Derived.Test.YtdoifmefhofnnaaPureAuditSplits
import Derived.WalkKit
import Derived.ProofKit
import Derived.OpenShut
import Derived.ShutString
import Derived.ChangeOld
import Derived.Below
import Derived.SizedLaws
import Derived.JoinedCond
import Derived.Deep.CondSized
namespace Go.Proofs.Ytdoifmefhofnnaa.auditSplitsUpto
open Go.ChangeShapes Go.WideShapes Go.ChangeAt Go.RowKit Go.Proofs.YtdoifmefhofnnaaW.PrintWords Go.Proofs.YtdoifmefhofnnaaW.PrintOpen Go.Proofs.Ytdoifmefhofnnaa.D
open Go.ChangeMaps (open_string shut_string)
set_option linter.unusedVariables false
theorem own : ownKnob Try.prog.godebug = none := by kernel_rfl
theorem laidOut : laidOutB Try.prog = true := by kernel_rfl
set_option maxRecDepth 100000
theorem wit (os : Os) (H : Type) (enc : TypeId × Value → H) : ∃ (w : World) (tape : Tape) (i : Input), w.os = os ∧ (w.forCall tape i).Shaped Try.checked.prog ∧ i.vars = [] ∧ Input.okWide Try.checked.prog (w.forCall tape i) .any w.heap.size 5 i ∧
    (Rows.OpenSpec.upto Rows.auditSplitsSpec).pre6 enc Try.checked.prog Try.f5 Rows.auditSplitsUptoRow.domain false (w.forCall tape i).memory i.args ∧ ({ modest := false } : Assume).holds Try.checked.prog (lone (Frame.enter Try.checked.prog 5 i.args .normal) [] (w.forCall tape i)) := by
  have hw : (DataW.whole enc Try.checked.prog (World.plainHolding Try.checked.prog os ⟨#[], #[.agg #[.int .i64 0, .int .u64 0, .int .u64 0, .int .u64 0, .int .u64 0, .slice none 0 0, .int .i64 0, .int .u64 0]], []⟩).memory Try.f5.params.toList (Rows.OpenSpec.upto Rows.auditSplitsSpec).vars false (⟨#[], #[.agg #[.int .i64 0, .int .u64 0, .int .u64 0, .int .u64 0, .int .u64 0, .slice none 0 0, .int .i64 0, .int .u64 0]], []⟩ : Input).args.toList 8).map (fun x => Rows.uptoSmall H (x.1 ++ x.2.1)) = some true := by kernel_rfl
  obtain ⟨x, hx, hb⟩ := Option.map_eq_some_iff.1 hw
  exact OpenSpec.witness (enc := enc) (C := Try.checked) (s := (Rows.OpenSpec.upto Rows.auditSplitsSpec)) (k := Rows.uptoSmall) rfl false ⟨#[], #[.agg #[.int .i64 0, .int .u64 0, .int .u64 0, .int .u64 0, .int .u64 0, .slice none 0 0, .int .i64 0, .int .u64 0]], []⟩ 8 (by kernel_rfl) (by kernel_rfl) (by kernel_rfl) (x := x) hx (by kernel_rfl) hb
set_option maxHeartbeats 1600000 in
theorem lifted (os : Os) (started : os.Started) (H : Type) (enc : TypeId × Value → H) (F : Stop.Interp) :
    ReturnsInHanded {} Try.checked os 5 .any ((Rows.OpenSpec.upto Rows.auditSplitsSpec).pre6 enc Try.prog Try.f5 Rows.auditSplitsUptoRow.domain false) (((Rows.OpenSpec.upto Rows.auditSplitsSpec).at F).post enc Try.prog Try.f5 false true false false) := by
  refine returnsInHanded_of_cond_sized (C := Try.checked) (s := (Rows.OpenSpec.upto Rows.auditSplitsSpec)) (k := Rows.uptoSmall) rfl own started (by kernel_rfl) Try.func5 (wit os H enc) ?_
  intro W base args ds gs before hval0 hW hcnd _ hsz0 _
  have hsz : (DataW.weightsEach Try.prog (Try.f5.params.toList ++ Rows.auditSplitsSpec.plain.varTypes Try.prog) (ds ++ gs)).all (· ≤ reachBytes) = true := hsz0
  have hval : ∀ (j : Nat) t v, Try.f5.params[j]? = some t → args[j]? = some v → Value.okWide Try.prog W .any base t v := hval0
  have hW' := hW
  obtain ⟨p, q, hA0, hV, rfl, hfz, hnd⟩ := hW
  have hA : DataW.TrodAll enc Try.prog W 0 (fun _ => true) true Try.f5.params.toList args.toList ds p := hA0
  rw [Try.params5] at hA hval hsz
  obtain ⟨v0, vs0, d0, ds0, p0, q0, hargs, rfl, rfl, h0, r0⟩ := trodAll_cons hA
  obtain ⟨rfl, rfl, rfl⟩ := trodAll_nil r0
  obtain rfl : args = #[v0] := by cases args; simp_all
  obtain ⟨rfl, rfl⟩ := trodVars_none hV
  have k0 := h0
  have lt0 : ∀ x ∈ p0, x.block < W.heap.size := by obtain ⟨m, hm⟩ := k0; exact DataW.trod_lt m _ _ _ hm
  obtain ⟨x0, K0, Q0⟩ := (Opens.arg (enc := enc) op55 hsz (j := 0) (t := 55) rfl rfl h0)
  obtain ⟨cs0, rfl, _⟩ := okWide_struct Try.underlying55 (hval 0 55 v0 rfl rfl)
  obtain ⟨A0_5, c0_5, e0, hc0_5, hr0_5⟩ := k55_open K0
  obtain rfl : cs0 = #[.int .i64 x0.f0.f0, .int .u64 x0.f0.f1, .int .u64 x0.f0.f2, .int .u64 x0.f0.f3, .int .u64 x0.f0.f4, .slice A0_5 x0.f1.length c0_5, .int .i64 x0.f2, .int .u64 x0.f3] := by apply Array.toList_inj.1; exact e0
  clear hA0 hval0 hsz0 hsz
  obtain ⟨k, hp⟩ := Pure.AuditSplits x0 Q0
  refine (turnstilelaw24_AuditSplits.calls k (x0.f0.f0) (x0.f0.f1) (x0.f0.f2) (x0.f0.f3) (x0.f0.f4) _ _ (x0.f1) (x0.f2) (x0.f3) true W hr0_5 hc0_5 hp).mono fun e W' he => ?_
  obtain ⟨rfl, bel0⟩ := he
  have bel : Below W.heap.size W W' := bel0
  exact ⟨_, rfl, _, _, _, [], _, [], hW', trodAll_mk1 (shut_bool Try.underlying4 _), (trodAll_cons_mk (Below.trod laidOut (by kernel_rfl) (of_decide_eq_true (by kernel_rfl)) k0 bel lt0) trodAll_mk0), rfl, bel.frame _, fun h => by cases h⟩
theorem over : Rows.auditSplitsUptoRow.holds Try.pinned (Rows.OpenSpec.upto Rows.auditSplitsSpec) :=
  OpenClaim.holds_of_cond 5 Try.f5 rfl rfl rfl rfl rfl rfl rfl ⟨rfl, rfl, rfl, rfl, rfl⟩ rfl rfl rfl rfl rfl (by kernel_rfl) Try.func5 (by kernel_rfl)
    (of_decide_eq_true (by kernel_rfl)) (by unfold Func.isWrapper; first | (rw [if_pos (by decide +kernel)]; kernel_rfl) | (rw [if_neg (by decide +kernel)]; exact ⟨rfl, rfl⟩))
    (fun os started H enc _ F => lifted os started H enc F)
theorem proved : Rows.AuditSplitsUptoSaid := over
#print axioms proved
end Go.Proofs.Ytdoifmefhofnnaa.auditSplitsUpto
namespace Go.Proofs.Ytdoifmefhofnnaa
/-- The row, under a short name, for the claim. -/
theorem auditSplitsUpto_holds : Rows.AuditSplitsUptoSaid := auditSplitsUpto.proved
end Go.Proofs.Ytdoifmefhofnnaa
