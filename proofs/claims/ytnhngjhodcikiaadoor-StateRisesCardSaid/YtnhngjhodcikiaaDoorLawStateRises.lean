/- StateRises: for every input that can be read the call returns true, and its arguments read as before; the listed variables read as their initialisers lay them: the card ties that to the program's text. -/
import Derived.Test.YtnhngjhodcikiaaDoorRows
import Derived.Test.YtnhngjhodcikiaaDoorCards
import Derived.Test.YtnhngjhodcikiaaDoorTie
import Derived.Test.YtnhngjhodcikiaaDoorPureStateRises
import Derived.Test.YtnhngjhodcikiaaDoorWSent
import Derived.WalkKit
import Derived.ProofKit
import Derived.OpenShut
import Derived.ShutString
import Derived.ChangeOld
import Derived.Below
import Derived.SizedLaws
import Derived.Deep.DeepHandedRow
import Derived.Deep.DeepWitnessRowRef
import Derived.LaidMore
namespace Go.Proofs.YtnhngjhodcikiaaDoor.stateRises
open Go.ChangeShapes Go.WideShapes Go.ChangeAt Go.RowKit Go.Proofs.YtnhngjhodcikiaaDoorW.PrintWords Go.Proofs.YtnhngjhodcikiaaDoorW.PrintOpen Go.Proofs.YtnhngjhodcikiaaDoor.F
open Go.ChangeMaps (open_string shut_string)
set_option linter.unusedVariables false
theorem own : ownKnob Tryd.prog.godebug = none := by kernel_rfl
theorem laidOut : laidOutB Tryd.prog = true := by kernel_rfl
set_option maxRecDepth 100000
def sentinels : List (String × List UInt8) := [("turnstile/api.ErrArg", [97, 110, 32, 97, 114, 103, 117, 109, 101, 110, 116, 32, 111, 117, 116, 115, 105, 100, 101, 32, 119, 104, 97, 116, 32, 116, 104, 101, 32, 99, 97, 108, 108, 32, 116, 97, 107, 101, 115]), ("turnstile/api.ErrGap", [114, 101, 99, 111, 114, 100, 115, 32, 97, 114, 101, 32, 109, 105, 115, 115, 105, 110, 103]), ("turnstile/api.ErrLog", [97, 32, 114, 101, 99, 111, 114, 100, 32, 116, 104, 97, 116, 32, 105, 115, 32, 110, 111, 110, 101])]
theorem laid_met (os : Os) : laidMetH Tryd.prog Rows.stateRisesRow.laid (((World.doorLaid Tryd.prog 400 os)).forCall (fun _ _ => 0) ⟨#[], #[.agg #[.int .u64 0, .int .u64 0, .slice none 0 0], .agg #[.int .i64 0, .int .u64 0, .string ByteArray.empty, .int .i64 0, .int .u64 0, .int .u64 0, .int .u64 0, .int .u64 0, .int .u64 0, .int .u64 0, .int .u64 0]], []⟩).memory :=
  laidMetH_of_parts3 (fuel := 8) (laidMet_of_run' 8 (by kernel_rfl) (by kernel_rfl)) (by kernel_rfl) (by kernel_rfl)
theorem witness_row (os : Os) {H : Type} (enc : TypeId × Value → H) :
    (OpenSpec.ofChange Rows.stateRisesSpec).preRow enc Tryd.prog Tryd.f6 Rows.stateRisesRow.domain false Rows.stateRisesRow.laid ((World.doorLaid Tryd.prog 400 os).forCall (fun _ _ => 0) ⟨#[], #[.agg #[.int .u64 0, .int .u64 0, .slice none 0 0], .agg #[.int .i64 0, .int .u64 0, .string ByteArray.empty, .int .i64 0, .int .u64 0, .int .u64 0, .int .u64 0, .int .u64 0, .int .u64 0, .int .u64 0, .int .u64 0]], []⟩).memory #[.agg #[.int .u64 0, .int .u64 0, .slice none 0 0], .agg #[.int .i64 0, .int .u64 0, .string ByteArray.empty, .int .i64 0, .int .u64 0, .int .u64 0, .int .u64 0, .int .u64 0, .int .u64 0, .int .u64 0, .int .u64 0]] := by
  have hw : (DataW.whole enc Tryd.prog ((World.doorLaid Tryd.prog 400 os).forCall (fun _ _ => 0) ⟨#[], #[.agg #[.int .u64 0, .int .u64 0, .slice none 0 0], .agg #[.int .i64 0, .int .u64 0, .string ByteArray.empty, .int .i64 0, .int .u64 0, .int .u64 0, .int .u64 0, .int .u64 0, .int .u64 0, .int .u64 0, .int .u64 0]], []⟩).memory Tryd.f6.params.toList (OpenSpec.ofChange Rows.stateRisesSpec).vars false #[.agg #[.int .u64 0, .int .u64 0, .slice none 0 0], .agg #[.int .i64 0, .int .u64 0, .string ByteArray.empty, .int .i64 0, .int .u64 0, .int .u64 0, .int .u64 0, .int .u64 0, .int .u64 0, .int .u64 0, .int .u64 0]].toList 8).map (fun x => x.2.1) = some [] := by kernel_rfl
  obtain ⟨⟨x1, x2, x3⟩, hx, hx1⟩ := Option.map_eq_some_iff.1 hw
  obtain rfl : x2 = [] := hx1
  exact OpenSpec.preRow_of_cond 8 hx (by kernel_rfl) (fun k hk => by cases hk) (by kernel_rfl) (laid_met os)
set_option maxHeartbeats 1600000 in
theorem lifted (os : Os) (started : os.Started) (H : Type) (enc : TypeId × Value → H) (F : Stop.Interp) :
    ReturnsInHanded {} Tryd.checked os 6 .any ((OpenSpec.ofChange Rows.stateRisesSpec).preRow enc Tryd.prog Tryd.f6 Rows.stateRisesRow.domain false Rows.stateRisesRow.laid) (((OpenSpec.ofChange Rows.stateRisesSpec).at F).post enc Tryd.prog Tryd.f6 false true false false) := by
  refine returnsInHanded_of_row (C := Tryd.checked) (s := OpenSpec.ofChange Rows.stateRisesSpec) own started (by kernel_rfl) Tryd.func6
    (witness_row_atRef (enc := enc) (C := Tryd.checked) false (World.doorLaid Tryd.prog 400 os) #[.agg #[.int .u64 0, .int .u64 0, .slice none 0 0], .agg #[.int .i64 0, .int .u64 0, .string ByteArray.empty, .int .i64 0, .int .u64 0, .int .u64 0, .int .u64 0, .int .u64 0, .int .u64 0, .int .u64 0, .int .u64 0]] rfl (by kernel_rfl) (by kernel_rfl) (by kernel_rfl)
      (witness_row os enc)) ?_
  intro W base args ds gs before hval0 hW hcnd _ hsz0 hL _ _
  have hsz : (DataW.weightsEach Tryd.prog (Tryd.f6.params.toList ++ Rows.stateRisesSpec.plain.varTypes Tryd.prog) (ds ++ gs)).all (· ≤ reachBytes) = true := hsz0
  have hval : ∀ (j : Nat) t v, Tryd.f6.params[j]? = some t → args[j]? = some v → Value.okWide Tryd.prog W .any base t v := hval0
  have hW' := hW
  obtain ⟨p, q, hA0, hV, rfl, hfz, hnd⟩ := hW
  have hA : DataW.TrodAll enc Tryd.prog W 0 (fun _ => true) true Tryd.f6.params.toList args.toList ds p := hA0
  rw [Tryd.params6] at hA hval hsz
  obtain ⟨E, hlim, hS⟩ := sent_of_list sentinels [0, 0, 1, 2] 3 (by decide) hL (by kernel_rfl) rfl (by kernel_rfl) (by kernel_rfl) (by decide)
  obtain ⟨v0, vs0, d0, ds0, p0, q0, hargs, rfl, rfl, h0, r0⟩ := trodAll_cons hA
  obtain ⟨v1, vs1, d1, ds1, p1, q1, rfl, rfl, rfl, h1, r1⟩ := trodAll_cons r0
  obtain ⟨rfl, rfl, rfl⟩ := trodAll_nil r1
  obtain rfl : args = #[v0, v1] := by cases args; simp_all
  obtain ⟨rfl, rfl⟩ := trodVars_none hV
  have k0 := h0
  have lt0 : ∀ x ∈ p0, x.block < W.heap.size := by obtain ⟨m, hm⟩ := k0; exact DataW.trod_lt m _ _ _ hm
  obtain ⟨x0, K0, Q0⟩ := (Opens.arg (enc := enc) op27 hsz (j := 0) (t := 27) rfl rfl h0)
  obtain ⟨cs0, rfl, _⟩ := okWide_struct Tryd.underlying27 (hval 0 27 v0 rfl rfl)
  obtain ⟨A0_2, c0_2, e0, hc0_2, hr0_2⟩ := k27_open K0
  obtain rfl : cs0 = #[.int .u64 x0.f0, .int .u64 x0.f1, .slice A0_2 x0.f2.length c0_2] := by apply Array.toList_inj.1; exact e0
  have k1 := h1
  have lt1 : ∀ x ∈ p1, x.block < W.heap.size := by obtain ⟨m, hm⟩ := k1; exact DataW.trod_lt m _ _ _ hm
  obtain ⟨x1, K1, Q1⟩ := (Opens.arg (enc := enc) op39 hsz (j := 1) (t := 39) rfl rfl h1)
  obtain ⟨cs1, rfl, _⟩ := okWide_struct Tryd.underlying39 (hval 1 39 v1 rfl rfl)
  have e1 := k39_open K1
  obtain rfl : cs1 = #[.int .i64 x1.f0, .int .u64 x1.f1, .string x1.f2, .int .i64 x1.f3.f0, .int .u64 x1.f3.f1, .int .u64 x1.f3.f2, .int .u64 x1.f3.f3, .int .u64 x1.f3.f4, .int .u64 x1.f4.f0, .int .u64 x1.f4.f1, .int .u64 x1.f4.f2] := by apply Array.toList_inj.1; exact e1
  clear hA0 hval0 hsz0 hsz
  obtain ⟨k, hp⟩ := Pure.StateRises x0 x1 Q0 Q1
  refine (turnstilelaw13_StateRises.calls k (x0.f0) (x0.f1) _ _ (x0.f2) (x1.f0) (x1.f1) (x1.f2) (x1.f3.f0) (x1.f3.f1) (x1.f3.f2) (x1.f3.f3) (x1.f3.f4) (x1.f4.f0) (x1.f4.f1) (x1.f4.f2) true W hS hr0_2 hc0_2 hp).mono fun e W' he => ?_
  obtain ⟨rfl, bel0⟩ := he
  have bel : Below W.heap.size W W' := bel0
  exact ⟨_, rfl, _, _, _, [], _, [], hW', trodAll_mk1 (shut_bool Tryd.underlying4 _), (trodAll_cons_mk (Below.trod laidOut (by kernel_rfl) (of_decide_eq_true (by kernel_rfl)) k0 bel lt0) (trodAll_cons_mk (Below.trod laidOut (by kernel_rfl) (of_decide_eq_true (by kernel_rfl)) k1 bel lt1) trodAll_mk0)), rfl, bel.frame _, fun h => by cases h⟩
theorem said : Rows.StateRisesSaid :=
  OpenClaim.holds_of_cond 6 Tryd.f6 rfl rfl rfl rfl rfl rfl rfl ⟨rfl, rfl, rfl, rfl, rfl⟩ rfl rfl rfl rfl rfl (by kernel_rfl) Tryd.func6 (by kernel_rfl)
    (of_decide_eq_true (by kernel_rfl)) (by unfold Func.isWrapper; first | (rw [if_pos (by decide +kernel)]; kernel_rfl) | (rw [if_neg (by decide +kernel)]; exact ⟨rfl, rfl⟩))
    (fun os started H enc _ F => by rw [OpenClaim.pre_eq_preRow]; exact lifted os started H enc F)
theorem plain (f : FuncId) (fn : Func) (hf : Tryd.pinned.checked.prog.funcNamed "turnstile/turnstilelaw13.StateRises" = some f) (hfn : Tryd.pinned.checked.prog.funcs[f]? = some fn) :
    true = Tryd.pinned.checked.prog.looks [] ∧ ∀ (j : Nat) t, fn.params[j]? = some t → Tryd.pinned.checked.prog.wantsStandIn t = false := by
  obtain rfl : f = 6 := Option.some.inj ((show Tryd.prog.funcNamed "turnstile/turnstilelaw13.StateRises" = some 6 by kernel_rfl).symm.trans hf) |>.symm
  obtain rfl : fn = Tryd.f6 := (Option.some.inj (Tryd.func6.symm.trans hfn)).symm
  refine ⟨by kernel_rfl, fun j t ht => ?_⟩
  rw [Tryd.params6] at ht
  have hm : t ∈ [27, 39] := by simpa using Array.mem_of_getElem? ht
  have hall : ([27, 39].all fun u => !Tryd.prog.wantsStandIn u) = true := by kernel_rfl
  exact (show Tryd.prog.wantsStandIn t = false by simpa using List.all_eq_true.1 hall t hm)
theorem card : Rows.StateRisesCardSaid :=
  Claim7.holds_tied_plain_at .later [] _ _ _ _ said (fun _ h => by cases h) (by kernel_rfl) (fun _ h => by cases h) stateRises_row_tie rfl ⟨rfl, rfl⟩ (by kernel_rfl) rfl plain (by kernel_rfl)
#print axioms card
end Go.Proofs.YtnhngjhodcikiaaDoor.stateRises
namespace Go.Proofs.YtnhngjhodcikiaaDoor
/-- The card, under a short name, for the claim. -/
theorem stateRises_holds : Rows.StateRisesCardSaid := stateRises.card
end Go.Proofs.YtnhngjhodcikiaaDoor
