/- ImageTurned: for every input that can be read the call returns true, and its arguments read as before; the listed variables read as their initialisers lay them: the card ties that to the program's text. -/
import Derived.Test.YtkgjepmminmjjaaDoorRows
import Derived.Test.YtkgjepmminmjjaaDoorCards
import Derived.Test.YtkgjepmminmjjaaDoorTie
import Derived.Test.YtkgjepmminmjjaaDoorPureImageTurned
import Derived.Test.YtkgjepmminmjjaaDoorWSent
import Derived.WalkKit
import Derived.ProofKit
import Derived.OpenShut
import Derived.ShutString
import Derived.ChangeOld
import Derived.Below
import Derived.SizedLaws
import Derived.Deep.DeepHandedRow
import Derived.Deep.DeepWitnessRowRef
import Derived.LaidMore
namespace Go.Proofs.YtkgjepmminmjjaaDoor.imageTurned
open Go.ChangeShapes Go.WideShapes Go.ChangeAt Go.RowKit Go.Proofs.YtkgjepmminmjjaaDoorW.PrintWords Go.Proofs.YtkgjepmminmjjaaDoorW.PrintOpen Go.Proofs.YtkgjepmminmjjaaDoor.E
open Go.ChangeMaps (open_string shut_string)
set_option linter.unusedVariables false
theorem own : ownKnob Tryd.prog.godebug = none := by kernel_rfl
theorem laidOut : laidOutB Tryd.prog = true := by kernel_rfl
set_option maxRecDepth 100000
def sentinels : List (String × List UInt8) := [("turnstile/api.ErrArg", [97, 110, 32, 97, 114, 103, 117, 109, 101, 110, 116, 32, 111, 117, 116, 115, 105, 100, 101, 32, 119, 104, 97, 116, 32, 116, 104, 101, 32, 99, 97, 108, 108, 32, 116, 97, 107, 101, 115]), ("turnstile/api.ErrShort", [116, 104, 101, 32, 98, 121, 116, 101, 115, 32, 101, 110, 100, 32, 116, 111, 111, 32, 101, 97, 114, 108, 121]), ("turnstile/api.ErrForm", [116, 104, 101, 32, 98, 121, 116, 101, 115, 32, 104, 97, 118, 101, 32, 97, 110, 111, 116, 104, 101, 114, 32, 102, 111, 114, 109]), ("turnstile/api.ErrLong", [109, 111, 114, 101, 32, 116, 104, 97, 110, 32, 116, 104, 101, 32, 108, 105, 109, 105, 116]), ("turnstile/api.ErrSum", [116, 104, 101, 32, 115, 117, 109, 32, 105, 115, 32, 97, 110, 111, 116, 104, 101, 114, 32, 111, 110, 101]), ("turnstile/api.ErrNil", [110, 111, 32, 111, 98, 106, 101, 99, 116])]
theorem laid_met (os : Os) : laidMetH Tryd.prog Rows.imageTurnedRow.laid (((World.doorLaid Tryd.prog 400 os)).forCall (fun _ _ => 0) ⟨#[], #[.agg #[.int .u64 0, .int .u64 0, .slice none 0 0], .int .i64 0, .int .u8 0, .int .i64 0], []⟩).memory :=
  laidMetH_of_parts3 (fuel := 8) (laidMet_of_run' 8 (by kernel_rfl) (by kernel_rfl)) (by kernel_rfl) (by kernel_rfl)
theorem witness_row (os : Os) {H : Type} (enc : TypeId × Value → H) :
    (OpenSpec.ofChange Rows.imageTurnedSpec).preRow enc Tryd.prog Tryd.f11 Rows.imageTurnedRow.domain false Rows.imageTurnedRow.laid ((World.doorLaid Tryd.prog 400 os).forCall (fun _ _ => 0) ⟨#[], #[.agg #[.int .u64 0, .int .u64 0, .slice none 0 0], .int .i64 0, .int .u8 0, .int .i64 0], []⟩).memory #[.agg #[.int .u64 0, .int .u64 0, .slice none 0 0], .int .i64 0, .int .u8 0, .int .i64 0] := by
  have hw : (DataW.whole enc Tryd.prog ((World.doorLaid Tryd.prog 400 os).forCall (fun _ _ => 0) ⟨#[], #[.agg #[.int .u64 0, .int .u64 0, .slice none 0 0], .int .i64 0, .int .u8 0, .int .i64 0], []⟩).memory Tryd.f11.params.toList (OpenSpec.ofChange Rows.imageTurnedSpec).vars false #[.agg #[.int .u64 0, .int .u64 0, .slice none 0 0], .int .i64 0, .int .u8 0, .int .i64 0].toList 8).map (fun x => x.2.1) = some [] := by kernel_rfl
  obtain ⟨⟨x1, x2, x3⟩, hx, hx1⟩ := Option.map_eq_some_iff.1 hw
  obtain rfl : x2 = [] := hx1
  exact OpenSpec.preRow_of_cond 8 hx (by kernel_rfl) (fun k hk => by cases hk) (by kernel_rfl) (laid_met os)
set_option maxHeartbeats 1600000 in
theorem lifted (os : Os) (started : os.Started) (H : Type) (enc : TypeId × Value → H) (F : Stop.Interp) :
    ReturnsInHanded {} Tryd.checked os 11 .any ((OpenSpec.ofChange Rows.imageTurnedSpec).preRow enc Tryd.prog Tryd.f11 Rows.imageTurnedRow.domain false Rows.imageTurnedRow.laid) (((OpenSpec.ofChange Rows.imageTurnedSpec).at F).post enc Tryd.prog Tryd.f11 false true false false) := by
  refine returnsInHanded_of_row (C := Tryd.checked) (s := OpenSpec.ofChange Rows.imageTurnedSpec) own started (by kernel_rfl) Tryd.func11
    (witness_row_atRef (enc := enc) (C := Tryd.checked) false (World.doorLaid Tryd.prog 400 os) #[.agg #[.int .u64 0, .int .u64 0, .slice none 0 0], .int .i64 0, .int .u8 0, .int .i64 0] rfl (by kernel_rfl) (by kernel_rfl) (by kernel_rfl)
      (witness_row os enc)) ?_
  intro W base args ds gs before hval0 hW hcnd _ hsz0 hL _ _
  have hsz : (DataW.weightsEach Tryd.prog (Tryd.f11.params.toList ++ Rows.imageTurnedSpec.plain.varTypes Tryd.prog) (ds ++ gs)).all (· ≤ reachBytes) = true := hsz0
  have hval : ∀ (j : Nat) t v, Tryd.f11.params[j]? = some t → args[j]? = some v → Value.okWide Tryd.prog W .any base t v := hval0
  have hW' := hW
  obtain ⟨p, q, hA0, hV, rfl, hfz, hnd⟩ := hW
  have hA : DataW.TrodAll enc Tryd.prog W 0 (fun _ => true) true Tryd.f11.params.toList args.toList ds p := hA0
  rw [Tryd.params11] at hA hval hsz
  obtain ⟨E, hlim, hS⟩ := sent_of_list sentinels [0, 0, 1, 2, 3, 5, 4] 6 (by decide) hL (by kernel_rfl) rfl (by kernel_rfl) (by kernel_rfl) (by decide)
  obtain ⟨v0, vs0, d0, ds0, p0, q0, hargs, rfl, rfl, h0, r0⟩ := trodAll_cons hA
  obtain ⟨v1, vs1, d1, ds1, p1, q1, rfl, rfl, rfl, h1, r1⟩ := trodAll_cons r0
  obtain ⟨v2, vs2, d2, ds2, p2, q2, rfl, rfl, rfl, h2, r2⟩ := trodAll_cons r1
  obtain ⟨v3, vs3, d3, ds3, p3, q3, rfl, rfl, rfl, h3, r3⟩ := trodAll_cons r2
  obtain ⟨rfl, rfl, rfl⟩ := trodAll_nil r3
  obtain rfl : args = #[v0, v1, v2, v3] := by cases args; simp_all
  obtain ⟨rfl, rfl⟩ := trodVars_none hV
  have k0 := h0
  have lt0 : ∀ x ∈ p0, x.block < W.heap.size := by obtain ⟨m, hm⟩ := k0; exact DataW.trod_lt m _ _ _ hm
  obtain ⟨x0, K0, Q0⟩ := (Opens.arg (enc := enc) op51 hsz (j := 0) (t := 51) rfl rfl h0)
  obtain ⟨cs0, rfl, _⟩ := okWide_struct Tryd.underlying51 (hval 0 51 v0 rfl rfl)
  obtain ⟨A0_2, c0_2, e0, hc0_2, hr0_2⟩ := k51_open K0
  obtain rfl : cs0 = #[.int .u64 x0.f0, .int .u64 x0.f1, .slice A0_2 x0.f2.length c0_2] := by apply Array.toList_inj.1; exact e0
  obtain ⟨a1, rfl, rfl, rfl, Q1⟩ := open_int Tryd.underlying3 (hval 1 3 v1 rfl rfl) h1
  obtain ⟨a2, rfl, rfl, rfl, Q2⟩ := open_int Tryd.underlying5 (hval 2 5 v2 rfl rfl) h2
  obtain ⟨a3, rfl, rfl, rfl, Q3⟩ := open_int Tryd.underlying3 (hval 3 3 v3 rfl rfl) h3
  clear hA0 hval0 hsz0 hsz
  obtain ⟨k, hp⟩ := Pure.ImageTurned x0 a1 a2 a3 Q0 Q1 Q2 Q3
  refine (turnstilelaw14_ImageTurned.calls k (x0.f0) (x0.f1) _ _ (x0.f2) a1 a2 a3 true W hS hr0_2 hc0_2 hp).mono fun e W' he => ?_
  obtain ⟨rfl, bel0⟩ := he
  have bel : Below W.heap.size W W' := bel0
  exact ⟨_, rfl, _, _, _, [], _, [], hW', trodAll_mk1 (shut_bool Tryd.underlying4 _), (trodAll_cons_mk (Below.trod laidOut (by kernel_rfl) (of_decide_eq_true (by kernel_rfl)) k0 bel lt0) (trodAll_cons_mk (shut_int Tryd.underlying3 Q1) (trodAll_cons_mk (shut_int Tryd.underlying5 Q2) (trodAll_cons_mk (shut_int Tryd.underlying3 Q3) trodAll_mk0)))), rfl, bel.frame _, fun h => by cases h⟩
theorem said : Rows.ImageTurnedSaid :=
  OpenClaim.holds_of_cond 11 Tryd.f11 rfl rfl rfl rfl rfl rfl rfl ⟨rfl, rfl, rfl, rfl, rfl⟩ rfl rfl rfl rfl rfl (by kernel_rfl) Tryd.func11 (by kernel_rfl)
    (of_decide_eq_true (by kernel_rfl)) (by unfold Func.isWrapper; first | (rw [if_pos (by decide +kernel)]; kernel_rfl) | (rw [if_neg (by decide +kernel)]; exact ⟨rfl, rfl⟩))
    (fun os started H enc _ F => by rw [OpenClaim.pre_eq_preRow]; exact lifted os started H enc F)
theorem plain (f : FuncId) (fn : Func) (hf : Tryd.pinned.checked.prog.funcNamed "turnstile/turnstilelaw14.ImageTurned" = some f) (hfn : Tryd.pinned.checked.prog.funcs[f]? = some fn) :
    true = Tryd.pinned.checked.prog.looks [] ∧ ∀ (j : Nat) t, fn.params[j]? = some t → Tryd.pinned.checked.prog.wantsStandIn t = false := by
  obtain rfl : f = 11 := Option.some.inj ((show Tryd.prog.funcNamed "turnstile/turnstilelaw14.ImageTurned" = some 11 by kernel_rfl).symm.trans hf) |>.symm
  obtain rfl : fn = Tryd.f11 := (Option.some.inj (Tryd.func11.symm.trans hfn)).symm
  refine ⟨by kernel_rfl, fun j t ht => ?_⟩
  rw [Tryd.params11] at ht
  have hm : t ∈ [51, 3, 5, 3] := by simpa using Array.mem_of_getElem? ht
  have hall : ([51, 3, 5, 3].all fun u => !Tryd.prog.wantsStandIn u) = true := by kernel_rfl
  exact (show Tryd.prog.wantsStandIn t = false by simpa using List.all_eq_true.1 hall t hm)
theorem card : Rows.ImageTurnedCardSaid :=
  Claim7.holds_tied_plain_at .later [] _ _ _ _ said (fun _ h => by cases h) (by kernel_rfl) (fun _ h => by cases h) imageTurned_row_tie rfl ⟨rfl, rfl⟩ (by kernel_rfl) rfl plain (by kernel_rfl)
#print axioms card
end Go.Proofs.YtkgjepmminmjjaaDoor.imageTurned
namespace Go.Proofs.YtkgjepmminmjjaaDoor
/-- The card, under a short name, for the claim. -/
theorem imageTurned_holds : Rows.ImageTurnedCardSaid := imageTurned.card
end Go.Proofs.YtkgjepmminmjjaaDoor
