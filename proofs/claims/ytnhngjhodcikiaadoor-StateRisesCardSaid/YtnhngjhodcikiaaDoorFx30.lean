/- Written by the session's own program hyb.py: what functions of the program compute; Lean checks it. -/
import Derived.Test.YtnhngjhodcikiaaDoorFx0
import Derived.Test.YtnhngjhodcikiaaDoorFx16
import Derived.Test.YtnhngjhodcikiaaDoorFx18
import Derived.Test.YtnhngjhodcikiaaDoorFx19
import Derived.Test.YtnhngjhodcikiaaDoorFx27
import Derived.Test.YtnhngjhodcikiaaDoorFx28
import Derived.Test.YtnhngjhodcikiaaDoorFx29
import Derived.Test.YtnhngjhodcikiaaDoorWErr
namespace Go.Proofs.YtnhngjhodcikiaaDoor.F
open Go.RowKit Go.Proofs.YtnhngjhodcikiaaDoorW.PrintWords Go.Proofs.YtnhngjhodcikiaaDoorW.PrintLast Go.Proofs.YtnhngjhodcikiaaDoorW.PrintMore Go.Proofs.YtnhngjhodcikiaaDoorW.PrintShort
attribute [local go_sem] run_Add64 run_Sub64
attribute [local go_sem] max2_int min2_int max_two min_two max_three min_three max_four min_four   -- for this text's walks alone
set_option linter.unusedVariables false
set_option linter.unusedSimpArgs false

/-! ### turnstilelaw13_lives: function 8 -/
def turnstilelaw13_lives.j0 : Nat → Bool → Int → Int → List (S56) → Option (Bool)
  | 0, _, _, _, _ => none
  | k + 1, x42, x279000, x279001, x279002 => if x42 = true then (some false) else ((turnstilelaw13_ceiling.f 20).bind fun bt285 => ((state_Apply.f k x279000 x279001 x279002 3 bt285.1 bt285.2.1 bt285.2.2.1 bt285.2.2.2.1 bt285.2.2.2.2.1 bt285.2.2.2.2.2.1 bt285.2.2.2.2.2.2.1 bt285.2.2.2.2.2.2.2.1 bt285.2.2.2.2.2.2.2.2.1 bt285.2.2.2.2.2.2.2.2.2.1 bt285.2.2.2.2.2.2.2.2.2.2).bind fun bt296 => ((turnstilelaw13_gone.f).bind fun bt302 => ((state_Apply.f k x279000 x279001 x279002 3 bt302.1 bt302.2.1 bt302.2.2.1 bt302.2.2.2.1 bt302.2.2.2.2.1 bt302.2.2.2.2.2.1 bt302.2.2.2.2.2.2.1 bt302.2.2.2.2.2.2.2.1 bt302.2.2.2.2.2.2.2.2.1 bt302.2.2.2.2.2.2.2.2.2.1 bt302.2.2.2.2.2.2.2.2.2.2).bind fun bt313 => ((state_Find.f x279000 x279001 x279002 (⟨#[107]⟩ : ByteArray)).bind fun bt320 => (if 0 ≤ bt296.2.2.2 then (if bt296.2.2.2 ≤ 3 then (if bt296.2.2.2 = 3 then (if 0 ≤ bt313.2.2.2 then (if bt313.2.2.2 = 0 then (if bt313.1 = 3 then (if (bt313.2.2.1.length : Int) = 0 then (if bt320.2 = true then ((state_Valid.f x279000 x279001 x279002).bind fun t322 => (if t322 = true then ((state_Equal.f k x279000 x279001 x279002 bt313.1 bt313.2.1 bt313.2.2.1).bind fun t323 => (some (!t323))) else (some false))) else (some false)) else (some false)) else (some false)) else (some false)) else (none)) else (some false)) else (none)) else (none)))))))
def turnstilelaw13_lives.g (k : Nat)  : Option (Bool) := (turnstilelaw13_define.f).bind fun bt247 => ((turnstilelaw13_ceiling.f 30).bind fun bt258 => ((state_Replay.f k 0 0 ([] : List (S56)) 1 (([(⟨bt247.1, bt247.2.1, bt247.2.2.1, (⟨bt247.2.2.2.1, bt247.2.2.2.2.1, bt247.2.2.2.2.2.1, bt247.2.2.2.2.2.2.1, bt247.2.2.2.2.2.2.2.1⟩ : S35), (⟨bt247.2.2.2.2.2.2.2.2.1, bt247.2.2.2.2.2.2.2.2.2.1, bt247.2.2.2.2.2.2.2.2.2.2⟩ : S37)⟩ : S39), (⟨bt258.1, bt258.2.1, bt258.2.2.1, (⟨bt258.2.2.2.1, bt258.2.2.2.2.1, bt258.2.2.2.2.2.1, bt258.2.2.2.2.2.2.1, bt258.2.2.2.2.2.2.2.1⟩ : S35), (⟨bt258.2.2.2.2.2.2.2.2.1, bt258.2.2.2.2.2.2.2.2.2.1, bt258.2.2.2.2.2.2.2.2.2.2⟩ : S37)⟩ : S39)] : List (S39)))).bind fun bt272 => (if 0 ≤ bt272.2.2.2 then (if bt272.2.2.2 = 0 then (if bt272.1 = 2 then (if bt272.2.1 = 5 then (if (bt272.2.2.1.length : Int) = 1 then (if 0 < (bt272.2.2.1.length : Int) then ((turnstilelaw13_flow.f).bind fun bt280 => (turnstilelaw13_lives.j0 k (!((((rd_T56 bt272.2.2.1 0).f0).toList) == ([107] : List UInt8)) || ((!(((rd_T56 bt272.2.2.1 0).f1.f0) == bt280.1) || (!(((rd_T56 bt272.2.2.1 0).f1.f1) == bt280.2.1) || (!(((rd_T56 bt272.2.2.1 0).f1.f2) == bt280.2.2.1) || (!(((rd_T56 bt272.2.2.1 0).f1.f3) == bt280.2.2.2.1) || (!(((rd_T56 bt272.2.2.1 0).f1.f4) == bt280.2.2.2.2)))))) || ((!(((rd_T56 bt272.2.2.1 0).f2.f0) == 30) || (!(((rd_T56 bt272.2.2.1 0).f2.f1) == 0) || (!(((rd_T56 bt272.2.2.1 0).f2.f2) == 0))))))) bt272.1 bt272.2.1 bt272.2.2.1)) else (none)) else (turnstilelaw13_lives.j0 k true bt272.1 bt272.2.1 bt272.2.2.1)) else (turnstilelaw13_lives.j0 k true bt272.1 bt272.2.1 bt272.2.2.1)) else (turnstilelaw13_lives.j0 k true bt272.1 bt272.2.1 bt272.2.2.1)) else (turnstilelaw13_lives.j0 k true bt272.1 bt272.2.1 bt272.2.2.1)) else (none))))
theorem turnstilelaw13_lives.mono_l : ∀ k, (∀ y0 y1 y2 y3, LeO (turnstilelaw13_lives.j0 k y0 y1 y2 y3) (turnstilelaw13_lives.j0 (k + 1) y0 y1 y2 y3))
  | 0 => fun _ _ _ _ r h => by simp [turnstilelaw13_lives.j0] at h
  | k + 1 => by
    have ih0 := turnstilelaw13_lives.mono_l k
    · intro y0 y1 y2 y3
      unfold turnstilelaw13_lives.j0
      repeat' first
      | (with_reducible exact ih0 _ _ _ _)
      | (with_reducible exact state_Apply.mono _ _ _ _ _ _ _ _ _ _ _ _ _ _ _ _)
      | (with_reducible exact state_Equal.mono _ _ _ _ _ _ _)
      | (with_reducible exact state_Replay.mono _ _ _ _ _ _)
      | (with_reducible exact LeO.refl _)
      | (with_reducible exact LeO.none _)
      | (with_reducible refine LeO.ite ?_ ?_)
      | (with_reducible refine LeO.bind ?_ (fun _ => ?_))
      | exact ih0 _ _ _ _
      | exact state_Apply.mono _ _ _ _ _ _ _ _ _ _ _ _ _ _ _ _
      | exact state_Equal.mono _ _ _ _ _ _ _
      | exact state_Replay.mono _ _ _ _ _ _
      | exact LeO.none _
      | refine LeO.ite ?_ ?_
      | refine LeO.bind ?_ (fun _ => ?_)
theorem turnstilelaw13_lives.monog : ∀ k, LeO (turnstilelaw13_lives.g k ) (turnstilelaw13_lives.g (k + 1) ) := by
  intro  k
  have ih0 := turnstilelaw13_lives.mono_l k
  unfold turnstilelaw13_lives.g
  repeat' first
      | (with_reducible exact ih0 _ _ _ _)
      | (with_reducible exact state_Apply.mono _ _ _ _ _ _ _ _ _ _ _ _ _ _ _ _)
      | (with_reducible exact state_Equal.mono _ _ _ _ _ _ _)
      | (with_reducible exact state_Replay.mono _ _ _ _ _ _)
      | (with_reducible exact LeO.refl _)
      | (with_reducible exact LeO.none _)
      | (with_reducible refine LeO.ite ?_ ?_)
      | (with_reducible refine LeO.bind ?_ (fun _ => ?_))
      | exact ih0 _ _ _ _
      | exact state_Apply.mono _ _ _ _ _ _ _ _ _ _ _ _ _ _ _ _
      | exact state_Equal.mono _ _ _ _ _ _ _
      | exact state_Replay.mono _ _ _ _ _ _
      | exact LeO.none _
      | refine LeO.ite ?_ ?_
      | refine LeO.bind ?_ (fun _ => ?_)
def turnstilelaw13_lives.T2 : Bool × List (List Nat × List Nat) := (true, [([], []), ([0], [0]), ([1], [1]), ([2], [2]), ([3, 2], [2, 3]), ([4, 2], [2, 4]), ([2, 5], [2, 5]), ([6, 2], [6]), ([7], [7]), ([8, 7], [7, 8]), ([9, 7], [7, 9]), ([7, 10], [7, 10]), ([11, 7], [11]), ([12], [12]), ([13, 12], [12, 13]), ([14, 12], [12, 14]), ([15, 12], [12, 15]), ([12, 16], [12, 16]), ([17, 12], [17]), ([18], [18]), ([19, 18], [18, 19]), ([20, 18], [18, 20]), ([21, 18], [18, 21]), ([18, 18], [18]), ([18], [18]), ([23, 24, 18], [18, 23, 24]), ([22, 25, 18], [18, 22, 25]), ([18, 26], [18, 26])])
def turnstilelaw13_lives.B2 : List Nat := [0, 1, 3, 7, 15, 31, 63, 127, 255, 511, 1023, 2047, 4095, 8191, 16383, 32767, 65535, 131071, 262143, 524287, 1048575, 2097151, 4194303, 524287, 524287, 25690111, 67108863, 134217727]
theorem turnstilelaw13_lives.tab2 : rtab .any (opsOf Tryd.f8 2) = turnstilelaw13_lives.T2 := by kernel_rfl
theorem turnstilelaw13_lives.bits2 : waitsOk turnstilelaw13_lives.T2.2 turnstilelaw13_lives.B2 = true := by kernel_rfl
def turnstilelaw13_lives.T5 : Bool × List (List Nat × List Nat) := (true, [([], []), ([], []), ([0, 1, 1], [0, 1]), ([2], [2]), ([3], [3]), ([3], [3]), ([], []), ([6, 4, 2, 0, 1, 2, 3, 4, 6], [4, 6]), ([5, 7, 0, 1, 2, 3, 4, 5, 6, 7], [5])])
def turnstilelaw13_lives.B5 : List Nat := [0, 0, 3, 7, 15, 15, 0, 95, 255]
theorem turnstilelaw13_lives.tab5 : rtab .any (opsOf Tryd.f8 5) = turnstilelaw13_lives.T5 := by kernel_rfl
theorem turnstilelaw13_lives.bits5 : waitsOk turnstilelaw13_lives.T5.2 turnstilelaw13_lives.B5 = true := by kernel_rfl
theorem turnstilelaw13_lives.no_ {k : Nat} {a b : Int} {l : List S56} (h : turnstilelaw13_lives.j0 k true a b l = some true) : False := by
  cases k with
  | zero => simp [turnstilelaw13_lives.j0] at h
  | succ k => simp [turnstilelaw13_lives.j0] at h
set_option maxHeartbeats 8000000 in
set_option maxRecDepth 100000 in
theorem turnstilelaw13_lives.calls_ (k : Nat) [Errs] (r : Bool) (w : World) (hr_ : r = true) (hE : Sent w) (h : turnstilelaw13_lives.g k  = some r) :
 Calls Tryd.prog 8 #[] w fun e w' => e = .returned (.bool r) ∧ Below w.heap.size w w' := by
 have hu27 := Tryd.underlying27; have hu56 := Tryd.underlying56; have hu37 := Tryd.underlying37; have hu46 := Tryd.underlying46; have HERR := Aside0.mk hE; have HR_ := Aside0.mk hr_; clear hE hr_; have HB := Aside0.mk (Below.refl w.heap.size w)
 have H : ((turnstilelaw13_define.f).bind fun bt247 => ((turnstilelaw13_ceiling.f 30).bind fun bt258 => ((state_Replay.f k 0 0 ([] : List (S56)) 1 (([(⟨bt247.1, bt247.2.1, bt247.2.2.1, (⟨bt247.2.2.2.1, bt247.2.2.2.2.1, bt247.2.2.2.2.2.1, bt247.2.2.2.2.2.2.1, bt247.2.2.2.2.2.2.2.1⟩ : S35), (⟨bt247.2.2.2.2.2.2.2.2.1, bt247.2.2.2.2.2.2.2.2.2.1, bt247.2.2.2.2.2.2.2.2.2.2⟩ : S37)⟩ : S39), (⟨bt258.1, bt258.2.1, bt258.2.2.1, (⟨bt258.2.2.2.1, bt258.2.2.2.2.1, bt258.2.2.2.2.2.1, bt258.2.2.2.2.2.2.1, bt258.2.2.2.2.2.2.2.1⟩ : S35), (⟨bt258.2.2.2.2.2.2.2.2.1, bt258.2.2.2.2.2.2.2.2.2.1, bt258.2.2.2.2.2.2.2.2.2.2⟩ : S37)⟩ : S39)] : List (S39)))).bind fun bt272 => (if 0 ≤ bt272.2.2.2 then (if bt272.2.2.2 = 0 then (if bt272.1 = 2 then (if bt272.2.1 = 5 then (if (bt272.2.2.1.length : Int) = 1 then (if 0 < (bt272.2.2.1.length : Int) then ((turnstilelaw13_flow.f).bind fun bt280 => (turnstilelaw13_lives.j0 k (!((((rd_T56 bt272.2.2.1 0).f0).toList) == ([107] : List UInt8)) || ((!(((rd_T56 bt272.2.2.1 0).f1.f0) == bt280.1) || (!(((rd_T56 bt272.2.2.1 0).f1.f1) == bt280.2.1) || (!(((rd_T56 bt272.2.2.1 0).f1.f2) == bt280.2.2.1) || (!(((rd_T56 bt272.2.2.1 0).f1.f3) == bt280.2.2.2.1) || (!(((rd_T56 bt272.2.2.1 0).f1.f4) == bt280.2.2.2.2)))))) || ((!(((rd_T56 bt272.2.2.1 0).f2.f0) == 30) || (!(((rd_T56 bt272.2.2.1 0).f2.f1) == 0) || (!(((rd_T56 bt272.2.2.1 0).f2.f2) == 0))))))) bt272.1 bt272.2.1 bt272.2.2.1)) else (none)) else (turnstilelaw13_lives.j0 k true bt272.1 bt272.2.1 bt272.2.2.1)) else (turnstilelaw13_lives.j0 k true bt272.1 bt272.2.1 bt272.2.2.1)) else (turnstilelaw13_lives.j0 k true bt272.1 bt272.2.1 bt272.2.2.1)) else (turnstilelaw13_lives.j0 k true bt272.1 bt272.2.1 bt272.2.2.1)) else (none))))) = some r := h
 clear h; replace H := Option.bind_eq_some_iff.mp H
 obtain ⟨⟨t247, t248, t249, t250, t251, t252, t253, t254, t255, t256, t257⟩, A10, H⟩ := H
 replace H : ((turnstilelaw13_ceiling.f 30).bind fun bt258 => ((state_Replay.f k 0 0 ([] : List (S56)) 1 (([(⟨t247, t248, t249, (⟨t250, t251, t252, t253, t254⟩ : S35), (⟨t255, t256, t257⟩ : S37)⟩ : S39), (⟨bt258.1, bt258.2.1, bt258.2.2.1, (⟨bt258.2.2.2.1, bt258.2.2.2.2.1, bt258.2.2.2.2.2.1, bt258.2.2.2.2.2.2.1, bt258.2.2.2.2.2.2.2.1⟩ : S35), (⟨bt258.2.2.2.2.2.2.2.2.1, bt258.2.2.2.2.2.2.2.2.2.1, bt258.2.2.2.2.2.2.2.2.2.2⟩ : S37)⟩ : S39)] : List (S39)))).bind fun bt272 => (if 0 ≤ bt272.2.2.2 then (if bt272.2.2.2 = 0 then (if bt272.1 = 2 then (if bt272.2.1 = 5 then (if (bt272.2.2.1.length : Int) = 1 then (if 0 < (bt272.2.2.1.length : Int) then ((turnstilelaw13_flow.f).bind fun bt280 => (turnstilelaw13_lives.j0 k (!((((rd_T56 bt272.2.2.1 0).f0).toList) == ([107] : List UInt8)) || ((!(((rd_T56 bt272.2.2.1 0).f1.f0) == bt280.1) || (!(((rd_T56 bt272.2.2.1 0).f1.f1) == bt280.2.1) || (!(((rd_T56 bt272.2.2.1 0).f1.f2) == bt280.2.2.1) || (!(((rd_T56 bt272.2.2.1 0).f1.f3) == bt280.2.2.2.1) || (!(((rd_T56 bt272.2.2.1 0).f1.f4) == bt280.2.2.2.2)))))) || ((!(((rd_T56 bt272.2.2.1 0).f2.f0) == 30) || (!(((rd_T56 bt272.2.2.1 0).f2.f1) == 0) || (!(((rd_T56 bt272.2.2.1 0).f2.f2) == 0))))))) bt272.1 bt272.2.1 bt272.2.2.1)) else (none)) else (turnstilelaw13_lives.j0 k true bt272.1 bt272.2.1 bt272.2.2.1)) else (turnstilelaw13_lives.j0 k true bt272.1 bt272.2.1 bt272.2.2.1)) else (turnstilelaw13_lives.j0 k true bt272.1 bt272.2.1 bt272.2.2.1)) else (turnstilelaw13_lives.j0 k true bt272.1 bt272.2.1 bt272.2.2.1)) else (none)))) = some r := H
 have A1 := Aside0.mk A10; clear A10; replace H := Option.bind_eq_some_iff.mp H
 obtain ⟨⟨t258, t259, t260, t261, t262, t263, t264, t265, t266, t267, t268⟩, A20, H⟩ := H
 replace H : ((state_Replay.f k 0 0 ([] : List (S56)) 1 (([(⟨t247, t248, t249, (⟨t250, t251, t252, t253, t254⟩ : S35), (⟨t255, t256, t257⟩ : S37)⟩ : S39), (⟨t258, t259, t260, (⟨t261, t262, t263, t264, t265⟩ : S35), (⟨t266, t267, t268⟩ : S37)⟩ : S39)] : List (S39)))).bind fun bt272 => (if 0 ≤ bt272.2.2.2 then (if bt272.2.2.2 = 0 then (if bt272.1 = 2 then (if bt272.2.1 = 5 then (if (bt272.2.2.1.length : Int) = 1 then (if 0 < (bt272.2.2.1.length : Int) then ((turnstilelaw13_flow.f).bind fun bt280 => (turnstilelaw13_lives.j0 k (!((((rd_T56 bt272.2.2.1 0).f0).toList) == ([107] : List UInt8)) || ((!(((rd_T56 bt272.2.2.1 0).f1.f0) == bt280.1) || (!(((rd_T56 bt272.2.2.1 0).f1.f1) == bt280.2.1) || (!(((rd_T56 bt272.2.2.1 0).f1.f2) == bt280.2.2.1) || (!(((rd_T56 bt272.2.2.1 0).f1.f3) == bt280.2.2.2.1) || (!(((rd_T56 bt272.2.2.1 0).f1.f4) == bt280.2.2.2.2)))))) || ((!(((rd_T56 bt272.2.2.1 0).f2.f0) == 30) || (!(((rd_T56 bt272.2.2.1 0).f2.f1) == 0) || (!(((rd_T56 bt272.2.2.1 0).f2.f2) == 0))))))) bt272.1 bt272.2.1 bt272.2.2.1)) else (none)) else (turnstilelaw13_lives.j0 k true bt272.1 bt272.2.1 bt272.2.2.1)) else (turnstilelaw13_lives.j0 k true bt272.1 bt272.2.1 bt272.2.2.1)) else (turnstilelaw13_lives.j0 k true bt272.1 bt272.2.1 bt272.2.2.1)) else (turnstilelaw13_lives.j0 k true bt272.1 bt272.2.1 bt272.2.2.1)) else (none))) = some r := H
 have A2 := Aside0.mk A20; clear A20
 obtain ⟨y269, hy269⟩ : ∃ y_ : List (S39), y_ = (([(⟨t247, t248, t249, (⟨t250, t251, t252, t253, t254⟩ : S35), (⟨t255, t256, t257⟩ : S37)⟩ : S39), (⟨t258, t259, t260, (⟨t261, t262, t263, t264, t265⟩ : S35), (⟨t266, t267, t268⟩ : S37)⟩ : S39)] : List (S39))) := ⟨_, rfl⟩
 replace H : ((state_Replay.f k 0 0 ([] : List (S56)) 1 y269).bind fun bt272 => (if 0 ≤ bt272.2.2.2 then (if bt272.2.2.2 = 0 then (if bt272.1 = 2 then (if bt272.2.1 = 5 then (if (bt272.2.2.1.length : Int) = 1 then (if 0 < (bt272.2.2.1.length : Int) then ((turnstilelaw13_flow.f).bind fun bt280 => (turnstilelaw13_lives.j0 k (!((((rd_T56 bt272.2.2.1 0).f0).toList) == ([107] : List UInt8)) || ((!(((rd_T56 bt272.2.2.1 0).f1.f0) == bt280.1) || (!(((rd_T56 bt272.2.2.1 0).f1.f1) == bt280.2.1) || (!(((rd_T56 bt272.2.2.1 0).f1.f2) == bt280.2.2.1) || (!(((rd_T56 bt272.2.2.1 0).f1.f3) == bt280.2.2.2.1) || (!(((rd_T56 bt272.2.2.1 0).f1.f4) == bt280.2.2.2.2)))))) || ((!(((rd_T56 bt272.2.2.1 0).f2.f0) == 30) || (!(((rd_T56 bt272.2.2.1 0).f2.f1) == 0) || (!(((rd_T56 bt272.2.2.1 0).f2.f2) == 0))))))) bt272.1 bt272.2.1 bt272.2.2.1)) else (none)) else (turnstilelaw13_lives.j0 k true bt272.1 bt272.2.1 bt272.2.2.1)) else (turnstilelaw13_lives.j0 k true bt272.1 bt272.2.1 bt272.2.2.1)) else (turnstilelaw13_lives.j0 k true bt272.1 bt272.2.1 bt272.2.2.1)) else (turnstilelaw13_lives.j0 k true bt272.1 bt272.2.1 bt272.2.2.1)) else (none))) = some r := by first | (rw [hy269]; with_reducible exact H) | (have H2_ := (Option.bind_some _ _).symm.trans H; rw [hy269]; with_reducible exact H2_) | (have H2_ := (Option.bind_some _ _).symm.trans H; with_reducible exact H2_) | with_reducible exact H | (rw [hy269]; exact H) | exact H
 have Ny269 := Aside0.mk hy269; clear hy269; replace H := Option.bind_eq_some_iff.mp H
 obtain ⟨⟨t272, t273, t274, t277⟩, A30, H⟩ := H
 replace H : (if 0 ≤ t277 then (if t277 = 0 then (if t272 = 2 then (if t273 = 5 then (if (t274.length : Int) = 1 then (if 0 < (t274.length : Int) then ((turnstilelaw13_flow.f).bind fun bt280 => (turnstilelaw13_lives.j0 k (!((((rd_T56 t274 0).f0).toList) == ([107] : List UInt8)) || ((!(((rd_T56 t274 0).f1.f0) == bt280.1) || (!(((rd_T56 t274 0).f1.f1) == bt280.2.1) || (!(((rd_T56 t274 0).f1.f2) == bt280.2.2.1) || (!(((rd_T56 t274 0).f1.f3) == bt280.2.2.2.1) || (!(((rd_T56 t274 0).f1.f4) == bt280.2.2.2.2)))))) || ((!(((rd_T56 t274 0).f2.f0) == 30) || (!(((rd_T56 t274 0).f2.f1) == 0) || (!(((rd_T56 t274 0).f2.f2) == 0))))))) t272 t273 t274)) else (none)) else (turnstilelaw13_lives.j0 k true t272 t273 t274)) else (turnstilelaw13_lives.j0 k true t272 t273 t274)) else (turnstilelaw13_lives.j0 k true t272 t273 t274)) else (turnstilelaw13_lives.j0 k true t272 t273 t274)) else (none)) = some r := H
 have A3 := Aside0.mk A30; clear A30; have HC4 := Aside0.mk H; clear H
 go_enter Tryd.func8, Tryd.ntmps8
 go_upto_region 2 with (first | ((with_reducible refine gate_callee (f := 22) rfl ?_); refine gm (some 9) Tryd.func22 #[] (turnstilelaw13_define.calls  t247 t248 t249 t250 t251 t252 t253 t254 t255 t256 t257 _ A1.out) ?_; intro w5 hb; have n0_ := bs HB hb; clear HB; have HB := n0_; clear n0_; (try clear hb); (try clear hb2); (try clear hk); (try clear hi)) | ((with_reducible refine gate_callee (f := 23) rfl ?_); refine gm (some 10) Tryd.func23 #[.int .u64 30] (turnstilelaw13_ceiling.calls 30 t258 t259 t260 t261 t262 t263 t264 t265 t266 t267 t268 _ A2.out) ?_; intro w6 hb; have n0_ := bs HB hb; clear HB; have HB := n0_; clear n0_; (try clear hb); (try clear hb2); (try clear hk); (try clear hi)) | ((with_reducible refine gate_dst (N := 11) rfl ?_); (try (refine gate_guard (by rfl) ?_; dsimp only)); refine Kd.R_lit k39 _ 39 ?hg (N := 11) ?hd (xs := ([(⟨t247, t248, t249, (⟨t250, t251, t252, t253, t254⟩ : S35), (⟨t255, t256, t257⟩ : S37)⟩ : S39), (⟨t258, t259, t260, (⟨t261, t262, t263, t264, t265⟩ : S35), (⟨t266, t267, t268⟩ : S37)⟩ : S39)] : List (S39))) (inner := [.int .i64 t247, .int .u64 t248, .string t249, .int .i64 t250, .int .u64 t251, .int .u64 t252, .int .u64 t253, .int .u64 t254, .int .u64 t255, .int .u64 t256, .int .u64 t257, .int .i64 t258, .int .u64 t259, .string t260, .int .i64 t261, .int .u64 t262, .int .u64 t263, .int .u64 t264, .int .u64 t265, .int .u64 t266, .int .u64 t267, .int .u64 t268]) (ok := fun _ => True) (okp := fun _ => True) ?hr ?hp (fun _ hk => hk) trivial (Below.refl _ _) (Nat.le_refl _) (by simp) ?_; (case hd => rfl); (case hg => rfl); (case hr => first | (go_simp; done) | (go_simp; rfl)); (case hp => exact (Reps.front (show Kd.M k39 _ _ _ (⟨t247, t248, t249, (⟨t250, t251, t252, t253, t254⟩ : S35), (⟨t255, t256, t257⟩ : S37)⟩ : S39) [.int .i64 t247, .int .u64 t248, .string t249, .int .i64 t250, .int .u64 t251, .int .u64 t252, .int .u64 t253, .int .u64 t254, .int .u64 t255, .int .u64 t256, .int .u64 t257] from (k39_mkM _ _ _ (⟨t247, t248, t249, (⟨t250, t251, t252, t253, t254⟩ : S35), (⟨t255, t256, t257⟩ : S37)⟩ : S39) )) rfl (Reps.front (show Kd.M k39 _ _ _ (⟨t258, t259, t260, (⟨t261, t262, t263, t264, t265⟩ : S35), (⟨t266, t267, t268⟩ : S37)⟩ : S39) [.int .i64 t258, .int .u64 t259, .string t260, .int .i64 t261, .int .u64 t262, .int .u64 t263, .int .u64 t264, .int .u64 t265, .int .u64 t266, .int .u64 t267, .int .u64 t268] from (k39_mkM _ _ _ (⟨t258, t259, t260, (⟨t261, t262, t263, t264, t265⟩ : S35), (⟨t266, t267, t268⟩ : S37)⟩ : S39) )) rfl (Reps.none _ _) rfl) rfl)); intro v270 w7 ho8 hb hg_ hnew_; clear hg_ hnew_; (first | rw [← Ny269.out] at ho8 | (simp only [Int.reduceToNat] at ho8; rw [← Ny269.out] at ho8)); have n0_ := Aside0.mk (Kd.R_lower ho8 (below_size (bw HB))); have n1_ := bs HB hb; clear HB; have HO271 := n0_; have HB := n1_; clear n0_ n1_; clear hb ho8; obtain ⟨Ao9, co9, eo9⟩ := Kd.R_slice HO271.out; subst eo9) | ((with_reducible refine gate_callee (f := 20) rfl ?_); refine gl (some 12) Tryd.func20 #[.agg #[.int .u64 0, .int .u64 0, .slice none 0 0], .int .u64 1, .slice Ao9 y269.length co9] ?_; (refine (state_Replay.calls k 0 0 _ _ ([] : List (S56)) 1 _ _ y269 t272 t273 t274 t277 _ ?side5 ?side1 ?side2 ?side3 ?side4 A3.out).mono ?_); (case side1 => exact Kd.C_nil _ _); (case side2 => exact Nat.le_refl _); (case side3 => exact co (Kd.R_reads' HO271.out).2.2); (case side4 => exact (Kd.R_reads' HO271.out).2.1); (case side5 => exact (HERR.out.below (bw HB))); rintro e w10 ⟨v275, rfl, ho0, hb⟩; refine ⟨_, rfl, ?_⟩; have n0_ := Aside0.mk (Kd.R_below (ro HO271) hb); have n1_ := Aside0.mk (Kd.R_lower ho0 (below_size (bw HB))); have n2_ := bs HB hb; clear HO271; clear HB; have HO271 := n0_; have HO276 := n1_; have HB := n2_; clear n0_ n1_ n2_; (try clear hb); (try clear hb2); (try clear hk); (try clear hi); (try clear ho0)) | ((with_reducible refine gate_dst (N := 1) rfl ?_); (try (refine gate_guard (by rfl) ?_; dsimp only)); refine bx 1 #[.int .u64 0, .int .u64 0, .slice none 0 0] 27 ?_; intro gb278 hg w11 hbox hb; have n0_ := Aside0.mk (Kd.R_below (ro HO271) hb); have n1_ := Aside0.mk (Kd.R_below (ro HO276) hb); have n2_ := bs HB hb; have n3_ := Aside0.mk (hbox); have n4_ := sz HB hg; have n5_ := sz HB hg; clear HO271; clear HO276; clear HB; have HO271 := n0_; have HO276 := n1_; have HB := n2_; have BK278 := n3_; have GW278 := n4_; have GE278 := n5_; clear n0_ n1_ n2_ n3_ n4_ n5_; clear hb hbox hg; obtain ⟨hcz12_0, hcz12_1, hcz12_2, hfz12_0, hfz12_1, hfz12_2⟩ := bc3 BK278; obtain ⟨Ao13, co13, eo13⟩ := Kd.R_slice HO276.out; subst eo13))
 (try simp only [Act.put, List.setIfInBounds_toArray, List.set_cons_zero, List.set_cons_succ])
 go_cut [42] (fun v42 wc => ∃ (kq : Nat) (x42_3 : Bool), v42 = .bool x42_3 ∧ Aside0 (turnstilelaw13_lives.j0 kq x42_3 t272 t273 t274 = some r) ∧ Aside0 (kq ≤ k) ∧ Aside0 (Kd.R k56 56 wc w.heap.size (fun _ => True) (.slice Ao13 t274.length co13) t274) ∧ Aside0 (wc.heap[gb278]? = some (.cells #[.int .u64 t272, .int .u64 t273, (.slice Ao13 t274.length co13)] 27 (0, 0))) ∧ Aside0 (Below w.heap.size w wc))
 case first =>
  have H := HC4.out; clear HC4
  by_cases c14 : 0 ≤ t277
  · rw [if_pos c14] at H
    have c14b0 := eq_true c14
    have c14b1 : decide (0 ≤ t277) = true := decide_eq_true c14
    clear c14
    by_cases c15 : t277 = 0
    · rw [if_pos c15] at H
      have c15b0 : (t277 == 0) = true := beq_iff_eq.mpr c15
      have c15b1 : (t277 != 0) = false := bne_eq_false_iff_eq.mpr c15
      clear c15
      (first | rw [c15b0] | (simp only [i64_w, i32_w]; rw [c15b0]) | skip)
      by_cases c16 : t272 = 2
      · rw [if_pos c16] at H
        have c16b0 : (t272 == 2) = true := beq_iff_eq.mpr c16
        have c16b1 : (t272 != 2) = false := bne_eq_false_iff_eq.mpr c16
        clear c16
        by_cases c17 : t273 = 5
        · rw [if_pos c17] at H
          have c17b0 : (t273 == 5) = true := beq_iff_eq.mpr c17
          have c17b1 : (t273 != 5) = false := bne_eq_false_iff_eq.mpr c17
          clear c17
          by_cases c18 : (t274.length : Int) = 1
          · rw [if_pos c18] at H
            have c18b0 : ((t274.length : Int) == 1) = true := beq_iff_eq.mpr c18
            have c18b1 : ((t274.length : Int) != 1) = false := bne_eq_false_iff_eq.mpr c18
            clear c18
            by_cases c19 : 0 < (t274.length : Int)
            · rw [if_pos c19] at H
              have c19b0 : decide (0 < (t274.length : Int)) = true := decide_eq_true c19
              have c19b1 : decide (0 < t274.length) = true := decide_eq_true (by omega)
              clear c19; replace H := Option.bind_eq_some_iff.mp H
              obtain ⟨⟨t280, t281, t282, t283, t284⟩, A200, H⟩ := H
              replace H : (turnstilelaw13_lives.j0 k (!((((rd_T56 t274 0).f0).toList) == ([107] : List UInt8)) || ((!(((rd_T56 t274 0).f1.f0) == t280) || (!(((rd_T56 t274 0).f1.f1) == t281) || (!(((rd_T56 t274 0).f1.f2) == t282) || (!(((rd_T56 t274 0).f1.f3) == t283) || (!(((rd_T56 t274 0).f1.f4) == t284)))))) || ((!(((rd_T56 t274 0).f2.f0) == 30) || (!(((rd_T56 t274 0).f2.f1) == 0) || (!(((rd_T56 t274 0).f2.f2) == 0))))))) t272 t273 t274) = some r := H
              have A20 := Aside0.mk A200; clear A200
              have hqz_ : (!((((rd_T56 t274 0).f0).toList) == ([107] : List UInt8)) || ((!(((rd_T56 t274 0).f1.f0) == t280) || (!(((rd_T56 t274 0).f1.f1) == t281) || (!(((rd_T56 t274 0).f1.f2) == t282) || (!(((rd_T56 t274 0).f1.f3) == t283) || (!(((rd_T56 t274 0).f1.f4) == t284)))))) || ((!(((rd_T56 t274 0).f2.f0) == 30) || (!(((rd_T56 t274 0).f2.f1) == 0) || (!(((rd_T56 t274 0).f2.f2) == 0))))))) = false := by
                cases e_ : (!((((rd_T56 t274 0).f0).toList) == ([107] : List UInt8)) || ((!(((rd_T56 t274 0).f1.f0) == t280) || (!(((rd_T56 t274 0).f1.f1) == t281) || (!(((rd_T56 t274 0).f1.f2) == t282) || (!(((rd_T56 t274 0).f1.f3) == t283) || (!(((rd_T56 t274 0).f1.f4) == t284)))))) || ((!(((rd_T56 t274 0).f2.f0) == 30) || (!(((rd_T56 t274 0).f2.f1) == 0) || (!(((rd_T56 t274 0).f2.f2) == 0)))))))
                · rfl
                · rw [e_, HR_.out] at H
                  exact (turnstilelaw13_lives.no_ H).elim
              rw [hqz_] at H
              have hq_ := hqz_
              simp only [Bool.or_eq_false_iff, Bool.not_eq_false', beq_iff_eq] at hq_
              have HQ_ := Aside0.mk hq_
              clear hq_ hqz_
              have H' := Aside0.mk H
              clear H
              try go_wp2
              have n0_ : Aside0 (Kd.R k39 39 (((w11.setCell ⟨gb278, 0, none⟩ (.int .u64 t272)).setCell ⟨gb278, 1, none⟩ (.int .u64 t273)).setCell ⟨gb278, 2, none⟩ (.slice Ao13 t274.length co13)) w.heap.size (fun _ => True) (.slice Ao9 y269.length co9) y269) := ⟨by (with_reducible repeat (first | apply Kd.R_alloc | apply Kd.R_drewN | apply Kd.R_drew)); exact Kd.R_mono (Kd.R_far (p := ⟨gb278, 2, none⟩) (Kd.R_far (p := ⟨gb278, 1, none⟩) (Kd.R_far (p := ⟨gb278, 0, none⟩) (Kd.R_types HO271.out BK278.out (by decide)) (fun _ hk => hk.2) (.int .u64 t272)) (fun _ hk => hk.2) (.int .u64 t273)) (fun _ hk => hk.2) (.slice Ao13 t274.length co13)) (fun _ hk => trivial)⟩
              have n1_ : Aside0 (Kd.R k56 56 (((w11.setCell ⟨gb278, 0, none⟩ (.int .u64 t272)).setCell ⟨gb278, 1, none⟩ (.int .u64 t273)).setCell ⟨gb278, 2, none⟩ (.slice Ao13 t274.length co13)) w.heap.size (fun _ => True) (.slice Ao13 t274.length co13) t274) := ⟨by (with_reducible repeat (first | apply Kd.R_alloc | apply Kd.R_drewN | apply Kd.R_drew)); exact Kd.R_mono (Kd.R_far (p := ⟨gb278, 2, none⟩) (Kd.R_far (p := ⟨gb278, 1, none⟩) (Kd.R_far (p := ⟨gb278, 0, none⟩) (Kd.R_types HO276.out BK278.out (by decide)) (fun _ hk => hk.2) (.int .u64 t272)) (fun _ hk => hk.2) (.int .u64 t273)) (fun _ hk => hk.2) (.slice Ao13 t274.length co13)) (fun _ hk => trivial)⟩
              have n2_ : Aside0 ((((w11.setCell ⟨gb278, 0, none⟩ (.int .u64 t272)).setCell ⟨gb278, 1, none⟩ (.int .u64 t273)).setCell ⟨gb278, 2, none⟩ (.slice Ao13 t274.length co13)).heap[gb278]? = some (.cells #[.int .u64 t272, .int .u64 t273, .slice Ao13 t274.length co13] 27 (0, 0))) := ⟨bk BK278⟩
              have n3_ : Aside0 (Below w.heap.size w (((w11.setCell ⟨gb278, 0, none⟩ (.int .u64 t272)).setCell ⟨gb278, 1, none⟩ (.int .u64 t273)).setCell ⟨gb278, 2, none⟩ (.slice Ao13 t274.length co13))) := ⟨bw HB⟩
              (try clear HO271); (try clear HO276); (try clear BK278); (try clear HB)
              generalize (((w11.setCell ⟨gb278, 0, none⟩ (.int .u64 t272)).setCell ⟨gb278, 1, none⟩ (.int .u64 t273)).setCell ⟨gb278, 2, none⟩ (.slice Ao13 t274.length co13)) = w21 at n0_ n1_ n2_ n3_ ⊢
              have HO271 := n0_; have HO276 := n1_; have BK278 := n2_; have HB := n3_; clear n0_ n1_ n2_ n3_; have n0_ := Aside0.mk (Kd.R_drew HO271.out); have n1_ := Aside0.mk (Kd.R_drew HO276.out); have n2_ := Aside0.mk (blk_drew BK278.out); have n3_ := Aside0.mk (below_drew1 HB.out); clear HO271; clear HO276; clear BK278; clear HB; have HO271 := n0_; have HO276 := n1_; have BK278 := n2_; have HB := n3_; clear n0_ n1_ n2_ n3_
              have p279 : 0 ≤ (0 : Int) := (by omega)
              have q279 : 0 < (t274.length : Int) := of_decide_eq_true (by first | (with_reducible assumption) | assumption)
              obtain ⟨ad279, e279, hx279_0, hx279_1, hx279_2, hx279_3, hx279_4, hx279_5, hx279_6, hx279_7, hx279_8⟩ := at_T56 (Kd.R_reads' HO276.out).2.2 0 p279 q279
              cases e279
              have qi279 : (0 < t274.length) = True := eq_true (by omega)
              (try rw [show ((0 : Int)).toNat = 0 from rfl] at hx279_0)
              (try rw [show 0 * 9 = 0 from rfl] at hx279_0)
              (try rw [Addr.add_zero'] at hx279_0)
              (try rw [show ((0 : Int)).toNat = 0 from rfl] at hx279_1)
              (try rw [show 0 * 9 = 0 from rfl] at hx279_1)
              (try rw [Addr.add_zero'] at hx279_1)
              (try rw [show ((0 : Int)).toNat = 0 from rfl] at hx279_2)
              (try rw [show 0 * 9 = 0 from rfl] at hx279_2)
              (try rw [Addr.add_zero'] at hx279_2)
              (try rw [show ((0 : Int)).toNat = 0 from rfl] at hx279_3)
              (try rw [show 0 * 9 = 0 from rfl] at hx279_3)
              (try rw [Addr.add_zero'] at hx279_3)
              (try rw [show ((0 : Int)).toNat = 0 from rfl] at hx279_4)
              (try rw [show 0 * 9 = 0 from rfl] at hx279_4)
              (try rw [Addr.add_zero'] at hx279_4)
              (try rw [show ((0 : Int)).toNat = 0 from rfl] at hx279_5)
              (try rw [show 0 * 9 = 0 from rfl] at hx279_5)
              (try rw [Addr.add_zero'] at hx279_5)
              (try rw [show ((0 : Int)).toNat = 0 from rfl] at hx279_6)
              (try rw [show 0 * 9 = 0 from rfl] at hx279_6)
              (try rw [Addr.add_zero'] at hx279_6)
              (try rw [show ((0 : Int)).toNat = 0 from rfl] at hx279_7)
              (try rw [show 0 * 9 = 0 from rfl] at hx279_7)
              (try rw [Addr.add_zero'] at hx279_7)
              (try rw [show ((0 : Int)).toNat = 0 from rfl] at hx279_8)
              (try rw [show 0 * 9 = 0 from rfl] at hx279_8)
              (try rw [Addr.add_zero'] at hx279_8)
              replace p279 := eq_true p279; replace q279 := eq_true q279
              refine start_ (n := 28) (S := fun w' => w'.cell? ⟨gb278, 0, none⟩ = some (.int .u64 t272) ∧ w'.cell? ⟨gb278, 1, none⟩ = some (.int .u64 t273) ∧ w'.cell? ⟨gb278, 2, none⟩ = some (.slice (some ad279) t274.length co13) ∧ w'.cell? ad279 = some (.string ((rd_T56 t274 0).f0)) ∧ w'.cell? ⟨ad279.block, ad279.off + 1, none⟩ = some (.int .i64 ((rd_T56 t274 0).f1.f0)) ∧ w'.cell? ⟨ad279.block, ad279.off + 2, none⟩ = some (.int .u64 ((rd_T56 t274 0).f1.f1)) ∧ w'.cell? ⟨ad279.block, ad279.off + 3, none⟩ = some (.int .u64 ((rd_T56 t274 0).f1.f2)) ∧ w'.cell? ⟨ad279.block, ad279.off + 4, none⟩ = some (.int .u64 ((rd_T56 t274 0).f1.f3)) ∧ w'.cell? ⟨ad279.block, ad279.off + 5, none⟩ = some (.int .u64 ((rd_T56 t274 0).f1.f4)) ∧ w'.cell? ⟨ad279.block, ad279.off + 6, none⟩ = some (.int .u64 ((rd_T56 t274 0).f2.f0)) ∧ w'.cell? ⟨ad279.block, ad279.off + 7, none⟩ = some (.int .u64 ((rd_T56 t274 0).f2.f1)) ∧ w'.cell? ⟨ad279.block, ad279.off + 8, none⟩ = some (.int .u64 ((rd_T56 t274 0).f2.f2))) (ds := []) #[false, false, false, false, false, false, false, false, false, false, false, false, false, false, false, false, false, false, false, false, false, false, false, false, false, false, false, false] (by kernel_rfl) rfl rfl ⟨(blk_cell BK278.out 0).trans rfl, (blk_cell BK278.out 1).trans rfl, (blk_cell BK278.out 2).trans rfl, hx279_0, hx279_1, hx279_2, hx279_3, hx279_4, hx279_5, hx279_6, hx279_7, hx279_8⟩ (fun hHeld => ?_); refine with_tabW turnstilelaw13_lives.tab2 turnstilelaw13_lives.bits2 (fun HT_ HW_ => ?_)
              generalize w21.drew = w22 at HO271 HO276 BK278 HB hx279_0 hx279_1 hx279_2 hx279_3 hx279_4 hx279_5 hx279_6 hx279_7 hx279_8 hHeld ⊢
              refine chain_ (fuel := 27) [(0, 0, some 15)] #[true, false, false, false, false, false, false, false, false, false, false, false, false, false, false, false, false, false, false, false, false, false, false, false, false, false, false, false] HT_.out HW_.out (by kernel_rfl) (fun _ _ _ _ _ h => h) (Or.inl (by decide)) rfl ?_
              refine lkP ?_; refine .nil ?_
              refine chain_ (fuel := 4) [(1, 1, some 16), (2, 0, some 17), (3, 0, some 18), (4, 1, some 19), (5, 0, some 20), (6, 0, some 21), (7, 0, some 22), (8, 0, some 23), (9, 1, some 24), (10, 0, some 25), (11, 0, some 26), (12, 0, some 27), (13, 0, some 28), (14, 1, some 29), (15, 0, some 30), (16, 0, some 31), (17, 0, some 32), (18, 0, some 33), (19, 0, some 34), (24, 0, some 39), (20, 1, some 35), (21, 0, some 36), (22, 1, some 37)] #[true, true, true, true, true, true, true, true, true, true, true, true, true, true, true, true, true, true, true, true, true, true, true, false, true, false, false, false] HT_.out HW_.out (by kernel_rfl) (fun _ _ _ _ _ h => h) (Or.inr hHeld) rfl ?_
              refine lkT (v := .bool false) (hy := fun w' hs_ => nenr t277 (b := false) c15b1 (of_decide_eq_true (by first | (with_reducible assumption) | assumption)) (by rfl) (by rfl)) ?_; (iterate 2 refine lkP ?_); refine lkT ?_; (iterate 4 refine lkP ?_); refine lkT ?_; (iterate 4 refine lkP ?_); refine lkT ?_; (iterate 6 refine lkP ?_); refine lkT ?_; refine lkP ?_; refine lkT ?_; refine .nil ?_
              refine one_ (i := 23) (N := some 38) #[true, true, true, true, true, true, true, true, true, true, true, true, true, true, true, true, true, true, true, true, true, true, true, true, true, false, false, false] rfl rfl (one_of HT_.out (by kernel_rfl)) (by decide) (fun K hK => ?_)
              refine ge Tryd.func24 #[] ?_
              with_reducible refine (turnstilelaw13_flow.calls  t280 t281 t282 t283 t284 _ A20.out).mono ?_
              rintro e w23 ⟨rfl, hb⟩
              have HS3_ := (hb.cell (World.block_lt_of_cell? _ _ (hHeld.2.2.2.1))).trans (hHeld.2.2.2.1); have HS4_ := (hb.cell (World.block_lt_of_cell? _ _ (hHeld.2.2.2.2.1))).trans (hHeld.2.2.2.2.1); have HS5_ := (hb.cell (World.block_lt_of_cell? _ _ (hHeld.2.2.2.2.2.1))).trans (hHeld.2.2.2.2.2.1); have HS6_ := (hb.cell (World.block_lt_of_cell? _ _ (hHeld.2.2.2.2.2.2.1))).trans (hHeld.2.2.2.2.2.2.1); have HS7_ := (hb.cell (World.block_lt_of_cell? _ _ (hHeld.2.2.2.2.2.2.2.1))).trans (hHeld.2.2.2.2.2.2.2.1); have HS8_ := (hb.cell (World.block_lt_of_cell? _ _ (hHeld.2.2.2.2.2.2.2.2.1))).trans (hHeld.2.2.2.2.2.2.2.2.1); have HS9_ := (hb.cell (World.block_lt_of_cell? _ _ (hHeld.2.2.2.2.2.2.2.2.2.1))).trans (hHeld.2.2.2.2.2.2.2.2.2.1); have HS10_ := (hb.cell (World.block_lt_of_cell? _ _ (hHeld.2.2.2.2.2.2.2.2.2.2.1))).trans (hHeld.2.2.2.2.2.2.2.2.2.2.1); have HS11_ := (hb.cell (World.block_lt_of_cell? _ _ (hHeld.2.2.2.2.2.2.2.2.2.2.2))).trans (hHeld.2.2.2.2.2.2.2.2.2.2.2)
              refine ⟨_, rfl, ?_⟩
              have n0_ := Aside0.mk (Kd.R_below (ro HO271) hb); have n1_ := Aside0.mk (Kd.R_below (ro HO276) hb); have n2_ := bb BK278 hb; have n3_ := bs HB hb; clear HO271; clear HO276; clear BK278; clear HB; have HO271 := n0_; have HO276 := n1_; have BK278 := n2_; have HB := n3_; clear n0_ n1_ n2_ n3_; (try clear hb); (try clear hb2); (try clear hk); (try clear hi)
              refine hK.out _ _ ⟨(blk_cell BK278.out 0).trans rfl, (blk_cell BK278.out 1).trans rfl, (blk_cell BK278.out 2).trans rfl, HS3_, HS4_, HS5_, HS6_, HS7_, HS8_, HS9_, HS10_, HS11_⟩ (fun hHeld => ?_)
              clear hK K
              refine norm_ (a' := ?_) ?_ ?_
              rotate_left
              · show Act.put _ (some 38) _ = _
                simp only [Act.put, List.setIfInBounds_toArray, List.set_cons_zero, List.set_cons_succ, i64_w, i32_w]
                rfl
              refine chain_ (fuel := 0) [(25, 0, some 40), (26, 0, some 41), (27, 0, some 42)] #[true, true, true, true, true, true, true, true, true, true, true, true, true, true, true, true, true, true, true, true, true, true, true, true, true, true, true, true] HT_.out HW_.out (by kernel_rfl) (fun _ _ _ _ _ h => h) (Or.inl (by decide)) rfl ?_
              refine lkP ?_; refine lkP (v := .bool false) (hy := by intro w'; obtain ⟨q1_, ⟨q2_, q3_, q4_, q5_, q6_⟩, q7_, q8_, q9_⟩ := HQ_.out; go_simp; (try simp [q1_, q2_, q3_, q4_, q5_, q6_, q7_, q8_, q9_])) ?_; refine lkP ?_; refine .nil ?_
              refine done_ (done_of HT_.out (by kernel_rfl)) ?_
              try go_wp2
              go_meet
              case rel => exact ⟨_, (false), rs, H', ⟨by first | omega | exact Nat.le_refl _⟩, ⟨ro HO276⟩, ⟨bk BK278⟩, ⟨bw HB⟩⟩
            · rw [if_neg c19] at H
              rw [HR_.out] at H
              first | exact absurd H (by simp) | exact (turnstilelaw13_lives.no_ H).elim
          · rw [if_neg c18] at H
            rw [HR_.out] at H
            first | exact absurd H (by simp) | exact (turnstilelaw13_lives.no_ H).elim
        · rw [if_neg c17] at H
          rw [HR_.out] at H
          first | exact absurd H (by simp) | exact (turnstilelaw13_lives.no_ H).elim
      · rw [if_neg c16] at H
        rw [HR_.out] at H
        first | exact absurd H (by simp) | exact (turnstilelaw13_lives.no_ H).elim
    · rw [if_neg c15] at H
      rw [HR_.out] at H
      first | exact absurd H (by simp) | exact (turnstilelaw13_lives.no_ H).elim
  · rw [if_neg c14] at H
    rw [HR_.out] at H
    first | exact absurd H (by simp) | exact (turnstilelaw13_lives.no_ H).elim
 case rest => as_aux_lemma =>
  clear HC4; (try clear c1); (try clear p2); (try clear c14); (try clear c15); (try clear c15b0); (try clear c15b1); (try clear c16); (try clear c16b0); (try clear c16b1)
  obtain ⟨kq, x42_3, rfl, HA, HJ3, HO_279002, BK278, HB⟩ := hcut
  cases kq with
  | zero => exact absurd HA.out (by simp [turnstilelaw13_lives.j0])
  | succ kj3 =>
   have H := HA.out; clear HA
   simp only [turnstilelaw13_lives.j0] at H
   by_cases c32 : x42_3 = true
   · subst c32
     have H1 : (some false) = some r := by rw [if_pos rfl] at H; exact H
     rw [HR_.out] at H1
     exact absurd H1 (by simp)
   · replace c32 := Bool.eq_false_iff.mpr c32
     subst c32
     have H1 : ((turnstilelaw13_ceiling.f 20).bind fun bt285 => ((state_Apply.f kj3 t272 t273 t274 3 bt285.1 bt285.2.1 bt285.2.2.1 bt285.2.2.2.1 bt285.2.2.2.2.1 bt285.2.2.2.2.2.1 bt285.2.2.2.2.2.2.1 bt285.2.2.2.2.2.2.2.1 bt285.2.2.2.2.2.2.2.2.1 bt285.2.2.2.2.2.2.2.2.2.1 bt285.2.2.2.2.2.2.2.2.2.2).bind fun bt296 => ((turnstilelaw13_gone.f).bind fun bt302 => ((state_Apply.f kj3 t272 t273 t274 3 bt302.1 bt302.2.1 bt302.2.2.1 bt302.2.2.2.1 bt302.2.2.2.2.1 bt302.2.2.2.2.2.1 bt302.2.2.2.2.2.2.1 bt302.2.2.2.2.2.2.2.1 bt302.2.2.2.2.2.2.2.2.1 bt302.2.2.2.2.2.2.2.2.2.1 bt302.2.2.2.2.2.2.2.2.2.2).bind fun bt313 => ((state_Find.f t272 t273 t274 (⟨#[107]⟩ : ByteArray)).bind fun bt320 => (if 0 ≤ bt296.2.2.2 then (if bt296.2.2.2 ≤ 3 then (if bt296.2.2.2 = 3 then (if 0 ≤ bt313.2.2.2 then (if bt313.2.2.2 = 0 then (if bt313.1 = 3 then (if (bt313.2.2.1.length : Int) = 0 then (if bt320.2 = true then ((state_Valid.f t272 t273 t274).bind fun t322 => (if t322 = true then ((state_Equal.f kj3 t272 t273 t274 bt313.1 bt313.2.1 bt313.2.2.1).bind fun t323 => (some (!t323))) else (some false))) else (some false)) else (some false)) else (some false)) else (some false)) else (none)) else (some false)) else (none)) else (none))))))) = some r := by rw [if_neg (show ¬ (false = true) by decide)] at H; exact H
     clear H; have H := H1; clear H1; replace H := Option.bind_eq_some_iff.mp H
     obtain ⟨⟨t285, t286, t287, t288, t289, t290, t291, t292, t293, t294, t295⟩, A330, H⟩ := H
     replace H : ((state_Apply.f kj3 t272 t273 t274 3 t285 t286 t287 t288 t289 t290 t291 t292 t293 t294 t295).bind fun bt296 => ((turnstilelaw13_gone.f).bind fun bt302 => ((state_Apply.f kj3 t272 t273 t274 3 bt302.1 bt302.2.1 bt302.2.2.1 bt302.2.2.2.1 bt302.2.2.2.2.1 bt302.2.2.2.2.2.1 bt302.2.2.2.2.2.2.1 bt302.2.2.2.2.2.2.2.1 bt302.2.2.2.2.2.2.2.2.1 bt302.2.2.2.2.2.2.2.2.2.1 bt302.2.2.2.2.2.2.2.2.2.2).bind fun bt313 => ((state_Find.f t272 t273 t274 (⟨#[107]⟩ : ByteArray)).bind fun bt320 => (if 0 ≤ bt296.2.2.2 then (if bt296.2.2.2 ≤ 3 then (if bt296.2.2.2 = 3 then (if 0 ≤ bt313.2.2.2 then (if bt313.2.2.2 = 0 then (if bt313.1 = 3 then (if (bt313.2.2.1.length : Int) = 0 then (if bt320.2 = true then ((state_Valid.f t272 t273 t274).bind fun t322 => (if t322 = true then ((state_Equal.f kj3 t272 t273 t274 bt313.1 bt313.2.1 bt313.2.2.1).bind fun t323 => (some (!t323))) else (some false))) else (some false)) else (some false)) else (some false)) else (some false)) else (none)) else (some false)) else (none)) else (none)))))) = some r := H
     have A33 := Aside0.mk A330; clear A330; replace H := Option.bind_eq_some_iff.mp H
     obtain ⟨⟨t296, t297, t298, t301⟩, A340, H⟩ := H
     replace H : ((turnstilelaw13_gone.f).bind fun bt302 => ((state_Apply.f kj3 t272 t273 t274 3 bt302.1 bt302.2.1 bt302.2.2.1 bt302.2.2.2.1 bt302.2.2.2.2.1 bt302.2.2.2.2.2.1 bt302.2.2.2.2.2.2.1 bt302.2.2.2.2.2.2.2.1 bt302.2.2.2.2.2.2.2.2.1 bt302.2.2.2.2.2.2.2.2.2.1 bt302.2.2.2.2.2.2.2.2.2.2).bind fun bt313 => ((state_Find.f t272 t273 t274 (⟨#[107]⟩ : ByteArray)).bind fun bt320 => (if 0 ≤ t301 then (if t301 ≤ 3 then (if t301 = 3 then (if 0 ≤ bt313.2.2.2 then (if bt313.2.2.2 = 0 then (if bt313.1 = 3 then (if (bt313.2.2.1.length : Int) = 0 then (if bt320.2 = true then ((state_Valid.f t272 t273 t274).bind fun t322 => (if t322 = true then ((state_Equal.f kj3 t272 t273 t274 bt313.1 bt313.2.1 bt313.2.2.1).bind fun t323 => (some (!t323))) else (some false))) else (some false)) else (some false)) else (some false)) else (some false)) else (none)) else (some false)) else (none)) else (none))))) = some r := H
     have A34 := Aside0.mk A340; clear A340; replace H := Option.bind_eq_some_iff.mp H
     obtain ⟨⟨t302, t303, t304, t305, t306, t307, t308, t309, t310, t311, t312⟩, A350, H⟩ := H
     replace H : ((state_Apply.f kj3 t272 t273 t274 3 t302 t303 t304 t305 t306 t307 t308 t309 t310 t311 t312).bind fun bt313 => ((state_Find.f t272 t273 t274 (⟨#[107]⟩ : ByteArray)).bind fun bt320 => (if 0 ≤ t301 then (if t301 ≤ 3 then (if t301 = 3 then (if 0 ≤ bt313.2.2.2 then (if bt313.2.2.2 = 0 then (if bt313.1 = 3 then (if (bt313.2.2.1.length : Int) = 0 then (if bt320.2 = true then ((state_Valid.f t272 t273 t274).bind fun t322 => (if t322 = true then ((state_Equal.f kj3 t272 t273 t274 bt313.1 bt313.2.1 bt313.2.2.1).bind fun t323 => (some (!t323))) else (some false))) else (some false)) else (some false)) else (some false)) else (some false)) else (none)) else (some false)) else (none)) else (none)))) = some r := H
     have A35 := Aside0.mk A350; clear A350; replace H := Option.bind_eq_some_iff.mp H
     obtain ⟨⟨t313, t314, t315, t318⟩, A360, H⟩ := H
     replace H : ((state_Find.f t272 t273 t274 (⟨#[107]⟩ : ByteArray)).bind fun bt320 => (if 0 ≤ t301 then (if t301 ≤ 3 then (if t301 = 3 then (if 0 ≤ t318 then (if t318 = 0 then (if t313 = 3 then (if (t315.length : Int) = 0 then (if bt320.2 = true then ((state_Valid.f t272 t273 t274).bind fun t322 => (if t322 = true then ((state_Equal.f kj3 t272 t273 t274 t313 t314 t315).bind fun t323 => (some (!t323))) else (some false))) else (some false)) else (some false)) else (some false)) else (some false)) else (none)) else (some false)) else (none)) else (none))) = some r := H
     have A36 := Aside0.mk A360; clear A360; replace H := Option.bind_eq_some_iff.mp H
     obtain ⟨⟨t320, t321⟩, A370, H⟩ := H
     replace H : (if 0 ≤ t301 then (if t301 ≤ 3 then (if t301 = 3 then (if 0 ≤ t318 then (if t318 = 0 then (if t313 = 3 then (if (t315.length : Int) = 0 then (if t321 = true then ((state_Valid.f t272 t273 t274).bind fun t322 => (if t322 = true then ((state_Equal.f kj3 t272 t273 t274 t313 t314 t315).bind fun t323 => (some (!t323))) else (some false))) else (some false)) else (some false)) else (some false)) else (some false)) else (none)) else (some false)) else (none)) else (none)) = some r := H
     have A37 := Aside0.mk A370; clear A370
     by_cases c38 : 0 ≤ t301
     · rw [if_pos c38] at H
       have c38b0 := eq_true c38
       have c38b1 : decide (0 ≤ t301) = true := decide_eq_true c38
       clear c38
       by_cases c39 : t301 ≤ 3
       · rw [if_pos c39] at H
         have c39b0 := eq_true c39
         have c39b1 : decide (t301 ≤ 3) = true := decide_eq_true c39
         clear c39
         by_cases c40 : t301 = 3
         · rw [if_pos c40] at H
           have c40b0 : (t301 == 3) = true := beq_iff_eq.mpr c40
           have c40b1 : (t301 != 3) = false := bne_eq_false_iff_eq.mpr c40
           clear c40
           by_cases c41 : 0 ≤ t318
           · rw [if_pos c41] at H
             have c41b0 := eq_true c41
             have c41b1 : decide (0 ≤ t318) = true := decide_eq_true c41
             clear c41
             by_cases c42 : t318 = 0
             · rw [if_pos c42] at H
               have c42b0 : (t318 == 0) = true := beq_iff_eq.mpr c42
               have c42b1 : (t318 != 0) = false := bne_eq_false_iff_eq.mpr c42
               clear c42
               by_cases c43 : t313 = 3
               · rw [if_pos c43] at H
                 have c43b0 : (t313 == 3) = true := beq_iff_eq.mpr c43
                 have c43b1 : (t313 != 3) = false := bne_eq_false_iff_eq.mpr c43
                 clear c43
                 by_cases c44 : (t315.length : Int) = 0
                 · rw [if_pos c44] at H
                   have c44b0 : ((t315.length : Int) == 0) = true := beq_iff_eq.mpr c44
                   have c44b1 : ((t315.length : Int) != 0) = false := bne_eq_false_iff_eq.mpr c44
                   clear c44
                   by_cases c45 : t321 = true
                   · subst c45
                     have H1 : ((state_Valid.f t272 t273 t274).bind fun t322 => (if t322 = true then ((state_Equal.f kj3 t272 t273 t274 t313 t314 t315).bind fun t323 => (some (!t323))) else (some false))) = some r := by rw [if_pos rfl] at H; exact H
                     clear H; have H := H1; clear H1; replace H := Option.bind_eq_some_iff.mp H
                     obtain ⟨t322, A460, H⟩ := H
                     replace H : (if t322 = true then ((state_Equal.f kj3 t272 t273 t274 t313 t314 t315).bind fun t323 => (some (!t323))) else (some false)) = some r := H
                     have A46 := Aside0.mk A460; clear A460
                     by_cases c47 : t322 = true
                     · subst c47
                       have H1 : ((state_Equal.f kj3 t272 t273 t274 t313 t314 t315).bind fun t323 => (some (!t323))) = some r := by rw [if_pos rfl] at H; exact H
                       clear H; have H := H1; clear H1; replace H := Option.bind_eq_some_iff.mp H
                       obtain ⟨t323, A480, H⟩ := H
                       replace H : (some (!t323)) = some r := H
                       have A48 := Aside0.mk A480; clear A480
                       obtain rfl := Option.some.inj H
                       try go_wp2
                       have n0_ := Aside0.mk (Kd.R_drew HO_279002.out); have n1_ := Aside0.mk (blk_drew BK278.out); have n2_ := Aside0.mk (below_drew1 HB.out); clear HO_279002; clear BK278; clear HB; have HO_279002 := n0_; have BK278 := n1_; have HB := n2_; clear n0_ n1_ n2_
                       refine start_ (n := 7) (S := fun w' => w'.cell? ⟨gb278, 0, none⟩ = some (.int .u64 t272) ∧ w'.cell? ⟨gb278, 1, none⟩ = some (.int .u64 t273) ∧ w'.cell? ⟨gb278, 2, none⟩ = some (.slice Ao13 t274.length co13)) (ds := []) #[false, false, false, false, false, false, false] (by kernel_rfl) rfl rfl ⟨(blk_cell BK278.out 0).trans rfl, (blk_cell BK278.out 1).trans rfl, (blk_cell BK278.out 2).trans rfl⟩ (fun hHeld => ?_)
                       generalize wc.drew = w49 at HO_279002 BK278 HB hHeld ⊢
                       refine take_ (i := 0) (N := some 44) (v := ?_) (a' := ?_) #[true, false, false, false, false, false, false] rfl rfl (by kernel_rfl) (fun _ _ _ h => h) (Or.inl ⟨by rfl, ?_⟩) hHeld ?_ ?_
                       rotate_left
                       · rintro w' ⟨s0, s1, s2⟩
                         go_simp
                         with_reducible rfl
                       rotate_left
                       · simp only [Act.put, List.setIfInBounds_toArray, List.set_cons_zero, List.set_cons_succ, i64_w, i32_w]
                         rfl
                       refine one_ (i := 1) (N := some 45) #[true, true, false, false, false, false, false] rfl rfl (by kernel_rfl) (by decide) (fun K hK => ?_)
                       refine ge Tryd.func23 #[.int .u64 20] ?_
                       with_reducible refine (turnstilelaw13_ceiling.calls 20 t285 t286 t287 t288 t289 t290 t291 t292 t293 t294 t295 _ A33.out).mono ?_
                       rintro e w50 ⟨rfl, hb⟩
                       refine ⟨_, rfl, ?_⟩
                       have n0_ := Aside0.mk (Kd.R_below (ro HO_279002) hb); have n1_ := bb BK278 hb; have n2_ := bs HB hb; clear HO_279002; clear BK278; clear HB; have HO_279002 := n0_; have BK278 := n1_; have HB := n2_; clear n0_ n1_ n2_; (try clear hb); (try clear hb2); (try clear hk); (try clear hi)
                       refine hK.out _ _ ⟨(blk_cell BK278.out 0).trans rfl, (blk_cell BK278.out 1).trans rfl, (blk_cell BK278.out 2).trans rfl⟩ (fun hHeld => ?_)
                       clear hK K
                       refine norm_ (a' := ?_) ?_ ?_
                       rotate_left
                       · show Act.put _ (some 45) _ = _
                         simp only [Act.put, List.setIfInBounds_toArray, List.set_cons_zero, List.set_cons_succ, i64_w, i32_w]
                         rfl
                       refine one_ (i := 2) (N := some 46) #[true, true, true, false, false, false, false] rfl rfl (by kernel_rfl) (by decide) (fun K hK => ?_)
                       refine ge Tryd.func16 #[.agg #[.int .u64 t272, .int .u64 t273, .slice Ao13 t274.length co13], .int .u64 3, .agg #[.int .i64 t285, .int .u64 t286, .string t287, .int .i64 t288, .int .u64 t289, .int .u64 t290, .int .u64 t291, .int .u64 t292, .int .u64 t293, .int .u64 t294, .int .u64 t295]] ?_
                       with_reducible refine (state_Apply.calls kj3 t272 t273 _ _ t274 3 t285 t286 t287 t288 t289 t290 t291 t292 t293 t294 t295 t296 t297 t298 t301 _ ?side3 ?side1 ?side2 A34.out).mono ?_
                       (case side1 => exact co (Kd.R_reads' HO_279002.out).2.2)
                       (case side2 => exact (Kd.R_reads' HO_279002.out).2.1)
                       (case side3 => exact (HERR.out.below (bw HB)))
                       rintro e w51 ⟨v299, rfl, ho0, hb⟩
                       refine ⟨_, rfl, ?_⟩
                       have n0_ := Aside0.mk (Kd.R_elder' (ro HO_279002) (Kd.R_base ho0) hb); have n1_ := Aside0.mk (Kd.R_lower (Kd.R_new' ho0 (Kd.R_lt (ro HO_279002))) (below_size (bw HB))); have n2_ := bb BK278 hb; have n3_ := bs HB hb; clear HO_279002; clear BK278; clear HB; have HO_279002 := n0_; have HO300 := n1_; have BK278 := n2_; have HB := n3_; clear n0_ n1_ n2_ n3_; (try clear hb); (try clear hb2); (try clear hk); (try clear hi); (try clear ho0)
                       refine hK.out _ _ ⟨(blk_cell BK278.out 0).trans rfl, (blk_cell BK278.out 1).trans rfl, (blk_cell BK278.out 2).trans rfl⟩ (fun hHeld => ?_)
                       clear hK K
                       refine norm_ (a' := ?_) ?_ ?_
                       rotate_left
                       · show Act.put _ (some 46) _ = _
                         simp only [Act.put, List.setIfInBounds_toArray, List.set_cons_zero, List.set_cons_succ, i64_w, i32_w]
                         rfl
                       refine pure_ (i := 3) (N := some 43) (v := ?_) (a' := ?_) #[true, true, true, true, false, false, false] rfl rfl (by kernel_rfl) (fun _ _ _ h => h) (Or.inl ⟨by rfl, ?_⟩) ?_ ?_
                       rotate_left
                       · intro w'
                         go_simp
                         with_reducible rfl
                       rotate_left
                       · simp only [Act.put, List.setIfInBounds_toArray, List.set_cons_zero, List.set_cons_succ, i64_w, i32_w]
                         rfl
                       refine pure_ (i := 4) (N := some 47) (v := ?_) (a' := ?_) #[true, true, true, true, true, false, false] rfl rfl (by kernel_rfl) (fun _ _ _ h => h) (Or.inl ⟨by rfl, ?_⟩) ?_ ?_
                       rotate_left
                       · intro w'
                         go_simp
                         with_reducible rfl
                       rotate_left
                       · simp only [Act.put, List.setIfInBounds_toArray, List.set_cons_zero, List.set_cons_succ, i64_w, i32_w]
                         rfl
                       refine pure_ (i := 5) (N := some 48) (v := ?_) (a' := ?_) #[true, true, true, true, true, true, false] rfl rfl (by kernel_rfl) (fun _ _ _ h => h) (Or.inl ⟨by rfl, ?_⟩) ?_ ?_
                       rotate_left
                       · intro w'
                         go_simp
                         with_reducible rfl
                       rotate_left
                       · simp only [Act.put, List.setIfInBounds_toArray, List.set_cons_zero, List.set_cons_succ, i64_w, i32_w]
                         rfl
                       refine pure_ (i := 6) (N := some 2) (v := ?_) (a' := ?_) #[true, true, true, true, true, true, true] rfl rfl (by kernel_rfl) (fun _ _ _ h => h) (Or.inl ⟨by rfl, ?_⟩) ?_ ?_
                       rotate_left
                       · intro w'
                         go_simp
                         with_reducible rfl
                       rotate_left
                       · simp only [Act.put, List.setIfInBounds_toArray, List.set_cons_zero, List.set_cons_succ, i64_w, i32_w]
                         rfl
                       refine done_ (by kernel_rfl) ?_
                       try go_wp2
                       have n0_ := Aside0.mk (Kd.R_drew HO_279002.out); have n1_ := Aside0.mk (Kd.R_drew HO300.out); have n2_ := Aside0.mk (blk_drew BK278.out); have n3_ := Aside0.mk (below_drew1 HB.out); clear HO_279002; clear HO300; clear BK278; clear HB; have HO_279002 := n0_; have HO300 := n1_; have BK278 := n2_; have HB := n3_; clear n0_ n1_ n2_ n3_
                       refine start_ (n := 9) (S := fun w' => w'.cell? ⟨gb278, 0, none⟩ = some (.int .u64 t272) ∧ w'.cell? ⟨gb278, 1, none⟩ = some (.int .u64 t273) ∧ w'.cell? ⟨gb278, 2, none⟩ = some (.slice Ao13 t274.length co13)) (ds := []) #[false, false, false, false, false, false, false, false, false] (by kernel_rfl) rfl rfl ⟨(blk_cell BK278.out 0).trans rfl, (blk_cell BK278.out 1).trans rfl, (blk_cell BK278.out 2).trans rfl⟩ (fun hHeld => ?_); refine with_tabW turnstilelaw13_lives.tab5 turnstilelaw13_lives.bits5 (fun HT_ HW_ => ?_)
                       generalize w51.drew = w52 at HO_279002 HO300 BK278 HB hHeld ⊢
                       refine chain_ (fuel := 8) [(0, 1, some 50)] #[true, false, false, false, false, false, false, false, false] HT_.out HW_.out (by kernel_rfl) (fun _ _ _ _ _ h => h) (Or.inr hHeld) rfl ?_
                       refine lkT ?_; refine .nil ?_
                       refine join_ (σ := Value × Nat) 2 #[true, true, true, true, true, true, true, false, false] (fun s_ => [(51, .agg #[.int .i64 t302, .int .u64 t303, .string t304, .int .i64 t305, .int .u64 t306, .int .u64 t307, .int .u64 t308, .int .u64 t309, .int .u64 t310, .int .u64 t311, .int .u64 t312]), (52, .tuple #[.agg #[.int .u64 t313, .int .u64 t314, s_.1], errW t318]), (3, .pointer (some ⟨s_.2, 0, none⟩)), (49, .tuple #[.agg #[.int .u64 t313, .int .u64 t314, s_.1], errW t318]), (53, .agg #[.int .u64 t313, .int .u64 t314, s_.1]), (54, errW t318)]) (fun s_ w' => (w'.cell? ⟨gb278, 0, none⟩ = some (.int .u64 t272) ∧ w'.cell? ⟨gb278, 1, none⟩ = some (.int .u64 t273) ∧ w'.cell? ⟨gb278, 2, none⟩ = some (.slice Ao13 t274.length co13)) ∧ (Kd.R k56 56 w' w.heap.size (fun k_ => some k_ ≠ (s_.1 : Value).ownBlock ∧ some k_ ≠ (.slice Ao13 t274.length co13 : Value).ownBlock) v299 t298) ∧ (Kd.R k56 56 w' w.heap.size (fun k_ => some k_ ≠ (v299 : Value).ownBlock ∧ some k_ ≠ (.slice Ao13 t274.length co13 : Value).ownBlock) s_.1 t315) ∧ (Kd.R k56 56 w' w.heap.size (fun k_ => some k_ ≠ (v299 : Value).ownBlock ∧ some k_ ≠ (s_.1 : Value).ownBlock) (.slice Ao13 t274.length co13) t274) ∧ (w'.heap[gb278]? = some (.cells #[.int .u64 t272, .int .u64 t273, .slice Ao13 t274.length co13] 27 (0, 0))) ∧ (w'.heap[s_.2]? = some (.cells #[.int .u64 0, .int .u64 0, .slice none 0 0] 27 (0, 0))) ∧ (w.heap.size ≤ s_.2) ∧ (w.heap.size ≤ s_.2) ∧ (gb278 ≠ s_.2) ∧ (s_.2 ≠ gb278) ∧ (Below w.heap.size w w')) ?_ ?_
                       rotate_left
                       · intro hCont
                         refine two_ (i := 1) (j := 6) (Ni := some 51) (Nj := some 3) #[true, true, false, false, false, false, false, false, false] #[true, false, false, false, false, false, true, false, false] rfl rfl rfl rfl (two_of HT_.out (by kernel_rfl)) (by decide) (by decide) (fun K hK => ?_) (fun K hK => ?_)
                         · skip
                           refine ge Tryd.func25 #[] ?_
                           with_reducible refine (turnstilelaw13_gone.calls  t302 t303 t304 t305 t306 t307 t308 t309 t310 t311 t312 _ A35.out).mono ?_
                           rintro e w53 ⟨rfl, hb⟩
                           refine ⟨_, rfl, ?_⟩
                           have n0_ := Aside0.mk (Kd.R_below (ro HO_279002) hb); have n1_ := Aside0.mk (Kd.R_below (ro HO300) hb); have n2_ := bb BK278 hb; have n3_ := bs HB hb; clear HO_279002; clear HO300; clear BK278; clear HB; have HO_279002 := n0_; have HO300 := n1_; have BK278 := n2_; have HB := n3_; clear n0_ n1_ n2_ n3_; (try clear hb); (try clear hb2); (try clear hk); (try clear hi)
                           refine hK.out _ _ ⟨(blk_cell BK278.out 0).trans rfl, (blk_cell BK278.out 1).trans rfl, (blk_cell BK278.out 2).trans rfl⟩ (fun hHeld => ?_)
                           clear hK K
                           refine norm_ (a' := ?_) ?_ ?_
                           rotate_left
                           · show Act.put _ (some 51) _ = _
                             simp only [Act.put, List.setIfInBounds_toArray, List.set_cons_zero, List.set_cons_succ, i64_w, i32_w]
                             rfl
                           refine two_ (i := 2) (j := 6) (Ni := some 52) (Nj := some 3) #[true, true, true, false, false, false, false, false, false] #[true, true, false, false, false, false, true, false, false] rfl rfl rfl rfl (two_of HT_.out (by kernel_rfl)) (by decide) (by decide) (fun K hK => ?_) (fun K hK => ?_)
                           · skip
                             refine ge Tryd.func16 #[.agg #[.int .u64 t272, .int .u64 t273, .slice Ao13 t274.length co13], .int .u64 3, .agg #[.int .i64 t302, .int .u64 t303, .string t304, .int .i64 t305, .int .u64 t306, .int .u64 t307, .int .u64 t308, .int .u64 t309, .int .u64 t310, .int .u64 t311, .int .u64 t312]] ?_
                             with_reducible refine (state_Apply.calls kj3 t272 t273 _ _ t274 3 t302 t303 t304 t305 t306 t307 t308 t309 t310 t311 t312 t313 t314 t315 t318 _ ?side3 ?side1 ?side2 A36.out).mono ?_
                             (case side1 => exact co (Kd.R_reads' HO_279002.out).2.2)
                             (case side2 => exact (Kd.R_reads' HO_279002.out).2.1)
                             (case side3 => exact (HERR.out.below (bw HB)))
                             rintro e w54 ⟨v316, rfl, ho0, hb⟩
                             refine ⟨_, rfl, ?_⟩
                             have n0_ := Aside0.mk (Kd.R_elder' (ro HO_279002) (Kd.R_base ho0) hb); have n1_ := Aside0.mk (Kd.R_elder' (ro HO300) (Kd.R_base ho0) hb); have n2_ := Aside0.mk (Kd.R_lower (Kd.R_new' (Kd.R_new' ho0 (Kd.R_lt (ro HO_279002))) (Kd.R_lt (ro HO300))) (below_size (bw HB))); have n3_ := bb BK278 hb; have n4_ := bs HB hb; clear HO_279002; clear HO300; clear BK278; clear HB; have HO_279002 := n0_; have HO300 := n1_; have HO317 := n2_; have BK278 := n3_; have HB := n4_; clear n0_ n1_ n2_ n3_ n4_; (try clear hb); (try clear hb2); (try clear hk); (try clear hi); (try clear ho0)
                             refine hK.out _ _ ⟨(blk_cell BK278.out 0).trans rfl, (blk_cell BK278.out 1).trans rfl, (blk_cell BK278.out 2).trans rfl⟩ (fun hHeld => ?_)
                             clear hK K
                             refine norm_ (a' := ?_) ?_ ?_
                             rotate_left
                             · show Act.put _ (some 52) _ = _
                               simp only [Act.put, List.setIfInBounds_toArray, List.set_cons_zero, List.set_cons_succ, i64_w, i32_w]
                               rfl
                             refine chain_ (fuel := 3) [(3, 0, some 49), (4, 0, some 53), (5, 0, some 54)] #[true, true, true, true, true, true, false, false, false] HT_.out HW_.out (by kernel_rfl) (fun _ _ _ _ _ h => h) (Or.inl (by decide)) rfl ?_
                             (iterate 3 refine lkP ?_); refine .nil ?_
                             refine one_ (i := 6) (N := some 3) #[true, true, true, true, true, true, true, false, false] rfl rfl (one_of HT_.out (by kernel_rfl)) (by decide) (fun K hK => ?_)
                             refine box_step ?hg (N := 3) ?hd (cs := #[.int .u64 0, .int .u64 0, .slice none 0 0]) (t := 27) ?hr ?_; (case hd => rfl); (case hg => rfl); (case hr => first | (go_simp; done) | (go_simp; rfl))
                             intro gb319 hg w55 hbox hb
                             have n0_ := Aside0.mk (Kd.R_below (ro HO_279002) hb); have n1_ := Aside0.mk (Kd.R_below (ro HO300) hb); have n2_ := Aside0.mk (Kd.R_below (ro HO317) hb); have n3_ := bb BK278 hb; have n4_ := bs HB hb; have n5_ := Aside0.mk (hbox); have n6_ := sz HB hg; have n7_ := sz HB hg; have n8_ := nl BK278 hg; have n9_ := nr BK278 hg; clear HO_279002; clear HO300; clear HO317; clear BK278; clear HB; have HO_279002 := n0_; have HO300 := n1_; have HO317 := n2_; have BK278 := n3_; have HB := n4_; have BK319 := n5_; have GW319 := n6_; have GE319 := n7_; have NB278_319 := n8_; have NB319_278 := n9_; clear n0_ n1_ n2_ n3_ n4_ n5_ n6_ n7_ n8_ n9_; clear hb hbox hg
                             refine hK.out _ _ ⟨(blk_cell BK278.out 0).trans rfl, (blk_cell BK278.out 1).trans rfl, (blk_cell BK278.out 2).trans rfl⟩ (fun hHeld => ?_)
                             clear hK K
                             refine norm_ (a' := ?_) ?_ ?_
                             rotate_left
                             · show Act.put _ (some 3) _ = _
                               simp only [Act.put, List.setIfInBounds_toArray, List.set_cons_zero, List.set_cons_succ, i64_w, i32_w]
                               rfl
                             exact norm_ (by simp only [putAll, Act.put, List.setIfInBounds_toArray, List.set_cons_zero, List.set_cons_succ]) (hCont (v316, gb319) _ ⟨hHeld, (by (with_reducible repeat (first | apply Kd.R_alloc | apply Kd.R_drewN | apply Kd.R_drew)); exact Kd.R_mono HO300.out (fun _ hk => ⟨hk.2, hk.1.2⟩)), (by (with_reducible repeat (first | apply Kd.R_alloc | apply Kd.R_drewN | apply Kd.R_drew)); exact Kd.R_mono HO317.out (fun _ hk => ⟨hk.2, hk.1.2⟩)), (by (with_reducible repeat (first | apply Kd.R_alloc | apply Kd.R_drewN | apply Kd.R_drew)); exact Kd.R_mono HO_279002.out (fun _ hk => ⟨hk.1.2, hk.2⟩)), (bk BK278), (bk BK319), GW319.out, GE319.out, NB278_319.out, NB319_278.out, (bw HB)⟩)
                           · skip
                             refine box_step ?hg (N := 3) ?hd (cs := #[.int .u64 0, .int .u64 0, .slice none 0 0]) (t := 27) ?hr ?_; (case hd => rfl); (case hg => rfl); (case hr => first | (go_simp; done) | (go_simp; rfl))
                             intro gb319 hg w54 hbox hb
                             have n0_ := Aside0.mk (Kd.R_below (ro HO_279002) hb); have n1_ := Aside0.mk (Kd.R_below (ro HO300) hb); have n2_ := bb BK278 hb; have n3_ := bs HB hb; have n4_ := Aside0.mk (hbox); have n5_ := sz HB hg; have n6_ := sz HB hg; have n7_ := nl BK278 hg; have n8_ := nr BK278 hg; clear HO_279002; clear HO300; clear BK278; clear HB; have HO_279002 := n0_; have HO300 := n1_; have BK278 := n2_; have HB := n3_; have BK319 := n4_; have GW319 := n5_; have GE319 := n6_; have NB278_319 := n7_; have NB319_278 := n8_; clear n0_ n1_ n2_ n3_ n4_ n5_ n6_ n7_ n8_; clear hb hbox hg
                             refine hK.out _ _ ⟨(blk_cell BK278.out 0).trans rfl, (blk_cell BK278.out 1).trans rfl, (blk_cell BK278.out 2).trans rfl⟩ (fun hHeld => ?_)
                             clear hK K
                             refine norm_ (a' := ?_) ?_ ?_
                             rotate_left
                             · show Act.put _ (some 3) _ = _
                               simp only [Act.put, List.setIfInBounds_toArray, List.set_cons_zero, List.set_cons_succ, i64_w, i32_w]
                               rfl
                             refine one_ (i := 2) (N := some 52) #[true, true, true, false, false, false, true, false, false] rfl rfl (one_of HT_.out (by kernel_rfl)) (by decide) (fun K hK => ?_)
                             refine ge Tryd.func16 #[.agg #[.int .u64 t272, .int .u64 t273, .slice Ao13 t274.length co13], .int .u64 3, .agg #[.int .i64 t302, .int .u64 t303, .string t304, .int .i64 t305, .int .u64 t306, .int .u64 t307, .int .u64 t308, .int .u64 t309, .int .u64 t310, .int .u64 t311, .int .u64 t312]] ?_
                             with_reducible refine (state_Apply.calls kj3 t272 t273 _ _ t274 3 t302 t303 t304 t305 t306 t307 t308 t309 t310 t311 t312 t313 t314 t315 t318 _ ?side3 ?side1 ?side2 A36.out).mono ?_
                             (case side1 => exact co (Kd.R_reads' HO_279002.out).2.2)
                             (case side2 => exact (Kd.R_reads' HO_279002.out).2.1)
                             (case side3 => exact (HERR.out.below (bw HB)))
                             rintro e w55 ⟨v316, rfl, ho0, hb⟩
                             refine ⟨_, rfl, ?_⟩
                             have n0_ := Aside0.mk (Kd.R_elder' (ro HO_279002) (Kd.R_base ho0) hb); have n1_ := Aside0.mk (Kd.R_elder' (ro HO300) (Kd.R_base ho0) hb); have n2_ := Aside0.mk (Kd.R_lower (Kd.R_new' (Kd.R_new' ho0 (Kd.R_lt (ro HO_279002))) (Kd.R_lt (ro HO300))) (below_size (bw HB))); have n3_ := bb BK278 hb; have n4_ := bb BK319 hb; have n5_ := bs HB hb; clear HO_279002; clear HO300; clear BK278; clear BK319; clear HB; have HO_279002 := n0_; have HO300 := n1_; have HO317 := n2_; have BK278 := n3_; have BK319 := n4_; have HB := n5_; clear n0_ n1_ n2_ n3_ n4_ n5_; (try clear hb); (try clear hb2); (try clear hk); (try clear hi); (try clear ho0)
                             refine hK.out _ _ ⟨(blk_cell BK278.out 0).trans rfl, (blk_cell BK278.out 1).trans rfl, (blk_cell BK278.out 2).trans rfl⟩ (fun hHeld => ?_)
                             clear hK K
                             refine norm_ (a' := ?_) ?_ ?_
                             rotate_left
                             · show Act.put _ (some 52) _ = _
                               simp only [Act.put, List.setIfInBounds_toArray, List.set_cons_zero, List.set_cons_succ, i64_w, i32_w]
                               rfl
                             refine chain_ (fuel := 2) [(3, 0, some 49), (4, 0, some 53), (5, 0, some 54)] #[true, true, true, true, true, true, true, false, false] HT_.out HW_.out (by kernel_rfl) (fun _ _ _ _ _ h => h) (Or.inl (by decide)) rfl ?_
                             (iterate 3 refine lkP ?_); refine .nil ?_
                             exact norm_ (by simp only [putAll, Act.put, List.setIfInBounds_toArray, List.set_cons_zero, List.set_cons_succ]) (hCont (v316, gb319) _ ⟨hHeld, (by (with_reducible repeat (first | apply Kd.R_alloc | apply Kd.R_drewN | apply Kd.R_drew)); exact Kd.R_mono HO300.out (fun _ hk => ⟨hk.2, hk.1.2⟩)), (by (with_reducible repeat (first | apply Kd.R_alloc | apply Kd.R_drewN | apply Kd.R_drew)); exact Kd.R_mono HO317.out (fun _ hk => ⟨hk.2, hk.1.2⟩)), (by (with_reducible repeat (first | apply Kd.R_alloc | apply Kd.R_drewN | apply Kd.R_drew)); exact Kd.R_mono HO_279002.out (fun _ hk => ⟨hk.1.2, hk.2⟩)), (bk BK278), (bk BK319), GW319.out, GE319.out, NB278_319.out, NB319_278.out, (bw HB)⟩)
                         · skip
                           refine box_step ?hg (N := 3) ?hd (cs := #[.int .u64 0, .int .u64 0, .slice none 0 0]) (t := 27) ?hr ?_; (case hd => rfl); (case hg => rfl); (case hr => first | (go_simp; done) | (go_simp; rfl))
                           intro gb319 hg w53 hbox hb
                           have n0_ := Aside0.mk (Kd.R_below (ro HO_279002) hb); have n1_ := Aside0.mk (Kd.R_below (ro HO300) hb); have n2_ := bb BK278 hb; have n3_ := bs HB hb; have n4_ := Aside0.mk (hbox); have n5_ := sz HB hg; have n6_ := sz HB hg; have n7_ := nl BK278 hg; have n8_ := nr BK278 hg; clear HO_279002; clear HO300; clear BK278; clear HB; have HO_279002 := n0_; have HO300 := n1_; have BK278 := n2_; have HB := n3_; have BK319 := n4_; have GW319 := n5_; have GE319 := n6_; have NB278_319 := n7_; have NB319_278 := n8_; clear n0_ n1_ n2_ n3_ n4_ n5_ n6_ n7_ n8_; clear hb hbox hg
                           refine hK.out _ _ ⟨(blk_cell BK278.out 0).trans rfl, (blk_cell BK278.out 1).trans rfl, (blk_cell BK278.out 2).trans rfl⟩ (fun hHeld => ?_)
                           clear hK K
                           refine norm_ (a' := ?_) ?_ ?_
                           rotate_left
                           · show Act.put _ (some 3) _ = _
                             simp only [Act.put, List.setIfInBounds_toArray, List.set_cons_zero, List.set_cons_succ, i64_w, i32_w]
                             rfl
                           refine one_ (i := 1) (N := some 51) #[true, true, false, false, false, false, true, false, false] rfl rfl (one_of HT_.out (by kernel_rfl)) (by decide) (fun K hK => ?_)
                           refine ge Tryd.func25 #[] ?_
                           with_reducible refine (turnstilelaw13_gone.calls  t302 t303 t304 t305 t306 t307 t308 t309 t310 t311 t312 _ A35.out).mono ?_
                           rintro e w54 ⟨rfl, hb⟩
                           refine ⟨_, rfl, ?_⟩
                           have n0_ := Aside0.mk (Kd.R_below (ro HO_279002) hb); have n1_ := Aside0.mk (Kd.R_below (ro HO300) hb); have n2_ := bb BK278 hb; have n3_ := bb BK319 hb; have n4_ := bs HB hb; clear HO_279002; clear HO300; clear BK278; clear BK319; clear HB; have HO_279002 := n0_; have HO300 := n1_; have BK278 := n2_; have BK319 := n3_; have HB := n4_; clear n0_ n1_ n2_ n3_ n4_; (try clear hb); (try clear hb2); (try clear hk); (try clear hi)
                           refine hK.out _ _ ⟨(blk_cell BK278.out 0).trans rfl, (blk_cell BK278.out 1).trans rfl, (blk_cell BK278.out 2).trans rfl⟩ (fun hHeld => ?_)
                           clear hK K
                           refine norm_ (a' := ?_) ?_ ?_
                           rotate_left
                           · show Act.put _ (some 51) _ = _
                             simp only [Act.put, List.setIfInBounds_toArray, List.set_cons_zero, List.set_cons_succ, i64_w, i32_w]
                             rfl
                           refine one_ (i := 2) (N := some 52) #[true, true, true, false, false, false, true, false, false] rfl rfl (one_of HT_.out (by kernel_rfl)) (by decide) (fun K hK => ?_)
                           refine ge Tryd.func16 #[.agg #[.int .u64 t272, .int .u64 t273, .slice Ao13 t274.length co13], .int .u64 3, .agg #[.int .i64 t302, .int .u64 t303, .string t304, .int .i64 t305, .int .u64 t306, .int .u64 t307, .int .u64 t308, .int .u64 t309, .int .u64 t310, .int .u64 t311, .int .u64 t312]] ?_
                           with_reducible refine (state_Apply.calls kj3 t272 t273 _ _ t274 3 t302 t303 t304 t305 t306 t307 t308 t309 t310 t311 t312 t313 t314 t315 t318 _ ?side3 ?side1 ?side2 A36.out).mono ?_
                           (case side1 => exact co (Kd.R_reads' HO_279002.out).2.2)
                           (case side2 => exact (Kd.R_reads' HO_279002.out).2.1)
                           (case side3 => exact (HERR.out.below (bw HB)))
                           rintro e w55 ⟨v316, rfl, ho0, hb⟩
                           refine ⟨_, rfl, ?_⟩
                           have n0_ := Aside0.mk (Kd.R_elder' (ro HO_279002) (Kd.R_base ho0) hb); have n1_ := Aside0.mk (Kd.R_elder' (ro HO300) (Kd.R_base ho0) hb); have n2_ := Aside0.mk (Kd.R_lower (Kd.R_new' (Kd.R_new' ho0 (Kd.R_lt (ro HO_279002))) (Kd.R_lt (ro HO300))) (below_size (bw HB))); have n3_ := bb BK278 hb; have n4_ := bb BK319 hb; have n5_ := bs HB hb; clear HO_279002; clear HO300; clear BK278; clear BK319; clear HB; have HO_279002 := n0_; have HO300 := n1_; have HO317 := n2_; have BK278 := n3_; have BK319 := n4_; have HB := n5_; clear n0_ n1_ n2_ n3_ n4_ n5_; (try clear hb); (try clear hb2); (try clear hk); (try clear hi); (try clear ho0)
                           refine hK.out _ _ ⟨(blk_cell BK278.out 0).trans rfl, (blk_cell BK278.out 1).trans rfl, (blk_cell BK278.out 2).trans rfl⟩ (fun hHeld => ?_)
                           clear hK K
                           refine norm_ (a' := ?_) ?_ ?_
                           rotate_left
                           · show Act.put _ (some 52) _ = _
                             simp only [Act.put, List.setIfInBounds_toArray, List.set_cons_zero, List.set_cons_succ, i64_w, i32_w]
                             rfl
                           refine chain_ (fuel := 2) [(3, 0, some 49), (4, 0, some 53), (5, 0, some 54)] #[true, true, true, true, true, true, true, false, false] HT_.out HW_.out (by kernel_rfl) (fun _ _ _ _ _ h => h) (Or.inl (by decide)) rfl ?_
                           (iterate 3 refine lkP ?_); refine .nil ?_
                           exact norm_ (by simp only [putAll, Act.put, List.setIfInBounds_toArray, List.set_cons_zero, List.set_cons_succ]) (hCont (v316, gb319) _ ⟨hHeld, (by (with_reducible repeat (first | apply Kd.R_alloc | apply Kd.R_drewN | apply Kd.R_drew)); exact Kd.R_mono HO300.out (fun _ hk => ⟨hk.2, hk.1.2⟩)), (by (with_reducible repeat (first | apply Kd.R_alloc | apply Kd.R_drewN | apply Kd.R_drew)); exact Kd.R_mono HO317.out (fun _ hk => ⟨hk.2, hk.1.2⟩)), (by (with_reducible repeat (first | apply Kd.R_alloc | apply Kd.R_drewN | apply Kd.R_drew)); exact Kd.R_mono HO_279002.out (fun _ hk => ⟨hk.1.2, hk.2⟩)), (bk BK278), (bk BK319), GW319.out, GE319.out, NB278_319.out, NB319_278.out, (bw HB)⟩)
                       rintro ⟨v316, gb319⟩ w56 ⟨hS_, h0_, h1_, h2_, h3_, h4_, h5_, h6_, h7_, h8_, h9_⟩
                       have n0_ : Aside0 (Kd.R k56 56 w56 w.heap.size (fun k_ => some k_ ≠ (v316 : Value).ownBlock ∧ some k_ ≠ (.slice Ao13 t274.length co13 : Value).ownBlock) v299 t298) := ⟨h0_⟩
                       have n1_ : Aside0 (Kd.R k56 56 w56 w.heap.size (fun k_ => some k_ ≠ (v299 : Value).ownBlock ∧ some k_ ≠ (.slice Ao13 t274.length co13 : Value).ownBlock) v316 t315) := ⟨h1_⟩
                       have n2_ : Aside0 (Kd.R k56 56 w56 w.heap.size (fun k_ => some k_ ≠ (v299 : Value).ownBlock ∧ some k_ ≠ (v316 : Value).ownBlock) (.slice Ao13 t274.length co13) t274) := ⟨h2_⟩
                       have n3_ : Aside0 (w56.heap[gb278]? = some (.cells #[.int .u64 t272, .int .u64 t273, .slice Ao13 t274.length co13] 27 (0, 0))) := ⟨h3_⟩
                       have n4_ : Aside0 (w56.heap[gb319]? = some (.cells #[.int .u64 0, .int .u64 0, .slice none 0 0] 27 (0, 0))) := ⟨h4_⟩
                       have n5_ : Aside0 (w.heap.size ≤ gb319) := ⟨h5_⟩
                       have n6_ : Aside0 (w.heap.size ≤ gb319) := ⟨h6_⟩
                       have n7_ : Aside0 (gb278 ≠ gb319) := ⟨h7_⟩
                       have n8_ : Aside0 (gb319 ≠ gb278) := ⟨h8_⟩
                       have n9_ : Aside0 (Below w.heap.size w w56) := ⟨h9_⟩
                       clear HO_279002; clear HO300; clear BK278; clear HB; clear h0_ h1_ h2_ h3_ h4_ h5_ h6_ h7_ h8_ h9_; have HO300 := n0_; have HO317 := n1_; have HO_279002 := n2_; have BK278 := n3_; have BK319 := n4_; have GW319 := n5_; have GE319 := n6_; have NB278_319 := n7_; have NB319_278 := n8_; have HB := n9_; clear n0_ n1_ n2_ n3_ n4_ n5_ n6_ n7_ n8_ n9_
                       have hHeld : w56.cell? ⟨gb278, 0, none⟩ = some (.int .u64 t272) ∧ w56.cell? ⟨gb278, 1, none⟩ = some (.int .u64 t273) ∧ w56.cell? ⟨gb278, 2, none⟩ = some (.slice Ao13 t274.length co13) := hS_
                       obtain ⟨Ao59, co59, eo59⟩ := Kd.R_slice HO317.out
                       (first | subst eo59 | (injection eo59 with f1_ f2_ f3_; have f4_ := f1_.symm; have f5_ := f3_.symm; clear f1_ f2_ f3_; subst f4_; subst f5_))
                       refine norm_ (a' := ?_) ?_ ?_
                       rotate_left
                       · simp only [putAll, Act.put, List.setIfInBounds_toArray, List.set_cons_zero, List.set_cons_succ]
                         rfl
                       refine one_ (i := 7) (N := none) #[true, true, true, true, true, true, true, true, false] rfl rfl (one_of HT_.out (by kernel_rfl)) (by decide) (fun K hK => ?_)
                       have hs57 : w56.cell? ⟨gb319, 0, none⟩ = some (.int .u64 0) := (blk_cell BK319.out 0).trans rfl
                       have hfs57 := blk_frozen BK319.out 0; have hns57_0 := NB278_319.out; have hms57_0 := NB319_278.out
                       have hs58 : w56.cell? ⟨gb319, 1, none⟩ = some (.int .u64 0) := (blk_cell BK319.out 1).trans rfl
                       have hfs58 := blk_frozen BK319.out 1; have hns58_0 := NB278_319.out; have hms58_0 := NB319_278.out
                       have hs60 : w56.cell? ⟨gb319, 2, none⟩ = some (.slice none 0 0) := (blk_cell BK319.out 2).trans rfl
                       have hfs60 := blk_frozen BK319.out 2; have hns60_0 := NB278_319.out; have hms60_0 := NB319_278.out
                       refine skip_ (w1 := ?_) (by rfl) rfl ?_ ?_
                       rotate_left
                       · go_simp
                         rfl
                       refine hK.out _ _ ⟨((cell_far (p := ⟨gb319, _, none⟩) NB278_319.out _).trans (((cell_far (p := ⟨gb319, _, none⟩) NB278_319.out _).trans (((cell_far (p := ⟨gb319, _, none⟩) NB278_319.out _).trans (hHeld.1)))))), ((cell_far (p := ⟨gb319, _, none⟩) NB278_319.out _).trans (((cell_far (p := ⟨gb319, _, none⟩) NB278_319.out _).trans (((cell_far (p := ⟨gb319, _, none⟩) NB278_319.out _).trans (hHeld.2.1)))))), ((cell_far (p := ⟨gb319, _, none⟩) NB278_319.out _).trans (((cell_far (p := ⟨gb319, _, none⟩) NB278_319.out _).trans (((cell_far (p := ⟨gb319, _, none⟩) NB278_319.out _).trans (hHeld.2.2))))))⟩ (fun hHeld => ?_)
                       clear hK K
                       refine chain_ (fuel := 0) [(8, 0, some 4)] #[true, true, true, true, true, true, true, true, true] HT_.out HW_.out (by kernel_rfl) (fun _ _ _ _ _ h => h) (Or.inl (by decide)) rfl ?_
                       refine lkP ?_; refine .nil ?_
                       refine done_ (done_of HT_.out (by kernel_rfl)) ?_
                       have hnb61 := NB278_319.out; have hnc61 := NB319_278.out
                       obtain ⟨hcz62_0, hcz62_1, hcz62_2, hfz62_0, hfz62_1, hfz62_2⟩ := bc3 BK278
                       try go_wp2_with (first | ((with_reducible refine gate_callee (f := 11) rfl ?_); refine gl (some 57) Tryd.func11 #[.agg #[.int .u64 t272, .int .u64 t273, .slice Ao13 t274.length co13], .string (⟨#[107]⟩ : ByteArray)] ?_; (with_reducible refine (state_Find.calls t272 t273 _ _ t274 (⟨#[107]⟩ : ByteArray) t320 true _ ?side1 ?side2 A37.out).mono ?_); (case side1 => refine (Kd.R_reads' (e := 56) (base := w.heap.size) (ok := fun k_ => (some k_ ≠ (v299 : Value).ownBlock ∧ some k_ ≠ (.slice Ao59 t315.length co59 : Value).ownBlock)) (n := t274.length) (c := co13) ?_).2.2; exact (by (with_reducible repeat (first | apply Kd.R_alloc | apply Kd.R_drewN | apply Kd.R_drew)); exact (Kd.R_mono (Kd.R_far (p := ⟨gb319, 2, none⟩) (Kd.R_far (p := ⟨gb319, 1, none⟩) (Kd.R_far (p := ⟨gb319, 0, none⟩) (Kd.R_types HO_279002.out BK319.out (by decide)) (fun _ hk => hk.2) (.int .u64 t313)) (fun _ hk => hk.2) (.int .u64 t314)) (fun _ hk => hk.2) (.slice Ao59 t315.length co59)) (fun _ h_ => h_.1)))); (case side2 => exact (Kd.R_reads' HO_279002.out).2.1); rintro e w63 ⟨rfl, hb⟩; refine ⟨_, rfl, ?_⟩; have n0_ := Aside0.mk (Kd.R_below (by (with_reducible repeat (first | apply Kd.R_alloc | apply Kd.R_drewN | apply Kd.R_drew)); exact (Kd.R_mono (Kd.R_far (p := ⟨gb319, 2, none⟩) (Kd.R_far (p := ⟨gb319, 1, none⟩) (Kd.R_far (p := ⟨gb319, 0, none⟩) (Kd.R_types HO_279002.out BK319.out (by decide)) (fun _ hk => hk.2) (.int .u64 t313)) (fun _ hk => hk.2) (.int .u64 t314)) (fun _ hk => hk.2) (.slice Ao59 t315.length co59)) (fun _ h_ => h_.1))) hb); have n1_ := Aside0.mk (Kd.R_below (by (with_reducible repeat (first | apply Kd.R_alloc | apply Kd.R_drewN | apply Kd.R_drew)); exact (Kd.R_mono (Kd.R_far (p := ⟨gb319, 2, none⟩) (Kd.R_far (p := ⟨gb319, 1, none⟩) (Kd.R_far (p := ⟨gb319, 0, none⟩) (Kd.R_types HO300.out BK319.out (by decide)) (fun _ hk => hk.2) (.int .u64 t313)) (fun _ hk => hk.2) (.int .u64 t314)) (fun _ hk => hk.2) (.slice Ao59 t315.length co59)) (fun _ h_ => h_.1))) hb); have n2_ := Aside0.mk (Kd.R_below (by (with_reducible repeat (first | apply Kd.R_alloc | apply Kd.R_drewN | apply Kd.R_drew)); exact (Kd.R_mono (Kd.R_far (p := ⟨gb319, 2, none⟩) (Kd.R_far (p := ⟨gb319, 1, none⟩) (Kd.R_far (p := ⟨gb319, 0, none⟩) (Kd.R_types HO317.out BK319.out (by decide)) (fun _ hk => hk.2) (.int .u64 t313)) (fun _ hk => hk.2) (.int .u64 t314)) (fun _ hk => hk.2) (.slice Ao59 t315.length co59)) (fun _ h_ => h_.1))) hb); have n3_ := bb BK278 hb; have n4_ := bbp (.cells #[.int .u64 t313, .int .u64 t314, .slice Ao59 t315.length co59] 27 (0, 0)) BK319 hb; have n5_ := bs HB hb; clear HO_279002; clear HO300; clear HO317; clear BK278; clear BK319; clear HB; have HO_279002 := n0_; have HO300 := n1_; have HO317 := n2_; have BK278 := n3_; have BK319 := n4_; have HB := n5_; clear n0_ n1_ n2_ n3_ n4_ n5_; (try clear hb); (try clear hb2); (try clear hk); (try clear hi); obtain ⟨hcz64_0, hcz64_1, hcz64_2, hfz64_0, hfz64_1, hfz64_2⟩ := bc3 BK319; obtain ⟨hcz65_0, hcz65_1, hcz65_2, hfz65_0, hfz65_1, hfz65_2⟩ := bc3 BK278) | ((with_reducible refine gate_dst (N := 61) rfl ?_); (try (refine gate_guard (by rfl) ?_; dsimp only)); refine ld_err 3 1 (HERR.out.below (bw HB)) ?_ rfl rfl (by decide) (by have := Errs.five; omega) rfl) | ((with_reducible refine gate_dst (N := 62) rfl ?_); (try (refine gate_guard (by rfl) ?_; dsimp only)); refine eq_err t301 3 (b := (t301 == 3)) (HERR.out.below (bw HB)) ?_ rfl (of_decide_eq_true (by first | (with_reducible assumption) | assumption)) (Int.le_trans (of_decide_eq_true (by first | (with_reducible assumption) | assumption) : t301 ≤ 3) Errs.five) (by decide) (by have := Errs.five; omega)) | ((with_reducible refine gate_dst (N := 65) rfl ?_); (try (refine gate_guard (by rfl) ?_; dsimp only)); refine eqn_err t318 (b := (t318 == 0)) ?_ rfl (of_decide_eq_true (by first | (with_reducible assumption) | assumption))) | (go_at_call 10; (with_reducible refine (state_Valid.calls t272 t273 _ _ t274 true _ ?side1 ?side2 A46.out).mono ?_); (case side1 => exact co (Kd.R_reads' HO_279002.out).2.2); (case side2 => exact (Kd.R_reads' HO_279002.out).2.1); rintro e w66 ⟨rfl, hb⟩; have n0_ := Aside0.mk (Kd.R_below (ro HO_279002) hb); have n1_ := Aside0.mk (Kd.R_below (ro HO300) hb); have n2_ := Aside0.mk (Kd.R_below (ro HO317) hb); have n3_ := bb BK278 hb; have n4_ := bb BK319 hb; have n5_ := bs HB hb; clear HO_279002; clear HO300; clear HO317; clear BK278; clear BK319; clear HB; have HO_279002 := n0_; have HO300 := n1_; have HO317 := n2_; have BK278 := n3_; have BK319 := n4_; have HB := n5_; clear n0_ n1_ n2_ n3_ n4_ n5_; (try clear hb); (try clear hb2); (try clear hk); (try clear hi); obtain ⟨hcz67_0, hcz67_1, hcz67_2, hfz67_0, hfz67_1, hfz67_2⟩ := bc3 BK278; obtain ⟨hcz68_0, hcz68_1, hcz68_2, hfz68_0, hfz68_1, hfz68_2⟩ := bc3 BK319) | (go_at_call 13; (with_reducible refine (state_Equal.calls kj3 t272 t273 _ _ t274 t313 t314 _ _ t315 t323 _ ?side1 ?side2 ?side3 ?side4 A48.out).mono ?_); (case side1 => exact co (Kd.R_reads' HO_279002.out).2.2); (case side2 => exact (Kd.R_reads' HO_279002.out).2.1); (case side3 => exact co (Kd.R_reads' HO317.out).2.2); (case side4 => exact (Kd.R_reads' HO317.out).2.1); rintro e w69 ⟨rfl, hb⟩; have n0_ := Aside0.mk (Kd.R_below (ro HO_279002) hb); have n1_ := Aside0.mk (Kd.R_below (ro HO300) hb); have n2_ := Aside0.mk (Kd.R_below (ro HO317) hb); have n3_ := bb BK278 hb; have n4_ := bb BK319 hb; have n5_ := bs HB hb; clear HO_279002; clear HO300; clear HO317; clear BK278; clear BK319; clear HB; have HO_279002 := n0_; have HO300 := n1_; have HO317 := n2_; have BK278 := n3_; have BK319 := n4_; have HB := n5_; clear n0_ n1_ n2_ n3_ n4_ n5_; (try clear hb); (try clear hb2); (try clear hk); (try clear hi)))
                       go_ret
                       exact ⟨re, bw HB⟩
                     · replace c47 := Bool.eq_false_iff.mpr c47
                       subst c47
                       have H1 : (some false) = some r := by rw [if_neg (show ¬ (false = true) by decide)] at H; exact H
                       rw [HR_.out] at H1
                       exact absurd H1 (by simp)
                   · replace c45 := Bool.eq_false_iff.mpr c45
                     subst c45
                     have H1 : (some false) = some r := by rw [if_neg (show ¬ (false = true) by decide)] at H; exact H
                     rw [HR_.out] at H1
                     exact absurd H1 (by simp)
                 · rw [if_neg c44] at H
                   rw [HR_.out] at H
                   first | exact absurd H (by simp) | exact (turnstilelaw13_lives.no_ H).elim
               · rw [if_neg c43] at H
                 rw [HR_.out] at H
                 first | exact absurd H (by simp) | exact (turnstilelaw13_lives.no_ H).elim
             · rw [if_neg c42] at H
               rw [HR_.out] at H
               first | exact absurd H (by simp) | exact (turnstilelaw13_lives.no_ H).elim
           · rw [if_neg c41] at H
             rw [HR_.out] at H
             first | exact absurd H (by simp) | exact (turnstilelaw13_lives.no_ H).elim
         · rw [if_neg c40] at H
           rw [HR_.out] at H
           first | exact absurd H (by simp) | exact (turnstilelaw13_lives.no_ H).elim
       · rw [if_neg c39] at H
         rw [HR_.out] at H
         first | exact absurd H (by simp) | exact (turnstilelaw13_lives.no_ H).elim
     · rw [if_neg c38] at H
       rw [HR_.out] at H
       first | exact absurd H (by simp) | exact (turnstilelaw13_lives.no_ H).elim
theorem turnstilelaw13_lives.g_true : turnstilelaw13_lives.g 60 = some true := by
  kernel_rfl
/-- The program defines a key, raises its ceiling, and refuses to lower it. -/
def turnstilelaw13_lives.f : Option Bool := some true
theorem turnstilelaw13_lives.calls [Errs] (r : Bool) (w : World) (hE : Sent w) (h : turnstilelaw13_lives.f = some r) : Calls Tryd.prog 8 #[] w fun e w' => e = .returned (.bool r) ∧ Below w.heap.size w w' :=
  turnstilelaw13_lives.calls_ 60 r w (by simpa [turnstilelaw13_lives.f] using h.symm) hE (by rw [← h]; exact turnstilelaw13_lives.g_true)

end Go.Proofs.YtnhngjhodcikiaaDoor.F
