/- Written by the session's own program hyb.py: what functions of the program compute; Lean checks it. -/
import Derived.Test.YtdoifmefhofnnaaDx0
import Derived.Test.YtdoifmefhofnnaaDx1
import Derived.Test.YtdoifmefhofnnaaDx3
import Derived.Test.YtdoifmefhofnnaaDx22
import Derived.Test.YtdoifmefhofnnaaDx23
import Derived.Test.YtdoifmefhofnnaaDx24
namespace Go.Proofs.Ytdoifmefhofnnaa.D
open Go.RowKit Go.Proofs.YtdoifmefhofnnaaW.PrintWords Go.Proofs.YtdoifmefhofnnaaW.PrintLast Go.Proofs.YtdoifmefhofnnaaW.PrintMore Go.Proofs.YtdoifmefhofnnaaW.PrintShort
attribute [local go_sem] run_Add64 run_Sub64
attribute [local go_sem] max2_int min2_int max_two min_two max_three min_three max_four min_four   -- for this text's walks alone
set_option linter.unusedVariables false
set_option linter.unusedSimpArgs false

attribute [local go_sem high] eqA24 eqA40
/-! ### turnstilelaw24_awake: function 9 -/
mutual
def turnstilelaw24_awake.j0 : Nat → Bool → Option (Bool)
  | 0, _ => none
  | k + 1, x17 => if x17 = true then (some false) else ((turnstilelaw24_flow.f).bind fun bt279 => ((audit_Conforms.f k bt279.1 bt279.2.1 bt279.2.2.1 bt279.2.2.2.1 bt279.2.2.2.2 (([(⟨100, 1⟩ : S31), (⟨90, 1⟩ : S31)] : List (S31)))).bind fun t287 => (if t287 = true then ((turnstilelaw24_flow.f).bind fun bt288 => ((audit_Conforms.f k bt288.1 bt288.2.1 bt288.2.2.1 bt288.2.2.2.1 bt288.2.2.2.2 (([(⟨5, 4⟩ : S31)] : List (S31)))).bind fun t296 => (turnstilelaw24_awake.j1 k t296))) else (turnstilelaw24_awake.j1 k true))))
def turnstilelaw24_awake.j1 : Nat → Bool → Option (Bool)
  | 0, _ => none
  | k + 1, x29 => if x29 = true then (some false) else ((turnstilelaw24_flow.f).bind fun bt297 => ((audit_Lines.f k (([(⟨1, (⟨#[107]⟩ : ByteArray), (⟨bt297.1, bt297.2.1, bt297.2.2.1, bt297.2.2.2.1, bt297.2.2.2.2⟩ : S24), 0⟩ : S38)] : List (S38))) (([(⟨1, (⟨0, 0, 0, (⟨0, 0, 0, 0, 0⟩ : S24), (⟨0, 0, 0⟩ : S40)⟩ : S42)⟩ : S44)] : List (S44)))).bind fun t308 => (if (t308.length : Int) = 1 then (if 0 < (t308.length : Int) then (if ((rd_T52 t308 0).f0).toList = ([107] : List UInt8) then ((turnstilelaw24_flow.f).bind fun bt313 => (if (((rd_T52 t308 0).f1.f0) == bt313.1 && (((rd_T52 t308 0).f1.f1) == bt313.2.1 && (((rd_T52 t308 0).f1.f2) == bt313.2.2.1 && (((rd_T52 t308 0).f1.f3) == bt313.2.2.2.1 && (((rd_T52 t308 0).f1.f4) == bt313.2.2.2.2))))) = true then (some ((((rd_T52 t308 0).f2).length : Int) == 0)) else (some false))) else (some false)) else (none)) else (some false))))
end
def turnstilelaw24_awake.f (k : Nat)  : Option (Bool) := (turnstilelaw24_flow.f).bind fun bt266 => ((audit_Level.f k bt266.1 bt266.2.1 bt266.2.2.1 bt266.2.2.2.1 bt266.2.2.2.2 (([(⟨5, 3⟩ : S31)] : List (S31)))).bind fun bt274 => (if bt274.2.2.2 = true then (turnstilelaw24_awake.j0 k (!(bt274.1 == 35) || (!(bt274.2.1 == 0) || (!(bt274.2.2.1 == 0))))) else (turnstilelaw24_awake.j0 k true)))
theorem turnstilelaw24_awake.mono_l : ∀ k, (∀ y0, LeO (turnstilelaw24_awake.j0 k y0) (turnstilelaw24_awake.j0 (k + 1) y0)) ∧ (∀ y0, LeO (turnstilelaw24_awake.j1 k y0) (turnstilelaw24_awake.j1 (k + 1) y0))
  | 0 => ⟨fun _ r h => by simp [turnstilelaw24_awake.j0] at h, fun _ r h => by simp [turnstilelaw24_awake.j1] at h⟩
  | k + 1 => by
    obtain ⟨ih0, ih1⟩ := turnstilelaw24_awake.mono_l k
    refine ⟨?_, ?_⟩
    · intro y0
      unfold turnstilelaw24_awake.j0
      repeat' first
      | (with_reducible exact ih0 _)
      | (with_reducible exact ih1 _)
      | (with_reducible exact audit_Conforms.mono _ _ _ _ _ _ _)
      | (with_reducible exact audit_Level.mono _ _ _ _ _ _ _)
      | (with_reducible exact audit_Lines.mono _ _ _)
      | (with_reducible exact LeO.refl _)
      | (with_reducible exact LeO.none _)
      | (with_reducible refine LeO.ite ?_ ?_)
      | (with_reducible refine LeO.bind ?_ (fun _ => ?_))
      | exact ih0 _
      | exact ih1 _
      | exact audit_Conforms.mono _ _ _ _ _ _ _
      | exact audit_Level.mono _ _ _ _ _ _ _
      | exact audit_Lines.mono _ _ _
      | exact LeO.none _
      | refine LeO.ite ?_ ?_
      | refine LeO.bind ?_ (fun _ => ?_)
    · intro y0
      unfold turnstilelaw24_awake.j1
      repeat' first
      | (with_reducible exact ih0 _)
      | (with_reducible exact ih1 _)
      | (with_reducible exact audit_Conforms.mono _ _ _ _ _ _ _)
      | (with_reducible exact audit_Level.mono _ _ _ _ _ _ _)
      | (with_reducible exact audit_Lines.mono _ _ _)
      | (with_reducible exact LeO.refl _)
      | (with_reducible exact LeO.none _)
      | (with_reducible refine LeO.ite ?_ ?_)
      | (with_reducible refine LeO.bind ?_ (fun _ => ?_))
      | exact ih0 _
      | exact ih1 _
      | exact audit_Conforms.mono _ _ _ _ _ _ _
      | exact audit_Level.mono _ _ _ _ _ _ _
      | exact audit_Lines.mono _ _ _
      | exact LeO.none _
      | refine LeO.ite ?_ ?_
      | refine LeO.bind ?_ (fun _ => ?_)
theorem turnstilelaw24_awake.mono : ∀ k, LeO (turnstilelaw24_awake.f k ) (turnstilelaw24_awake.f (k + 1) ) := by
  intro  k
  obtain ⟨ih0, ih1⟩ := turnstilelaw24_awake.mono_l k
  unfold turnstilelaw24_awake.f
  repeat' first
      | (with_reducible exact ih0 _)
      | (with_reducible exact ih1 _)
      | (with_reducible exact audit_Conforms.mono _ _ _ _ _ _ _)
      | (with_reducible exact audit_Level.mono _ _ _ _ _ _ _)
      | (with_reducible exact audit_Lines.mono _ _ _)
      | (with_reducible exact LeO.refl _)
      | (with_reducible exact LeO.none _)
      | (with_reducible refine LeO.ite ?_ ?_)
      | (with_reducible refine LeO.bind ?_ (fun _ => ?_))
      | exact ih0 _
      | exact ih1 _
      | exact audit_Conforms.mono _ _ _ _ _ _ _
      | exact audit_Level.mono _ _ _ _ _ _ _
      | exact audit_Lines.mono _ _ _
      | exact LeO.none _
      | refine LeO.ite ?_ ?_
      | refine LeO.bind ?_ (fun _ => ?_)
def turnstilelaw24_awake.T7 : Bool × List (List Nat × List Nat) := (true, [([], []), ([0], [0]), ([1], [1]), ([2], [2]), ([3], [3]), ([4, 3], [3, 4]), ([5, 3], [3, 5]), ([6, 3], [3, 6]), ([7, 3], [3, 7]), ([3, 8], [3, 8]), ([9, 3], [9]), ([10], [10]), ([11, 10], [10, 11]), ([12, 10], [10, 12]), ([13, 10], [10, 13]), ([10, 10], [10]), ([14, 15, 10], [10, 14, 15]), ([10, 16], [10, 16]), ([17, 15], [17]), ([18], [18]), ([19, 18], [18, 19]), ([20, 18], [18, 20]), ([21, 18], [18, 21]), ([22, 18], [18, 22]), ([23, 18], [18, 23]), ([18, 24], [18, 24]), ([25, 18, 0, 1, 2, 3, 4, 5, 6, 7, 8, 9, 10, 11, 12, 13, 14, 15, 16, 17, 18, 19, 20, 21, 22, 23, 24, 25], [25])])
def turnstilelaw24_awake.B7 : List Nat := [0, 1, 3, 7, 15, 31, 63, 127, 255, 511, 1023, 2047, 4095, 8191, 16383, 2047, 65535, 131071, 262143, 524287, 1048575, 2097151, 4194303, 8388607, 16777215, 33554431, 67108863]
theorem turnstilelaw24_awake.tab7 : rtab .any (opsOf Try.f9 7) = turnstilelaw24_awake.T7 := by kernel_rfl
theorem turnstilelaw24_awake.bits7 : waitsOk turnstilelaw24_awake.T7.2 turnstilelaw24_awake.B7 = true := by kernel_rfl
set_option maxHeartbeats 8000000 in
set_option maxRecDepth 100000 in
theorem turnstilelaw24_awake.calls (k : Nat)  (r : Bool) (w : World) (h : turnstilelaw24_awake.f k  = some r) :
 Calls Try.prog 9 #[] w fun e w' => e = .returned (.bool r) ∧ Below w.heap.size w w' := by
 have hu31 := Try.underlying31; have hu40 := Try.underlying40; have hu38 := Try.underlying38; have hu44 := Try.underlying44; have hu24 := Try.underlying24; have HB := Aside0.mk (Below.refl w.heap.size w)
 have H : ((turnstilelaw24_flow.f).bind fun bt266 => ((audit_Level.f k bt266.1 bt266.2.1 bt266.2.2.1 bt266.2.2.2.1 bt266.2.2.2.2 (([(⟨5, 3⟩ : S31)] : List (S31)))).bind fun bt274 => (if bt274.2.2.2 = true then (turnstilelaw24_awake.j0 k (!(bt274.1 == 35) || (!(bt274.2.1 == 0) || (!(bt274.2.2.1 == 0))))) else (turnstilelaw24_awake.j0 k true)))) = some r := h
 clear h; replace H := Option.bind_eq_some_iff.mp H
 obtain ⟨⟨t266, t267, t268, t269, t270⟩, A10, H⟩ := H
 replace H : ((audit_Level.f k t266 t267 t268 t269 t270 (([(⟨5, 3⟩ : S31)] : List (S31)))).bind fun bt274 => (if bt274.2.2.2 = true then (turnstilelaw24_awake.j0 k (!(bt274.1 == 35) || (!(bt274.2.1 == 0) || (!(bt274.2.2.1 == 0))))) else (turnstilelaw24_awake.j0 k true))) = some r := H
 have A1 := Aside0.mk A10; clear A10
 obtain ⟨y271, hy271⟩ : ∃ y_ : List (S31), y_ = (([(⟨5, 3⟩ : S31)] : List (S31))) := ⟨_, rfl⟩
 replace H : ((audit_Level.f k t266 t267 t268 t269 t270 y271).bind fun bt274 => (if bt274.2.2.2 = true then (turnstilelaw24_awake.j0 k (!(bt274.1 == 35) || (!(bt274.2.1 == 0) || (!(bt274.2.2.1 == 0))))) else (turnstilelaw24_awake.j0 k true))) = some r := by first | (rw [hy271]; with_reducible exact H) | (have H2_ := (Option.bind_some _ _).symm.trans H; rw [hy271]; with_reducible exact H2_) | (have H2_ := (Option.bind_some _ _).symm.trans H; with_reducible exact H2_) | with_reducible exact H | (rw [hy271]; exact H) | exact H
 have Ny271 := Aside0.mk hy271; clear hy271; replace H := Option.bind_eq_some_iff.mp H
 obtain ⟨⟨t274, t275, t276, t277⟩, A20, H⟩ := H
 replace H : (if t277 = true then (turnstilelaw24_awake.j0 k (!(t274 == 35) || (!(t275 == 0) || (!(t276 == 0))))) else (turnstilelaw24_awake.j0 k true)) = some r := H
 have A2 := Aside0.mk A20; clear A20; have HC3 := Aside0.mk H; clear H
 go_enter Try.func9, Try.ntmps9
 go_upto_region 2 with (first | ((with_reducible refine gate_callee (f := 26) rfl ?_); refine gm (some 5) Try.func26 #[] (turnstilelaw24_flow.calls  t266 t267 t268 t269 t270 _ A1.out) ?_; intro w4 hb; replace HB := bs HB hb; (try clear hb); (try clear hb2); (try clear hk); (try clear hi)) | ((with_reducible refine gate_dst (N := 7) rfl ?_); (try (refine gate_guard (by rfl) ?_; dsimp only)); refine Kd.R_lit k31 _ 31 ?hg (N := 7) ?hd (xs := ([(⟨5, 3⟩ : S31)] : List (S31))) (inner := [.int .u64 5, .int .u64 3]) (ok := fun _ => True) (okp := fun _ => True) ?hr ?hp (fun _ hk => hk) trivial (Below.refl _ _) (Nat.le_refl _) (by simp) ?_; (case hd => rfl); (case hg => rfl); (case hr => first | (go_simp; done) | (go_simp; rfl)); (case hp => exact (Reps.c2 (show Kd.M k31 _ _ _ (⟨5, 3⟩ : S31) [.int .u64 5, .int .u64 3] from (k31_mkM _ _ _ (⟨5, 3⟩ : S31) )) (Reps.none _ _))); intro v272 w5 ho6 hb hg_ hnew_; clear hg_ hnew_; (first | rw [← Ny271.out] at ho6 | (simp only [Int.reduceToNat] at ho6; rw [← Ny271.out] at ho6)); have HO273 := Aside0.mk (Kd.R_lower ho6 (below_size (bw HB))); replace HB := bs HB hb; clear hb ho6; obtain ⟨Ao7, co7, eo7⟩ := Kd.R_slice HO273.out; subst eo7) | ((with_reducible refine gate_callee (f := 17) rfl ?_); refine gl (some 8) Try.func17 #[.agg #[.int .i64 t266, .int .u64 t267, .int .u64 t268, .int .u64 t269, .int .u64 t270], .slice Ao7 y271.length co7] ?_; (with_reducible refine (audit_Level.calls k t266 t267 t268 t269 t270 _ _ y271 t274 t275 t276 t277 _ ?side1 ?side2 A2.out).mono ?_); (case side1 => exact co (Kd.R_reads' HO273.out).2.2); (case side2 => exact (Kd.R_reads' HO273.out).2.1); rintro e w8 ⟨rfl, hb⟩; refine ⟨_, rfl, ?_⟩; replace HO273 := Aside0.mk (Kd.R_below (ro HO273) hb); replace HB := bs HB hb; (try clear hb); (try clear hb2); (try clear hk); (try clear hi)) | ((with_reducible refine gate_dst (N := 1) rfl ?_); (try (refine gate_guard (by rfl) ?_; dsimp only)); refine bx 1 #[.int .u64 0, .int .u64 0, .int .u64 0] 40 ?_; intro gb278 hg w9 hbox hb; have BK278 := Aside0.mk (hbox); have GW278 := sz HB hg; have GE278 := sz HB hg; replace HO273 := Aside0.mk (Kd.R_below (ro HO273) hb); replace HB := bs HB hb; clear hb hbox hg; obtain ⟨hcz10_0, hcz10_1, hcz10_2, hfz10_0, hfz10_1, hfz10_2⟩ := bc3 BK278))
 (try simp only [Act.put, List.setIfInBounds_toArray, List.set_cons_zero, List.set_cons_succ])
 go_cut [17] (fun v17 wc => ∃ (kq : Nat) (x17_2 : Bool), v17 = .bool x17_2 ∧ Aside0 (turnstilelaw24_awake.j0 kq x17_2 = some r) ∧ Aside0 (kq ≤ k) ∧ Aside0 (wc.heap[gb278]? = some (.cells #[.int .u64 t274, .int .u64 t275, .int .u64 t276] 40 (0, 0))) ∧ Aside0 (Below w.heap.size w wc))
 case first =>
  have H := HC3.out; clear HC3
  by_cases c11 : t277 = true
  · subst c11
    have H1 : (turnstilelaw24_awake.j0 k (!(t274 == 35) || (!(t275 == 0) || (!(t276 == 0))))) = some r := by rw [if_pos rfl] at H; exact H
    clear H; have H := H1; clear H1
    have H' := Aside0.mk H
    clear H
    obtain ⟨hcz12_0, hcz12_1, hcz12_2, hfz12_0, hfz12_1, hfz12_2⟩ := bc3 BK278
    go_wp2
    go_meet
    case rel => exact ⟨_, ((!(t274 == 35) || (!(t275 == 0) || (!(t276 == 0))))), rs, H', ⟨by first | omega | exact Nat.le_refl _⟩, ⟨bk BK278⟩, ⟨bw HB⟩⟩
  · replace c11 := Bool.eq_false_iff.mpr c11
    subst c11
    have H1 : (turnstilelaw24_awake.j0 k true) = some r := by rw [if_neg (show ¬ (false = true) by decide)] at H; exact H
    clear H; have H := H1; clear H1
    have H' := Aside0.mk H
    clear H
    go_wp2
    go_meet
    case rel => exact ⟨_, (true), rs, H', ⟨by first | omega | exact Nat.le_refl _⟩, ⟨bk BK278⟩, ⟨bw HB⟩⟩
 case rest =>
  clear HC3; (try clear c1); (try clear c2); (try clear p2); (try clear c9); (try clear c11); (try clear hcz10_0); (try clear hcz10_1); (try clear hcz10_2); (try clear hcz12_0); (try clear hcz12_1); (try clear hcz12_2); (try clear hfz10_0); (try clear hfz10_1); (try clear hfz10_2); (try clear hfz12_0); (try clear hfz12_1); (try clear hfz12_2)
  obtain ⟨kq, x17_2, rfl, HA, HJ2, BK278, HB⟩ := hcut
  cases kq with
  | zero => exact absurd HA.out (by simp [turnstilelaw24_awake.j0])
  | succ kj2 =>
   have H := HA.out; clear HA
   simp only [turnstilelaw24_awake.j0] at H
   by_cases c13 : x17_2 = true
   · subst c13
     have H1 : (some false) = some r := by rw [if_pos rfl] at H; exact H
     clear H; have H := H1; clear H1
     obtain rfl := Option.some.inj H
     go_wp2
     go_ret
     exact ⟨re, bw HB⟩
   · replace c13 := Bool.eq_false_iff.mpr c13
     subst c13
     have H1 : ((turnstilelaw24_flow.f).bind fun bt279 => ((audit_Conforms.f kj2 bt279.1 bt279.2.1 bt279.2.2.1 bt279.2.2.2.1 bt279.2.2.2.2 (([(⟨100, 1⟩ : S31), (⟨90, 1⟩ : S31)] : List (S31)))).bind fun t287 => (if t287 = true then ((turnstilelaw24_flow.f).bind fun bt288 => ((audit_Conforms.f kj2 bt288.1 bt288.2.1 bt288.2.2.1 bt288.2.2.2.1 bt288.2.2.2.2 (([(⟨5, 4⟩ : S31)] : List (S31)))).bind fun t296 => (turnstilelaw24_awake.j1 kj2 t296))) else (turnstilelaw24_awake.j1 kj2 true)))) = some r := by rw [if_neg (show ¬ (false = true) by decide)] at H; exact H
     clear H; have H := H1; clear H1; have HC14 := Aside0.mk H; clear H
     go_upto_region 4 with (fail)
     go_cut [29] (fun v29 wc => ∃ (kq : Nat) (x29_13 : Bool), v29 = .bool x29_13 ∧ Aside0 (turnstilelaw24_awake.j1 kq x29_13 = some r) ∧ Aside0 (kq ≤ kj2) ∧ Aside0 (wc.heap[gb278]? = some (.cells #[.int .u64 t274, .int .u64 t275, .int .u64 t276] 40 (0, 0))) ∧ Aside0 (Below w.heap.size w wc))
     case first =>
      have H := HC14.out; clear HC14; replace H := Option.bind_eq_some_iff.mp H
      obtain ⟨⟨t279, t280, t281, t282, t283⟩, A150, H⟩ := H
      replace H : ((audit_Conforms.f kj2 t279 t280 t281 t282 t283 (([(⟨100, 1⟩ : S31), (⟨90, 1⟩ : S31)] : List (S31)))).bind fun t287 => (if t287 = true then ((turnstilelaw24_flow.f).bind fun bt288 => ((audit_Conforms.f kj2 bt288.1 bt288.2.1 bt288.2.2.1 bt288.2.2.2.1 bt288.2.2.2.2 (([(⟨5, 4⟩ : S31)] : List (S31)))).bind fun t296 => (turnstilelaw24_awake.j1 kj2 t296))) else (turnstilelaw24_awake.j1 kj2 true))) = some r := H
      have A15 := Aside0.mk A150; clear A150
      obtain ⟨y284, hy284⟩ : ∃ y_ : List (S31), y_ = (([(⟨100, 1⟩ : S31), (⟨90, 1⟩ : S31)] : List (S31))) := ⟨_, rfl⟩
      replace H : ((audit_Conforms.f kj2 t279 t280 t281 t282 t283 y284).bind fun t287 => (if t287 = true then ((turnstilelaw24_flow.f).bind fun bt288 => ((audit_Conforms.f kj2 bt288.1 bt288.2.1 bt288.2.2.1 bt288.2.2.2.1 bt288.2.2.2.2 (([(⟨5, 4⟩ : S31)] : List (S31)))).bind fun t296 => (turnstilelaw24_awake.j1 kj2 t296))) else (turnstilelaw24_awake.j1 kj2 true))) = some r := by first | (rw [hy284]; with_reducible exact H) | (have H2_ := (Option.bind_some _ _).symm.trans H; rw [hy284]; with_reducible exact H2_) | (have H2_ := (Option.bind_some _ _).symm.trans H; with_reducible exact H2_) | with_reducible exact H | (rw [hy284]; exact H) | exact H
      have Ny284 := Aside0.mk hy284; clear hy284; replace H := Option.bind_eq_some_iff.mp H
      obtain ⟨t287, A160, H⟩ := H
      replace H : (if t287 = true then ((turnstilelaw24_flow.f).bind fun bt288 => ((audit_Conforms.f kj2 bt288.1 bt288.2.1 bt288.2.2.1 bt288.2.2.2.1 bt288.2.2.2.2 (([(⟨5, 4⟩ : S31)] : List (S31)))).bind fun t296 => (turnstilelaw24_awake.j1 kj2 t296))) else (turnstilelaw24_awake.j1 kj2 true)) = some r := H
      have A16 := Aside0.mk A160; clear A160
      by_cases c17 : t287 = true
      · subst c17
        have H1 : ((turnstilelaw24_flow.f).bind fun bt288 => ((audit_Conforms.f kj2 bt288.1 bt288.2.1 bt288.2.2.1 bt288.2.2.2.1 bt288.2.2.2.2 (([(⟨5, 4⟩ : S31)] : List (S31)))).bind fun t296 => (turnstilelaw24_awake.j1 kj2 t296))) = some r := by rw [if_pos rfl] at H; exact H
        clear H; have H := H1; clear H1; replace H := Option.bind_eq_some_iff.mp H
        obtain ⟨⟨t288, t289, t290, t291, t292⟩, A180, H⟩ := H
        replace H : ((audit_Conforms.f kj2 t288 t289 t290 t291 t292 (([(⟨5, 4⟩ : S31)] : List (S31)))).bind fun t296 => (turnstilelaw24_awake.j1 kj2 t296)) = some r := H
        have A18 := Aside0.mk A180; clear A180
        obtain ⟨y293, hy293⟩ : ∃ y_ : List (S31), y_ = (([(⟨5, 4⟩ : S31)] : List (S31))) := ⟨_, rfl⟩
        replace H : ((audit_Conforms.f kj2 t288 t289 t290 t291 t292 y293).bind fun t296 => (turnstilelaw24_awake.j1 kj2 t296)) = some r := by first | (rw [hy293]; with_reducible exact H) | (have H2_ := (Option.bind_some _ _).symm.trans H; rw [hy293]; with_reducible exact H2_) | (have H2_ := (Option.bind_some _ _).symm.trans H; with_reducible exact H2_) | with_reducible exact H | (rw [hy293]; exact H) | exact H
        have Ny293 := Aside0.mk hy293; clear hy293; replace H := Option.bind_eq_some_iff.mp H
        obtain ⟨t296, A190, H⟩ := H
        replace H : (turnstilelaw24_awake.j1 kj2 t296) = some r := H
        have A19 := Aside0.mk A190; clear A190
        have H' := Aside0.mk H
        clear H
        go_wp2_with (first | ((with_reducible refine gate_callee (f := 26) rfl ?_); refine gm (some 18) Try.func26 #[] (turnstilelaw24_flow.calls  t279 t280 t281 t282 t283 _ A15.out) ?_; intro w20 hb; replace BK278 := bb BK278 hb; replace HB := bs HB hb; (try clear hb); (try clear hb2); (try clear hk); (try clear hi)) | ((with_reducible refine gate_dst (N := 21) rfl ?_); (try (refine gate_guard (by rfl) ?_; dsimp only)); refine Kd.R_lit k31 _ 31 ?hg (N := 21) ?hd (xs := ([(⟨100, 1⟩ : S31), (⟨90, 1⟩ : S31)] : List (S31))) (inner := [.int .u64 100, .int .u64 1, .int .u64 90, .int .u64 1]) (ok := fun _ => True) (okp := fun _ => True) ?hr ?hp (fun _ hk => hk) trivial (Below.refl _ _) (Nat.le_refl _) (by simp) ?_; (case hd => rfl); (case hg => rfl); (case hr => first | (go_simp; done) | (go_simp; rfl)); (case hp => exact (Reps.c2 (show Kd.M k31 _ _ _ (⟨100, 1⟩ : S31) [.int .u64 100, .int .u64 1] from (k31_mkM _ _ _ (⟨100, 1⟩ : S31) )) (Reps.c2 (show Kd.M k31 _ _ _ (⟨90, 1⟩ : S31) [.int .u64 90, .int .u64 1] from (k31_mkM _ _ _ (⟨90, 1⟩ : S31) )) (Reps.none _ _)))); intro v285 w21 ho22 hb hg_ hnew_; clear hg_ hnew_; (first | rw [← Ny284.out] at ho22 | (simp only [Int.reduceToNat] at ho22; rw [← Ny284.out] at ho22)); have HO286 := Aside0.mk (Kd.R_lower ho22 (below_size (bw HB))); replace BK278 := bb BK278 hb; replace HB := bs HB hb; clear hb ho22; obtain ⟨Ao23, co23, eo23⟩ := Kd.R_slice HO286.out; subst eo23) | ((with_reducible refine gate_callee (f := 12) rfl ?_); refine gl (some 22) Try.func12 #[.agg #[.int .i64 t279, .int .u64 t280, .int .u64 t281, .int .u64 t282, .int .u64 t283], .slice Ao23 y284.length co23] ?_; (with_reducible refine (audit_Conforms.calls kj2 t279 t280 t281 t282 t283 _ _ y284 true _ ?side1 ?side2 A16.out).mono ?_); (case side1 => exact co (Kd.R_reads' HO286.out).2.2); (case side2 => exact (Kd.R_reads' HO286.out).2.1); rintro e w24 ⟨rfl, hb⟩; refine ⟨_, rfl, ?_⟩; replace HO286 := Aside0.mk (Kd.R_below (ro HO286) hb); replace BK278 := bb BK278 hb; replace HB := bs HB hb; (try clear hb); (try clear hb2); (try clear hk); (try clear hi)) | (go_at_call 26; (with_reducible refine (turnstilelaw24_flow.calls  t288 t289 t290 t291 t292 _ A18.out).mono ?_); rintro e w25 ⟨rfl, hb⟩; replace HO286 := Aside0.mk (Kd.R_below (ro HO286) hb); replace BK278 := bb BK278 hb; replace HB := bs HB hb; (try clear hb); (try clear hb2); (try clear hk); (try clear hi)) | ((with_reducible refine gate_dst (N := 27) rfl ?_); (try (refine gate_guard (by rfl) ?_; dsimp only)); refine Kd.R_lit k31 _ 31 ?hg (N := 27) ?hd (xs := ([(⟨5, 4⟩ : S31)] : List (S31))) (inner := [.int .u64 5, .int .u64 4]) (ok := fun _ => True) (okp := fun _ => True) ?hr ?hp (fun _ hk => hk) trivial (Below.refl _ _) (Nat.le_refl _) (by simp) ?_; (case hd => rfl); (case hg => rfl); (case hr => first | (go_simp; done) | (go_simp; rfl)); (case hp => exact (Reps.c2 (show Kd.M k31 _ _ _ (⟨5, 4⟩ : S31) [.int .u64 5, .int .u64 4] from (k31_mkM _ _ _ (⟨5, 4⟩ : S31) )) (Reps.none _ _))); intro v294 w26 ho27 hb hg_ hnew_; clear hg_ hnew_; (first | rw [← Ny293.out] at ho27 | (simp only [Int.reduceToNat] at ho27; rw [← Ny293.out] at ho27)); have HO295 := Aside0.mk (Kd.R_lower (Kd.R_new' ho27 (Kd.R_lt (ro HO286))) (below_size (bw HB))); replace HO286 := Aside0.mk (Kd.R_elder' (ro HO286) (Kd.R_base ho27) hb); replace BK278 := bb BK278 hb; replace HB := bs HB hb; clear hb ho27; obtain ⟨Ao28, co28, eo28⟩ := Kd.R_slice HO295.out; subst eo28) | (go_at_call 12; (with_reducible refine (audit_Conforms.calls kj2 t288 t289 t290 t291 t292 _ _ y293 t296 _ ?side1 ?side2 A19.out).mono ?_); (case side1 => exact co (Kd.R_reads' HO295.out).2.2); (case side2 => exact (Kd.R_reads' HO295.out).2.1); rintro e w29 ⟨rfl, hb⟩; replace HO286 := Aside0.mk (Kd.R_below (ro HO286) hb); replace HO295 := Aside0.mk (Kd.R_below (ro HO295) hb); replace BK278 := bb BK278 hb; replace HB := bs HB hb; (try clear hb); (try clear hb2); (try clear hk); (try clear hi)))
        go_meet
        case rel => exact ⟨_, (t296), rs, H', ⟨by have := HJ2.out; first | omega | exact Nat.le_refl _⟩, ⟨bk BK278⟩, ⟨bw HB⟩⟩
      · replace c17 := Bool.eq_false_iff.mpr c17
        subst c17
        have H1 : (turnstilelaw24_awake.j1 kj2 true) = some r := by rw [if_neg (show ¬ (false = true) by decide)] at H; exact H
        clear H; have H := H1; clear H1
        have H' := Aside0.mk H
        clear H
        go_wp2_with (first | ((with_reducible refine gate_callee (f := 26) rfl ?_); refine gm (some 18) Try.func26 #[] (turnstilelaw24_flow.calls  t279 t280 t281 t282 t283 _ A15.out) ?_; intro w30 hb; replace BK278 := bb BK278 hb; replace HB := bs HB hb; (try clear hb); (try clear hb2); (try clear hk); (try clear hi)) | ((with_reducible refine gate_dst (N := 21) rfl ?_); (try (refine gate_guard (by rfl) ?_; dsimp only)); refine Kd.R_lit k31 _ 31 ?hg (N := 21) ?hd (xs := ([(⟨100, 1⟩ : S31), (⟨90, 1⟩ : S31)] : List (S31))) (inner := [.int .u64 100, .int .u64 1, .int .u64 90, .int .u64 1]) (ok := fun _ => True) (okp := fun _ => True) ?hr ?hp (fun _ hk => hk) trivial (Below.refl _ _) (Nat.le_refl _) (by simp) ?_; (case hd => rfl); (case hg => rfl); (case hr => first | (go_simp; done) | (go_simp; rfl)); (case hp => exact (Reps.c2 (show Kd.M k31 _ _ _ (⟨100, 1⟩ : S31) [.int .u64 100, .int .u64 1] from (k31_mkM _ _ _ (⟨100, 1⟩ : S31) )) (Reps.c2 (show Kd.M k31 _ _ _ (⟨90, 1⟩ : S31) [.int .u64 90, .int .u64 1] from (k31_mkM _ _ _ (⟨90, 1⟩ : S31) )) (Reps.none _ _)))); intro v285 w31 ho32 hb hg_ hnew_; clear hg_ hnew_; (first | rw [← Ny284.out] at ho32 | (simp only [Int.reduceToNat] at ho32; rw [← Ny284.out] at ho32)); have HO286 := Aside0.mk (Kd.R_lower ho32 (below_size (bw HB))); replace BK278 := bb BK278 hb; replace HB := bs HB hb; clear hb ho32; obtain ⟨Ao33, co33, eo33⟩ := Kd.R_slice HO286.out; subst eo33) | ((with_reducible refine gate_callee (f := 12) rfl ?_); refine gl (some 22) Try.func12 #[.agg #[.int .i64 t279, .int .u64 t280, .int .u64 t281, .int .u64 t282, .int .u64 t283], .slice Ao33 y284.length co33] ?_; (with_reducible refine (audit_Conforms.calls kj2 t279 t280 t281 t282 t283 _ _ y284 false _ ?side1 ?side2 A16.out).mono ?_); (case side1 => exact co (Kd.R_reads' HO286.out).2.2); (case side2 => exact (Kd.R_reads' HO286.out).2.1); rintro e w34 ⟨rfl, hb⟩; refine ⟨_, rfl, ?_⟩; replace HO286 := Aside0.mk (Kd.R_below (ro HO286) hb); replace BK278 := bb BK278 hb; replace HB := bs HB hb; (try clear hb); (try clear hb2); (try clear hk); (try clear hi)))
        go_meet
        case rel => exact ⟨_, (true), rs, H', ⟨by have := HJ2.out; first | omega | exact Nat.le_refl _⟩, ⟨bk BK278⟩, ⟨bw HB⟩⟩
     case rest =>
      clear HC14; (try clear c1); (try clear c2); (try clear p2); (try clear c9); (try clear c11); (try clear c12); (try clear c13); (try clear c17); (try clear c26); (try clear hcz10_0); (try clear hcz10_1); (try clear hcz10_2); (try clear hcz12_0); (try clear hcz12_1); (try clear hcz12_2); (try clear hfz10_0); (try clear hfz10_1); (try clear hfz10_2); (try clear hfz12_0); (try clear hfz12_1); (try clear hfz12_2); (try clear p2)
      obtain ⟨kq, x29_13, rfl, HA, HJ13, BK278, HB⟩ := hcut
      cases kq with
      | zero => exact absurd HA.out (by simp [turnstilelaw24_awake.j1])
      | succ kj13 =>
       have H := HA.out; clear HA
       simp only [turnstilelaw24_awake.j1] at H
       by_cases c35 : x29_13 = true
       · subst c35
         have H1 : (some false) = some r := by rw [if_pos rfl] at H; exact H
         clear H; have H := H1; clear H1
         obtain rfl := Option.some.inj H
         go_wp2
         go_ret
         exact ⟨re, bw HB⟩
       · replace c35 := Bool.eq_false_iff.mpr c35
         subst c35
         have H1 : ((turnstilelaw24_flow.f).bind fun bt297 => ((audit_Lines.f kj13 (([(⟨1, (⟨#[107]⟩ : ByteArray), (⟨bt297.1, bt297.2.1, bt297.2.2.1, bt297.2.2.2.1, bt297.2.2.2.2⟩ : S24), 0⟩ : S38)] : List (S38))) (([(⟨1, (⟨0, 0, 0, (⟨0, 0, 0, 0, 0⟩ : S24), (⟨0, 0, 0⟩ : S40)⟩ : S42)⟩ : S44)] : List (S44)))).bind fun t308 => (if (t308.length : Int) = 1 then (if 0 < (t308.length : Int) then (if ((rd_T52 t308 0).f0).toList = ([107] : List UInt8) then ((turnstilelaw24_flow.f).bind fun bt313 => (if (((rd_T52 t308 0).f1.f0) == bt313.1 && (((rd_T52 t308 0).f1.f1) == bt313.2.1 && (((rd_T52 t308 0).f1.f2) == bt313.2.2.1 && (((rd_T52 t308 0).f1.f3) == bt313.2.2.2.1 && (((rd_T52 t308 0).f1.f4) == bt313.2.2.2.2))))) = true then (some ((((rd_T52 t308 0).f2).length : Int) == 0)) else (some false))) else (some false)) else (none)) else (some false)))) = some r := by rw [if_neg (show ¬ (false = true) by decide)] at H; exact H
         clear H; have H := H1; clear H1; replace H := Option.bind_eq_some_iff.mp H
         obtain ⟨⟨t297, t298, t299, t300, t301⟩, A360, H⟩ := H
         replace H : ((audit_Lines.f kj13 (([(⟨1, (⟨#[107]⟩ : ByteArray), (⟨t297, t298, t299, t300, t301⟩ : S24), 0⟩ : S38)] : List (S38))) (([(⟨1, (⟨0, 0, 0, (⟨0, 0, 0, 0, 0⟩ : S24), (⟨0, 0, 0⟩ : S40)⟩ : S42)⟩ : S44)] : List (S44)))).bind fun t308 => (if (t308.length : Int) = 1 then (if 0 < (t308.length : Int) then (if ((rd_T52 t308 0).f0).toList = ([107] : List UInt8) then ((turnstilelaw24_flow.f).bind fun bt313 => (if (((rd_T52 t308 0).f1.f0) == bt313.1 && (((rd_T52 t308 0).f1.f1) == bt313.2.1 && (((rd_T52 t308 0).f1.f2) == bt313.2.2.1 && (((rd_T52 t308 0).f1.f3) == bt313.2.2.2.1 && (((rd_T52 t308 0).f1.f4) == bt313.2.2.2.2))))) = true then (some ((((rd_T52 t308 0).f2).length : Int) == 0)) else (some false))) else (some false)) else (none)) else (some false))) = some r := H
         have A36 := Aside0.mk A360; clear A360
         obtain ⟨y302, hy302⟩ : ∃ y_ : List (S38), y_ = (([(⟨1, (⟨#[107]⟩ : ByteArray), (⟨t297, t298, t299, t300, t301⟩ : S24), 0⟩ : S38)] : List (S38))) := ⟨_, rfl⟩
         replace H : ((audit_Lines.f kj13 y302 (([(⟨1, (⟨0, 0, 0, (⟨0, 0, 0, 0, 0⟩ : S24), (⟨0, 0, 0⟩ : S40)⟩ : S42)⟩ : S44)] : List (S44)))).bind fun t308 => (if (t308.length : Int) = 1 then (if 0 < (t308.length : Int) then (if ((rd_T52 t308 0).f0).toList = ([107] : List UInt8) then ((turnstilelaw24_flow.f).bind fun bt313 => (if (((rd_T52 t308 0).f1.f0) == bt313.1 && (((rd_T52 t308 0).f1.f1) == bt313.2.1 && (((rd_T52 t308 0).f1.f2) == bt313.2.2.1 && (((rd_T52 t308 0).f1.f3) == bt313.2.2.2.1 && (((rd_T52 t308 0).f1.f4) == bt313.2.2.2.2))))) = true then (some ((((rd_T52 t308 0).f2).length : Int) == 0)) else (some false))) else (some false)) else (none)) else (some false))) = some r := by first | (rw [hy302]; with_reducible exact H) | (have H2_ := (Option.bind_some _ _).symm.trans H; rw [hy302]; with_reducible exact H2_) | (have H2_ := (Option.bind_some _ _).symm.trans H; with_reducible exact H2_) | with_reducible exact H | (rw [hy302]; exact H) | exact H
         have Ny302 := Aside0.mk hy302; clear hy302
         obtain ⟨y305, hy305⟩ : ∃ y_ : List (S44), y_ = (([(⟨1, (⟨0, 0, 0, (⟨0, 0, 0, 0, 0⟩ : S24), (⟨0, 0, 0⟩ : S40)⟩ : S42)⟩ : S44)] : List (S44))) := ⟨_, rfl⟩
         replace H : ((audit_Lines.f kj13 y302 y305).bind fun t308 => (if (t308.length : Int) = 1 then (if 0 < (t308.length : Int) then (if ((rd_T52 t308 0).f0).toList = ([107] : List UInt8) then ((turnstilelaw24_flow.f).bind fun bt313 => (if (((rd_T52 t308 0).f1.f0) == bt313.1 && (((rd_T52 t308 0).f1.f1) == bt313.2.1 && (((rd_T52 t308 0).f1.f2) == bt313.2.2.1 && (((rd_T52 t308 0).f1.f3) == bt313.2.2.2.1 && (((rd_T52 t308 0).f1.f4) == bt313.2.2.2.2))))) = true then (some ((((rd_T52 t308 0).f2).length : Int) == 0)) else (some false))) else (some false)) else (none)) else (some false))) = some r := by first | (rw [hy305]; with_reducible exact H) | (have H2_ := (Option.bind_some _ _).symm.trans H; rw [hy305]; with_reducible exact H2_) | (have H2_ := (Option.bind_some _ _).symm.trans H; with_reducible exact H2_) | with_reducible exact H | (rw [hy305]; exact H) | exact H
         have Ny305 := Aside0.mk hy305; clear hy305; replace H := Option.bind_eq_some_iff.mp H
         obtain ⟨t308, A370, H⟩ := H
         replace H : (if (t308.length : Int) = 1 then (if 0 < (t308.length : Int) then (if ((rd_T52 t308 0).f0).toList = ([107] : List UInt8) then ((turnstilelaw24_flow.f).bind fun bt313 => (if (((rd_T52 t308 0).f1.f0) == bt313.1 && (((rd_T52 t308 0).f1.f1) == bt313.2.1 && (((rd_T52 t308 0).f1.f2) == bt313.2.2.1 && (((rd_T52 t308 0).f1.f3) == bt313.2.2.2.1 && (((rd_T52 t308 0).f1.f4) == bt313.2.2.2.2))))) = true then (some ((((rd_T52 t308 0).f2).length : Int) == 0)) else (some false))) else (some false)) else (none)) else (some false)) = some r := H
         have A37 := Aside0.mk A370; clear A370
         by_cases c38 : (t308.length : Int) = 1
         · rw [if_pos c38] at H
           have c38b0 : ((t308.length : Int) == 1) = true := beq_iff_eq.mpr c38
           have c38b1 : ((t308.length : Int) != 1) = false := bne_eq_false_iff_eq.mpr c38
           clear c38
           by_cases c39 : 0 < (t308.length : Int)
           · rw [if_pos c39] at H
             have c39b0 : decide (0 < (t308.length : Int)) = true := decide_eq_true c39
             have c39b1 : decide (0 < t308.length) = true := decide_eq_true (by omega)
             clear c39
             by_cases c40 : ((rd_T52 t308 0).f0).toList = ([107] : List UInt8)
             · rw [if_pos c40] at H
               have c40b0 : (((rd_T52 t308 0).f0).toList == ([107] : List UInt8)) = true := beq_iff_eq.mpr c40
               have c40b1 : (((rd_T52 t308 0).f0).toList != ([107] : List UInt8)) = false := bne_eq_false_iff_eq.mpr c40
               clear c40; replace H := Option.bind_eq_some_iff.mp H
               obtain ⟨⟨t313, t314, t315, t316, t317⟩, A410, H⟩ := H
               replace H : (if (((rd_T52 t308 0).f1.f0) == t313 && (((rd_T52 t308 0).f1.f1) == t314 && (((rd_T52 t308 0).f1.f2) == t315 && (((rd_T52 t308 0).f1.f3) == t316 && (((rd_T52 t308 0).f1.f4) == t317))))) = true then (some ((((rd_T52 t308 0).f2).length : Int) == 0)) else (some false)) = some r := H
               have A41 := Aside0.mk A410; clear A410
               by_cases c42 : (((rd_T52 t308 0).f1.f0) == t313 && (((rd_T52 t308 0).f1.f1) == t314 && (((rd_T52 t308 0).f1.f2) == t315 && (((rd_T52 t308 0).f1.f3) == t316 && (((rd_T52 t308 0).f1.f4) == t317))))) = true
               · rw [if_pos c42] at H
                 have c42b0 : (((rd_T52 t308 0).f1.f0) == t313 && (((rd_T52 t308 0).f1.f1) == t314 && (((rd_T52 t308 0).f1.f2) == t315 && (((rd_T52 t308 0).f1.f3) == t316 && (((rd_T52 t308 0).f1.f4) == t317))))) = true := c42
                 (try (have c42b1 : decide (((rd_T52 t308 0).f1.f0) = t313 && (((rd_T52 t308 0).f1.f1) == t314 && (((rd_T52 t308 0).f1.f2) == t315 && (((rd_T52 t308 0).f1.f3) == t316 && (((rd_T52 t308 0).f1.f4) == t317))))) = true := by simpa using c42))
                 (try (have c42b2 : (((rd_T52 t308 0).f1.f0) == t313 && (((rd_T52 t308 0).f1.f1) == t314 && (((rd_T52 t308 0).f1.f2) == t315 && (((rd_T52 t308 0).f1.f3) == t316 && (((rd_T52 t308 0).f1.f4) == t317))))) = true := by simpa using c42))
                 clear c42
                 obtain rfl := Option.some.inj H
                 try go_wp2_with (first | ((with_reducible refine gate_callee (f := 26) rfl ?_); refine gm (some 30) Try.func26 #[] (turnstilelaw24_flow.calls  t297 t298 t299 t300 t301 _ A36.out) ?_; intro w43 hb; replace BK278 := bb BK278 hb; replace HB := bs HB hb; (try clear hb); (try clear hb2); (try clear hk); (try clear hi)) | ((with_reducible refine gate_dst (N := 32) rfl ?_); (try (refine gate_guard (by rfl) ?_; dsimp only)); refine Kd.R_lit k38 _ 38 ?hg (N := 32) ?hd (xs := ([(⟨1, (⟨#[107]⟩ : ByteArray), (⟨t297, t298, t299, t300, t301⟩ : S24), 0⟩ : S38)] : List (S38))) (inner := [.int .i64 1, .string (⟨#[107]⟩ : ByteArray), .int .i64 t297, .int .u64 t298, .int .u64 t299, .int .u64 t300, .int .u64 t301, .int .u64 0]) (ok := fun _ => True) (okp := fun _ => True) ?hr ?hp (fun _ hk => hk) trivial (Below.refl _ _) (Nat.le_refl _) (by simp) ?_; (case hd => rfl); (case hg => rfl); (case hr => first | (go_simp; done) | (go_simp; rfl)); (case hp => exact (Reps.c8 (show Kd.M k38 _ _ _ (⟨1, (⟨#[107]⟩ : ByteArray), (⟨t297, t298, t299, t300, t301⟩ : S24), 0⟩ : S38) [.int .i64 1, .string (⟨#[107]⟩ : ByteArray), .int .i64 t297, .int .u64 t298, .int .u64 t299, .int .u64 t300, .int .u64 t301, .int .u64 0] from (k38_mkM _ _ _ (⟨1, (⟨#[107]⟩ : ByteArray), (⟨t297, t298, t299, t300, t301⟩ : S24), 0⟩ : S38) )) (Reps.none _ _))); intro v303 w44 ho45 hb hg_ hnew_; clear hg_ hnew_; (first | rw [← Ny302.out] at ho45 | (simp only [Int.reduceToNat] at ho45; rw [← Ny302.out] at ho45)); have HO304 := Aside0.mk (Kd.R_lower ho45 (below_size (bw HB))); replace BK278 := bb BK278 hb; replace HB := bs HB hb; clear hb ho45) | ((with_reducible refine gate_dst (N := 34) rfl ?_); (try (refine gate_guard (by rfl) ?_; dsimp only)); refine Kd.R_lit k44 _ 44 ?hg (N := 34) ?hd (xs := ([(⟨1, (⟨0, 0, 0, (⟨0, 0, 0, 0, 0⟩ : S24), (⟨0, 0, 0⟩ : S40)⟩ : S42)⟩ : S44)] : List (S44))) (inner := [.int .i64 1, .int .i64 0, .int .u64 0, .int .u64 0, .int .i64 0, .int .u64 0, .int .u64 0, .int .u64 0, .int .u64 0, .int .u64 0, .int .u64 0, .int .u64 0]) (ok := fun _ => True) (okp := fun _ => True) ?hr ?hp (fun _ hk => hk) trivial (Below.refl _ _) (Nat.le_refl _) (by simp) ?_; (case hd => rfl); (case hg => rfl); (case hr => first | (go_simp; done) | (go_simp; rfl)); (case hp => exact (Reps.front (show Kd.M k44 _ _ _ (⟨1, (⟨0, 0, 0, (⟨0, 0, 0, 0, 0⟩ : S24), (⟨0, 0, 0⟩ : S40)⟩ : S42)⟩ : S44) [.int .i64 1, .int .i64 0, .int .u64 0, .int .u64 0, .int .i64 0, .int .u64 0, .int .u64 0, .int .u64 0, .int .u64 0, .int .u64 0, .int .u64 0, .int .u64 0] from (k44_mkM _ _ _ (⟨1, (⟨0, 0, 0, (⟨0, 0, 0, 0, 0⟩ : S24), (⟨0, 0, 0⟩ : S40)⟩ : S42)⟩ : S44) )) rfl (Reps.none _ _) rfl)); intro v306 w46 ho47 hb hg_ hnew_; clear hg_ hnew_; (first | rw [← Ny305.out] at ho47 | (simp only [Int.reduceToNat] at ho47; rw [← Ny305.out] at ho47)); have HO307 := Aside0.mk (Kd.R_lower ho47 (below_size (bw HB))); replace HO304 := Aside0.mk (Kd.R_below (ro HO304) hb); replace BK278 := bb BK278 hb; replace HB := bs HB hb; clear hb ho47; obtain ⟨Ao48, co48, eo48⟩ := Kd.R_slice HO304.out; subst eo48; obtain ⟨Ao49, co49, eo49⟩ := Kd.R_slice HO307.out; subst eo49) | ((with_reducible refine gate_callee (f := 15) rfl ?_); refine gl (some 35) Try.func15 #[.slice Ao48 y302.length co48, .slice Ao49 y305.length co49] ?_; (with_reducible refine (audit_Lines.calls kj13 _ _ y302 _ _ y305 t308 _ ?side1 ?side2 ?side3 ?side4 A37.out).mono ?_); (case side1 => exact co (Kd.R_reads' HO304.out).2.2); (case side2 => exact (Kd.R_reads' HO304.out).2.1); (case side3 => exact co (Kd.R_reads' HO307.out).2.2); (case side4 => exact (Kd.R_reads' HO307.out).2.1); rintro e w50 ⟨v309, rfl, ho0, hb⟩; refine ⟨_, rfl, ?_⟩; have HO310 := Aside0.mk (Kd.S_lower ho0 (below_size (bw HB))); replace HO304 := Aside0.mk (Kd.R_below (ro HO304) hb); replace HO307 := Aside0.mk (Kd.R_below (ro HO307) hb); replace BK278 := bb BK278 hb; replace HB := bs HB hb; (try clear hb); (try clear hb2); (try clear hk); (try clear hi); (try clear ho0)))
                 replace HO304 := Aside0.mk (Kd.R_drew HO304.out); replace HO307 := Aside0.mk (Kd.R_drew HO307.out); replace HO310 := Aside0.mk (Kd.S_drew HO310.out); replace BK278 := Aside0.mk (blk_drew BK278.out); replace HB := Aside0.mk (below_drew1 HB.out)
                 obtain ⟨Ao52, co52, eo52⟩ := Kd.S_slice HO310.out
                 (first | subst eo52 | (injection eo52 with f1_ f2_ f3_; have f4_ := f1_.symm; have f5_ := f3_.symm; clear f1_ f2_ f3_; subst f4_; subst f5_))
                 have p311 : 0 ≤ (0 : Int) := (by omega)
                 have q311 : 0 < (t308.length : Int) := of_decide_eq_true (by first | (with_reducible assumption) | assumption)
                 obtain ⟨ad311, A311_6, c311_6, e311, hx311_0, hx311_1, hx311_2, hx311_3, hx311_4, hx311_5, hx311_6, hl311_6, hi311_6⟩ := at_T52 (Kd.S_reads' HO310.out).2.2 0 p311 q311
                 cases e311
                 obtain ⟨ce311, hce311, hMe311, hcc311⟩ := Kd.S_get HO310.out z52 0 p311 (by first | exact q311 | exact of_decide_eq_true (by first | (with_reducible assumption) | assumption) | (have e_ := (Kd.S_reads' HO310.out).1; omega))
                 obtain ⟨ve311_6, rfl, ge311_6⟩ := k52_openM hMe311
                 have hv311_6 := hcc311 6 _ rfl
                 rw [add_field _ _ 6 (by omega)] at hv311_6
                 replace hv311_6 := Option.some.inj (hv311_6.symm.trans hx311_6)
                 rw [hv311_6] at ge311_6
                 have HL311_6 := Aside0.mk (show Kd.R k31 31 _ _ _ _ ((rd_T52 t308 0).f2) from ge311_6); clear hv311_6 ge311_6; clear hcc311 hce311
                 have qi311 : (0 < t308.length) = True := eq_true (by omega)
                 (try rw [show ((0 : Int)).toNat = 0 from rfl] at hx311_0)
                 (try rw [show 0 * 7 = 0 from rfl] at hx311_0)
                 (try rw [Addr.add_zero'] at hx311_0)
                 (try rw [show ((0 : Int)).toNat = 0 from rfl] at hx311_1)
                 (try rw [show 0 * 7 = 0 from rfl] at hx311_1)
                 (try rw [Addr.add_zero'] at hx311_1)
                 (try rw [show ((0 : Int)).toNat = 0 from rfl] at hx311_2)
                 (try rw [show 0 * 7 = 0 from rfl] at hx311_2)
                 (try rw [Addr.add_zero'] at hx311_2)
                 (try rw [show ((0 : Int)).toNat = 0 from rfl] at hx311_3)
                 (try rw [show 0 * 7 = 0 from rfl] at hx311_3)
                 (try rw [Addr.add_zero'] at hx311_3)
                 (try rw [show ((0 : Int)).toNat = 0 from rfl] at hx311_4)
                 (try rw [show 0 * 7 = 0 from rfl] at hx311_4)
                 (try rw [Addr.add_zero'] at hx311_4)
                 (try rw [show ((0 : Int)).toNat = 0 from rfl] at hx311_5)
                 (try rw [show 0 * 7 = 0 from rfl] at hx311_5)
                 (try rw [Addr.add_zero'] at hx311_5)
                 (try rw [show ((0 : Int)).toNat = 0 from rfl] at hx311_6)
                 (try rw [show 0 * 7 = 0 from rfl] at hx311_6)
                 (try rw [Addr.add_zero'] at hx311_6)
                 have HR311_6 := Aside0.mk hi311_6; have HC311_6 := Aside0.mk hl311_6; clear hi311_6 hl311_6; replace p311 := eq_true p311; replace q311 := eq_true q311
                 have p312 : 0 ≤ (0 : Int) := (by omega)
                 have q312 : 0 < (t308.length : Int) := of_decide_eq_true (by first | (with_reducible assumption) | assumption)
                 obtain ⟨ad312, A312_6, c312_6, e312, hx312_0, hx312_1, hx312_2, hx312_3, hx312_4, hx312_5, hx312_6, hl312_6, hi312_6⟩ := at_T52 (Kd.S_reads' HO310.out).2.2 0 p312 q312
                 obtain rfl : ad311 = ad312 := (by injection e312)
                 obtain ⟨ce312, hce312, hMe312, hcc312⟩ := Kd.S_get HO310.out z52 0 p312 (by first | exact q312 | exact of_decide_eq_true (by first | (with_reducible assumption) | assumption) | (have e_ := (Kd.S_reads' HO310.out).1; omega))
                 obtain ⟨ve312_6, rfl, ge312_6⟩ := k52_openM hMe312
                 have hv312_6 := hcc312 6 _ rfl
                 rw [add_field _ _ 6 (by omega)] at hv312_6
                 replace hv312_6 := Option.some.inj (hv312_6.symm.trans hx312_6)
                 rw [hv312_6] at ge312_6
                 have HL312_6 := Aside0.mk (show Kd.R k31 31 _ _ _ _ ((rd_T52 t308 0).f2) from ge312_6); clear hv312_6 ge312_6; clear hcc312 hce312
                 have qi312 : (0 < t308.length) = True := eq_true (by omega)
                 (try rw [show ((0 : Int)).toNat = 0 from rfl] at hx312_0)
                 (try rw [show 0 * 7 = 0 from rfl] at hx312_0)
                 (try rw [Addr.add_zero'] at hx312_0)
                 (try rw [show ((0 : Int)).toNat = 0 from rfl] at hx312_1)
                 (try rw [show 0 * 7 = 0 from rfl] at hx312_1)
                 (try rw [Addr.add_zero'] at hx312_1)
                 (try rw [show ((0 : Int)).toNat = 0 from rfl] at hx312_2)
                 (try rw [show 0 * 7 = 0 from rfl] at hx312_2)
                 (try rw [Addr.add_zero'] at hx312_2)
                 (try rw [show ((0 : Int)).toNat = 0 from rfl] at hx312_3)
                 (try rw [show 0 * 7 = 0 from rfl] at hx312_3)
                 (try rw [Addr.add_zero'] at hx312_3)
                 (try rw [show ((0 : Int)).toNat = 0 from rfl] at hx312_4)
                 (try rw [show 0 * 7 = 0 from rfl] at hx312_4)
                 (try rw [Addr.add_zero'] at hx312_4)
                 (try rw [show ((0 : Int)).toNat = 0 from rfl] at hx312_5)
                 (try rw [show 0 * 7 = 0 from rfl] at hx312_5)
                 (try rw [Addr.add_zero'] at hx312_5)
                 (try rw [show ((0 : Int)).toNat = 0 from rfl] at hx312_6)
                 (try rw [show 0 * 7 = 0 from rfl] at hx312_6)
                 (try rw [Addr.add_zero'] at hx312_6)
                 have HR312_6 := Aside0.mk hi312_6; have HC312_6 := Aside0.mk hl312_6; clear hi312_6 hl312_6; replace p312 := eq_true p312; replace q312 := eq_true q312; have ea_ := Option.some.inj (hx311_6.symm.trans hx312_6)
                 injection ea_ with ea_ en_ ec_
                 subst ea_
                 subst ec_
                 clear en_
                 have p318 : 0 ≤ (0 : Int) := (by omega)
                 have q318 : 0 < (t308.length : Int) := of_decide_eq_true (by first | (with_reducible assumption) | assumption)
                 obtain ⟨ad318, A318_6, c318_6, e318, hx318_0, hx318_1, hx318_2, hx318_3, hx318_4, hx318_5, hx318_6, hl318_6, hi318_6⟩ := at_T52 (Kd.S_reads' HO310.out).2.2 0 p318 q318
                 obtain rfl : ad311 = ad318 := (by injection e318)
                 obtain ⟨ce318, hce318, hMe318, hcc318⟩ := Kd.S_get HO310.out z52 0 p318 (by first | exact q318 | exact of_decide_eq_true (by first | (with_reducible assumption) | assumption) | (have e_ := (Kd.S_reads' HO310.out).1; omega))
                 obtain ⟨ve318_6, rfl, ge318_6⟩ := k52_openM hMe318
                 have hv318_6 := hcc318 6 _ rfl
                 rw [add_field _ _ 6 (by omega)] at hv318_6
                 replace hv318_6 := Option.some.inj (hv318_6.symm.trans hx318_6)
                 rw [hv318_6] at ge318_6
                 have HL318_6 := Aside0.mk (show Kd.R k31 31 _ _ _ _ ((rd_T52 t308 0).f2) from ge318_6); clear hv318_6 ge318_6; clear hcc318 hce318
                 have qi318 : (0 < t308.length) = True := eq_true (by omega)
                 (try rw [show ((0 : Int)).toNat = 0 from rfl] at hx318_0)
                 (try rw [show 0 * 7 = 0 from rfl] at hx318_0)
                 (try rw [Addr.add_zero'] at hx318_0)
                 (try rw [show ((0 : Int)).toNat = 0 from rfl] at hx318_1)
                 (try rw [show 0 * 7 = 0 from rfl] at hx318_1)
                 (try rw [Addr.add_zero'] at hx318_1)
                 (try rw [show ((0 : Int)).toNat = 0 from rfl] at hx318_2)
                 (try rw [show 0 * 7 = 0 from rfl] at hx318_2)
                 (try rw [Addr.add_zero'] at hx318_2)
                 (try rw [show ((0 : Int)).toNat = 0 from rfl] at hx318_3)
                 (try rw [show 0 * 7 = 0 from rfl] at hx318_3)
                 (try rw [Addr.add_zero'] at hx318_3)
                 (try rw [show ((0 : Int)).toNat = 0 from rfl] at hx318_4)
                 (try rw [show 0 * 7 = 0 from rfl] at hx318_4)
                 (try rw [Addr.add_zero'] at hx318_4)
                 (try rw [show ((0 : Int)).toNat = 0 from rfl] at hx318_5)
                 (try rw [show 0 * 7 = 0 from rfl] at hx318_5)
                 (try rw [Addr.add_zero'] at hx318_5)
                 (try rw [show ((0 : Int)).toNat = 0 from rfl] at hx318_6)
                 (try rw [show 0 * 7 = 0 from rfl] at hx318_6)
                 (try rw [Addr.add_zero'] at hx318_6)
                 have HR318_6 := Aside0.mk hi318_6; have HC318_6 := Aside0.mk hl318_6; clear hi318_6 hl318_6; replace p318 := eq_true p318; replace q318 := eq_true q318
                 refine start_ (n := 27) (S := fun w' => w'.cell? ad311 = some (.string ((rd_T52 t308 0).f0)) ∧ w'.cell? ⟨ad311.block, ad311.off + 1, none⟩ = some (.int .i64 ((rd_T52 t308 0).f1.f0)) ∧ w'.cell? ⟨ad311.block, ad311.off + 2, none⟩ = some (.int .u64 ((rd_T52 t308 0).f1.f1)) ∧ w'.cell? ⟨ad311.block, ad311.off + 3, none⟩ = some (.int .u64 ((rd_T52 t308 0).f1.f2)) ∧ w'.cell? ⟨ad311.block, ad311.off + 4, none⟩ = some (.int .u64 ((rd_T52 t308 0).f1.f3)) ∧ w'.cell? ⟨ad311.block, ad311.off + 5, none⟩ = some (.int .u64 ((rd_T52 t308 0).f1.f4)) ∧ w'.cell? ⟨ad311.block, ad311.off + 6, none⟩ = some (.slice A311_6 ((rd_T52 t308 0).f2).length c311_6) ∧ w'.cell? ad311 = some (.string ((rd_T52 t308 0).f0)) ∧ w'.cell? ⟨ad311.block, ad311.off + 1, none⟩ = some (.int .i64 ((rd_T52 t308 0).f1.f0)) ∧ w'.cell? ⟨ad311.block, ad311.off + 2, none⟩ = some (.int .u64 ((rd_T52 t308 0).f1.f1)) ∧ w'.cell? ⟨ad311.block, ad311.off + 3, none⟩ = some (.int .u64 ((rd_T52 t308 0).f1.f2)) ∧ w'.cell? ⟨ad311.block, ad311.off + 4, none⟩ = some (.int .u64 ((rd_T52 t308 0).f1.f3)) ∧ w'.cell? ⟨ad311.block, ad311.off + 5, none⟩ = some (.int .u64 ((rd_T52 t308 0).f1.f4)) ∧ w'.cell? ⟨ad311.block, ad311.off + 6, none⟩ = some (.slice A311_6 ((rd_T52 t308 0).f2).length c311_6) ∧ w'.cell? ad311 = some (.string ((rd_T52 t308 0).f0)) ∧ w'.cell? ⟨ad311.block, ad311.off + 1, none⟩ = some (.int .i64 ((rd_T52 t308 0).f1.f0)) ∧ w'.cell? ⟨ad311.block, ad311.off + 2, none⟩ = some (.int .u64 ((rd_T52 t308 0).f1.f1)) ∧ w'.cell? ⟨ad311.block, ad311.off + 3, none⟩ = some (.int .u64 ((rd_T52 t308 0).f1.f2)) ∧ w'.cell? ⟨ad311.block, ad311.off + 4, none⟩ = some (.int .u64 ((rd_T52 t308 0).f1.f3)) ∧ w'.cell? ⟨ad311.block, ad311.off + 5, none⟩ = some (.int .u64 ((rd_T52 t308 0).f1.f4)) ∧ w'.cell? ⟨ad311.block, ad311.off + 6, none⟩ = some (.slice A318_6 ((rd_T52 t308 0).f2).length c318_6)) (ds := []) #[false, false, false, false, false, false, false, false, false, false, false, false, false, false, false, false, false, false, false, false, false, false, false, false, false, false, false] (by kernel_rfl) rfl rfl ⟨hx311_0, hx311_1, hx311_2, hx311_3, hx311_4, hx311_5, hx311_6, hx312_0, hx312_1, hx312_2, hx312_3, hx312_4, hx312_5, hx312_6, hx318_0, hx318_1, hx318_2, hx318_3, hx318_4, hx318_5, hx318_6⟩ (fun hHeld => ?_); refine with_tabW turnstilelaw24_awake.tab7 turnstilelaw24_awake.bits7 (fun HT_ HW_ => ?_)
                 generalize w50.drew = w51 at HO304 HO307 HO310 BK278 HB HL311_6 HL312_6 HL318_6 HR311_6 HR312_6 HR318_6 hx311_0 hx311_1 hx311_2 hx311_3 hx311_4 hx311_5 hx311_6 hx312_0 hx312_1 hx312_2 hx312_3 hx312_4 hx312_5 hx312_6 hx318_0 hx318_1 hx318_2 hx318_3 hx318_4 hx318_5 hx318_6 hHeld ⊢
                 refine chain_ (fuel := 12) [(0, 0, some 36), (1, 0, some 37), (2, 0, some 38), (3, 0, some 39), (4, 0, some 40), (5, 0, some 41), (6, 0, some 42), (7, 1, some 43), (8, 0, some 44), (9, 0, some 45), (10, 0, some 46), (11, 0, some 47), (12, 0, some 48), (13, 0, some 49), (14, 1, some 50)] #[true, true, true, true, true, true, true, true, true, true, true, true, true, true, true, false, false, false, false, false, false, false, false, false, false, false, false] HT_.out HW_.out (by kernel_rfl) (fun _ _ _ _ _ h => h) (Or.inr hHeld) rfl ?_
                 (iterate 7 refine lkP ?_); refine lkT ?_; (iterate 6 refine lkP ?_); refine lkT ?_; refine .nil ?_
                 refine one_ (i := 15) (N := some 51) #[true, true, true, true, true, true, true, true, true, true, true, true, true, true, true, true, false, false, false, false, false, false, false, false, false, false, false] rfl rfl (one_of HT_.out (by kernel_rfl)) (by decide) (fun K hK => ?_)
                 refine ge Try.func26 #[] ?_
                 with_reducible refine (turnstilelaw24_flow.calls  t313 t314 t315 t316 t317 _ A41.out).mono ?_
                 rintro e w53 ⟨rfl, hb⟩
                 have HS0_ := (hb.cell (World.block_lt_of_cell? _ _ (hHeld.1))).trans (hHeld.1); have HS1_ := (hb.cell (World.block_lt_of_cell? _ _ (hHeld.2.1))).trans (hHeld.2.1); have HS2_ := (hb.cell (World.block_lt_of_cell? _ _ (hHeld.2.2.1))).trans (hHeld.2.2.1); have HS3_ := (hb.cell (World.block_lt_of_cell? _ _ (hHeld.2.2.2.1))).trans (hHeld.2.2.2.1); have HS4_ := (hb.cell (World.block_lt_of_cell? _ _ (hHeld.2.2.2.2.1))).trans (hHeld.2.2.2.2.1); have HS5_ := (hb.cell (World.block_lt_of_cell? _ _ (hHeld.2.2.2.2.2.1))).trans (hHeld.2.2.2.2.2.1); have HS6_ := (hb.cell (World.block_lt_of_cell? _ _ (hHeld.2.2.2.2.2.2.1))).trans (hHeld.2.2.2.2.2.2.1); have HS7_ := (hb.cell (World.block_lt_of_cell? _ _ (hHeld.2.2.2.2.2.2.2.1))).trans (hHeld.2.2.2.2.2.2.2.1); have HS8_ := (hb.cell (World.block_lt_of_cell? _ _ (hHeld.2.2.2.2.2.2.2.2.1))).trans (hHeld.2.2.2.2.2.2.2.2.1); have HS9_ := (hb.cell (World.block_lt_of_cell? _ _ (hHeld.2.2.2.2.2.2.2.2.2.1))).trans (hHeld.2.2.2.2.2.2.2.2.2.1); have HS10_ := (hb.cell (World.block_lt_of_cell? _ _ (hHeld.2.2.2.2.2.2.2.2.2.2.1))).trans (hHeld.2.2.2.2.2.2.2.2.2.2.1); have HS11_ := (hb.cell (World.block_lt_of_cell? _ _ (hHeld.2.2.2.2.2.2.2.2.2.2.2.1))).trans (hHeld.2.2.2.2.2.2.2.2.2.2.2.1); have HS12_ := (hb.cell (World.block_lt_of_cell? _ _ (hHeld.2.2.2.2.2.2.2.2.2.2.2.2.1))).trans (hHeld.2.2.2.2.2.2.2.2.2.2.2.2.1); have HS13_ := (hb.cell (World.block_lt_of_cell? _ _ (hHeld.2.2.2.2.2.2.2.2.2.2.2.2.2.1))).trans (hHeld.2.2.2.2.2.2.2.2.2.2.2.2.2.1)
                 have HS14_ := (hb.cell (World.block_lt_of_cell? _ _ (hHeld.2.2.2.2.2.2.2.2.2.2.2.2.2.2.1))).trans (hHeld.2.2.2.2.2.2.2.2.2.2.2.2.2.2.1); have HS15_ := (hb.cell (World.block_lt_of_cell? _ _ (hHeld.2.2.2.2.2.2.2.2.2.2.2.2.2.2.2.1))).trans (hHeld.2.2.2.2.2.2.2.2.2.2.2.2.2.2.2.1); have HS16_ := (hb.cell (World.block_lt_of_cell? _ _ (hHeld.2.2.2.2.2.2.2.2.2.2.2.2.2.2.2.2.1))).trans (hHeld.2.2.2.2.2.2.2.2.2.2.2.2.2.2.2.2.1); have HS17_ := (hb.cell (World.block_lt_of_cell? _ _ (hHeld.2.2.2.2.2.2.2.2.2.2.2.2.2.2.2.2.2.1))).trans (hHeld.2.2.2.2.2.2.2.2.2.2.2.2.2.2.2.2.2.1); have HS18_ := (hb.cell (World.block_lt_of_cell? _ _ (hHeld.2.2.2.2.2.2.2.2.2.2.2.2.2.2.2.2.2.2.1))).trans (hHeld.2.2.2.2.2.2.2.2.2.2.2.2.2.2.2.2.2.2.1); have HS19_ := (hb.cell (World.block_lt_of_cell? _ _ (hHeld.2.2.2.2.2.2.2.2.2.2.2.2.2.2.2.2.2.2.2.1))).trans (hHeld.2.2.2.2.2.2.2.2.2.2.2.2.2.2.2.2.2.2.2.1); have HS20_ := (hb.cell (World.block_lt_of_cell? _ _ (hHeld.2.2.2.2.2.2.2.2.2.2.2.2.2.2.2.2.2.2.2.2))).trans (hHeld.2.2.2.2.2.2.2.2.2.2.2.2.2.2.2.2.2.2.2.2)
                 refine ⟨_, rfl, ?_⟩
                 replace HO304 := Aside0.mk (Kd.R_below (ro HO304) hb); replace HO307 := Aside0.mk (Kd.R_below (ro HO307) hb); replace HO310 := Aside0.mk (Kd.S_below (so HO310) hb); replace HL311_6 := Aside0.mk (Kd.R_below (by (with_reducible repeat (first | apply Kd.R_alloc | apply Kd.R_drewN | apply Kd.R_drew)); exact HL311_6.out) hb); replace HL312_6 := Aside0.mk (Kd.R_below (by (with_reducible repeat (first | apply Kd.R_alloc | apply Kd.R_drewN | apply Kd.R_drew)); exact HL312_6.out) hb); replace BK278 := bb BK278 hb; replace HR311_6 := Aside0.mk (Kd.C_below (by repeat (first | (with_reducible exact HR311_6.out) | (with_reducible refine Kd.C_alloc ?_ _) | (with_reducible refine Kd.C_drewN ?_ _) | (with_reducible refine Kd.C_drew ?_) | exact HR311_6.out)) hb); replace HR312_6 := Aside0.mk (Kd.C_below (by repeat (first | (with_reducible exact HR312_6.out) | (with_reducible refine Kd.C_alloc ?_ _) | (with_reducible refine Kd.C_drewN ?_ _) | (with_reducible refine Kd.C_drew ?_) | exact HR312_6.out)) hb); replace HB := bs HB hb; (try clear hb); (try clear hb2); (try clear hk); (try clear hi)
                 refine hK.out _ _ ⟨HS0_, HS1_, HS2_, HS3_, HS4_, HS5_, HS6_, HS7_, HS8_, HS9_, HS10_, HS11_, HS12_, HS13_, HS14_, HS15_, HS16_, HS17_, HS18_, HS19_, HS20_⟩ (fun hHeld => ?_)
                 clear hK K
                 refine norm_ (a' := ?_) ?_ ?_
                 rotate_left
                 · show Act.put _ (some 51) _ = _
                   simp only [Act.put, List.setIfInBounds_toArray, List.set_cons_zero, List.set_cons_succ, i64_w, i32_w]
                   rfl
                 refine chain_ (fuel := 0) [(16, 0, some 52), (17, 0, some 53), (18, 0, some 54), (19, 0, some 55), (20, 0, some 56), (21, 0, some 57), (22, 1, some 58), (23, 0, some 59), (24, 0, some 60), (25, 0, some 61), (26, 0, some 0)] #[true, true, true, true, true, true, true, true, true, true, true, true, true, true, true, true, true, true, true, true, true, true, true, true, true, true, true] HT_.out HW_.out (by kernel_rfl) (fun _ _ _ _ _ h => h) (Or.inr hHeld) rfl ?_
                 (iterate 6 refine lkP ?_); refine lkT ?_; (iterate 4 refine lkP ?_); refine .nil ?_
                 refine done_ (done_of HT_.out (by kernel_rfl)) ?_
                 try go_wp2
                 go_ret
                 exact ⟨re, bw HB⟩
               · rw [if_neg c42] at H
                 have c42b0 : (((rd_T52 t308 0).f1.f0) == t313 && (((rd_T52 t308 0).f1.f1) == t314 && (((rd_T52 t308 0).f1.f2) == t315 && (((rd_T52 t308 0).f1.f3) == t316 && (((rd_T52 t308 0).f1.f4) == t317))))) = false := by simpa using c42
                 (try (have c42b1 : decide (((rd_T52 t308 0).f1.f0) = t313 && (((rd_T52 t308 0).f1.f1) == t314 && (((rd_T52 t308 0).f1.f2) == t315 && (((rd_T52 t308 0).f1.f3) == t316 && (((rd_T52 t308 0).f1.f4) == t317))))) = false := by simpa using c42))
                 (try (have c42b2 : (((rd_T52 t308 0).f1.f0) == t313 && (((rd_T52 t308 0).f1.f1) == t314 && (((rd_T52 t308 0).f1.f2) == t315 && (((rd_T52 t308 0).f1.f3) == t316 && (((rd_T52 t308 0).f1.f4) == t317))))) = false := by simpa using c42))
                 (try (have c42b3 : ¬ (((rd_T52 t308 0).f1.f0) = t313 && (((rd_T52 t308 0).f1.f1) == t314 && (((rd_T52 t308 0).f1.f2) == t315 && (((rd_T52 t308 0).f1.f3) == t316 && (((rd_T52 t308 0).f1.f4) == t317))))) := by simpa using c42))
                 clear c42
                 obtain rfl := Option.some.inj H
                 try go_wp2_with (first | ((with_reducible refine gate_callee (f := 26) rfl ?_); refine gm (some 30) Try.func26 #[] (turnstilelaw24_flow.calls  t297 t298 t299 t300 t301 _ A36.out) ?_; intro w54 hb; replace BK278 := bb BK278 hb; replace HB := bs HB hb; (try clear hb); (try clear hb2); (try clear hk); (try clear hi)) | ((with_reducible refine gate_dst (N := 32) rfl ?_); (try (refine gate_guard (by rfl) ?_; dsimp only)); refine Kd.R_lit k38 _ 38 ?hg (N := 32) ?hd (xs := ([(⟨1, (⟨#[107]⟩ : ByteArray), (⟨t297, t298, t299, t300, t301⟩ : S24), 0⟩ : S38)] : List (S38))) (inner := [.int .i64 1, .string (⟨#[107]⟩ : ByteArray), .int .i64 t297, .int .u64 t298, .int .u64 t299, .int .u64 t300, .int .u64 t301, .int .u64 0]) (ok := fun _ => True) (okp := fun _ => True) ?hr ?hp (fun _ hk => hk) trivial (Below.refl _ _) (Nat.le_refl _) (by simp) ?_; (case hd => rfl); (case hg => rfl); (case hr => first | (go_simp; done) | (go_simp; rfl)); (case hp => exact (Reps.c8 (show Kd.M k38 _ _ _ (⟨1, (⟨#[107]⟩ : ByteArray), (⟨t297, t298, t299, t300, t301⟩ : S24), 0⟩ : S38) [.int .i64 1, .string (⟨#[107]⟩ : ByteArray), .int .i64 t297, .int .u64 t298, .int .u64 t299, .int .u64 t300, .int .u64 t301, .int .u64 0] from (k38_mkM _ _ _ (⟨1, (⟨#[107]⟩ : ByteArray), (⟨t297, t298, t299, t300, t301⟩ : S24), 0⟩ : S38) )) (Reps.none _ _))); intro v303 w55 ho56 hb hg_ hnew_; clear hg_ hnew_; (first | rw [← Ny302.out] at ho56 | (simp only [Int.reduceToNat] at ho56; rw [← Ny302.out] at ho56)); have HO304 := Aside0.mk (Kd.R_lower ho56 (below_size (bw HB))); replace BK278 := bb BK278 hb; replace HB := bs HB hb; clear hb ho56) | ((with_reducible refine gate_dst (N := 34) rfl ?_); (try (refine gate_guard (by rfl) ?_; dsimp only)); refine Kd.R_lit k44 _ 44 ?hg (N := 34) ?hd (xs := ([(⟨1, (⟨0, 0, 0, (⟨0, 0, 0, 0, 0⟩ : S24), (⟨0, 0, 0⟩ : S40)⟩ : S42)⟩ : S44)] : List (S44))) (inner := [.int .i64 1, .int .i64 0, .int .u64 0, .int .u64 0, .int .i64 0, .int .u64 0, .int .u64 0, .int .u64 0, .int .u64 0, .int .u64 0, .int .u64 0, .int .u64 0]) (ok := fun _ => True) (okp := fun _ => True) ?hr ?hp (fun _ hk => hk) trivial (Below.refl _ _) (Nat.le_refl _) (by simp) ?_; (case hd => rfl); (case hg => rfl); (case hr => first | (go_simp; done) | (go_simp; rfl)); (case hp => exact (Reps.front (show Kd.M k44 _ _ _ (⟨1, (⟨0, 0, 0, (⟨0, 0, 0, 0, 0⟩ : S24), (⟨0, 0, 0⟩ : S40)⟩ : S42)⟩ : S44) [.int .i64 1, .int .i64 0, .int .u64 0, .int .u64 0, .int .i64 0, .int .u64 0, .int .u64 0, .int .u64 0, .int .u64 0, .int .u64 0, .int .u64 0, .int .u64 0] from (k44_mkM _ _ _ (⟨1, (⟨0, 0, 0, (⟨0, 0, 0, 0, 0⟩ : S24), (⟨0, 0, 0⟩ : S40)⟩ : S42)⟩ : S44) )) rfl (Reps.none _ _) rfl)); intro v306 w57 ho58 hb hg_ hnew_; clear hg_ hnew_; (first | rw [← Ny305.out] at ho58 | (simp only [Int.reduceToNat] at ho58; rw [← Ny305.out] at ho58)); have HO307 := Aside0.mk (Kd.R_lower ho58 (below_size (bw HB))); replace HO304 := Aside0.mk (Kd.R_below (ro HO304) hb); replace BK278 := bb BK278 hb; replace HB := bs HB hb; clear hb ho58; obtain ⟨Ao59, co59, eo59⟩ := Kd.R_slice HO304.out; subst eo59; obtain ⟨Ao60, co60, eo60⟩ := Kd.R_slice HO307.out; subst eo60) | ((with_reducible refine gate_callee (f := 15) rfl ?_); refine gl (some 35) Try.func15 #[.slice Ao59 y302.length co59, .slice Ao60 y305.length co60] ?_; (with_reducible refine (audit_Lines.calls kj13 _ _ y302 _ _ y305 t308 _ ?side1 ?side2 ?side3 ?side4 A37.out).mono ?_); (case side1 => exact co (Kd.R_reads' HO304.out).2.2); (case side2 => exact (Kd.R_reads' HO304.out).2.1); (case side3 => exact co (Kd.R_reads' HO307.out).2.2); (case side4 => exact (Kd.R_reads' HO307.out).2.1); rintro e w61 ⟨v309, rfl, ho0, hb⟩; refine ⟨_, rfl, ?_⟩; have HO310 := Aside0.mk (Kd.S_lower ho0 (below_size (bw HB))); replace HO304 := Aside0.mk (Kd.R_below (ro HO304) hb); replace HO307 := Aside0.mk (Kd.R_below (ro HO307) hb); replace BK278 := bb BK278 hb; replace HB := bs HB hb; (try clear hb); (try clear hb2); (try clear hk); (try clear hi); (try clear ho0)))
                 replace HO304 := Aside0.mk (Kd.R_drew HO304.out); replace HO307 := Aside0.mk (Kd.R_drew HO307.out); replace HO310 := Aside0.mk (Kd.S_drew HO310.out); replace BK278 := Aside0.mk (blk_drew BK278.out); replace HB := Aside0.mk (below_drew1 HB.out)
                 obtain ⟨Ao63, co63, eo63⟩ := Kd.S_slice HO310.out
                 (first | subst eo63 | (injection eo63 with f1_ f2_ f3_; have f4_ := f1_.symm; have f5_ := f3_.symm; clear f1_ f2_ f3_; subst f4_; subst f5_))
                 have p311 : 0 ≤ (0 : Int) := (by omega)
                 have q311 : 0 < (t308.length : Int) := of_decide_eq_true (by first | (with_reducible assumption) | assumption)
                 obtain ⟨ad311, A311_6, c311_6, e311, hx311_0, hx311_1, hx311_2, hx311_3, hx311_4, hx311_5, hx311_6, hl311_6, hi311_6⟩ := at_T52 (Kd.S_reads' HO310.out).2.2 0 p311 q311
                 cases e311
                 obtain ⟨ce311, hce311, hMe311, hcc311⟩ := Kd.S_get HO310.out z52 0 p311 (by first | exact q311 | exact of_decide_eq_true (by first | (with_reducible assumption) | assumption) | (have e_ := (Kd.S_reads' HO310.out).1; omega))
                 obtain ⟨ve311_6, rfl, ge311_6⟩ := k52_openM hMe311
                 have hv311_6 := hcc311 6 _ rfl
                 rw [add_field _ _ 6 (by omega)] at hv311_6
                 replace hv311_6 := Option.some.inj (hv311_6.symm.trans hx311_6)
                 rw [hv311_6] at ge311_6
                 have HL311_6 := Aside0.mk (show Kd.R k31 31 _ _ _ _ ((rd_T52 t308 0).f2) from ge311_6); clear hv311_6 ge311_6; clear hcc311 hce311
                 have qi311 : (0 < t308.length) = True := eq_true (by omega)
                 (try rw [show ((0 : Int)).toNat = 0 from rfl] at hx311_0)
                 (try rw [show 0 * 7 = 0 from rfl] at hx311_0)
                 (try rw [Addr.add_zero'] at hx311_0)
                 (try rw [show ((0 : Int)).toNat = 0 from rfl] at hx311_1)
                 (try rw [show 0 * 7 = 0 from rfl] at hx311_1)
                 (try rw [Addr.add_zero'] at hx311_1)
                 (try rw [show ((0 : Int)).toNat = 0 from rfl] at hx311_2)
                 (try rw [show 0 * 7 = 0 from rfl] at hx311_2)
                 (try rw [Addr.add_zero'] at hx311_2)
                 (try rw [show ((0 : Int)).toNat = 0 from rfl] at hx311_3)
                 (try rw [show 0 * 7 = 0 from rfl] at hx311_3)
                 (try rw [Addr.add_zero'] at hx311_3)
                 (try rw [show ((0 : Int)).toNat = 0 from rfl] at hx311_4)
                 (try rw [show 0 * 7 = 0 from rfl] at hx311_4)
                 (try rw [Addr.add_zero'] at hx311_4)
                 (try rw [show ((0 : Int)).toNat = 0 from rfl] at hx311_5)
                 (try rw [show 0 * 7 = 0 from rfl] at hx311_5)
                 (try rw [Addr.add_zero'] at hx311_5)
                 (try rw [show ((0 : Int)).toNat = 0 from rfl] at hx311_6)
                 (try rw [show 0 * 7 = 0 from rfl] at hx311_6)
                 (try rw [Addr.add_zero'] at hx311_6)
                 have HR311_6 := Aside0.mk hi311_6; have HC311_6 := Aside0.mk hl311_6; clear hi311_6 hl311_6; replace p311 := eq_true p311; replace q311 := eq_true q311
                 have p312 : 0 ≤ (0 : Int) := (by omega)
                 have q312 : 0 < (t308.length : Int) := of_decide_eq_true (by first | (with_reducible assumption) | assumption)
                 obtain ⟨ad312, A312_6, c312_6, e312, hx312_0, hx312_1, hx312_2, hx312_3, hx312_4, hx312_5, hx312_6, hl312_6, hi312_6⟩ := at_T52 (Kd.S_reads' HO310.out).2.2 0 p312 q312
                 obtain rfl : ad311 = ad312 := (by injection e312)
                 obtain ⟨ce312, hce312, hMe312, hcc312⟩ := Kd.S_get HO310.out z52 0 p312 (by first | exact q312 | exact of_decide_eq_true (by first | (with_reducible assumption) | assumption) | (have e_ := (Kd.S_reads' HO310.out).1; omega))
                 obtain ⟨ve312_6, rfl, ge312_6⟩ := k52_openM hMe312
                 have hv312_6 := hcc312 6 _ rfl
                 rw [add_field _ _ 6 (by omega)] at hv312_6
                 replace hv312_6 := Option.some.inj (hv312_6.symm.trans hx312_6)
                 rw [hv312_6] at ge312_6
                 have HL312_6 := Aside0.mk (show Kd.R k31 31 _ _ _ _ ((rd_T52 t308 0).f2) from ge312_6); clear hv312_6 ge312_6; clear hcc312 hce312
                 have qi312 : (0 < t308.length) = True := eq_true (by omega)
                 (try rw [show ((0 : Int)).toNat = 0 from rfl] at hx312_0)
                 (try rw [show 0 * 7 = 0 from rfl] at hx312_0)
                 (try rw [Addr.add_zero'] at hx312_0)
                 (try rw [show ((0 : Int)).toNat = 0 from rfl] at hx312_1)
                 (try rw [show 0 * 7 = 0 from rfl] at hx312_1)
                 (try rw [Addr.add_zero'] at hx312_1)
                 (try rw [show ((0 : Int)).toNat = 0 from rfl] at hx312_2)
                 (try rw [show 0 * 7 = 0 from rfl] at hx312_2)
                 (try rw [Addr.add_zero'] at hx312_2)
                 (try rw [show ((0 : Int)).toNat = 0 from rfl] at hx312_3)
                 (try rw [show 0 * 7 = 0 from rfl] at hx312_3)
                 (try rw [Addr.add_zero'] at hx312_3)
                 (try rw [show ((0 : Int)).toNat = 0 from rfl] at hx312_4)
                 (try rw [show 0 * 7 = 0 from rfl] at hx312_4)
                 (try rw [Addr.add_zero'] at hx312_4)
                 (try rw [show ((0 : Int)).toNat = 0 from rfl] at hx312_5)
                 (try rw [show 0 * 7 = 0 from rfl] at hx312_5)
                 (try rw [Addr.add_zero'] at hx312_5)
                 (try rw [show ((0 : Int)).toNat = 0 from rfl] at hx312_6)
                 (try rw [show 0 * 7 = 0 from rfl] at hx312_6)
                 (try rw [Addr.add_zero'] at hx312_6)
                 have HR312_6 := Aside0.mk hi312_6; have HC312_6 := Aside0.mk hl312_6; clear hi312_6 hl312_6; replace p312 := eq_true p312; replace q312 := eq_true q312; have ea_ := Option.some.inj (hx311_6.symm.trans hx312_6)
                 injection ea_ with ea_ en_ ec_
                 subst ea_
                 subst ec_
                 clear en_
                 refine start_ (n := 27) (S := fun w' => w'.cell? ad311 = some (.string ((rd_T52 t308 0).f0)) ∧ w'.cell? ⟨ad311.block, ad311.off + 1, none⟩ = some (.int .i64 ((rd_T52 t308 0).f1.f0)) ∧ w'.cell? ⟨ad311.block, ad311.off + 2, none⟩ = some (.int .u64 ((rd_T52 t308 0).f1.f1)) ∧ w'.cell? ⟨ad311.block, ad311.off + 3, none⟩ = some (.int .u64 ((rd_T52 t308 0).f1.f2)) ∧ w'.cell? ⟨ad311.block, ad311.off + 4, none⟩ = some (.int .u64 ((rd_T52 t308 0).f1.f3)) ∧ w'.cell? ⟨ad311.block, ad311.off + 5, none⟩ = some (.int .u64 ((rd_T52 t308 0).f1.f4)) ∧ w'.cell? ⟨ad311.block, ad311.off + 6, none⟩ = some (.slice A311_6 ((rd_T52 t308 0).f2).length c311_6) ∧ w'.cell? ad311 = some (.string ((rd_T52 t308 0).f0)) ∧ w'.cell? ⟨ad311.block, ad311.off + 1, none⟩ = some (.int .i64 ((rd_T52 t308 0).f1.f0)) ∧ w'.cell? ⟨ad311.block, ad311.off + 2, none⟩ = some (.int .u64 ((rd_T52 t308 0).f1.f1)) ∧ w'.cell? ⟨ad311.block, ad311.off + 3, none⟩ = some (.int .u64 ((rd_T52 t308 0).f1.f2)) ∧ w'.cell? ⟨ad311.block, ad311.off + 4, none⟩ = some (.int .u64 ((rd_T52 t308 0).f1.f3)) ∧ w'.cell? ⟨ad311.block, ad311.off + 5, none⟩ = some (.int .u64 ((rd_T52 t308 0).f1.f4)) ∧ w'.cell? ⟨ad311.block, ad311.off + 6, none⟩ = some (.slice A311_6 ((rd_T52 t308 0).f2).length c311_6)) (ds := []) #[false, false, false, false, false, false, false, false, false, false, false, false, false, false, false, false, false, false, false, false, false, false, false, false, false, false, false] (by kernel_rfl) rfl rfl ⟨hx311_0, hx311_1, hx311_2, hx311_3, hx311_4, hx311_5, hx311_6, hx312_0, hx312_1, hx312_2, hx312_3, hx312_4, hx312_5, hx312_6⟩ (fun hHeld => ?_); refine with_tabW turnstilelaw24_awake.tab7 turnstilelaw24_awake.bits7 (fun HT_ HW_ => ?_)
                 generalize w61.drew = w62 at HO304 HO307 HO310 BK278 HB HL311_6 HL312_6 HR311_6 HR312_6 hx311_0 hx311_1 hx311_2 hx311_3 hx311_4 hx311_5 hx311_6 hx312_0 hx312_1 hx312_2 hx312_3 hx312_4 hx312_5 hx312_6 hHeld ⊢
                 refine chain_ (fuel := 12) [(0, 0, some 36), (1, 0, some 37), (2, 0, some 38), (3, 0, some 39), (4, 0, some 40), (5, 0, some 41), (6, 0, some 42), (7, 1, some 43), (8, 0, some 44), (9, 0, some 45), (10, 0, some 46), (11, 0, some 47), (12, 0, some 48), (13, 0, some 49), (14, 1, some 50)] #[true, true, true, true, true, true, true, true, true, true, true, true, true, true, true, false, false, false, false, false, false, false, false, false, false, false, false] HT_.out HW_.out (by kernel_rfl) (fun _ _ _ _ _ h => h) (Or.inr hHeld) rfl ?_
                 (iterate 7 refine lkP ?_); refine lkT ?_; (iterate 6 refine lkP ?_); refine lkT ?_; refine .nil ?_
                 refine one_ (i := 15) (N := some 51) #[true, true, true, true, true, true, true, true, true, true, true, true, true, true, true, true, false, false, false, false, false, false, false, false, false, false, false] rfl rfl (one_of HT_.out (by kernel_rfl)) (by decide) (fun K hK => ?_)
                 refine ge Try.func26 #[] ?_
                 with_reducible refine (turnstilelaw24_flow.calls  t313 t314 t315 t316 t317 _ A41.out).mono ?_
                 rintro e w64 ⟨rfl, hb⟩
                 have HS0_ := (hb.cell (World.block_lt_of_cell? _ _ (hHeld.1))).trans (hHeld.1); have HS1_ := (hb.cell (World.block_lt_of_cell? _ _ (hHeld.2.1))).trans (hHeld.2.1); have HS2_ := (hb.cell (World.block_lt_of_cell? _ _ (hHeld.2.2.1))).trans (hHeld.2.2.1); have HS3_ := (hb.cell (World.block_lt_of_cell? _ _ (hHeld.2.2.2.1))).trans (hHeld.2.2.2.1); have HS4_ := (hb.cell (World.block_lt_of_cell? _ _ (hHeld.2.2.2.2.1))).trans (hHeld.2.2.2.2.1); have HS5_ := (hb.cell (World.block_lt_of_cell? _ _ (hHeld.2.2.2.2.2.1))).trans (hHeld.2.2.2.2.2.1); have HS6_ := (hb.cell (World.block_lt_of_cell? _ _ (hHeld.2.2.2.2.2.2.1))).trans (hHeld.2.2.2.2.2.2.1); have HS7_ := (hb.cell (World.block_lt_of_cell? _ _ (hHeld.2.2.2.2.2.2.2.1))).trans (hHeld.2.2.2.2.2.2.2.1); have HS8_ := (hb.cell (World.block_lt_of_cell? _ _ (hHeld.2.2.2.2.2.2.2.2.1))).trans (hHeld.2.2.2.2.2.2.2.2.1); have HS9_ := (hb.cell (World.block_lt_of_cell? _ _ (hHeld.2.2.2.2.2.2.2.2.2.1))).trans (hHeld.2.2.2.2.2.2.2.2.2.1); have HS10_ := (hb.cell (World.block_lt_of_cell? _ _ (hHeld.2.2.2.2.2.2.2.2.2.2.1))).trans (hHeld.2.2.2.2.2.2.2.2.2.2.1); have HS11_ := (hb.cell (World.block_lt_of_cell? _ _ (hHeld.2.2.2.2.2.2.2.2.2.2.2.1))).trans (hHeld.2.2.2.2.2.2.2.2.2.2.2.1); have HS12_ := (hb.cell (World.block_lt_of_cell? _ _ (hHeld.2.2.2.2.2.2.2.2.2.2.2.2.1))).trans (hHeld.2.2.2.2.2.2.2.2.2.2.2.2.1); have HS13_ := (hb.cell (World.block_lt_of_cell? _ _ (hHeld.2.2.2.2.2.2.2.2.2.2.2.2.2))).trans (hHeld.2.2.2.2.2.2.2.2.2.2.2.2.2)
                 refine ⟨_, rfl, ?_⟩
                 replace HO304 := Aside0.mk (Kd.R_below (ro HO304) hb); replace HO307 := Aside0.mk (Kd.R_below (ro HO307) hb); replace HO310 := Aside0.mk (Kd.S_below (so HO310) hb); replace HL311_6 := Aside0.mk (Kd.R_below (by (with_reducible repeat (first | apply Kd.R_alloc | apply Kd.R_drewN | apply Kd.R_drew)); exact HL311_6.out) hb); replace HL312_6 := Aside0.mk (Kd.R_below (by (with_reducible repeat (first | apply Kd.R_alloc | apply Kd.R_drewN | apply Kd.R_drew)); exact HL312_6.out) hb); replace BK278 := bb BK278 hb; replace HR311_6 := Aside0.mk (Kd.C_below (by repeat (first | (with_reducible exact HR311_6.out) | (with_reducible refine Kd.C_alloc ?_ _) | (with_reducible refine Kd.C_drewN ?_ _) | (with_reducible refine Kd.C_drew ?_) | exact HR311_6.out)) hb); replace HR312_6 := Aside0.mk (Kd.C_below (by repeat (first | (with_reducible exact HR312_6.out) | (with_reducible refine Kd.C_alloc ?_ _) | (with_reducible refine Kd.C_drewN ?_ _) | (with_reducible refine Kd.C_drew ?_) | exact HR312_6.out)) hb); replace HB := bs HB hb; (try clear hb); (try clear hb2); (try clear hk); (try clear hi)
                 refine hK.out _ _ ⟨HS0_, HS1_, HS2_, HS3_, HS4_, HS5_, HS6_, HS7_, HS8_, HS9_, HS10_, HS11_, HS12_, HS13_⟩ (fun hHeld => ?_)
                 clear hK K
                 refine norm_ (a' := ?_) ?_ ?_
                 rotate_left
                 · show Act.put _ (some 51) _ = _
                   simp only [Act.put, List.setIfInBounds_toArray, List.set_cons_zero, List.set_cons_succ, i64_w, i32_w]
                   rfl
                 refine chain_ (fuel := 0) [(16, 0, some 52), (17, 0, some 53), (18, 0, some 54), (19, 2, some 55), (20, 2, some 56), (21, 2, some 57), (22, 2, some 58), (23, 2, some 59), (24, 2, some 60), (25, 0, some 61), (26, 0, some 0)] #[true, true, true, true, true, true, true, true, true, true, true, true, true, true, true, true, true, true, true, true, true, true, true, true, true, true, true] HT_.out HW_.out (by kernel_rfl) (fun _ _ _ _ _ h => h) (Or.inl (by decide)) rfl ?_
                 (iterate 3 refine lkP ?_); (iterate 6 refine lkO ?_); (iterate 2 refine lkP ?_); refine .nil ?_
                 refine done_ (done_of HT_.out (by kernel_rfl)) ?_
                 try go_wp2
                 go_ret
                 exact ⟨re, bw HB⟩
             · rw [if_neg c40] at H
               have c40b0 : (((rd_T52 t308 0).f0).toList == ([107] : List UInt8)) = false := beq_eq_false_iff_ne.mpr c40
               have c40b1 : (((rd_T52 t308 0).f0).toList != ([107] : List UInt8)) = true := bne_iff_ne.mpr c40
               obtain rfl := Option.some.inj H
               try go_wp2_with (first | ((with_reducible refine gate_callee (f := 26) rfl ?_); refine gm (some 30) Try.func26 #[] (turnstilelaw24_flow.calls  t297 t298 t299 t300 t301 _ A36.out) ?_; intro w65 hb; replace BK278 := bb BK278 hb; replace HB := bs HB hb; (try clear hb); (try clear hb2); (try clear hk); (try clear hi)) | ((with_reducible refine gate_dst (N := 32) rfl ?_); (try (refine gate_guard (by rfl) ?_; dsimp only)); refine Kd.R_lit k38 _ 38 ?hg (N := 32) ?hd (xs := ([(⟨1, (⟨#[107]⟩ : ByteArray), (⟨t297, t298, t299, t300, t301⟩ : S24), 0⟩ : S38)] : List (S38))) (inner := [.int .i64 1, .string (⟨#[107]⟩ : ByteArray), .int .i64 t297, .int .u64 t298, .int .u64 t299, .int .u64 t300, .int .u64 t301, .int .u64 0]) (ok := fun _ => True) (okp := fun _ => True) ?hr ?hp (fun _ hk => hk) trivial (Below.refl _ _) (Nat.le_refl _) (by simp) ?_; (case hd => rfl); (case hg => rfl); (case hr => first | (go_simp; done) | (go_simp; rfl)); (case hp => exact (Reps.c8 (show Kd.M k38 _ _ _ (⟨1, (⟨#[107]⟩ : ByteArray), (⟨t297, t298, t299, t300, t301⟩ : S24), 0⟩ : S38) [.int .i64 1, .string (⟨#[107]⟩ : ByteArray), .int .i64 t297, .int .u64 t298, .int .u64 t299, .int .u64 t300, .int .u64 t301, .int .u64 0] from (k38_mkM _ _ _ (⟨1, (⟨#[107]⟩ : ByteArray), (⟨t297, t298, t299, t300, t301⟩ : S24), 0⟩ : S38) )) (Reps.none _ _))); intro v303 w66 ho67 hb hg_ hnew_; clear hg_ hnew_; (first | rw [← Ny302.out] at ho67 | (simp only [Int.reduceToNat] at ho67; rw [← Ny302.out] at ho67)); have HO304 := Aside0.mk (Kd.R_lower ho67 (below_size (bw HB))); replace BK278 := bb BK278 hb; replace HB := bs HB hb; clear hb ho67) | ((with_reducible refine gate_dst (N := 34) rfl ?_); (try (refine gate_guard (by rfl) ?_; dsimp only)); refine Kd.R_lit k44 _ 44 ?hg (N := 34) ?hd (xs := ([(⟨1, (⟨0, 0, 0, (⟨0, 0, 0, 0, 0⟩ : S24), (⟨0, 0, 0⟩ : S40)⟩ : S42)⟩ : S44)] : List (S44))) (inner := [.int .i64 1, .int .i64 0, .int .u64 0, .int .u64 0, .int .i64 0, .int .u64 0, .int .u64 0, .int .u64 0, .int .u64 0, .int .u64 0, .int .u64 0, .int .u64 0]) (ok := fun _ => True) (okp := fun _ => True) ?hr ?hp (fun _ hk => hk) trivial (Below.refl _ _) (Nat.le_refl _) (by simp) ?_; (case hd => rfl); (case hg => rfl); (case hr => first | (go_simp; done) | (go_simp; rfl)); (case hp => exact (Reps.front (show Kd.M k44 _ _ _ (⟨1, (⟨0, 0, 0, (⟨0, 0, 0, 0, 0⟩ : S24), (⟨0, 0, 0⟩ : S40)⟩ : S42)⟩ : S44) [.int .i64 1, .int .i64 0, .int .u64 0, .int .u64 0, .int .i64 0, .int .u64 0, .int .u64 0, .int .u64 0, .int .u64 0, .int .u64 0, .int .u64 0, .int .u64 0] from (k44_mkM _ _ _ (⟨1, (⟨0, 0, 0, (⟨0, 0, 0, 0, 0⟩ : S24), (⟨0, 0, 0⟩ : S40)⟩ : S42)⟩ : S44) )) rfl (Reps.none _ _) rfl)); intro v306 w68 ho69 hb hg_ hnew_; clear hg_ hnew_; (first | rw [← Ny305.out] at ho69 | (simp only [Int.reduceToNat] at ho69; rw [← Ny305.out] at ho69)); have HO307 := Aside0.mk (Kd.R_lower ho69 (below_size (bw HB))); replace HO304 := Aside0.mk (Kd.R_below (ro HO304) hb); replace BK278 := bb BK278 hb; replace HB := bs HB hb; clear hb ho69; obtain ⟨Ao70, co70, eo70⟩ := Kd.R_slice HO304.out; subst eo70; obtain ⟨Ao71, co71, eo71⟩ := Kd.R_slice HO307.out; subst eo71) | ((with_reducible refine gate_callee (f := 15) rfl ?_); refine gl (some 35) Try.func15 #[.slice Ao70 y302.length co70, .slice Ao71 y305.length co71] ?_; (with_reducible refine (audit_Lines.calls kj13 _ _ y302 _ _ y305 t308 _ ?side1 ?side2 ?side3 ?side4 A37.out).mono ?_); (case side1 => exact co (Kd.R_reads' HO304.out).2.2); (case side2 => exact (Kd.R_reads' HO304.out).2.1); (case side3 => exact co (Kd.R_reads' HO307.out).2.2); (case side4 => exact (Kd.R_reads' HO307.out).2.1); rintro e w72 ⟨v309, rfl, ho0, hb⟩; refine ⟨_, rfl, ?_⟩; have HO310 := Aside0.mk (Kd.S_lower ho0 (below_size (bw HB))); replace HO304 := Aside0.mk (Kd.R_below (ro HO304) hb); replace HO307 := Aside0.mk (Kd.R_below (ro HO307) hb); replace BK278 := bb BK278 hb; replace HB := bs HB hb; (try clear hb); (try clear hb2); (try clear hk); (try clear hi); (try clear ho0)))
               replace HO304 := Aside0.mk (Kd.R_drew HO304.out); replace HO307 := Aside0.mk (Kd.R_drew HO307.out); replace HO310 := Aside0.mk (Kd.S_drew HO310.out); replace BK278 := Aside0.mk (blk_drew BK278.out); replace HB := Aside0.mk (below_drew1 HB.out)
               obtain ⟨Ao74, co74, eo74⟩ := Kd.S_slice HO310.out
               (first | subst eo74 | (injection eo74 with f1_ f2_ f3_; have f4_ := f1_.symm; have f5_ := f3_.symm; clear f1_ f2_ f3_; subst f4_; subst f5_))
               have p311 : 0 ≤ (0 : Int) := (by omega)
               have q311 : 0 < (t308.length : Int) := of_decide_eq_true (by first | (with_reducible assumption) | assumption)
               obtain ⟨ad311, A311_6, c311_6, e311, hx311_0, hx311_1, hx311_2, hx311_3, hx311_4, hx311_5, hx311_6, hl311_6, hi311_6⟩ := at_T52 (Kd.S_reads' HO310.out).2.2 0 p311 q311
               cases e311
               obtain ⟨ce311, hce311, hMe311, hcc311⟩ := Kd.S_get HO310.out z52 0 p311 (by first | exact q311 | exact of_decide_eq_true (by first | (with_reducible assumption) | assumption) | (have e_ := (Kd.S_reads' HO310.out).1; omega))
               obtain ⟨ve311_6, rfl, ge311_6⟩ := k52_openM hMe311
               have hv311_6 := hcc311 6 _ rfl
               rw [add_field _ _ 6 (by omega)] at hv311_6
               replace hv311_6 := Option.some.inj (hv311_6.symm.trans hx311_6)
               rw [hv311_6] at ge311_6
               have HL311_6 := Aside0.mk (show Kd.R k31 31 _ _ _ _ ((rd_T52 t308 0).f2) from ge311_6); clear hv311_6 ge311_6; clear hcc311 hce311
               have qi311 : (0 < t308.length) = True := eq_true (by omega)
               (try rw [show ((0 : Int)).toNat = 0 from rfl] at hx311_0)
               (try rw [show 0 * 7 = 0 from rfl] at hx311_0)
               (try rw [Addr.add_zero'] at hx311_0)
               (try rw [show ((0 : Int)).toNat = 0 from rfl] at hx311_1)
               (try rw [show 0 * 7 = 0 from rfl] at hx311_1)
               (try rw [Addr.add_zero'] at hx311_1)
               (try rw [show ((0 : Int)).toNat = 0 from rfl] at hx311_2)
               (try rw [show 0 * 7 = 0 from rfl] at hx311_2)
               (try rw [Addr.add_zero'] at hx311_2)
               (try rw [show ((0 : Int)).toNat = 0 from rfl] at hx311_3)
               (try rw [show 0 * 7 = 0 from rfl] at hx311_3)
               (try rw [Addr.add_zero'] at hx311_3)
               (try rw [show ((0 : Int)).toNat = 0 from rfl] at hx311_4)
               (try rw [show 0 * 7 = 0 from rfl] at hx311_4)
               (try rw [Addr.add_zero'] at hx311_4)
               (try rw [show ((0 : Int)).toNat = 0 from rfl] at hx311_5)
               (try rw [show 0 * 7 = 0 from rfl] at hx311_5)
               (try rw [Addr.add_zero'] at hx311_5)
               (try rw [show ((0 : Int)).toNat = 0 from rfl] at hx311_6)
               (try rw [show 0 * 7 = 0 from rfl] at hx311_6)
               (try rw [Addr.add_zero'] at hx311_6)
               have HR311_6 := Aside0.mk hi311_6; have HC311_6 := Aside0.mk hl311_6; clear hi311_6 hl311_6; replace p311 := eq_true p311; replace q311 := eq_true q311
               refine start_ (n := 27) (S := fun w' => w'.cell? ad311 = some (.string ((rd_T52 t308 0).f0)) ∧ w'.cell? ⟨ad311.block, ad311.off + 1, none⟩ = some (.int .i64 ((rd_T52 t308 0).f1.f0)) ∧ w'.cell? ⟨ad311.block, ad311.off + 2, none⟩ = some (.int .u64 ((rd_T52 t308 0).f1.f1)) ∧ w'.cell? ⟨ad311.block, ad311.off + 3, none⟩ = some (.int .u64 ((rd_T52 t308 0).f1.f2)) ∧ w'.cell? ⟨ad311.block, ad311.off + 4, none⟩ = some (.int .u64 ((rd_T52 t308 0).f1.f3)) ∧ w'.cell? ⟨ad311.block, ad311.off + 5, none⟩ = some (.int .u64 ((rd_T52 t308 0).f1.f4)) ∧ w'.cell? ⟨ad311.block, ad311.off + 6, none⟩ = some (.slice A311_6 ((rd_T52 t308 0).f2).length c311_6)) (ds := []) #[false, false, false, false, false, false, false, false, false, false, false, false, false, false, false, false, false, false, false, false, false, false, false, false, false, false, false] (by kernel_rfl) rfl rfl ⟨hx311_0, hx311_1, hx311_2, hx311_3, hx311_4, hx311_5, hx311_6⟩ (fun hHeld => ?_); refine with_tabW turnstilelaw24_awake.tab7 turnstilelaw24_awake.bits7 (fun HT_ HW_ => ?_)
               generalize w72.drew = w73 at HO304 HO307 HO310 BK278 HB HL311_6 HR311_6 hx311_0 hx311_1 hx311_2 hx311_3 hx311_4 hx311_5 hx311_6 hHeld ⊢
               refine chain_ (fuel := 0) [(0, 0, some 36), (1, 0, some 37), (2, 0, some 38), (3, 0, some 39), (4, 0, some 40), (5, 0, some 41), (6, 0, some 42), (7, 1, some 43), (8, 0, some 44), (9, 0, some 45), (10, 0, some 46), (11, 2, some 47), (12, 2, some 48), (13, 2, some 49), (14, 2, some 50), (15, 2, some 51), (16, 2, some 52), (17, 0, some 53), (18, 0, some 54), (19, 2, some 55), (20, 2, some 56), (21, 2, some 57), (22, 2, some 58), (23, 2, some 59), (24, 2, some 60), (25, 0, some 61), (26, 0, some 0)] #[true, true, true, true, true, true, true, true, true, true, true, true, true, true, true, true, true, true, true, true, true, true, true, true, true, true, true] HT_.out HW_.out (by kernel_rfl) (fun _ _ _ _ _ h => h) (Or.inr hHeld) rfl ?_
               (iterate 7 refine lkP ?_); refine lkT ?_; (iterate 3 refine lkP ?_); (iterate 6 refine lkO ?_); (iterate 2 refine lkP ?_); (iterate 6 refine lkO ?_); (iterate 2 refine lkP ?_); refine .nil ?_
               refine done_ (done_of HT_.out (by kernel_rfl)) ?_
               try go_wp2
               go_ret
               exact ⟨re, bw HB⟩
           · rw [if_neg c39] at H
             exact absurd H (by simp)
         · rw [if_neg c38] at H
           have c38b0 : ((t308.length : Int) == 1) = false := beq_eq_false_iff_ne.mpr c38
           have c38b1 : ((t308.length : Int) != 1) = true := bne_iff_ne.mpr c38
           obtain rfl := Option.some.inj H
           try go_wp2_with (first | ((with_reducible refine gate_callee (f := 26) rfl ?_); refine gm (some 30) Try.func26 #[] (turnstilelaw24_flow.calls  t297 t298 t299 t300 t301 _ A36.out) ?_; intro w75 hb; replace BK278 := bb BK278 hb; replace HB := bs HB hb; (try clear hb); (try clear hb2); (try clear hk); (try clear hi)) | ((with_reducible refine gate_dst (N := 32) rfl ?_); (try (refine gate_guard (by rfl) ?_; dsimp only)); refine Kd.R_lit k38 _ 38 ?hg (N := 32) ?hd (xs := ([(⟨1, (⟨#[107]⟩ : ByteArray), (⟨t297, t298, t299, t300, t301⟩ : S24), 0⟩ : S38)] : List (S38))) (inner := [.int .i64 1, .string (⟨#[107]⟩ : ByteArray), .int .i64 t297, .int .u64 t298, .int .u64 t299, .int .u64 t300, .int .u64 t301, .int .u64 0]) (ok := fun _ => True) (okp := fun _ => True) ?hr ?hp (fun _ hk => hk) trivial (Below.refl _ _) (Nat.le_refl _) (by simp) ?_; (case hd => rfl); (case hg => rfl); (case hr => first | (go_simp; done) | (go_simp; rfl)); (case hp => exact (Reps.c8 (show Kd.M k38 _ _ _ (⟨1, (⟨#[107]⟩ : ByteArray), (⟨t297, t298, t299, t300, t301⟩ : S24), 0⟩ : S38) [.int .i64 1, .string (⟨#[107]⟩ : ByteArray), .int .i64 t297, .int .u64 t298, .int .u64 t299, .int .u64 t300, .int .u64 t301, .int .u64 0] from (k38_mkM _ _ _ (⟨1, (⟨#[107]⟩ : ByteArray), (⟨t297, t298, t299, t300, t301⟩ : S24), 0⟩ : S38) )) (Reps.none _ _))); intro v303 w76 ho77 hb hg_ hnew_; clear hg_ hnew_; (first | rw [← Ny302.out] at ho77 | (simp only [Int.reduceToNat] at ho77; rw [← Ny302.out] at ho77)); have HO304 := Aside0.mk (Kd.R_lower ho77 (below_size (bw HB))); replace BK278 := bb BK278 hb; replace HB := bs HB hb; clear hb ho77) | ((with_reducible refine gate_dst (N := 34) rfl ?_); (try (refine gate_guard (by rfl) ?_; dsimp only)); refine Kd.R_lit k44 _ 44 ?hg (N := 34) ?hd (xs := ([(⟨1, (⟨0, 0, 0, (⟨0, 0, 0, 0, 0⟩ : S24), (⟨0, 0, 0⟩ : S40)⟩ : S42)⟩ : S44)] : List (S44))) (inner := [.int .i64 1, .int .i64 0, .int .u64 0, .int .u64 0, .int .i64 0, .int .u64 0, .int .u64 0, .int .u64 0, .int .u64 0, .int .u64 0, .int .u64 0, .int .u64 0]) (ok := fun _ => True) (okp := fun _ => True) ?hr ?hp (fun _ hk => hk) trivial (Below.refl _ _) (Nat.le_refl _) (by simp) ?_; (case hd => rfl); (case hg => rfl); (case hr => first | (go_simp; done) | (go_simp; rfl)); (case hp => exact (Reps.front (show Kd.M k44 _ _ _ (⟨1, (⟨0, 0, 0, (⟨0, 0, 0, 0, 0⟩ : S24), (⟨0, 0, 0⟩ : S40)⟩ : S42)⟩ : S44) [.int .i64 1, .int .i64 0, .int .u64 0, .int .u64 0, .int .i64 0, .int .u64 0, .int .u64 0, .int .u64 0, .int .u64 0, .int .u64 0, .int .u64 0, .int .u64 0] from (k44_mkM _ _ _ (⟨1, (⟨0, 0, 0, (⟨0, 0, 0, 0, 0⟩ : S24), (⟨0, 0, 0⟩ : S40)⟩ : S42)⟩ : S44) )) rfl (Reps.none _ _) rfl)); intro v306 w78 ho79 hb hg_ hnew_; clear hg_ hnew_; (first | rw [← Ny305.out] at ho79 | (simp only [Int.reduceToNat] at ho79; rw [← Ny305.out] at ho79)); have HO307 := Aside0.mk (Kd.R_lower ho79 (below_size (bw HB))); replace HO304 := Aside0.mk (Kd.R_below (ro HO304) hb); replace BK278 := bb BK278 hb; replace HB := bs HB hb; clear hb ho79; obtain ⟨Ao80, co80, eo80⟩ := Kd.R_slice HO304.out; subst eo80; obtain ⟨Ao81, co81, eo81⟩ := Kd.R_slice HO307.out; subst eo81) | ((with_reducible refine gate_callee (f := 15) rfl ?_); refine gl (some 35) Try.func15 #[.slice Ao80 y302.length co80, .slice Ao81 y305.length co81] ?_; (with_reducible refine (audit_Lines.calls kj13 _ _ y302 _ _ y305 t308 _ ?side1 ?side2 ?side3 ?side4 A37.out).mono ?_); (case side1 => exact co (Kd.R_reads' HO304.out).2.2); (case side2 => exact (Kd.R_reads' HO304.out).2.1); (case side3 => exact co (Kd.R_reads' HO307.out).2.2); (case side4 => exact (Kd.R_reads' HO307.out).2.1); rintro e w82 ⟨v309, rfl, ho0, hb⟩; refine ⟨_, rfl, ?_⟩; have HO310 := Aside0.mk (Kd.S_lower ho0 (below_size (bw HB))); replace HO304 := Aside0.mk (Kd.R_below (ro HO304) hb); replace HO307 := Aside0.mk (Kd.R_below (ro HO307) hb); replace BK278 := bb BK278 hb; replace HB := bs HB hb; (try clear hb); (try clear hb2); (try clear hk); (try clear hi); (try clear ho0)))
           replace HO304 := Aside0.mk (Kd.R_drew HO304.out); replace HO307 := Aside0.mk (Kd.R_drew HO307.out); replace HO310 := Aside0.mk (Kd.S_drew HO310.out); replace BK278 := Aside0.mk (blk_drew BK278.out); replace HB := Aside0.mk (below_drew1 HB.out)
           obtain ⟨Ao84, co84, eo84⟩ := Kd.S_slice HO310.out
           (first | subst eo84 | (injection eo84 with f1_ f2_ f3_; have f4_ := f1_.symm; have f5_ := f3_.symm; clear f1_ f2_ f3_; subst f4_; subst f5_))
           refine start_ (n := 27) (S := fun w' => True) (ds := []) #[false, false, false, false, false, false, false, false, false, false, false, false, false, false, false, false, false, false, false, false, false, false, false, false, false, false, false] (by kernel_rfl) rfl rfl trivial (fun hHeld => ?_); refine with_tabW turnstilelaw24_awake.tab7 turnstilelaw24_awake.bits7 (fun HT_ HW_ => ?_)
           generalize w82.drew = w83 at HO304 HO307 HO310 BK278 HB hHeld ⊢
           refine chain_ (fuel := 0) [(0, 0, some 36), (1, 0, some 37), (2, 0, some 38), (3, 0, some 39), (4, 2, some 40), (5, 2, some 41), (6, 2, some 42), (7, 2, some 43), (8, 2, some 44), (9, 0, some 45), (10, 0, some 46), (11, 2, some 47), (12, 2, some 48), (13, 2, some 49), (14, 2, some 50), (15, 2, some 51), (16, 2, some 52), (17, 0, some 53), (18, 0, some 54), (19, 2, some 55), (20, 2, some 56), (21, 2, some 57), (22, 2, some 58), (23, 2, some 59), (24, 2, some 60), (25, 0, some 61), (26, 0, some 0)] #[true, true, true, true, true, true, true, true, true, true, true, true, true, true, true, true, true, true, true, true, true, true, true, true, true, true, true] HT_.out HW_.out (by kernel_rfl) (fun _ _ _ _ _ h => h) (Or.inl (by decide)) rfl ?_
           (iterate 4 refine lkP ?_); (iterate 5 refine lkO ?_); (iterate 2 refine lkP ?_); (iterate 6 refine lkO ?_); (iterate 2 refine lkP ?_); (iterate 6 refine lkO ?_); (iterate 2 refine lkP ?_); refine .nil ?_
           refine done_ (done_of HT_.out (by kernel_rfl)) ?_
           try go_wp2
           go_ret
           exact ⟨re, bw HB⟩

end Go.Proofs.Ytdoifmefhofnnaa.D
