/- Written by the session's own program hyb.py: what functions of the program compute; Lean checks it. -/
import Derived.Test.YtkgjepmminmjjaaDoorEx0
import Derived.Test.YtkgjepmminmjjaaDoorEx23
import Derived.Test.YtkgjepmminmjjaaDoorEx26
import Derived.Test.YtkgjepmminmjjaaDoorEx27
namespace Go.Proofs.YtkgjepmminmjjaaDoor.E
open Go.RowKit Go.Proofs.YtkgjepmminmjjaaDoorW.PrintWords Go.Proofs.YtkgjepmminmjjaaDoorW.PrintLast Go.Proofs.YtkgjepmminmjjaaDoorW.PrintMore Go.Proofs.YtkgjepmminmjjaaDoorW.PrintShort
attribute [local go_sem] run_Add64 run_Sub64
attribute [local go_sem] max2_int min2_int max_two min_two max_three min_three max_four min_four   -- for this text's walks alone
set_option linter.unusedVariables false
set_option linter.unusedSimpArgs false

/-! ### turnstileref11_Decode: function 34 -/
mutual
def turnstileref11_Decode.j0 : Nat → List Int → Int → Bool → List Int → Int → Bool → Option (Int × Int × ByteArray × Int × Int × Int × Int × Int × Int × Int × Int × Int)
  | 0, _, _, _, _, _, _ => none
  | k + 1, x0, x5, x27, x380000, x380001, x380002 => if x27 = true then (some (0, 0, (⟨#[]⟩ : ByteArray), 0, 0, 0, 0, 0, 0, 0, 0, 3)) else ((turnstileref11_Cut_Number.f k x380000 x380001 x380002 8).bind fun bt384 => ((turnstileref11_Cut_Text.f k x380000 bt384.2.1 bt384.2.2).bind fun bt387 => (if x5 = 1 then ((turnstileref11_Cut_Number.f k x380000 bt387.2.1 bt387.2.2 1).bind fun bt390 => ((turnstileref11_Cut_Number.f k x380000 bt390.2.1 bt390.2.2 8).bind fun bt393 => ((turnstileref11_Cut_Number.f k x380000 bt393.2.1 bt393.2.2 8).bind fun bt396 => ((turnstileref11_Policy.f (wrap64 (bt390.1)) bt393.1 bt396.1).bind fun bt399 => (turnstileref11_Decode.j1 k x0 x380000 bt396.2.1 bt396.2.2 x5 bt384.1 bt387.1 bt399.1 bt399.2.1 bt399.2.2.1 bt399.2.2.2.1 bt399.2.2.2.2 0 0 0))))) else (if x5 = 3 then ((turnstileref11_Cut_Number.f k x380000 bt387.2.1 bt387.2.2 8).bind fun bt404 => ((turnstileref11_Cut_Number.f k x380000 bt404.2.1 bt404.2.2 8).bind fun bt407 => ((turnstileref11_Cut_Number.f k x380000 bt407.2.1 bt407.2.2 8).bind fun bt410 => (turnstileref11_Decode.j1 k x0 x380000 bt410.2.1 bt410.2.2 x5 bt384.1 bt387.1 0 0 0 0 0 bt404.1 bt407.1 bt410.1)))) else (turnstileref11_Decode.j1 k x0 x380000 bt387.2.1 bt387.2.2 x5 bt384.1 bt387.1 0 0 0 0 0 0 0 0)))))
def turnstileref11_Decode.j1 : Nat → List Int → List Int → Int → Bool → Int → Int → ByteArray → Int → Int → Int → Int → Int → Int → Int → Int → Option (Int × Int × ByteArray × Int × Int × Int × Int × Int × Int × Int × Int × Int)
  | 0, _, _, _, _, _, _, _, _, _, _, _, _, _, _, _ => none
  | k + 1, x0, x380000, x380001, x380002, x384000, x384001, x384002, x384003, x384004, x384005, x384006, x384007, x384008, x384009, x384010 => if x380002 = true then (some (0, 0, (⟨#[]⟩ : ByteArray), 0, 0, 0, 0, 0, 0, 0, 0, 2)) else ((turnstileref11_Valid.f k x384000 x384001 x384002 x384003 x384004 x384005 x384006 x384007 x384008 x384009 x384010).bind fun t413 => (if x380001 = (x0.length : Int) then (if t413 = true then (some (x384000, x384001, x384002, x384003, x384004, x384005, x384006, x384007, x384008, x384009, x384010, 0)) else (some (0, 0, (⟨#[]⟩ : ByteArray), 0, 0, 0, 0, 0, 0, 0, 0, 3))) else (some (0, 0, (⟨#[]⟩ : ByteArray), 0, 0, 0, 0, 0, 0, 0, 0, 3))))
end
def turnstileref11_Decode.f (k : Nat) (l0 : List Int) : Option (Int × Int × ByteArray × Int × Int × Int × Int × Int × Int × Int × Int × Int) := (turnstileref11_Cut_Number.f k l0 0 false 1).bind fun bt380 => (if bt380.2.2 = true then (some (0, 0, (⟨#[]⟩ : ByteArray), 0, 0, 0, 0, 0, 0, 0, 0, 2)) else (if (wrap64 (bt380.1)) < 1 then (turnstileref11_Decode.j0 k l0 (wrap64 (bt380.1)) true l0 bt380.2.1 bt380.2.2) else (turnstileref11_Decode.j0 k l0 (wrap64 (bt380.1)) (decide ((wrap64 (bt380.1)) > 3)) l0 bt380.2.1 bt380.2.2)))
theorem turnstileref11_Decode.mono_l : ∀ k, (∀ y0 y1 y2 y3 y4 y5, LeO (turnstileref11_Decode.j0 k y0 y1 y2 y3 y4 y5) (turnstileref11_Decode.j0 (k + 1) y0 y1 y2 y3 y4 y5)) ∧ (∀ y0 y1 y2 y3 y4 y5 y6 y7 y8 y9 y10 y11 y12 y13 y14, LeO (turnstileref11_Decode.j1 k y0 y1 y2 y3 y4 y5 y6 y7 y8 y9 y10 y11 y12 y13 y14) (turnstileref11_Decode.j1 (k + 1) y0 y1 y2 y3 y4 y5 y6 y7 y8 y9 y10 y11 y12 y13 y14))
  | 0 => ⟨fun _ _ _ _ _ _ r h => by simp [turnstileref11_Decode.j0] at h, fun _ _ _ _ _ _ _ _ _ _ _ _ _ _ _ r h => by simp [turnstileref11_Decode.j1] at h⟩
  | k + 1 => by
    obtain ⟨ih0, ih1⟩ := turnstileref11_Decode.mono_l k
    refine ⟨?_, ?_⟩
    · intro y0 y1 y2 y3 y4 y5
      unfold turnstileref11_Decode.j0
      repeat' first
      | (with_reducible exact ih0 _ _ _ _ _ _)
      | (with_reducible exact ih1 _ _ _ _ _ _ _ _ _ _ _ _ _ _ _)
      | (with_reducible exact turnstileref11_Cut_Number.mono _ _ _ _ _)
      | (with_reducible exact turnstileref11_Cut_Text.mono _ _ _ _)
      | (with_reducible exact turnstileref11_Valid.mono _ _ _ _ _ _ _ _ _ _ _ _)
      | (with_reducible exact LeO.refl _)
      | (with_reducible exact LeO.none _)
      | (with_reducible refine LeO.ite ?_ ?_)
      | (with_reducible refine LeO.bind ?_ (fun _ => ?_))
      | exact ih0 _ _ _ _ _ _
      | exact ih1 _ _ _ _ _ _ _ _ _ _ _ _ _ _ _
      | exact turnstileref11_Cut_Number.mono _ _ _ _ _
      | exact turnstileref11_Cut_Text.mono _ _ _ _
      | exact turnstileref11_Valid.mono _ _ _ _ _ _ _ _ _ _ _ _
      | exact LeO.none _
      | refine LeO.ite ?_ ?_
      | refine LeO.bind ?_ (fun _ => ?_)
    · intro y0 y1 y2 y3 y4 y5 y6 y7 y8 y9 y10 y11 y12 y13 y14
      unfold turnstileref11_Decode.j1
      repeat' first
      | (with_reducible exact ih0 _ _ _ _ _ _)
      | (with_reducible exact ih1 _ _ _ _ _ _ _ _ _ _ _ _ _ _ _)
      | (with_reducible exact turnstileref11_Cut_Number.mono _ _ _ _ _)
      | (with_reducible exact turnstileref11_Cut_Text.mono _ _ _ _)
      | (with_reducible exact turnstileref11_Valid.mono _ _ _ _ _ _ _ _ _ _ _ _)
      | (with_reducible exact LeO.refl _)
      | (with_reducible exact LeO.none _)
      | (with_reducible refine LeO.ite ?_ ?_)
      | (with_reducible refine LeO.bind ?_ (fun _ => ?_))
      | exact ih0 _ _ _ _ _ _
      | exact ih1 _ _ _ _ _ _ _ _ _ _ _ _ _ _ _
      | exact turnstileref11_Cut_Number.mono _ _ _ _ _
      | exact turnstileref11_Cut_Text.mono _ _ _ _
      | exact turnstileref11_Valid.mono _ _ _ _ _ _ _ _ _ _ _ _
      | exact LeO.none _
      | refine LeO.ite ?_ ?_
      | refine LeO.bind ?_ (fun _ => ?_)
theorem turnstileref11_Decode.mono : ∀ a0 k, LeO (turnstileref11_Decode.f k a0) (turnstileref11_Decode.f (k + 1) a0) := by
  intro a0 k
  obtain ⟨ih0, ih1⟩ := turnstileref11_Decode.mono_l k
  unfold turnstileref11_Decode.f
  repeat' first
      | (with_reducible exact ih0 _ _ _ _ _ _)
      | (with_reducible exact ih1 _ _ _ _ _ _ _ _ _ _ _ _ _ _ _)
      | (with_reducible exact turnstileref11_Cut_Number.mono _ _ _ _ _)
      | (with_reducible exact turnstileref11_Cut_Text.mono _ _ _ _)
      | (with_reducible exact turnstileref11_Valid.mono _ _ _ _ _ _ _ _ _ _ _ _)
      | (with_reducible exact LeO.refl _)
      | (with_reducible exact LeO.none _)
      | (with_reducible refine LeO.ite ?_ ?_)
      | (with_reducible refine LeO.bind ?_ (fun _ => ?_))
      | exact ih0 _ _ _ _ _ _
      | exact ih1 _ _ _ _ _ _ _ _ _ _ _ _ _ _ _
      | exact turnstileref11_Cut_Number.mono _ _ _ _ _
      | exact turnstileref11_Cut_Text.mono _ _ _ _
      | exact turnstileref11_Valid.mono _ _ _ _ _ _ _ _ _ _ _ _
      | exact LeO.none _
      | refine LeO.ite ?_ ?_
      | refine LeO.bind ?_ (fun _ => ?_)
set_option maxHeartbeats 8000000 in
set_option maxRecDepth 100000 in
theorem turnstileref11_Decode.calls (k : Nat) (A0 : Option Addr) (c0 : Nat) (l0 : List Int) (r1 : Int) (r2 : Int) (r3 : ByteArray) (r4 : Int) (r5 : Int) (r6 : Int) (r7 : Int) (r8 : Int) (r9 : Int) (r10 : Int) (r11 : Int) (r12 : Int) (w : World) (hr0 : Kd.C (Kd.int .u8) w A0 l0.length l0) (hc0 : l0.length ≤ c0) (h : turnstileref11_Decode.f k l0 = some (r1, r2, r3, r4, r5, r6, r7, r8, r9, r10, r11, r12)) :
    Calls Tryd.prog 34 #[.slice A0 l0.length c0] w fun e w' => e = .returned (.tuple #[.agg #[.int .i64 r1, .int .u64 r2, .string r3, .int .i64 r4, .int .u64 r5, .int .u64 r6, .int .u64 r7, .int .u64 r8, .int .u64 r9, .int .u64 r10, .int .u64 r11], .int .i64 r12]) ∧ Below w.heap.size w w' := by
  have hu32 := Tryd.underlying32
  have hu99 := Tryd.underlying99
  have hu28 := Tryd.underlying28
  have HR0 := Aside0.mk hr0
  have HC0 := Aside0.mk hc0
  clear hr0 hc0
  have HB := Aside0.mk (Below.refl w.heap.size w)
  have H : ((turnstileref11_Cut_Number.f k l0 0 false 1).bind fun bt380 => (if bt380.2.2 = true then (some (0, 0, (⟨#[]⟩ : ByteArray), 0, 0, 0, 0, 0, 0, 0, 0, 2)) else (if (wrap64 (bt380.1)) < 1 then (turnstileref11_Decode.j0 k l0 (wrap64 (bt380.1)) true l0 bt380.2.1 bt380.2.2) else (turnstileref11_Decode.j0 k l0 (wrap64 (bt380.1)) (decide ((wrap64 (bt380.1)) > 3)) l0 bt380.2.1 bt380.2.2)))) = some (r1, r2, r3, r4, r5, r6, r7, r8, r9, r10, r11, r12) := h
  clear h
  replace H := Option.bind_eq_some_iff.mp H
  obtain ⟨⟨t380, t381, t382⟩, A20, H⟩ := H
  replace H : (if t382 = true then (some (0, 0, (⟨#[]⟩ : ByteArray), 0, 0, 0, 0, 0, 0, 0, 0, 2)) else (if (wrap64 (t380)) < 1 then (turnstileref11_Decode.j0 k l0 (wrap64 (t380)) true l0 t381 t382) else (turnstileref11_Decode.j0 k l0 (wrap64 (t380)) (decide ((wrap64 (t380)) > 3)) l0 t381 t382))) = some (r1, r2, r3, r4, r5, r6, r7, r8, r9, r10, r11, r12) := H
  have A2 := Aside0.mk A20
  clear A20
  by_cases c3 : t382 = true
  · subst c3
    have H1 : (some (0, 0, (⟨#[]⟩ : ByteArray), 0, 0, 0, 0, 0, 0, 0, 0, 2)) = some (r1, r2, r3, r4, r5, r6, r7, r8, r9, r10, r11, r12) := by rw [if_pos rfl] at H; exact H
    clear H
    have H := H1
    clear H1
    simp only [Option.some.injEq, Prod.mk.injEq] at H
    obtain ⟨rfl, rfl, rfl, rfl, rfl, rfl, rfl, rfl, rfl, rfl, rfl, rfl⟩ := H
    go_enter Tryd.func34, Tryd.ntmps34
    go_wp2_with (first | ((with_reducible refine gate_dst (N := 2) rfl ?_); refine bx 2 #[.int .i64 0, .int .u64 0, .string (⟨#[]⟩ : ByteArray), .int .i64 0, .int .u64 0, .int .u64 0, .int .u64 0, .int .u64 0, .int .u64 0, .int .u64 0, .int .u64 0] 32 ?_; intro gb378 hg w4 hbox hb; have n0_ := bs HB hb; have n1_ := Aside0.mk (hbox); have n2_ := sz HB hg; have n3_ := sz HB hg; clear HB; have HB := n0_; have BK378 := n1_; have GW378 := n2_; have GE378 := n3_; clear n0_ n1_ n2_ n3_; clear hb hbox hg) | ((with_reducible refine gate_dst (N := 13) rfl ?_); refine bx 13 #[.slice A0 l0.length c0, .int .i64 0, .bool false] 99 ?_; intro gb379 hg w5 hbox hb; have n0_ := bb BK378 hb; have n1_ := bs HB hb; have n2_ := Aside0.mk (hbox); have n3_ := sz HB hg; have n4_ := sz HB hg; have n5_ := nl BK378 hg; have n6_ := nr BK378 hg; clear BK378; clear HB; have BK378 := n0_; have HB := n1_; have BK379 := n2_; have GW379 := n3_; have GE379 := n4_; have NB378_379 := n5_; have NB379_378 := n6_; clear n0_ n1_ n2_ n3_ n4_ n5_ n6_; clear hb hbox hg) | ((with_reducible refine gate_callee (f := 57) rfl ?_); refine gl (some 15) Tryd.func57 #[.pointer (some ⟨gb379, 0, none⟩), .int .i64 1] ?_; (with_reducible refine (turnstileref11_Cut_Number.calls k gb379 l0 0 false 1 t380 t381 true w _ ?side1 ?side2 A2.out).mono ?_); (case side1 => exact ⟨_, _, by (with_reducible repeat (first | refine blk_drewN ?_ _ | refine blk_drew ?_ | refine blk_alloc ?_ _)); exact BK379.out, GE379.out, ⟨HR0.out, HC0.out⟩⟩); (case side2 => repeat (first | (with_reducible first | exact HB.out | apply below_alloc | apply pw_below_drewN | apply below_drew1 | refine below_set ?_ (IsS99.ge HI379.out) | refine below_set ?_ GE378.out) | exact HB.out)); rintro e w6 ⟨rfl, hi, hb, hk⟩; refine ⟨_, rfl, ?_⟩; have n0_ := Aside0.mk (KeepBut.blk hk (g' := gb378) (o := .cells #[.int .i64 0, .int .u64 0, .string (⟨#[]⟩ : ByteArray), .int .i64 0, .int .u64 0, .int .u64 0, .int .u64 0, .int .u64 0, .int .u64 0, .int .u64 0, .int .u64 0] 32 (0, 0)) (bk BK378) NB378_379.out (by simp)); have n1_ := Aside0.mk (hb); have n2_ := Aside0.mk (hi); clear BK378; clear HB; have BK378 := n0_; have HB := n1_; have HI379 := n2_; clear n0_ n1_ n2_; (try clear hb); (try clear hb2); (try clear hk); (try clear hi); obtain ⟨ASz7_0, cSz7_0, HGz7, hgz7, ⟨HSz7_0, HCsz7_0⟩⟩ := HI379.out; have hcz7_0 := cellS99_0 HGz7; have hcz7_1 := cellS99_1 HGz7; have hcz7_2 := cellS99_2 HGz7; have hfz7_1 := blk_frozen HGz7 1; have hfz7_2 := blk_frozen HGz7 2; clear HGz7 hgz7; have hnb8 := NB378_379.out; have hnc8 := NB379_378.out; obtain ⟨hcz9_0, hcz9_1, hcz9_2, hcz9_3, hcz9_4, hcz9_5, hcz9_6, hcz9_7, hcz9_8, hcz9_9, hcz9_10, hfz9_0, hfz9_1, hfz9_2, hfz9_3, hfz9_4, hfz9_5, hfz9_6, hfz9_7, hfz9_8, hfz9_9, hfz9_10⟩ := bc11 BK378))
    refine bodyPost_ret (results_ct rfl _ _ gb378 32 #[.int .i64 0, .int .u64 0, .string (⟨#[]⟩ : ByteArray), .int .i64 0, .int .u64 0, .int .u64 0, .int .u64 0, .int .u64 0, .int .u64 0, .int .u64 0, .int .u64 0] (0, 0) _ rfl (by (with_reducible repeat (first | refine blk_drewN ?_ _ | refine blk_drew ?_ | refine blk_alloc ?_ _)); refine blk_put (cs := #[.int .i64 0, .int .u64 0, .string (⟨#[]⟩ : ByteArray), .int .i64 0, .int .u64 0, .int .u64 0, .int .u64 0, .int .u64 0, .int .u64 0, .int .u64 0, .int .u64 0]) ?_ 10 _ rfl; (with_reducible repeat (first | refine blk_drewN ?_ _ | refine blk_drew ?_ | refine blk_alloc ?_ _)); refine blk_put (cs := #[.int .i64 0, .int .u64 0, .string (⟨#[]⟩ : ByteArray), .int .i64 0, .int .u64 0, .int .u64 0, .int .u64 0, .int .u64 0, .int .u64 0, .int .u64 0, .int .u64 0]) ?_ 9 _ rfl; (with_reducible repeat (first | refine blk_drewN ?_ _ | refine blk_drew ?_ | refine blk_alloc ?_ _)); refine blk_put (cs := #[.int .i64 0, .int .u64 0, .string (⟨#[]⟩ : ByteArray), .int .i64 0, .int .u64 0, .int .u64 0, .int .u64 0, .int .u64 0, .int .u64 0, .int .u64 0, .int .u64 0]) ?_ 8 _ rfl; (with_reducible repeat (first | refine blk_drewN ?_ _ | refine blk_drew ?_ | refine blk_alloc ?_ _)); refine blk_put (cs := #[.int .i64 0, .int .u64 0, .string (⟨#[]⟩ : ByteArray), .int .i64 0, .int .u64 0, .int .u64 0, .int .u64 0, .int .u64 0, .int .u64 0, .int .u64 0, .int .u64 0]) ?_ 7 _ rfl; (with_reducible repeat (first | refine blk_drewN ?_ _ | refine blk_drew ?_ | refine blk_alloc ?_ _)); refine blk_put (cs := #[.int .i64 0, .int .u64 0, .string (⟨#[]⟩ : ByteArray), .int .i64 0, .int .u64 0, .int .u64 0, .int .u64 0, .int .u64 0, .int .u64 0, .int .u64 0, .int .u64 0]) ?_ 6 _ rfl; (with_reducible repeat (first | refine blk_drewN ?_ _ | refine blk_drew ?_ | refine blk_alloc ?_ _)); refine blk_put (cs := #[.int .i64 0, .int .u64 0, .string (⟨#[]⟩ : ByteArray), .int .i64 0, .int .u64 0, .int .u64 0, .int .u64 0, .int .u64 0, .int .u64 0, .int .u64 0, .int .u64 0]) ?_ 5 _ rfl; (with_reducible repeat (first | refine blk_drewN ?_ _ | refine blk_drew ?_ | refine blk_alloc ?_ _)); refine blk_put (cs := #[.int .i64 0, .int .u64 0, .string (⟨#[]⟩ : ByteArray), .int .i64 0, .int .u64 0, .int .u64 0, .int .u64 0, .int .u64 0, .int .u64 0, .int .u64 0, .int .u64 0]) ?_ 4 _ rfl; (with_reducible repeat (first | refine blk_drewN ?_ _ | refine blk_drew ?_ | refine blk_alloc ?_ _)); refine blk_put (cs := #[.int .i64 0, .int .u64 0, .string (⟨#[]⟩ : ByteArray), .int .i64 0, .int .u64 0, .int .u64 0, .int .u64 0, .int .u64 0, .int .u64 0, .int .u64 0, .int .u64 0]) ?_ 3 _ rfl; (with_reducible repeat (first | refine blk_drewN ?_ _ | refine blk_drew ?_ | refine blk_alloc ?_ _)); refine blk_put (cs := #[.int .i64 0, .int .u64 0, .string (⟨#[]⟩ : ByteArray), .int .i64 0, .int .u64 0, .int .u64 0, .int .u64 0, .int .u64 0, .int .u64 0, .int .u64 0, .int .u64 0]) ?_ 2 _ rfl; (with_reducible repeat (first | refine blk_drewN ?_ _ | refine blk_drew ?_ | refine blk_alloc ?_ _)); refine blk_put (cs := #[.int .i64 0, .int .u64 0, .string (⟨#[]⟩ : ByteArray), .int .i64 0, .int .u64 0, .int .u64 0, .int .u64 0, .int .u64 0, .int .u64 0, .int .u64 0, .int .u64 0]) ?_ 1 _ rfl; (with_reducible repeat (first | refine blk_drewN ?_ _ | refine blk_drew ?_ | refine blk_alloc ?_ _)); refine blk_put (cs := #[.int .i64 0, .int .u64 0, .string (⟨#[]⟩ : ByteArray), .int .i64 0, .int .u64 0, .int .u64 0, .int .u64 0, .int .u64 0, .int .u64 0, .int .u64 0, .int .u64 0]) ?_ 0 _ rfl; (with_reducible repeat (first | refine blk_drewN ?_ _ | refine blk_drew ?_ | refine blk_alloc ?_ _)); exact BK378.out) Tryd.underlying32 rfl (by kernel_rfl)) rfl ?_
    exact ⟨re, by repeat (first | (with_reducible first | exact HB.out | apply below_alloc | apply pw_below_drewN | apply below_drew1 | refine below_set ?_ (IsS99.ge HI379.out) | refine below_set ?_ GE378.out) | exact HB.out)⟩
  · replace c3 := Bool.eq_false_iff.mpr c3
    subst c3
    have H1 : (if (wrap64 (t380)) < 1 then (turnstileref11_Decode.j0 k l0 (wrap64 (t380)) true l0 t381 false) else (turnstileref11_Decode.j0 k l0 (wrap64 (t380)) (decide ((wrap64 (t380)) > 3)) l0 t381 false)) = some (r1, r2, r3, r4, r5, r6, r7, r8, r9, r10, r11, r12) := by rw [if_neg (show ¬ (false = true) by decide)] at H; exact H
    clear H
    have H := H1
    clear H1
    have HC10 := Aside0.mk H
    clear H
    go_enter Tryd.func34, Tryd.ntmps34
    go_upto_region 5 with (first | ((with_reducible refine gate_dst (N := 2) rfl ?_); refine bx 2 #[.int .i64 0, .int .u64 0, .string (⟨#[]⟩ : ByteArray), .int .i64 0, .int .u64 0, .int .u64 0, .int .u64 0, .int .u64 0, .int .u64 0, .int .u64 0, .int .u64 0] 32 ?_; intro gb378 hg w11 hbox hb; have n0_ := bs HB hb; have n1_ := Aside0.mk (hbox); have n2_ := sz HB hg; have n3_ := sz HB hg; clear HB; have HB := n0_; have BK378 := n1_; have GW378 := n2_; have GE378 := n3_; clear n0_ n1_ n2_ n3_; clear hb hbox hg) | ((with_reducible refine gate_dst (N := 13) rfl ?_); refine bx 13 #[.slice A0 l0.length c0, .int .i64 0, .bool false] 99 ?_; intro gb379 hg w12 hbox hb; have n0_ := bb BK378 hb; have n1_ := bs HB hb; have n2_ := Aside0.mk (hbox); have n3_ := sz HB hg; have n4_ := sz HB hg; have n5_ := nl BK378 hg; have n6_ := nr BK378 hg; clear BK378; clear HB; have BK378 := n0_; have HB := n1_; have BK379 := n2_; have GW379 := n3_; have GE379 := n4_; have NB378_379 := n5_; have NB379_378 := n6_; clear n0_ n1_ n2_ n3_ n4_ n5_ n6_; clear hb hbox hg) | ((with_reducible refine gate_callee (f := 57) rfl ?_); refine gl (some 15) Tryd.func57 #[.pointer (some ⟨gb379, 0, none⟩), .int .i64 1] ?_; (with_reducible refine (turnstileref11_Cut_Number.calls k gb379 l0 0 false 1 t380 t381 false w _ ?side1 ?side2 A2.out).mono ?_); (case side1 => exact ⟨_, _, by (with_reducible repeat (first | refine blk_drewN ?_ _ | refine blk_drew ?_ | refine blk_alloc ?_ _)); exact BK379.out, GE379.out, ⟨HR0.out, HC0.out⟩⟩); (case side2 => repeat (first | (with_reducible first | exact HB.out | apply below_alloc | apply pw_below_drewN | apply below_drew1 | refine below_set ?_ (IsS99.ge HI379.out) | refine below_set ?_ GE378.out) | exact HB.out)); rintro e w13 ⟨rfl, hi, hb, hk⟩; refine ⟨_, rfl, ?_⟩; have n0_ := Aside0.mk (KeepBut.blk hk (g' := gb378) (o := .cells #[.int .i64 0, .int .u64 0, .string (⟨#[]⟩ : ByteArray), .int .i64 0, .int .u64 0, .int .u64 0, .int .u64 0, .int .u64 0, .int .u64 0, .int .u64 0, .int .u64 0] 32 (0, 0)) (bk BK378) NB378_379.out (by simp)); have n1_ := Aside0.mk (hb); have n2_ := Aside0.mk (hi); clear BK378; clear HB; have BK378 := n0_; have HB := n1_; have HI379 := n2_; clear n0_ n1_ n2_; (try clear hb); (try clear hb2); (try clear hk); (try clear hi); obtain ⟨ASz14_0, cSz14_0, HGz14, hgz14, ⟨HSz14_0, HCsz14_0⟩⟩ := HI379.out; have hcz14_0 := cellS99_0 HGz14; have hcz14_1 := cellS99_1 HGz14; have hcz14_2 := cellS99_2 HGz14; have hfz14_1 := blk_frozen HGz14 1; have hfz14_2 := blk_frozen HGz14 2; clear HGz14 hgz14))
    (try simp only [Act.put, List.setIfInBounds_toArray, List.set_cons_zero, List.set_cons_succ])
    go_cut [27] (fun v27 wc => ∃ (kq : Nat) (x27_9 : Bool), v27 = .bool x27_9 ∧ Aside0 (turnstileref11_Decode.j0 kq l0 (wrap64 (t380)) x27_9 l0 t381 false = some (r1, r2, r3, r4, r5, r6, r7, r8, r9, r10, r11, r12)) ∧ Aside0 (kq ≤ k) ∧ Aside0 (wc.heap[gb378]? = some (.cells #[.int .i64 0, .int .u64 0, .string (⟨#[]⟩ : ByteArray), .int .i64 0, .int .u64 0, .int .u64 0, .int .u64 0, .int .u64 0, .int .u64 0, .int .u64 0, .int .u64 0] 32 (0, 0))) ∧ Aside0 (IsS99 w wc gb379 l0 t381 false) ∧ Aside0 (Below w.heap.size w wc))
    case first =>
      have H := HC10.out
      clear HC10
      by_cases c15 : (wrap64 (t380)) < 1
      · rw [if_pos c15] at H
        have c15b0 : decide ((wrap64 (t380)) < 1) = true := decide_eq_true c15
        clear c15
        (first | rw [c15b0] | (simp only [i64_w, i32_w]; rw [c15b0]) | skip)
        have H' := Aside0.mk H
        clear H
        go_wp2
        go_meet
        case rel => exact ⟨_, (true), rs, H', ⟨by first | omega | exact Nat.le_refl _⟩, ⟨bk BK378⟩, ⟨by repeat (first | (with_reducible first | exact HI379.out | apply IsS99.alloc | apply IsS99.drewN | apply IsS99.drew | apply IsS99.set_1 | apply IsS99.set_2 | refine IsS99.far ?_ NB379_378.out _) | exact HI379.out)⟩, ⟨by repeat (first | (with_reducible first | exact HB.out | apply below_alloc | apply pw_below_drewN | apply below_drew1 | refine below_set ?_ (IsS99.ge HI379.out) | refine below_set ?_ GE378.out) | exact HB.out)⟩⟩
      · rw [if_neg c15] at H
        have c15b0 : decide ((wrap64 (t380)) < 1) = false := decide_eq_false c15
        clear c15
        (first | rw [c15b0] | (simp only [i64_w, i32_w]; rw [c15b0]) | skip)
        have H' := Aside0.mk H
        clear H
        go_wp2
        go_meet
        case rel => exact ⟨_, (decide ((wrap64 (t380)) > 3)), rs, H', ⟨by first | omega | exact Nat.le_refl _⟩, ⟨bk BK378⟩, ⟨by repeat (first | (with_reducible first | exact HI379.out | apply IsS99.alloc | apply IsS99.drewN | apply IsS99.drew | apply IsS99.set_1 | apply IsS99.set_2 | refine IsS99.far ?_ NB379_378.out _) | exact HI379.out)⟩, ⟨by repeat (first | (with_reducible first | exact HB.out | apply below_alloc | apply pw_below_drewN | apply below_drew1 | refine below_set ?_ (IsS99.ge HI379.out) | refine below_set ?_ GE378.out) | exact HB.out)⟩⟩
    case rest =>
      clear HC10
      try clear c1
      try clear p2
      try clear c3
      try clear c5
      try clear p6
      try clear c8
      try clear c15
      try clear c15b0
      try clear hcz14_0
      try clear hcz14_1
      try clear hcz14_2
      try clear hcz7_0
      try clear hcz7_1
      try clear hcz7_2
      try clear hcz9_0
      try clear hcz9_1
      try clear hcz9_10
      try clear hcz9_2
      try clear hcz9_3
      try clear hcz9_4
      try clear hcz9_5
      try clear hcz9_6
      try clear hcz9_7
      try clear hcz9_8
      try clear hcz9_9
      try clear hfz14_1
      try clear hfz14_2
      try clear hfz7_1
      try clear hfz7_2
      try clear hfz9_0
      try clear hfz9_1
      try clear hfz9_10
      try clear hfz9_2
      try clear hfz9_3
      try clear hfz9_4
      try clear hfz9_5
      try clear hfz9_6
      try clear hfz9_7
      try clear hfz9_8
      try clear hfz9_9
      obtain ⟨kq, x27_9, rfl, HA, HJ9, BK378, HI379, HB⟩ := hcut
      cases kq with
      | zero => exact absurd HA.out (by simp [turnstileref11_Decode.j0])
      | succ kj9 =>
        have H := HA.out
        clear HA
        simp only [turnstileref11_Decode.j0] at H
        by_cases c16 : x27_9 = true
        · subst c16
          have H1 : (some (0, 0, (⟨#[]⟩ : ByteArray), 0, 0, 0, 0, 0, 0, 0, 0, 3)) = some (r1, r2, r3, r4, r5, r6, r7, r8, r9, r10, r11, r12) := by rw [if_pos rfl] at H; exact H
          clear H
          have H := H1
          clear H1
          simp only [Option.some.injEq, Prod.mk.injEq] at H
          obtain ⟨rfl, rfl, rfl, rfl, rfl, rfl, rfl, rfl, rfl, rfl, rfl, rfl⟩ := H
          have hnb17 := NB378_379.out
          have hnc17 := NB379_378.out
          obtain ⟨hcz18_0, hcz18_1, hcz18_2, hcz18_3, hcz18_4, hcz18_5, hcz18_6, hcz18_7, hcz18_8, hcz18_9, hcz18_10, hfz18_0, hfz18_1, hfz18_2, hfz18_3, hfz18_4, hfz18_5, hfz18_6, hfz18_7, hfz18_8, hfz18_9, hfz18_10⟩ := bc11 BK378
          go_wp2
          refine bodyPost_ret (results_ct rfl _ _ gb378 32 #[.int .i64 0, .int .u64 0, .string (⟨#[]⟩ : ByteArray), .int .i64 0, .int .u64 0, .int .u64 0, .int .u64 0, .int .u64 0, .int .u64 0, .int .u64 0, .int .u64 0] (0, 0) _ rfl (by (with_reducible repeat (first | refine blk_drewN ?_ _ | refine blk_drew ?_ | refine blk_alloc ?_ _)); refine blk_put (cs := #[.int .i64 0, .int .u64 0, .string (⟨#[]⟩ : ByteArray), .int .i64 0, .int .u64 0, .int .u64 0, .int .u64 0, .int .u64 0, .int .u64 0, .int .u64 0, .int .u64 0]) ?_ 10 _ rfl; (with_reducible repeat (first | refine blk_drewN ?_ _ | refine blk_drew ?_ | refine blk_alloc ?_ _)); refine blk_put (cs := #[.int .i64 0, .int .u64 0, .string (⟨#[]⟩ : ByteArray), .int .i64 0, .int .u64 0, .int .u64 0, .int .u64 0, .int .u64 0, .int .u64 0, .int .u64 0, .int .u64 0]) ?_ 9 _ rfl; (with_reducible repeat (first | refine blk_drewN ?_ _ | refine blk_drew ?_ | refine blk_alloc ?_ _)); refine blk_put (cs := #[.int .i64 0, .int .u64 0, .string (⟨#[]⟩ : ByteArray), .int .i64 0, .int .u64 0, .int .u64 0, .int .u64 0, .int .u64 0, .int .u64 0, .int .u64 0, .int .u64 0]) ?_ 8 _ rfl; (with_reducible repeat (first | refine blk_drewN ?_ _ | refine blk_drew ?_ | refine blk_alloc ?_ _)); refine blk_put (cs := #[.int .i64 0, .int .u64 0, .string (⟨#[]⟩ : ByteArray), .int .i64 0, .int .u64 0, .int .u64 0, .int .u64 0, .int .u64 0, .int .u64 0, .int .u64 0, .int .u64 0]) ?_ 7 _ rfl; (with_reducible repeat (first | refine blk_drewN ?_ _ | refine blk_drew ?_ | refine blk_alloc ?_ _)); refine blk_put (cs := #[.int .i64 0, .int .u64 0, .string (⟨#[]⟩ : ByteArray), .int .i64 0, .int .u64 0, .int .u64 0, .int .u64 0, .int .u64 0, .int .u64 0, .int .u64 0, .int .u64 0]) ?_ 6 _ rfl; (with_reducible repeat (first | refine blk_drewN ?_ _ | refine blk_drew ?_ | refine blk_alloc ?_ _)); refine blk_put (cs := #[.int .i64 0, .int .u64 0, .string (⟨#[]⟩ : ByteArray), .int .i64 0, .int .u64 0, .int .u64 0, .int .u64 0, .int .u64 0, .int .u64 0, .int .u64 0, .int .u64 0]) ?_ 5 _ rfl; (with_reducible repeat (first | refine blk_drewN ?_ _ | refine blk_drew ?_ | refine blk_alloc ?_ _)); refine blk_put (cs := #[.int .i64 0, .int .u64 0, .string (⟨#[]⟩ : ByteArray), .int .i64 0, .int .u64 0, .int .u64 0, .int .u64 0, .int .u64 0, .int .u64 0, .int .u64 0, .int .u64 0]) ?_ 4 _ rfl; (with_reducible repeat (first | refine blk_drewN ?_ _ | refine blk_drew ?_ | refine blk_alloc ?_ _)); refine blk_put (cs := #[.int .i64 0, .int .u64 0, .string (⟨#[]⟩ : ByteArray), .int .i64 0, .int .u64 0, .int .u64 0, .int .u64 0, .int .u64 0, .int .u64 0, .int .u64 0, .int .u64 0]) ?_ 3 _ rfl; (with_reducible repeat (first | refine blk_drewN ?_ _ | refine blk_drew ?_ | refine blk_alloc ?_ _)); refine blk_put (cs := #[.int .i64 0, .int .u64 0, .string (⟨#[]⟩ : ByteArray), .int .i64 0, .int .u64 0, .int .u64 0, .int .u64 0, .int .u64 0, .int .u64 0, .int .u64 0, .int .u64 0]) ?_ 2 _ rfl; (with_reducible repeat (first | refine blk_drewN ?_ _ | refine blk_drew ?_ | refine blk_alloc ?_ _)); refine blk_put (cs := #[.int .i64 0, .int .u64 0, .string (⟨#[]⟩ : ByteArray), .int .i64 0, .int .u64 0, .int .u64 0, .int .u64 0, .int .u64 0, .int .u64 0, .int .u64 0, .int .u64 0]) ?_ 1 _ rfl; (with_reducible repeat (first | refine blk_drewN ?_ _ | refine blk_drew ?_ | refine blk_alloc ?_ _)); refine blk_put (cs := #[.int .i64 0, .int .u64 0, .string (⟨#[]⟩ : ByteArray), .int .i64 0, .int .u64 0, .int .u64 0, .int .u64 0, .int .u64 0, .int .u64 0, .int .u64 0, .int .u64 0]) ?_ 0 _ rfl; (with_reducible repeat (first | refine blk_drewN ?_ _ | refine blk_drew ?_ | refine blk_alloc ?_ _)); exact BK378.out) Tryd.underlying32 rfl (by kernel_rfl)) rfl ?_
          exact ⟨re, by repeat (first | (with_reducible first | exact HB.out | apply below_alloc | apply pw_below_drewN | apply below_drew1 | refine below_set ?_ (IsS99.ge HI379.out) | refine below_set ?_ GE378.out) | exact HB.out)⟩
        · replace c16 := Bool.eq_false_iff.mpr c16
          subst c16
          have H1 : ((turnstileref11_Cut_Number.f kj9 l0 t381 false 8).bind fun bt384 => ((turnstileref11_Cut_Text.f kj9 l0 bt384.2.1 bt384.2.2).bind fun bt387 => (if (wrap64 (t380)) = 1 then ((turnstileref11_Cut_Number.f kj9 l0 bt387.2.1 bt387.2.2 1).bind fun bt390 => ((turnstileref11_Cut_Number.f kj9 l0 bt390.2.1 bt390.2.2 8).bind fun bt393 => ((turnstileref11_Cut_Number.f kj9 l0 bt393.2.1 bt393.2.2 8).bind fun bt396 => ((turnstileref11_Policy.f (wrap64 (bt390.1)) bt393.1 bt396.1).bind fun bt399 => (turnstileref11_Decode.j1 kj9 l0 l0 bt396.2.1 bt396.2.2 (wrap64 (t380)) bt384.1 bt387.1 bt399.1 bt399.2.1 bt399.2.2.1 bt399.2.2.2.1 bt399.2.2.2.2 0 0 0))))) else (if (wrap64 (t380)) = 3 then ((turnstileref11_Cut_Number.f kj9 l0 bt387.2.1 bt387.2.2 8).bind fun bt404 => ((turnstileref11_Cut_Number.f kj9 l0 bt404.2.1 bt404.2.2 8).bind fun bt407 => ((turnstileref11_Cut_Number.f kj9 l0 bt407.2.1 bt407.2.2 8).bind fun bt410 => (turnstileref11_Decode.j1 kj9 l0 l0 bt410.2.1 bt410.2.2 (wrap64 (t380)) bt384.1 bt387.1 0 0 0 0 0 bt404.1 bt407.1 bt410.1)))) else (turnstileref11_Decode.j1 kj9 l0 l0 bt387.2.1 bt387.2.2 (wrap64 (t380)) bt384.1 bt387.1 0 0 0 0 0 0 0 0))))) = some (r1, r2, r3, r4, r5, r6, r7, r8, r9, r10, r11, r12) := by rw [if_neg (show ¬ (false = true) by decide)] at H; exact H
          clear H
          have H := H1
          clear H1
          replace H := Option.bind_eq_some_iff.mp H
          obtain ⟨⟨t384, t385, t386⟩, A190, H⟩ := H
          replace H : ((turnstileref11_Cut_Text.f kj9 l0 t385 t386).bind fun bt387 => (if (wrap64 (t380)) = 1 then ((turnstileref11_Cut_Number.f kj9 l0 bt387.2.1 bt387.2.2 1).bind fun bt390 => ((turnstileref11_Cut_Number.f kj9 l0 bt390.2.1 bt390.2.2 8).bind fun bt393 => ((turnstileref11_Cut_Number.f kj9 l0 bt393.2.1 bt393.2.2 8).bind fun bt396 => ((turnstileref11_Policy.f (wrap64 (bt390.1)) bt393.1 bt396.1).bind fun bt399 => (turnstileref11_Decode.j1 kj9 l0 l0 bt396.2.1 bt396.2.2 (wrap64 (t380)) t384 bt387.1 bt399.1 bt399.2.1 bt399.2.2.1 bt399.2.2.2.1 bt399.2.2.2.2 0 0 0))))) else (if (wrap64 (t380)) = 3 then ((turnstileref11_Cut_Number.f kj9 l0 bt387.2.1 bt387.2.2 8).bind fun bt404 => ((turnstileref11_Cut_Number.f kj9 l0 bt404.2.1 bt404.2.2 8).bind fun bt407 => ((turnstileref11_Cut_Number.f kj9 l0 bt407.2.1 bt407.2.2 8).bind fun bt410 => (turnstileref11_Decode.j1 kj9 l0 l0 bt410.2.1 bt410.2.2 (wrap64 (t380)) t384 bt387.1 0 0 0 0 0 bt404.1 bt407.1 bt410.1)))) else (turnstileref11_Decode.j1 kj9 l0 l0 bt387.2.1 bt387.2.2 (wrap64 (t380)) t384 bt387.1 0 0 0 0 0 0 0 0)))) = some (r1, r2, r3, r4, r5, r6, r7, r8, r9, r10, r11, r12) := H
          have A19 := Aside0.mk A190
          clear A190
          replace H := Option.bind_eq_some_iff.mp H
          obtain ⟨⟨t387, t388, t389⟩, A200, H⟩ := H
          replace H : (if (wrap64 (t380)) = 1 then ((turnstileref11_Cut_Number.f kj9 l0 t388 t389 1).bind fun bt390 => ((turnstileref11_Cut_Number.f kj9 l0 bt390.2.1 bt390.2.2 8).bind fun bt393 => ((turnstileref11_Cut_Number.f kj9 l0 bt393.2.1 bt393.2.2 8).bind fun bt396 => ((turnstileref11_Policy.f (wrap64 (bt390.1)) bt393.1 bt396.1).bind fun bt399 => (turnstileref11_Decode.j1 kj9 l0 l0 bt396.2.1 bt396.2.2 (wrap64 (t380)) t384 t387 bt399.1 bt399.2.1 bt399.2.2.1 bt399.2.2.2.1 bt399.2.2.2.2 0 0 0))))) else (if (wrap64 (t380)) = 3 then ((turnstileref11_Cut_Number.f kj9 l0 t388 t389 8).bind fun bt404 => ((turnstileref11_Cut_Number.f kj9 l0 bt404.2.1 bt404.2.2 8).bind fun bt407 => ((turnstileref11_Cut_Number.f kj9 l0 bt407.2.1 bt407.2.2 8).bind fun bt410 => (turnstileref11_Decode.j1 kj9 l0 l0 bt410.2.1 bt410.2.2 (wrap64 (t380)) t384 t387 0 0 0 0 0 bt404.1 bt407.1 bt410.1)))) else (turnstileref11_Decode.j1 kj9 l0 l0 t388 t389 (wrap64 (t380)) t384 t387 0 0 0 0 0 0 0 0))) = some (r1, r2, r3, r4, r5, r6, r7, r8, r9, r10, r11, r12) := H
          have A20 := Aside0.mk A200
          clear A200
          have HC21 := Aside0.mk H
          clear H
          go_upto_block 0 with (first | ((with_reducible refine gate_dst (N := 6) rfl ?_); refine bx 6 #[.int .i64 0, .int .u64 0, .string (⟨#[]⟩ : ByteArray), .int .i64 0, .int .u64 0, .int .u64 0, .int .u64 0, .int .u64 0, .int .u64 0, .int .u64 0, .int .u64 0] 32 ?_; intro gb383 hg w22 hbox hb; have n0_ := bb BK378 hb; have n1_ := Aside0.mk (IsS99.below (by repeat (first | (with_reducible first | exact HI379.out | apply IsS99.alloc | apply IsS99.drewN | apply IsS99.drew | apply IsS99.set_1 | apply IsS99.set_2 | refine IsS99.far ?_ NB379_378.out _) | exact HI379.out)) hb); have n2_ := Aside0.mk (below_step (by repeat (first | (with_reducible first | exact HB.out | apply below_alloc | apply pw_below_drewN | apply below_drew1 | refine below_set ?_ (IsS99.ge HI379.out) | refine below_set ?_ GE378.out) | exact HB.out)) hb); have n3_ := Aside0.mk (hbox); have n4_ := Aside0.mk ((by rw [hg]; exact (below_size (by repeat (first | (with_reducible first | exact HB.out | apply below_alloc | apply pw_below_drewN | apply below_drew1 | refine below_set ?_ (IsS99.ge HI379.out) | refine below_set ?_ GE378.out) | exact HB.out))) : w.heap.size ≤ gb383)); have n5_ := Aside0.mk ((by rw [hg]; exact (below_size (by repeat (first | (with_reducible first | exact HB.out | apply below_alloc | apply pw_below_drewN | apply below_drew1 | refine below_set ?_ (IsS99.ge HI379.out) | refine below_set ?_ GE378.out) | exact HB.out))) : w.heap.size ≤ gb383)); have n6_ := nl BK378 hg; have n7_ := nr BK378 hg; have n8_ := Aside0.mk ((by rw [hg]; exact Nat.ne_of_lt (IsS99.lt (show IsS99 w _ gb379 l0 t381 false from by repeat (first | (with_reducible first | exact HI379.out | apply IsS99.alloc | apply IsS99.drewN | apply IsS99.drew | apply IsS99.set_1 | apply IsS99.set_2 | refine IsS99.far ?_ NB379_378.out _) | exact HI379.out))) : gb379 ≠ gb383)); have n9_ := Aside0.mk ((by rw [hg]; exact Nat.ne_of_gt (IsS99.lt (show IsS99 w _ gb379 l0 t381 false from by repeat (first | (with_reducible first | exact HI379.out | apply IsS99.alloc | apply IsS99.drewN | apply IsS99.drew | apply IsS99.set_1 | apply IsS99.set_2 | refine IsS99.far ?_ NB379_378.out _) | exact HI379.out))) : gb383 ≠ gb379)); clear BK378; clear HI379; clear HB; have BK378 := n0_; have HI379 := n1_; have HB := n2_; have BK383 := n3_; have GW383 := n4_; have GE383 := n5_; have NB378_383 := n6_; have NB383_378 := n7_; have NB379_383 := n8_; have NB383_379 := n9_; clear n0_ n1_ n2_ n3_ n4_ n5_ n6_ n7_ n8_ n9_; clear hb hbox hg; have hnb23 := NB383_378.out; have hnc23 := NB378_383.out; have hnb24 := NB383_379.out; have hnc24 := NB379_383.out; obtain ⟨hcz25_0, hcz25_1, hcz25_2, hcz25_3, hcz25_4, hcz25_5, hcz25_6, hcz25_7, hcz25_8, hcz25_9, hcz25_10, hfz25_0, hfz25_1, hfz25_2, hfz25_3, hfz25_4, hfz25_5, hfz25_6, hfz25_7, hfz25_8, hfz25_9, hfz25_10⟩ := bc11 BK383) | ((with_reducible refine gate_callee (f := 57) rfl ?_); refine gl (some 32) Tryd.func57 #[.pointer (some ⟨gb379, 0, none⟩), .int .i64 8] ?_; (with_reducible refine (turnstileref11_Cut_Number.calls kj9 gb379 l0 t381 false 8 t384 t385 t386 w _ ?side1 ?side2 A19.out).mono ?_); (case side1 => repeat (first | (with_reducible first | exact HI379.out | apply IsS99.alloc | apply IsS99.drewN | apply IsS99.drew | apply IsS99.set_1 | apply IsS99.set_2 | refine IsS99.far ?_ NB379_378.out _ | refine IsS99.far ?_ NB379_383.out _) | exact HI379.out)); (case side2 => repeat (first | (with_reducible first | exact HB.out | apply below_alloc | apply pw_below_drewN | apply below_drew1 | refine below_set ?_ (IsS99.ge HI379.out) | refine below_set ?_ GE378.out | refine below_set ?_ GE383.out) | exact HB.out)); rintro e w26 ⟨rfl, hi, hb, hk⟩; refine ⟨_, rfl, ?_⟩; have n0_ := Aside0.mk (KeepBut.blk hk (g' := gb378) (o := .cells #[.int .i64 0, .int .u64 0, .string (⟨#[]⟩ : ByteArray), .int .i64 0, .int .u64 0, .int .u64 0, .int .u64 0, .int .u64 0, .int .u64 0, .int .u64 0, .int .u64 0] 32 (0, 0)) (bk BK378) NB378_379.out (by simp)); have n1_ := Aside0.mk (KeepBut.blk hk (g' := gb383) (o := .cells #[.int .i64 (wrap64 (t380)), .int .u64 0, .string (⟨#[]⟩ : ByteArray), .int .i64 0, .int .u64 0, .int .u64 0, .int .u64 0, .int .u64 0, .int .u64 0, .int .u64 0, .int .u64 0] 32 (0, 0)) (by (with_reducible repeat (first | refine blk_drewN ?_ _ | refine blk_drew ?_ | refine blk_alloc ?_ _)); refine blk_put (cs := #[.int .i64 (wrap64 (t380)), .int .u64 0, .string (⟨#[]⟩ : ByteArray), .int .i64 0, .int .u64 0, .int .u64 0, .int .u64 0, .int .u64 0, .int .u64 0, .int .u64 0, .int .u64 0]) ?_ 10 _ rfl; (with_reducible repeat (first | refine blk_drewN ?_ _ | refine blk_drew ?_ | refine blk_alloc ?_ _)); refine blk_put (cs := #[.int .i64 (wrap64 (t380)), .int .u64 0, .string (⟨#[]⟩ : ByteArray), .int .i64 0, .int .u64 0, .int .u64 0, .int .u64 0, .int .u64 0, .int .u64 0, .int .u64 0, .int .u64 0]) ?_ 9 _ rfl; (with_reducible repeat (first | refine blk_drewN ?_ _ | refine blk_drew ?_ | refine blk_alloc ?_ _)); refine blk_put (cs := #[.int .i64 (wrap64 (t380)), .int .u64 0, .string (⟨#[]⟩ : ByteArray), .int .i64 0, .int .u64 0, .int .u64 0, .int .u64 0, .int .u64 0, .int .u64 0, .int .u64 0, .int .u64 0]) ?_ 8 _ rfl; (with_reducible repeat (first | refine blk_drewN ?_ _ | refine blk_drew ?_ | refine blk_alloc ?_ _)); refine blk_put (cs := #[.int .i64 (wrap64 (t380)), .int .u64 0, .string (⟨#[]⟩ : ByteArray), .int .i64 0, .int .u64 0, .int .u64 0, .int .u64 0, .int .u64 0, .int .u64 0, .int .u64 0, .int .u64 0]) ?_ 7 _ rfl; (with_reducible repeat (first | refine blk_drewN ?_ _ | refine blk_drew ?_ | refine blk_alloc ?_ _)); refine blk_put (cs := #[.int .i64 (wrap64 (t380)), .int .u64 0, .string (⟨#[]⟩ : ByteArray), .int .i64 0, .int .u64 0, .int .u64 0, .int .u64 0, .int .u64 0, .int .u64 0, .int .u64 0, .int .u64 0]) ?_ 6 _ rfl; (with_reducible repeat (first | refine blk_drewN ?_ _ | refine blk_drew ?_ | refine blk_alloc ?_ _)); refine blk_put (cs := #[.int .i64 (wrap64 (t380)), .int .u64 0, .string (⟨#[]⟩ : ByteArray), .int .i64 0, .int .u64 0, .int .u64 0, .int .u64 0, .int .u64 0, .int .u64 0, .int .u64 0, .int .u64 0]) ?_ 5 _ rfl; (with_reducible repeat (first | refine blk_drewN ?_ _ | refine blk_drew ?_ | refine blk_alloc ?_ _)); refine blk_put (cs := #[.int .i64 (wrap64 (t380)), .int .u64 0, .string (⟨#[]⟩ : ByteArray), .int .i64 0, .int .u64 0, .int .u64 0, .int .u64 0, .int .u64 0, .int .u64 0, .int .u64 0, .int .u64 0]) ?_ 4 _ rfl; (with_reducible repeat (first | refine blk_drewN ?_ _ | refine blk_drew ?_ | refine blk_alloc ?_ _)); refine blk_put (cs := #[.int .i64 (wrap64 (t380)), .int .u64 0, .string (⟨#[]⟩ : ByteArray), .int .i64 0, .int .u64 0, .int .u64 0, .int .u64 0, .int .u64 0, .int .u64 0, .int .u64 0, .int .u64 0]) ?_ 3 _ rfl; (with_reducible repeat (first | refine blk_drewN ?_ _ | refine blk_drew ?_ | refine blk_alloc ?_ _)); refine blk_put (cs := #[.int .i64 (wrap64 (t380)), .int .u64 0, .string (⟨#[]⟩ : ByteArray), .int .i64 0, .int .u64 0, .int .u64 0, .int .u64 0, .int .u64 0, .int .u64 0, .int .u64 0, .int .u64 0]) ?_ 2 _ rfl; (with_reducible repeat (first | refine blk_drewN ?_ _ | refine blk_drew ?_ | refine blk_alloc ?_ _)); refine blk_put (cs := #[.int .i64 (wrap64 (t380)), .int .u64 0, .string (⟨#[]⟩ : ByteArray), .int .i64 0, .int .u64 0, .int .u64 0, .int .u64 0, .int .u64 0, .int .u64 0, .int .u64 0, .int .u64 0]) ?_ 1 _ rfl; (with_reducible repeat (first | refine blk_drewN ?_ _ | refine blk_drew ?_ | refine blk_alloc ?_ _)); refine blk_put (cs := #[.int .i64 0, .int .u64 0, .string (⟨#[]⟩ : ByteArray), .int .i64 0, .int .u64 0, .int .u64 0, .int .u64 0, .int .u64 0, .int .u64 0, .int .u64 0, .int .u64 0]) ?_ 0 _ rfl; (with_reducible repeat (first | refine blk_drewN ?_ _ | refine blk_drew ?_ | refine blk_alloc ?_ _)); exact BK383.out) NB383_379.out (by simp)); have n2_ := Aside0.mk (hb); have n3_ := Aside0.mk (hi); clear BK378; clear BK383; clear HB; clear HI379; have BK378 := n0_; have BK383 := n1_; have HB := n2_; have HI379 := n3_; clear n0_ n1_ n2_ n3_; (try clear hb); (try clear hb2); (try clear hk); (try clear hi); obtain ⟨hcz27_0, hcz27_1, hcz27_2, hcz27_3, hcz27_4, hcz27_5, hcz27_6, hcz27_7, hcz27_8, hcz27_9, hcz27_10, hfz27_0, hfz27_1, hfz27_2, hfz27_3, hfz27_4, hfz27_5, hfz27_6, hfz27_7, hfz27_8, hfz27_9, hfz27_10⟩ := bc11 BK383) | ((with_reducible refine gate_callee (f := 58) rfl ?_); refine gl (some 35) Tryd.func58 #[.pointer (some ⟨gb379, 0, none⟩)] ?_; (with_reducible refine (turnstileref11_Cut_Text.calls kj9 gb379 l0 t385 t386 t387 t388 t389 w _ ?side1 ?side2 A20.out).mono ?_); (case side1 => repeat (first | (with_reducible first | exact HI379.out | apply IsS99.alloc | apply IsS99.drewN | apply IsS99.drew | apply IsS99.set_1 | apply IsS99.set_2 | refine IsS99.far ?_ NB379_378.out _ | refine IsS99.far ?_ NB379_383.out _) | exact HI379.out)); (case side2 => repeat (first | (with_reducible first | exact HB.out | apply below_alloc | apply pw_below_drewN | apply below_drew1 | refine below_set ?_ (IsS99.ge HI379.out) | refine below_set ?_ GE378.out | refine below_set ?_ GE383.out) | exact HB.out)); rintro e w28 ⟨rfl, hi, hb, hk⟩; refine ⟨_, rfl, ?_⟩; have n0_ := Aside0.mk (KeepBut.blk hk (g' := gb378) (o := .cells #[.int .i64 0, .int .u64 0, .string (⟨#[]⟩ : ByteArray), .int .i64 0, .int .u64 0, .int .u64 0, .int .u64 0, .int .u64 0, .int .u64 0, .int .u64 0, .int .u64 0] 32 (0, 0)) (bk BK378) NB378_379.out (by simp)); have n1_ := Aside0.mk (KeepBut.blk hk (g' := gb383) (o := .cells #[.int .i64 (wrap64 (t380)), .int .u64 t384, .string (⟨#[]⟩ : ByteArray), .int .i64 0, .int .u64 0, .int .u64 0, .int .u64 0, .int .u64 0, .int .u64 0, .int .u64 0, .int .u64 0] 32 (0, 0)) (by (with_reducible repeat (first | refine blk_drewN ?_ _ | refine blk_drew ?_ | refine blk_alloc ?_ _)); refine blk_put (cs := #[.int .i64 (wrap64 (t380)), .int .u64 0, .string (⟨#[]⟩ : ByteArray), .int .i64 0, .int .u64 0, .int .u64 0, .int .u64 0, .int .u64 0, .int .u64 0, .int .u64 0, .int .u64 0]) ?_ 1 _ rfl; (with_reducible repeat (first | refine blk_drewN ?_ _ | refine blk_drew ?_ | refine blk_alloc ?_ _)); exact BK383.out) NB383_379.out (by simp)); have n2_ := Aside0.mk (hb); have n3_ := Aside0.mk (hi); clear BK378; clear BK383; clear HB; clear HI379; have BK378 := n0_; have BK383 := n1_; have HB := n2_; have HI379 := n3_; clear n0_ n1_ n2_ n3_; (try clear hb); (try clear hb2); (try clear hk); (try clear hi); obtain ⟨hcz29_0, hcz29_1, hcz29_2, hcz29_3, hcz29_4, hcz29_5, hcz29_6, hcz29_7, hcz29_8, hcz29_9, hcz29_10, hfz29_0, hfz29_1, hfz29_2, hfz29_3, hfz29_4, hfz29_5, hfz29_6, hfz29_7, hfz29_8, hfz29_9, hfz29_10⟩ := bc11 BK383))
          (try simp only [Act.put, List.setIfInBounds_toArray, List.set_cons_zero, List.set_cons_succ])
          go_cut [] (fun wc => ∃ (kq : Nat) (x380001_20 : Int) (x380002_20 : Bool) (x384003_20 : Int) (x384004_20 : Int) (x384005_20 : Int) (x384006_20 : Int) (x384007_20 : Int) (x384008_20 : Int) (x384009_20 : Int) (x384010_20 : Int), Aside0 (turnstileref11_Decode.j1 kq l0 l0 x380001_20 x380002_20 (wrap64 (t380)) t384 t387 x384003_20 x384004_20 x384005_20 x384006_20 x384007_20 x384008_20 x384009_20 x384010_20 = some (r1, r2, r3, r4, r5, r6, r7, r8, r9, r10, r11, r12)) ∧ Aside0 (kq ≤ kj9) ∧ Aside0 (wc.heap[gb378]? = some (.cells #[.int .i64 0, .int .u64 0, .string (⟨#[]⟩ : ByteArray), .int .i64 0, .int .u64 0, .int .u64 0, .int .u64 0, .int .u64 0, .int .u64 0, .int .u64 0, .int .u64 0] 32 (0, 0))) ∧ Aside0 (wc.heap[gb383]? = some (.cells #[.int .i64 (wrap64 (t380)), .int .u64 t384, .string t387, .int .i64 x384003_20, .int .u64 x384004_20, .int .u64 x384005_20, .int .u64 x384006_20, .int .u64 x384007_20, .int .u64 x384008_20, .int .u64 x384009_20, .int .u64 x384010_20] 32 (0, 0))) ∧ Aside0 (IsS99 w wc gb379 l0 x380001_20 x380002_20) ∧ Aside0 (Below w.heap.size w wc))
          case first =>
            have H := HC21.out
            clear HC21
            by_cases c30 : (wrap64 (t380)) = 1
            · rw [if_pos c30] at H
              have c30b0 : ((wrap64 (t380)) == 1) = true := beq_iff_eq.mpr c30
              have c30b1 : ((wrap64 (t380)) != 1) = false := bne_eq_false_iff_eq.mpr c30
              clear c30
              (first | rw [c30b0] | (simp only [i64_w, i32_w]; rw [c30b0]) | skip)
              replace H := Option.bind_eq_some_iff.mp H
              obtain ⟨⟨t390, t391, t392⟩, A310, H⟩ := H
              replace H : ((turnstileref11_Cut_Number.f kj9 l0 t391 t392 8).bind fun bt393 => ((turnstileref11_Cut_Number.f kj9 l0 bt393.2.1 bt393.2.2 8).bind fun bt396 => ((turnstileref11_Policy.f (wrap64 (t390)) bt393.1 bt396.1).bind fun bt399 => (turnstileref11_Decode.j1 kj9 l0 l0 bt396.2.1 bt396.2.2 (wrap64 (t380)) t384 t387 bt399.1 bt399.2.1 bt399.2.2.1 bt399.2.2.2.1 bt399.2.2.2.2 0 0 0)))) = some (r1, r2, r3, r4, r5, r6, r7, r8, r9, r10, r11, r12) := H
              have A31 := Aside0.mk A310
              clear A310
              replace H := Option.bind_eq_some_iff.mp H
              obtain ⟨⟨t393, t394, t395⟩, A320, H⟩ := H
              replace H : ((turnstileref11_Cut_Number.f kj9 l0 t394 t395 8).bind fun bt396 => ((turnstileref11_Policy.f (wrap64 (t390)) t393 bt396.1).bind fun bt399 => (turnstileref11_Decode.j1 kj9 l0 l0 bt396.2.1 bt396.2.2 (wrap64 (t380)) t384 t387 bt399.1 bt399.2.1 bt399.2.2.1 bt399.2.2.2.1 bt399.2.2.2.2 0 0 0))) = some (r1, r2, r3, r4, r5, r6, r7, r8, r9, r10, r11, r12) := H
              have A32 := Aside0.mk A320
              clear A320
              replace H := Option.bind_eq_some_iff.mp H
              obtain ⟨⟨t396, t397, t398⟩, A330, H⟩ := H
              replace H : ((turnstileref11_Policy.f (wrap64 (t390)) t393 t396).bind fun bt399 => (turnstileref11_Decode.j1 kj9 l0 l0 t397 t398 (wrap64 (t380)) t384 t387 bt399.1 bt399.2.1 bt399.2.2.1 bt399.2.2.2.1 bt399.2.2.2.2 0 0 0)) = some (r1, r2, r3, r4, r5, r6, r7, r8, r9, r10, r11, r12) := H
              have A33 := Aside0.mk A330
              clear A330
              replace H := Option.bind_eq_some_iff.mp H
              obtain ⟨⟨t399, t400, t401, t402, t403⟩, A340, H⟩ := H
              replace H : (turnstileref11_Decode.j1 kj9 l0 l0 t397 t398 (wrap64 (t380)) t384 t387 t399 t400 t401 t402 t403 0 0 0) = some (r1, r2, r3, r4, r5, r6, r7, r8, r9, r10, r11, r12) := H
              have A34 := Aside0.mk A340
              clear A340
              have H' := Aside0.mk H
              clear H
              go_wp2_with (first | ((with_reducible refine gate_callee (f := 57) rfl ?_); refine gl (some 41) Tryd.func57 #[.pointer (some ⟨gb379, 0, none⟩), .int .i64 1] ?_; (with_reducible refine (turnstileref11_Cut_Number.calls kj9 gb379 l0 t388 t389 1 t390 t391 t392 w _ ?side1 ?side2 A31.out).mono ?_); (case side1 => repeat (first | (with_reducible first | exact HI379.out | apply IsS99.alloc | apply IsS99.drewN | apply IsS99.drew | apply IsS99.set_1 | apply IsS99.set_2 | refine IsS99.far ?_ NB379_378.out _ | refine IsS99.far ?_ NB379_383.out _) | exact HI379.out)); (case side2 => repeat (first | (with_reducible first | exact HB.out | apply below_alloc | apply pw_below_drewN | apply below_drew1 | refine below_set ?_ (IsS99.ge HI379.out) | refine below_set ?_ GE378.out | refine below_set ?_ GE383.out) | exact HB.out)); rintro e w35 ⟨rfl, hi, hb, hk⟩; refine ⟨_, rfl, ?_⟩; have n0_ := Aside0.mk (KeepBut.blk hk (g' := gb378) (o := .cells #[.int .i64 0, .int .u64 0, .string (⟨#[]⟩ : ByteArray), .int .i64 0, .int .u64 0, .int .u64 0, .int .u64 0, .int .u64 0, .int .u64 0, .int .u64 0, .int .u64 0] 32 (0, 0)) (bk BK378) NB378_379.out (by simp)); have n1_ := Aside0.mk (KeepBut.blk hk (g' := gb383) (o := .cells #[.int .i64 (wrap64 (t380)), .int .u64 t384, .string t387, .int .i64 0, .int .u64 0, .int .u64 0, .int .u64 0, .int .u64 0, .int .u64 0, .int .u64 0, .int .u64 0] 32 (0, 0)) (by (with_reducible repeat (first | refine blk_drewN ?_ _ | refine blk_drew ?_ | refine blk_alloc ?_ _)); refine blk_put (cs := #[.int .i64 (wrap64 (t380)), .int .u64 t384, .string (⟨#[]⟩ : ByteArray), .int .i64 0, .int .u64 0, .int .u64 0, .int .u64 0, .int .u64 0, .int .u64 0, .int .u64 0, .int .u64 0]) ?_ 2 _ rfl; (with_reducible repeat (first | refine blk_drewN ?_ _ | refine blk_drew ?_ | refine blk_alloc ?_ _)); exact BK383.out) NB383_379.out (by simp)); have n2_ := Aside0.mk (hb); have n3_ := Aside0.mk (hi); clear BK378; clear BK383; clear HB; clear HI379; have BK378 := n0_; have BK383 := n1_; have HB := n2_; have HI379 := n3_; clear n0_ n1_ n2_ n3_; (try clear hb); (try clear hb2); (try clear hk); (try clear hi)) | ((with_reducible refine gate_callee (f := 57) rfl ?_); refine gl (some 44) Tryd.func57 #[.pointer (some ⟨gb379, 0, none⟩), .int .i64 8] ?_; (with_reducible refine (turnstileref11_Cut_Number.calls kj9 gb379 l0 t391 t392 8 t393 t394 t395 w _ ?side1 ?side2 A32.out).mono ?_); (case side1 => repeat (first | (with_reducible first | exact HI379.out | apply IsS99.alloc | apply IsS99.drewN | apply IsS99.drew | apply IsS99.set_1 | apply IsS99.set_2 | refine IsS99.far ?_ NB379_378.out _ | refine IsS99.far ?_ NB379_383.out _) | exact HI379.out)); (case side2 => repeat (first | (with_reducible first | exact HB.out | apply below_alloc | apply pw_below_drewN | apply below_drew1 | refine below_set ?_ (IsS99.ge HI379.out) | refine below_set ?_ GE378.out | refine below_set ?_ GE383.out) | exact HB.out)); rintro e w36 ⟨rfl, hi, hb, hk⟩; refine ⟨_, rfl, ?_⟩; have n0_ := Aside0.mk (KeepBut.blk hk (g' := gb378) (o := .cells #[.int .i64 0, .int .u64 0, .string (⟨#[]⟩ : ByteArray), .int .i64 0, .int .u64 0, .int .u64 0, .int .u64 0, .int .u64 0, .int .u64 0, .int .u64 0, .int .u64 0] 32 (0, 0)) (bk BK378) NB378_379.out (by simp)); have n1_ := Aside0.mk (KeepBut.blk hk (g' := gb383) (o := .cells #[.int .i64 (wrap64 (t380)), .int .u64 t384, .string t387, .int .i64 0, .int .u64 0, .int .u64 0, .int .u64 0, .int .u64 0, .int .u64 0, .int .u64 0, .int .u64 0] 32 (0, 0)) (bk BK383) NB383_379.out (by simp)); have n2_ := Aside0.mk (hb); have n3_ := Aside0.mk (hi); clear BK378; clear BK383; clear HB; clear HI379; have BK378 := n0_; have BK383 := n1_; have HB := n2_; have HI379 := n3_; clear n0_ n1_ n2_ n3_; (try clear hb); (try clear hb2); (try clear hk); (try clear hi)) | ((with_reducible refine gate_callee (f := 57) rfl ?_); refine gl (some 46) Tryd.func57 #[.pointer (some ⟨gb379, 0, none⟩), .int .i64 8] ?_; (with_reducible refine (turnstileref11_Cut_Number.calls kj9 gb379 l0 t394 t395 8 t396 t397 t398 w _ ?side1 ?side2 A33.out).mono ?_); (case side1 => repeat (first | (with_reducible first | exact HI379.out | apply IsS99.alloc | apply IsS99.drewN | apply IsS99.drew | apply IsS99.set_1 | apply IsS99.set_2 | refine IsS99.far ?_ NB379_378.out _ | refine IsS99.far ?_ NB379_383.out _) | exact HI379.out)); (case side2 => repeat (first | (with_reducible first | exact HB.out | apply below_alloc | apply pw_below_drewN | apply below_drew1 | refine below_set ?_ (IsS99.ge HI379.out) | refine below_set ?_ GE378.out | refine below_set ?_ GE383.out) | exact HB.out)); rintro e w37 ⟨rfl, hi, hb, hk⟩; refine ⟨_, rfl, ?_⟩; have n0_ := Aside0.mk (KeepBut.blk hk (g' := gb378) (o := .cells #[.int .i64 0, .int .u64 0, .string (⟨#[]⟩ : ByteArray), .int .i64 0, .int .u64 0, .int .u64 0, .int .u64 0, .int .u64 0, .int .u64 0, .int .u64 0, .int .u64 0] 32 (0, 0)) (bk BK378) NB378_379.out (by simp)); have n1_ := Aside0.mk (KeepBut.blk hk (g' := gb383) (o := .cells #[.int .i64 (wrap64 (t380)), .int .u64 t384, .string t387, .int .i64 0, .int .u64 0, .int .u64 0, .int .u64 0, .int .u64 0, .int .u64 0, .int .u64 0, .int .u64 0] 32 (0, 0)) (bk BK383) NB383_379.out (by simp)); have n2_ := Aside0.mk (hb); have n3_ := Aside0.mk (hi); clear BK378; clear BK383; clear HB; clear HI379; have BK378 := n0_; have BK383 := n1_; have HB := n2_; have HI379 := n3_; clear n0_ n1_ n2_ n3_; (try clear hb); (try clear hb2); (try clear hk); (try clear hi)) | ((with_reducible refine gate_callee (f := 59) rfl ?_); refine gm (some 50) Tryd.func59 #[.int .i64 (wrap64 (t390)), .int .u64 t393, .int .u64 t396] (turnstileref11_Policy.calls (wrap64 (t390)) t393 t396 t399 t400 t401 t402 t403 _ A34.out) ?_; intro w38 hb; have n0_ := bb BK378 hb; have n1_ := Aside0.mk (IsS99.below (by repeat (first | (with_reducible first | exact HI379.out | apply IsS99.alloc | apply IsS99.drewN | apply IsS99.drew | apply IsS99.set_1 | apply IsS99.set_2 | refine IsS99.far ?_ NB379_378.out _ | refine IsS99.far ?_ NB379_383.out _) | exact HI379.out)) hb); have n2_ := bb BK383 hb; have n3_ := Aside0.mk (below_step (by repeat (first | (with_reducible first | exact HB.out | apply below_alloc | apply pw_below_drewN | apply below_drew1 | refine below_set ?_ (IsS99.ge HI379.out) | refine below_set ?_ GE378.out | refine below_set ?_ GE383.out) | exact HB.out)) hb); clear BK378; clear HI379; clear BK383; clear HB; have BK378 := n0_; have HI379 := n1_; have BK383 := n2_; have HB := n3_; clear n0_ n1_ n2_ n3_; (try clear hb); (try clear hb2); (try clear hk); (try clear hi); have hnb39 := NB383_378.out; have hnc39 := NB378_383.out; have hnb40 := NB383_379.out; have hnc40 := NB379_383.out; obtain ⟨hcz41_0, hcz41_1, hcz41_2, hcz41_3, hcz41_4, hcz41_5, hcz41_6, hcz41_7, hcz41_8, hcz41_9, hcz41_10, hfz41_0, hfz41_1, hfz41_2, hfz41_3, hfz41_4, hfz41_5, hfz41_6, hfz41_7, hfz41_8, hfz41_9, hfz41_10⟩ := bc11 BK383))
              go_meet
              case rel => exact ⟨_, (t397), (t398), (t399), (t400), (t401), (t402), (t403), (0), (0), (0), H', ⟨by have := HJ9.out; first | omega | exact Nat.le_refl _⟩, ⟨bk BK378⟩, ⟨bk BK383⟩, ⟨by repeat (first | (with_reducible first | exact HI379.out | apply IsS99.alloc | apply IsS99.drewN | apply IsS99.drew | apply IsS99.set_1 | apply IsS99.set_2 | refine IsS99.far ?_ NB379_378.out _ | refine IsS99.far ?_ NB379_383.out _) | exact HI379.out)⟩, ⟨by repeat (first | (with_reducible first | exact HB.out | apply below_alloc | apply pw_below_drewN | apply below_drew1 | refine below_set ?_ (IsS99.ge HI379.out) | refine below_set ?_ GE378.out | refine below_set ?_ GE383.out) | exact HB.out)⟩⟩
            · rw [if_neg c30] at H
              have c30b0 : ((wrap64 (t380)) == 1) = false := beq_eq_false_iff_ne.mpr c30
              have c30b1 : ((wrap64 (t380)) != 1) = true := bne_iff_ne.mpr c30
              (first | rw [c30b0] | (simp only [i64_w, i32_w]; rw [c30b0]) | skip)
              by_cases c42 : (wrap64 (t380)) = 3
              · rw [if_pos c42] at H
                have c42b0 : ((wrap64 (t380)) == 3) = true := beq_iff_eq.mpr c42
                have c42b1 : ((wrap64 (t380)) != 3) = false := bne_eq_false_iff_eq.mpr c42
                clear c42
                replace H := Option.bind_eq_some_iff.mp H
                obtain ⟨⟨t404, t405, t406⟩, A430, H⟩ := H
                replace H : ((turnstileref11_Cut_Number.f kj9 l0 t405 t406 8).bind fun bt407 => ((turnstileref11_Cut_Number.f kj9 l0 bt407.2.1 bt407.2.2 8).bind fun bt410 => (turnstileref11_Decode.j1 kj9 l0 l0 bt410.2.1 bt410.2.2 (wrap64 (t380)) t384 t387 0 0 0 0 0 t404 bt407.1 bt410.1))) = some (r1, r2, r3, r4, r5, r6, r7, r8, r9, r10, r11, r12) := H
                have A43 := Aside0.mk A430
                clear A430
                replace H := Option.bind_eq_some_iff.mp H
                obtain ⟨⟨t407, t408, t409⟩, A440, H⟩ := H
                replace H : ((turnstileref11_Cut_Number.f kj9 l0 t408 t409 8).bind fun bt410 => (turnstileref11_Decode.j1 kj9 l0 l0 bt410.2.1 bt410.2.2 (wrap64 (t380)) t384 t387 0 0 0 0 0 t404 t407 bt410.1)) = some (r1, r2, r3, r4, r5, r6, r7, r8, r9, r10, r11, r12) := H
                have A44 := Aside0.mk A440
                clear A440
                replace H := Option.bind_eq_some_iff.mp H
                obtain ⟨⟨t410, t411, t412⟩, A450, H⟩ := H
                replace H : (turnstileref11_Decode.j1 kj9 l0 l0 t411 t412 (wrap64 (t380)) t384 t387 0 0 0 0 0 t404 t407 t410) = some (r1, r2, r3, r4, r5, r6, r7, r8, r9, r10, r11, r12) := H
                have A45 := Aside0.mk A450
                clear A450
                have H' := Aside0.mk H
                clear H
                go_wp2_with (first | ((with_reducible refine gate_callee (f := 57) rfl ?_); refine gl (some 55) Tryd.func57 #[.pointer (some ⟨gb379, 0, none⟩), .int .i64 8] ?_; (with_reducible refine (turnstileref11_Cut_Number.calls kj9 gb379 l0 t388 t389 8 t404 t405 t406 w _ ?side1 ?side2 A43.out).mono ?_); (case side1 => repeat (first | (with_reducible first | exact HI379.out | apply IsS99.alloc | apply IsS99.drewN | apply IsS99.drew | apply IsS99.set_1 | apply IsS99.set_2 | refine IsS99.far ?_ NB379_378.out _ | refine IsS99.far ?_ NB379_383.out _) | exact HI379.out)); (case side2 => repeat (first | (with_reducible first | exact HB.out | apply below_alloc | apply pw_below_drewN | apply below_drew1 | refine below_set ?_ (IsS99.ge HI379.out) | refine below_set ?_ GE378.out | refine below_set ?_ GE383.out) | exact HB.out)); rintro e w46 ⟨rfl, hi, hb, hk⟩; refine ⟨_, rfl, ?_⟩; have n0_ := Aside0.mk (KeepBut.blk hk (g' := gb378) (o := .cells #[.int .i64 0, .int .u64 0, .string (⟨#[]⟩ : ByteArray), .int .i64 0, .int .u64 0, .int .u64 0, .int .u64 0, .int .u64 0, .int .u64 0, .int .u64 0, .int .u64 0] 32 (0, 0)) (bk BK378) NB378_379.out (by simp)); have n1_ := Aside0.mk (KeepBut.blk hk (g' := gb383) (o := .cells #[.int .i64 (wrap64 (t380)), .int .u64 t384, .string t387, .int .i64 0, .int .u64 0, .int .u64 0, .int .u64 0, .int .u64 0, .int .u64 0, .int .u64 0, .int .u64 0] 32 (0, 0)) (by (with_reducible repeat (first | refine blk_drewN ?_ _ | refine blk_drew ?_ | refine blk_alloc ?_ _)); refine blk_put (cs := #[.int .i64 (wrap64 (t380)), .int .u64 t384, .string (⟨#[]⟩ : ByteArray), .int .i64 0, .int .u64 0, .int .u64 0, .int .u64 0, .int .u64 0, .int .u64 0, .int .u64 0, .int .u64 0]) ?_ 2 _ rfl; (with_reducible repeat (first | refine blk_drewN ?_ _ | refine blk_drew ?_ | refine blk_alloc ?_ _)); exact BK383.out) NB383_379.out (by simp)); have n2_ := Aside0.mk (hb); have n3_ := Aside0.mk (hi); clear BK378; clear BK383; clear HB; clear HI379; have BK378 := n0_; have BK383 := n1_; have HB := n2_; have HI379 := n3_; clear n0_ n1_ n2_ n3_; (try clear hb); (try clear hb2); (try clear hk); (try clear hi); have hnb47 := NB383_378.out; have hnc47 := NB378_383.out; have hnb48 := NB383_379.out; have hnc48 := NB379_383.out; obtain ⟨hcz49_0, hcz49_1, hcz49_2, hcz49_3, hcz49_4, hcz49_5, hcz49_6, hcz49_7, hcz49_8, hcz49_9, hcz49_10, hfz49_0, hfz49_1, hfz49_2, hfz49_3, hfz49_4, hfz49_5, hfz49_6, hfz49_7, hfz49_8, hfz49_9, hfz49_10⟩ := bc11 BK383) | ((with_reducible refine gate_callee (f := 57) rfl ?_); refine gl (some 59) Tryd.func57 #[.pointer (some ⟨gb379, 0, none⟩), .int .i64 8] ?_; (with_reducible refine (turnstileref11_Cut_Number.calls kj9 gb379 l0 t405 t406 8 t407 t408 t409 w _ ?side1 ?side2 A44.out).mono ?_); (case side1 => repeat (first | (with_reducible first | exact HI379.out | apply IsS99.alloc | apply IsS99.drewN | apply IsS99.drew | apply IsS99.set_1 | apply IsS99.set_2 | refine IsS99.far ?_ NB379_378.out _ | refine IsS99.far ?_ NB379_383.out _) | exact HI379.out)); (case side2 => repeat (first | (with_reducible first | exact HB.out | apply below_alloc | apply pw_below_drewN | apply below_drew1 | refine below_set ?_ (IsS99.ge HI379.out) | refine below_set ?_ GE378.out | refine below_set ?_ GE383.out) | exact HB.out)); rintro e w50 ⟨rfl, hi, hb, hk⟩; refine ⟨_, rfl, ?_⟩; have n0_ := Aside0.mk (KeepBut.blk hk (g' := gb378) (o := .cells #[.int .i64 0, .int .u64 0, .string (⟨#[]⟩ : ByteArray), .int .i64 0, .int .u64 0, .int .u64 0, .int .u64 0, .int .u64 0, .int .u64 0, .int .u64 0, .int .u64 0] 32 (0, 0)) (bk BK378) NB378_379.out (by simp)); have n1_ := Aside0.mk (KeepBut.blk hk (g' := gb383) (o := .cells #[.int .i64 (wrap64 (t380)), .int .u64 t384, .string t387, .int .i64 0, .int .u64 0, .int .u64 0, .int .u64 0, .int .u64 0, .int .u64 t404, .int .u64 0, .int .u64 0] 32 (0, 0)) (bk BK383) NB383_379.out (by simp)); have n2_ := Aside0.mk (hb); have n3_ := Aside0.mk (hi); clear BK378; clear BK383; clear HB; clear HI379; have BK378 := n0_; have BK383 := n1_; have HB := n2_; have HI379 := n3_; clear n0_ n1_ n2_ n3_; (try clear hb); (try clear hb2); (try clear hk); (try clear hi); obtain ⟨hcz51_0, hcz51_1, hcz51_2, hcz51_3, hcz51_4, hcz51_5, hcz51_6, hcz51_7, hcz51_8, hcz51_9, hcz51_10, hfz51_0, hfz51_1, hfz51_2, hfz51_3, hfz51_4, hfz51_5, hfz51_6, hfz51_7, hfz51_8, hfz51_9, hfz51_10⟩ := bc11 BK383) | ((with_reducible refine gate_callee (f := 57) rfl ?_); refine gl (some 63) Tryd.func57 #[.pointer (some ⟨gb379, 0, none⟩), .int .i64 8] ?_; (with_reducible refine (turnstileref11_Cut_Number.calls kj9 gb379 l0 t408 t409 8 t410 t411 t412 w _ ?side1 ?side2 A45.out).mono ?_); (case side1 => repeat (first | (with_reducible first | exact HI379.out | apply IsS99.alloc | apply IsS99.drewN | apply IsS99.drew | apply IsS99.set_1 | apply IsS99.set_2 | refine IsS99.far ?_ NB379_378.out _ | refine IsS99.far ?_ NB379_383.out _) | exact HI379.out)); (case side2 => repeat (first | (with_reducible first | exact HB.out | apply below_alloc | apply pw_below_drewN | apply below_drew1 | refine below_set ?_ (IsS99.ge HI379.out) | refine below_set ?_ GE378.out | refine below_set ?_ GE383.out) | exact HB.out)); rintro e w52 ⟨rfl, hi, hb, hk⟩; refine ⟨_, rfl, ?_⟩; have n0_ := Aside0.mk (KeepBut.blk hk (g' := gb378) (o := .cells #[.int .i64 0, .int .u64 0, .string (⟨#[]⟩ : ByteArray), .int .i64 0, .int .u64 0, .int .u64 0, .int .u64 0, .int .u64 0, .int .u64 0, .int .u64 0, .int .u64 0] 32 (0, 0)) (bk BK378) NB378_379.out (by simp)); have n1_ := Aside0.mk (KeepBut.blk hk (g' := gb383) (o := .cells #[.int .i64 (wrap64 (t380)), .int .u64 t384, .string t387, .int .i64 0, .int .u64 0, .int .u64 0, .int .u64 0, .int .u64 0, .int .u64 t404, .int .u64 t407, .int .u64 0] 32 (0, 0)) (bk BK383) NB383_379.out (by simp)); have n2_ := Aside0.mk (hb); have n3_ := Aside0.mk (hi); clear BK378; clear BK383; clear HB; clear HI379; have BK378 := n0_; have BK383 := n1_; have HB := n2_; have HI379 := n3_; clear n0_ n1_ n2_ n3_; (try clear hb); (try clear hb2); (try clear hk); (try clear hi); obtain ⟨hcz53_0, hcz53_1, hcz53_2, hcz53_3, hcz53_4, hcz53_5, hcz53_6, hcz53_7, hcz53_8, hcz53_9, hcz53_10, hfz53_0, hfz53_1, hfz53_2, hfz53_3, hfz53_4, hfz53_5, hfz53_6, hfz53_7, hfz53_8, hfz53_9, hfz53_10⟩ := bc11 BK383))
                go_meet
                case rel => exact ⟨_, (t411), (t412), (0), (0), (0), (0), (0), (t404), (t407), (t410), H', ⟨by have := HJ9.out; first | omega | exact Nat.le_refl _⟩, ⟨bk BK378⟩, ⟨bk BK383⟩, ⟨by repeat (first | (with_reducible first | exact HI379.out | apply IsS99.alloc | apply IsS99.drewN | apply IsS99.drew | apply IsS99.set_1 | apply IsS99.set_2 | refine IsS99.far ?_ NB379_378.out _ | refine IsS99.far ?_ NB379_383.out _) | exact HI379.out)⟩, ⟨by repeat (first | (with_reducible first | exact HB.out | apply below_alloc | apply pw_below_drewN | apply below_drew1 | refine below_set ?_ (IsS99.ge HI379.out) | refine below_set ?_ GE378.out | refine below_set ?_ GE383.out) | exact HB.out)⟩⟩
              · rw [if_neg c42] at H
                have c42b0 : ((wrap64 (t380)) == 3) = false := beq_eq_false_iff_ne.mpr c42
                have c42b1 : ((wrap64 (t380)) != 3) = true := bne_iff_ne.mpr c42
                have H' := Aside0.mk H
                clear H
                go_wp2
                go_meet
                case rel => exact ⟨_, (t388), (t389), (0), (0), (0), (0), (0), (0), (0), (0), H', ⟨by have := HJ9.out; first | omega | exact Nat.le_refl _⟩, ⟨bk BK378⟩, ⟨by (with_reducible repeat (first | refine blk_drewN ?_ _ | refine blk_drew ?_ | refine blk_alloc ?_ _)); refine blk_put (cs := #[.int .i64 (wrap64 (t380)), .int .u64 t384, .string (⟨#[]⟩ : ByteArray), .int .i64 0, .int .u64 0, .int .u64 0, .int .u64 0, .int .u64 0, .int .u64 0, .int .u64 0, .int .u64 0]) ?_ 2 _ rfl; (with_reducible repeat (first | refine blk_drewN ?_ _ | refine blk_drew ?_ | refine blk_alloc ?_ _)); exact BK383.out⟩, ⟨by repeat (first | (with_reducible first | exact HI379.out | apply IsS99.alloc | apply IsS99.drewN | apply IsS99.drew | apply IsS99.set_1 | apply IsS99.set_2 | refine IsS99.far ?_ NB379_378.out _ | refine IsS99.far ?_ NB379_383.out _) | exact HI379.out)⟩, ⟨by repeat (first | (with_reducible first | exact HB.out | apply below_alloc | apply pw_below_drewN | apply below_drew1 | refine below_set ?_ (IsS99.ge HI379.out) | refine below_set ?_ GE378.out | refine below_set ?_ GE383.out) | exact HB.out)⟩⟩
          case rest =>
            clear HC21
            try clear c1
            try clear c2
            try clear p2
            try clear c3
            try clear c4
            try clear c5
            try clear p6
            try clear c8
            try clear c15
            try clear c15b0
            try clear c16
            try clear c17
            try clear c23
            try clear c24
            try clear c30
            try clear c30b0
            try clear c30b1
            try clear c34
            try clear c39
            try clear c40
            try clear c42
            try clear c42b0
            try clear c42b1
            try clear c47
            try clear c48
            try clear hcz14_0
            try clear hcz14_1
            try clear hcz14_2
            try clear hcz18_0
            try clear hcz18_1
            try clear hcz18_10
            try clear hcz18_2
            try clear hcz18_3
            try clear hcz18_4
            try clear hcz18_5
            try clear hcz18_6
            try clear hcz18_7
            try clear hcz18_8
            try clear hcz18_9
            try clear hcz25_0
            try clear hcz25_1
            try clear hcz25_10
            try clear hcz25_2
            try clear hcz25_3
            try clear hcz25_4
            try clear hcz25_5
            try clear hcz25_6
            try clear hcz25_7
            try clear hcz25_8
            try clear hcz25_9
            try clear hcz27_0
            try clear hcz27_1
            try clear hcz27_10
            try clear hcz27_2
            try clear hcz27_3
            try clear hcz27_4
            try clear hcz27_5
            try clear hcz27_6
            try clear hcz27_7
            try clear hcz27_8
            try clear hcz27_9
            try clear hcz29_0
            try clear hcz29_1
            try clear hcz29_10
            try clear hcz29_2
            try clear hcz29_3
            try clear hcz29_4
            try clear hcz29_5
            try clear hcz29_6
            try clear hcz29_7
            try clear hcz29_8
            try clear hcz29_9
            try clear hcz41_0
            try clear hcz41_1
            try clear hcz41_10
            try clear hcz41_2
            try clear hcz41_3
            try clear hcz41_4
            try clear hcz41_5
            try clear hcz41_6
            try clear hcz41_7
            try clear hcz41_8
            try clear hcz41_9
            try clear hcz49_0
            try clear hcz49_1
            try clear hcz49_10
            try clear hcz49_2
            try clear hcz49_3
            try clear hcz49_4
            try clear hcz49_5
            try clear hcz49_6
            try clear hcz49_7
            try clear hcz49_8
            try clear hcz49_9
            try clear hcz51_0
            try clear hcz51_1
            try clear hcz51_10
            try clear hcz51_2
            try clear hcz51_3
            try clear hcz51_4
            try clear hcz51_5
            try clear hcz51_6
            try clear hcz51_7
            try clear hcz51_8
            try clear hcz51_9
            try clear hcz53_0
            try clear hcz53_1
            try clear hcz53_10
            try clear hcz53_2
            try clear hcz53_3
            try clear hcz53_4
            try clear hcz53_5
            try clear hcz53_6
            try clear hcz53_7
            try clear hcz53_8
            try clear hcz53_9
            try clear hcz7_0
            try clear hcz7_1
            try clear hcz7_2
            try clear hcz9_0
            try clear hcz9_1
            try clear hcz9_10
            try clear hcz9_2
            try clear hcz9_3
            try clear hcz9_4
            try clear hcz9_5
            try clear hcz9_6
            try clear hcz9_7
            try clear hcz9_8
            try clear hcz9_9
            try clear hfz14_1
            try clear hfz14_2
            try clear hfz18_0
            try clear hfz18_1
            try clear hfz18_10
            try clear hfz18_2
            try clear hfz18_3
            try clear hfz18_4
            try clear hfz18_5
            try clear hfz18_6
            try clear hfz18_7
            try clear hfz18_8
            try clear hfz18_9
            try clear hfz25_0
            try clear hfz25_1
            try clear hfz25_10
            try clear hfz25_2
            try clear hfz25_3
            try clear hfz25_4
            try clear hfz25_5
            try clear hfz25_6
            try clear hfz25_7
            try clear hfz25_8
            try clear hfz25_9
            try clear hfz27_0
            try clear hfz27_1
            try clear hfz27_10
            try clear hfz27_2
            try clear hfz27_3
            try clear hfz27_4
            try clear hfz27_5
            try clear hfz27_6
            try clear hfz27_7
            try clear hfz27_8
            try clear hfz27_9
            try clear hfz29_0
            try clear hfz29_1
            try clear hfz29_10
            try clear hfz29_2
            try clear hfz29_3
            try clear hfz29_4
            try clear hfz29_5
            try clear hfz29_6
            try clear hfz29_7
            try clear hfz29_8
            try clear hfz29_9
            try clear hfz41_0
            try clear hfz41_1
            try clear hfz41_10
            try clear hfz41_2
            try clear hfz41_3
            try clear hfz41_4
            try clear hfz41_5
            try clear hfz41_6
            try clear hfz41_7
            try clear hfz41_8
            try clear hfz41_9
            try clear hfz49_0
            try clear hfz49_1
            try clear hfz49_10
            try clear hfz49_2
            try clear hfz49_3
            try clear hfz49_4
            try clear hfz49_5
            try clear hfz49_6
            try clear hfz49_7
            try clear hfz49_8
            try clear hfz49_9
            try clear hfz51_0
            try clear hfz51_1
            try clear hfz51_10
            try clear hfz51_2
            try clear hfz51_3
            try clear hfz51_4
            try clear hfz51_5
            try clear hfz51_6
            try clear hfz51_7
            try clear hfz51_8
            try clear hfz51_9
            try clear hfz53_0
            try clear hfz53_1
            try clear hfz53_10
            try clear hfz53_2
            try clear hfz53_3
            try clear hfz53_4
            try clear hfz53_5
            try clear hfz53_6
            try clear hfz53_7
            try clear hfz53_8
            try clear hfz53_9
            try clear hfz7_1
            try clear hfz7_2
            try clear hfz9_0
            try clear hfz9_1
            try clear hfz9_10
            try clear hfz9_2
            try clear hfz9_3
            try clear hfz9_4
            try clear hfz9_5
            try clear hfz9_6
            try clear hfz9_7
            try clear hfz9_8
            try clear hfz9_9
            try clear p2
            try clear p6
            obtain ⟨kq, x380001_20, x380002_20, x384003_20, x384004_20, x384005_20, x384006_20, x384007_20, x384008_20, x384009_20, x384010_20, HA, HJ20, BK378, BK383, HI379, HB⟩ := hcut
            cases kq with
            | zero => exact absurd HA.out (by simp [turnstileref11_Decode.j1])
            | succ kj20 =>
              have H := HA.out
              clear HA
              simp only [turnstileref11_Decode.j1] at H
              by_cases c54 : x380002_20 = true
              · subst c54
                have H1 : (some (0, 0, (⟨#[]⟩ : ByteArray), 0, 0, 0, 0, 0, 0, 0, 0, 2)) = some (r1, r2, r3, r4, r5, r6, r7, r8, r9, r10, r11, r12) := by rw [if_pos rfl] at H; exact H
                clear H
                have H := H1
                clear H1
                simp only [Option.some.injEq, Prod.mk.injEq] at H
                obtain ⟨rfl, rfl, rfl, rfl, rfl, rfl, rfl, rfl, rfl, rfl, rfl, rfl⟩ := H
                obtain ⟨ASz55_0, cSz55_0, HGz55, hgz55, ⟨HSz55_0, HCsz55_0⟩⟩ := HI379.out
                have hcz55_0 := cellS99_0 HGz55
                have hcz55_1 := cellS99_1 HGz55
                have hcz55_2 := cellS99_2 HGz55
                have hfz55_1 := blk_frozen HGz55 1
                have hfz55_2 := blk_frozen HGz55 2
                clear HGz55 hgz55
                have hnb56 := NB378_383.out
                have hnc56 := NB383_378.out
                have hnb57 := NB378_379.out
                have hnc57 := NB379_378.out
                obtain ⟨hcz58_0, hcz58_1, hcz58_2, hcz58_3, hcz58_4, hcz58_5, hcz58_6, hcz58_7, hcz58_8, hcz58_9, hcz58_10, hfz58_0, hfz58_1, hfz58_2, hfz58_3, hfz58_4, hfz58_5, hfz58_6, hfz58_7, hfz58_8, hfz58_9, hfz58_10⟩ := bc11 BK378
                go_wp2
                refine bodyPost_ret (results_ct rfl _ _ gb378 32 #[.int .i64 0, .int .u64 0, .string (⟨#[]⟩ : ByteArray), .int .i64 0, .int .u64 0, .int .u64 0, .int .u64 0, .int .u64 0, .int .u64 0, .int .u64 0, .int .u64 0] (0, 0) _ rfl (by (with_reducible repeat (first | refine blk_drewN ?_ _ | refine blk_drew ?_ | refine blk_alloc ?_ _)); refine blk_put (cs := #[.int .i64 0, .int .u64 0, .string (⟨#[]⟩ : ByteArray), .int .i64 0, .int .u64 0, .int .u64 0, .int .u64 0, .int .u64 0, .int .u64 0, .int .u64 0, .int .u64 0]) ?_ 10 _ rfl; (with_reducible repeat (first | refine blk_drewN ?_ _ | refine blk_drew ?_ | refine blk_alloc ?_ _)); refine blk_put (cs := #[.int .i64 0, .int .u64 0, .string (⟨#[]⟩ : ByteArray), .int .i64 0, .int .u64 0, .int .u64 0, .int .u64 0, .int .u64 0, .int .u64 0, .int .u64 0, .int .u64 0]) ?_ 9 _ rfl; (with_reducible repeat (first | refine blk_drewN ?_ _ | refine blk_drew ?_ | refine blk_alloc ?_ _)); refine blk_put (cs := #[.int .i64 0, .int .u64 0, .string (⟨#[]⟩ : ByteArray), .int .i64 0, .int .u64 0, .int .u64 0, .int .u64 0, .int .u64 0, .int .u64 0, .int .u64 0, .int .u64 0]) ?_ 8 _ rfl; (with_reducible repeat (first | refine blk_drewN ?_ _ | refine blk_drew ?_ | refine blk_alloc ?_ _)); refine blk_put (cs := #[.int .i64 0, .int .u64 0, .string (⟨#[]⟩ : ByteArray), .int .i64 0, .int .u64 0, .int .u64 0, .int .u64 0, .int .u64 0, .int .u64 0, .int .u64 0, .int .u64 0]) ?_ 7 _ rfl; (with_reducible repeat (first | refine blk_drewN ?_ _ | refine blk_drew ?_ | refine blk_alloc ?_ _)); refine blk_put (cs := #[.int .i64 0, .int .u64 0, .string (⟨#[]⟩ : ByteArray), .int .i64 0, .int .u64 0, .int .u64 0, .int .u64 0, .int .u64 0, .int .u64 0, .int .u64 0, .int .u64 0]) ?_ 6 _ rfl; (with_reducible repeat (first | refine blk_drewN ?_ _ | refine blk_drew ?_ | refine blk_alloc ?_ _)); refine blk_put (cs := #[.int .i64 0, .int .u64 0, .string (⟨#[]⟩ : ByteArray), .int .i64 0, .int .u64 0, .int .u64 0, .int .u64 0, .int .u64 0, .int .u64 0, .int .u64 0, .int .u64 0]) ?_ 5 _ rfl; (with_reducible repeat (first | refine blk_drewN ?_ _ | refine blk_drew ?_ | refine blk_alloc ?_ _)); refine blk_put (cs := #[.int .i64 0, .int .u64 0, .string (⟨#[]⟩ : ByteArray), .int .i64 0, .int .u64 0, .int .u64 0, .int .u64 0, .int .u64 0, .int .u64 0, .int .u64 0, .int .u64 0]) ?_ 4 _ rfl; (with_reducible repeat (first | refine blk_drewN ?_ _ | refine blk_drew ?_ | refine blk_alloc ?_ _)); refine blk_put (cs := #[.int .i64 0, .int .u64 0, .string (⟨#[]⟩ : ByteArray), .int .i64 0, .int .u64 0, .int .u64 0, .int .u64 0, .int .u64 0, .int .u64 0, .int .u64 0, .int .u64 0]) ?_ 3 _ rfl; (with_reducible repeat (first | refine blk_drewN ?_ _ | refine blk_drew ?_ | refine blk_alloc ?_ _)); refine blk_put (cs := #[.int .i64 0, .int .u64 0, .string (⟨#[]⟩ : ByteArray), .int .i64 0, .int .u64 0, .int .u64 0, .int .u64 0, .int .u64 0, .int .u64 0, .int .u64 0, .int .u64 0]) ?_ 2 _ rfl; (with_reducible repeat (first | refine blk_drewN ?_ _ | refine blk_drew ?_ | refine blk_alloc ?_ _)); refine blk_put (cs := #[.int .i64 0, .int .u64 0, .string (⟨#[]⟩ : ByteArray), .int .i64 0, .int .u64 0, .int .u64 0, .int .u64 0, .int .u64 0, .int .u64 0, .int .u64 0, .int .u64 0]) ?_ 1 _ rfl; (with_reducible repeat (first | refine blk_drewN ?_ _ | refine blk_drew ?_ | refine blk_alloc ?_ _)); refine blk_put (cs := #[.int .i64 0, .int .u64 0, .string (⟨#[]⟩ : ByteArray), .int .i64 0, .int .u64 0, .int .u64 0, .int .u64 0, .int .u64 0, .int .u64 0, .int .u64 0, .int .u64 0]) ?_ 0 _ rfl; (with_reducible repeat (first | refine blk_drewN ?_ _ | refine blk_drew ?_ | refine blk_alloc ?_ _)); exact BK378.out) Tryd.underlying32 rfl (by kernel_rfl)) rfl ?_
                exact ⟨re, by repeat (first | (with_reducible first | exact HB.out | apply below_alloc | apply pw_below_drewN | apply below_drew1 | refine below_set ?_ (IsS99.ge HI379.out) | refine below_set ?_ GE378.out | refine below_set ?_ GE383.out) | exact HB.out)⟩
              · replace c54 := Bool.eq_false_iff.mpr c54
                subst c54
                have H1 : ((turnstileref11_Valid.f kj20 (wrap64 (t380)) t384 t387 x384003_20 x384004_20 x384005_20 x384006_20 x384007_20 x384008_20 x384009_20 x384010_20).bind fun t413 => (if x380001_20 = (l0.length : Int) then (if t413 = true then (some ((wrap64 (t380)), t384, t387, x384003_20, x384004_20, x384005_20, x384006_20, x384007_20, x384008_20, x384009_20, x384010_20, 0)) else (some (0, 0, (⟨#[]⟩ : ByteArray), 0, 0, 0, 0, 0, 0, 0, 0, 3))) else (some (0, 0, (⟨#[]⟩ : ByteArray), 0, 0, 0, 0, 0, 0, 0, 0, 3)))) = some (r1, r2, r3, r4, r5, r6, r7, r8, r9, r10, r11, r12) := by rw [if_neg (show ¬ (false = true) by decide)] at H; exact H
                clear H
                have H := H1
                clear H1
                replace H := Option.bind_eq_some_iff.mp H
                obtain ⟨t413, A590, H⟩ := H
                replace H : (if x380001_20 = (l0.length : Int) then (if t413 = true then (some ((wrap64 (t380)), t384, t387, x384003_20, x384004_20, x384005_20, x384006_20, x384007_20, x384008_20, x384009_20, x384010_20, 0)) else (some (0, 0, (⟨#[]⟩ : ByteArray), 0, 0, 0, 0, 0, 0, 0, 0, 3))) else (some (0, 0, (⟨#[]⟩ : ByteArray), 0, 0, 0, 0, 0, 0, 0, 0, 3))) = some (r1, r2, r3, r4, r5, r6, r7, r8, r9, r10, r11, r12) := H
                have A59 := Aside0.mk A590
                clear A590
                by_cases c60 : x380001_20 = (l0.length : Int)
                · rw [if_pos c60] at H
                  have c60b0 : (x380001_20 == (l0.length : Int)) = true := beq_iff_eq.mpr c60
                  have c60b1 : (x380001_20 != (l0.length : Int)) = false := bne_eq_false_iff_eq.mpr c60
                  clear c60
                  by_cases c61 : t413 = true
                  · subst c61
                    have H1 : (some ((wrap64 (t380)), t384, t387, x384003_20, x384004_20, x384005_20, x384006_20, x384007_20, x384008_20, x384009_20, x384010_20, 0)) = some (r1, r2, r3, r4, r5, r6, r7, r8, r9, r10, r11, r12) := by rw [if_pos rfl] at H; exact H
                    clear H
                    have H := H1
                    clear H1
                    simp only [Option.some.injEq, Prod.mk.injEq] at H
                    obtain ⟨rfl, rfl, rfl, rfl, rfl, rfl, rfl, rfl, rfl, rfl, rfl, rfl⟩ := H
                    obtain ⟨ASz62_0, cSz62_0, HGz62, hgz62, ⟨HSz62_0, HCsz62_0⟩⟩ := HI379.out
                    have hcz62_0 := cellS99_0 HGz62
                    have hcz62_1 := cellS99_1 HGz62
                    have hcz62_2 := cellS99_2 HGz62
                    have hfz62_1 := blk_frozen HGz62 1
                    have hfz62_2 := blk_frozen HGz62 2
                    clear HGz62 hgz62
                    have hnb63 := NB383_378.out
                    have hnc63 := NB378_383.out
                    have hnb64 := NB383_379.out
                    have hnc64 := NB379_383.out
                    obtain ⟨hcz65_0, hcz65_1, hcz65_2, hcz65_3, hcz65_4, hcz65_5, hcz65_6, hcz65_7, hcz65_8, hcz65_9, hcz65_10, hfz65_0, hfz65_1, hfz65_2, hfz65_3, hfz65_4, hfz65_5, hfz65_6, hfz65_7, hfz65_8, hfz65_9, hfz65_10⟩ := bc11 BK383
                    go_wp2_with (first | ((with_reducible refine gate_callee (f := 31) rfl ?_); refine gm (some 72) Tryd.func31 #[.agg #[.int .i64 (wrap64 (t380)), .int .u64 t384, .string t387, .int .i64 x384003_20, .int .u64 x384004_20, .int .u64 x384005_20, .int .u64 x384006_20, .int .u64 x384007_20, .int .u64 x384008_20, .int .u64 x384009_20, .int .u64 x384010_20]] (turnstileref11_Valid.calls kj20 (wrap64 (t380)) t384 t387 x384003_20 x384004_20 x384005_20 x384006_20 x384007_20 x384008_20 x384009_20 x384010_20 true _ A59.out) ?_; intro w66 hb; have n0_ := bb BK378 hb; have n1_ := bb BK383 hb; have n2_ := Aside0.mk (IsS99.below (by repeat (first | (with_reducible first | exact HI379.out | apply IsS99.alloc | apply IsS99.drewN | apply IsS99.drew | apply IsS99.set_1 | apply IsS99.set_2 | refine IsS99.far ?_ NB379_378.out _ | refine IsS99.far ?_ NB379_383.out _) | exact HI379.out)) hb); have n3_ := Aside0.mk (below_step (by repeat (first | (with_reducible first | exact HB.out | apply below_alloc | apply pw_below_drewN | apply below_drew1 | refine below_set ?_ (IsS99.ge HI379.out) | refine below_set ?_ GE378.out | refine below_set ?_ GE383.out) | exact HB.out)) hb); clear BK378; clear BK383; clear HI379; clear HB; have BK378 := n0_; have BK383 := n1_; have HI379 := n2_; have HB := n3_; clear n0_ n1_ n2_ n3_; (try clear hb); (try clear hb2); (try clear hk); (try clear hi); obtain ⟨ASz67_0, cSz67_0, HGz67, hgz67, ⟨HSz67_0, HCsz67_0⟩⟩ := HI379.out; have hcz67_0 := cellS99_0 HGz67; have hcz67_1 := cellS99_1 HGz67; have hcz67_2 := cellS99_2 HGz67; have hfz67_1 := blk_frozen HGz67 1; have hfz67_2 := blk_frozen HGz67 2; clear HGz67 hgz67; obtain ⟨hcz68_0, hcz68_1, hcz68_2, hcz68_3, hcz68_4, hcz68_5, hcz68_6, hcz68_7, hcz68_8, hcz68_9, hcz68_10, hfz68_0, hfz68_1, hfz68_2, hfz68_3, hfz68_4, hfz68_5, hfz68_6, hfz68_7, hfz68_8, hfz68_9, hfz68_10⟩ := bc11 BK383; have hnb69 := NB378_379.out; have hnc69 := NB379_378.out; obtain ⟨hcz70_0, hcz70_1, hcz70_2, hcz70_3, hcz70_4, hcz70_5, hcz70_6, hcz70_7, hcz70_8, hcz70_9, hcz70_10, hfz70_0, hfz70_1, hfz70_2, hfz70_3, hfz70_4, hfz70_5, hfz70_6, hfz70_7, hfz70_8, hfz70_9, hfz70_10⟩ := bc11 BK378))
                    refine bodyPost_ret (results_ct rfl _ _ gb378 32 #[.int .i64 (wrap64 (t380)), .int .u64 t384, .string t387, .int .i64 x384003_20, .int .u64 x384004_20, .int .u64 x384005_20, .int .u64 x384006_20, .int .u64 x384007_20, .int .u64 x384008_20, .int .u64 x384009_20, .int .u64 x384010_20] (0, 0) _ rfl (by (with_reducible repeat (first | refine blk_drewN ?_ _ | refine blk_drew ?_ | refine blk_alloc ?_ _)); refine blk_put (cs := #[.int .i64 (wrap64 (t380)), .int .u64 t384, .string t387, .int .i64 x384003_20, .int .u64 x384004_20, .int .u64 x384005_20, .int .u64 x384006_20, .int .u64 x384007_20, .int .u64 x384008_20, .int .u64 x384009_20, .int .u64 0]) ?_ 10 _ rfl; (with_reducible repeat (first | refine blk_drewN ?_ _ | refine blk_drew ?_ | refine blk_alloc ?_ _)); refine blk_put (cs := #[.int .i64 (wrap64 (t380)), .int .u64 t384, .string t387, .int .i64 x384003_20, .int .u64 x384004_20, .int .u64 x384005_20, .int .u64 x384006_20, .int .u64 x384007_20, .int .u64 x384008_20, .int .u64 0, .int .u64 0]) ?_ 9 _ rfl; (with_reducible repeat (first | refine blk_drewN ?_ _ | refine blk_drew ?_ | refine blk_alloc ?_ _)); refine blk_put (cs := #[.int .i64 (wrap64 (t380)), .int .u64 t384, .string t387, .int .i64 x384003_20, .int .u64 x384004_20, .int .u64 x384005_20, .int .u64 x384006_20, .int .u64 x384007_20, .int .u64 0, .int .u64 0, .int .u64 0]) ?_ 8 _ rfl; (with_reducible repeat (first | refine blk_drewN ?_ _ | refine blk_drew ?_ | refine blk_alloc ?_ _)); refine blk_put (cs := #[.int .i64 (wrap64 (t380)), .int .u64 t384, .string t387, .int .i64 x384003_20, .int .u64 x384004_20, .int .u64 x384005_20, .int .u64 x384006_20, .int .u64 0, .int .u64 0, .int .u64 0, .int .u64 0]) ?_ 7 _ rfl; (with_reducible repeat (first | refine blk_drewN ?_ _ | refine blk_drew ?_ | refine blk_alloc ?_ _)); refine blk_put (cs := #[.int .i64 (wrap64 (t380)), .int .u64 t384, .string t387, .int .i64 x384003_20, .int .u64 x384004_20, .int .u64 x384005_20, .int .u64 0, .int .u64 0, .int .u64 0, .int .u64 0, .int .u64 0]) ?_ 6 _ rfl; (with_reducible repeat (first | refine blk_drewN ?_ _ | refine blk_drew ?_ | refine blk_alloc ?_ _)); refine blk_put (cs := #[.int .i64 (wrap64 (t380)), .int .u64 t384, .string t387, .int .i64 x384003_20, .int .u64 x384004_20, .int .u64 0, .int .u64 0, .int .u64 0, .int .u64 0, .int .u64 0, .int .u64 0]) ?_ 5 _ rfl; (with_reducible repeat (first | refine blk_drewN ?_ _ | refine blk_drew ?_ | refine blk_alloc ?_ _)); refine blk_put (cs := #[.int .i64 (wrap64 (t380)), .int .u64 t384, .string t387, .int .i64 x384003_20, .int .u64 0, .int .u64 0, .int .u64 0, .int .u64 0, .int .u64 0, .int .u64 0, .int .u64 0]) ?_ 4 _ rfl; (with_reducible repeat (first | refine blk_drewN ?_ _ | refine blk_drew ?_ | refine blk_alloc ?_ _)); refine blk_put (cs := #[.int .i64 (wrap64 (t380)), .int .u64 t384, .string t387, .int .i64 0, .int .u64 0, .int .u64 0, .int .u64 0, .int .u64 0, .int .u64 0, .int .u64 0, .int .u64 0]) ?_ 3 _ rfl; (with_reducible repeat (first | refine blk_drewN ?_ _ | refine blk_drew ?_ | refine blk_alloc ?_ _)); refine blk_put (cs := #[.int .i64 (wrap64 (t380)), .int .u64 t384, .string (⟨#[]⟩ : ByteArray), .int .i64 0, .int .u64 0, .int .u64 0, .int .u64 0, .int .u64 0, .int .u64 0, .int .u64 0, .int .u64 0]) ?_ 2 _ rfl; (with_reducible repeat (first | refine blk_drewN ?_ _ | refine blk_drew ?_ | refine blk_alloc ?_ _)); refine blk_put (cs := #[.int .i64 (wrap64 (t380)), .int .u64 0, .string (⟨#[]⟩ : ByteArray), .int .i64 0, .int .u64 0, .int .u64 0, .int .u64 0, .int .u64 0, .int .u64 0, .int .u64 0, .int .u64 0]) ?_ 1 _ rfl; (with_reducible repeat (first | refine blk_drewN ?_ _ | refine blk_drew ?_ | refine blk_alloc ?_ _)); refine blk_put (cs := #[.int .i64 0, .int .u64 0, .string (⟨#[]⟩ : ByteArray), .int .i64 0, .int .u64 0, .int .u64 0, .int .u64 0, .int .u64 0, .int .u64 0, .int .u64 0, .int .u64 0]) ?_ 0 _ rfl; (with_reducible repeat (first | refine blk_drewN ?_ _ | refine blk_drew ?_ | refine blk_alloc ?_ _)); exact BK378.out) Tryd.underlying32 rfl (by kernel_rfl)) rfl ?_
                    exact ⟨re, by repeat (first | (with_reducible first | exact HB.out | apply below_alloc | apply pw_below_drewN | apply below_drew1 | refine below_set ?_ (IsS99.ge HI379.out) | refine below_set ?_ GE378.out | refine below_set ?_ GE383.out) | exact HB.out)⟩
                  · replace c61 := Bool.eq_false_iff.mpr c61
                    subst c61
                    have H1 : (some (0, 0, (⟨#[]⟩ : ByteArray), 0, 0, 0, 0, 0, 0, 0, 0, 3)) = some (r1, r2, r3, r4, r5, r6, r7, r8, r9, r10, r11, r12) := by rw [if_neg (show ¬ (false = true) by decide)] at H; exact H
                    clear H
                    have H := H1
                    clear H1
                    simp only [Option.some.injEq, Prod.mk.injEq] at H
                    obtain ⟨rfl, rfl, rfl, rfl, rfl, rfl, rfl, rfl, rfl, rfl, rfl, rfl⟩ := H
                    obtain ⟨ASz71_0, cSz71_0, HGz71, hgz71, ⟨HSz71_0, HCsz71_0⟩⟩ := HI379.out
                    have hcz71_0 := cellS99_0 HGz71
                    have hcz71_1 := cellS99_1 HGz71
                    have hcz71_2 := cellS99_2 HGz71
                    have hfz71_1 := blk_frozen HGz71 1
                    have hfz71_2 := blk_frozen HGz71 2
                    clear HGz71 hgz71
                    have hnb72 := NB383_378.out
                    have hnc72 := NB378_383.out
                    have hnb73 := NB383_379.out
                    have hnc73 := NB379_383.out
                    obtain ⟨hcz74_0, hcz74_1, hcz74_2, hcz74_3, hcz74_4, hcz74_5, hcz74_6, hcz74_7, hcz74_8, hcz74_9, hcz74_10, hfz74_0, hfz74_1, hfz74_2, hfz74_3, hfz74_4, hfz74_5, hfz74_6, hfz74_7, hfz74_8, hfz74_9, hfz74_10⟩ := bc11 BK383
                    go_wp2_with (first | ((with_reducible refine gate_callee (f := 31) rfl ?_); refine gm (some 72) Tryd.func31 #[.agg #[.int .i64 (wrap64 (t380)), .int .u64 t384, .string t387, .int .i64 x384003_20, .int .u64 x384004_20, .int .u64 x384005_20, .int .u64 x384006_20, .int .u64 x384007_20, .int .u64 x384008_20, .int .u64 x384009_20, .int .u64 x384010_20]] (turnstileref11_Valid.calls kj20 (wrap64 (t380)) t384 t387 x384003_20 x384004_20 x384005_20 x384006_20 x384007_20 x384008_20 x384009_20 x384010_20 false _ A59.out) ?_; intro w75 hb; have n0_ := bb BK378 hb; have n1_ := bb BK383 hb; have n2_ := Aside0.mk (IsS99.below (by repeat (first | (with_reducible first | exact HI379.out | apply IsS99.alloc | apply IsS99.drewN | apply IsS99.drew | apply IsS99.set_1 | apply IsS99.set_2 | refine IsS99.far ?_ NB379_378.out _ | refine IsS99.far ?_ NB379_383.out _) | exact HI379.out)) hb); have n3_ := Aside0.mk (below_step (by repeat (first | (with_reducible first | exact HB.out | apply below_alloc | apply pw_below_drewN | apply below_drew1 | refine below_set ?_ (IsS99.ge HI379.out) | refine below_set ?_ GE378.out | refine below_set ?_ GE383.out) | exact HB.out)) hb); clear BK378; clear BK383; clear HI379; clear HB; have BK378 := n0_; have BK383 := n1_; have HI379 := n2_; have HB := n3_; clear n0_ n1_ n2_ n3_; (try clear hb); (try clear hb2); (try clear hk); (try clear hi); obtain ⟨ASz76_0, cSz76_0, HGz76, hgz76, ⟨HSz76_0, HCsz76_0⟩⟩ := HI379.out; have hcz76_0 := cellS99_0 HGz76; have hcz76_1 := cellS99_1 HGz76; have hcz76_2 := cellS99_2 HGz76; have hfz76_1 := blk_frozen HGz76 1; have hfz76_2 := blk_frozen HGz76 2; clear HGz76 hgz76; have hnb77 := NB378_379.out; have hnc77 := NB379_378.out; obtain ⟨hcz78_0, hcz78_1, hcz78_2, hcz78_3, hcz78_4, hcz78_5, hcz78_6, hcz78_7, hcz78_8, hcz78_9, hcz78_10, hfz78_0, hfz78_1, hfz78_2, hfz78_3, hfz78_4, hfz78_5, hfz78_6, hfz78_7, hfz78_8, hfz78_9, hfz78_10⟩ := bc11 BK378))
                    refine bodyPost_ret (results_ct rfl _ _ gb378 32 #[.int .i64 0, .int .u64 0, .string (⟨#[]⟩ : ByteArray), .int .i64 0, .int .u64 0, .int .u64 0, .int .u64 0, .int .u64 0, .int .u64 0, .int .u64 0, .int .u64 0] (0, 0) _ rfl (by (with_reducible repeat (first | refine blk_drewN ?_ _ | refine blk_drew ?_ | refine blk_alloc ?_ _)); refine blk_put (cs := #[.int .i64 0, .int .u64 0, .string (⟨#[]⟩ : ByteArray), .int .i64 0, .int .u64 0, .int .u64 0, .int .u64 0, .int .u64 0, .int .u64 0, .int .u64 0, .int .u64 0]) ?_ 10 _ rfl; (with_reducible repeat (first | refine blk_drewN ?_ _ | refine blk_drew ?_ | refine blk_alloc ?_ _)); refine blk_put (cs := #[.int .i64 0, .int .u64 0, .string (⟨#[]⟩ : ByteArray), .int .i64 0, .int .u64 0, .int .u64 0, .int .u64 0, .int .u64 0, .int .u64 0, .int .u64 0, .int .u64 0]) ?_ 9 _ rfl; (with_reducible repeat (first | refine blk_drewN ?_ _ | refine blk_drew ?_ | refine blk_alloc ?_ _)); refine blk_put (cs := #[.int .i64 0, .int .u64 0, .string (⟨#[]⟩ : ByteArray), .int .i64 0, .int .u64 0, .int .u64 0, .int .u64 0, .int .u64 0, .int .u64 0, .int .u64 0, .int .u64 0]) ?_ 8 _ rfl; (with_reducible repeat (first | refine blk_drewN ?_ _ | refine blk_drew ?_ | refine blk_alloc ?_ _)); refine blk_put (cs := #[.int .i64 0, .int .u64 0, .string (⟨#[]⟩ : ByteArray), .int .i64 0, .int .u64 0, .int .u64 0, .int .u64 0, .int .u64 0, .int .u64 0, .int .u64 0, .int .u64 0]) ?_ 7 _ rfl; (with_reducible repeat (first | refine blk_drewN ?_ _ | refine blk_drew ?_ | refine blk_alloc ?_ _)); refine blk_put (cs := #[.int .i64 0, .int .u64 0, .string (⟨#[]⟩ : ByteArray), .int .i64 0, .int .u64 0, .int .u64 0, .int .u64 0, .int .u64 0, .int .u64 0, .int .u64 0, .int .u64 0]) ?_ 6 _ rfl; (with_reducible repeat (first | refine blk_drewN ?_ _ | refine blk_drew ?_ | refine blk_alloc ?_ _)); refine blk_put (cs := #[.int .i64 0, .int .u64 0, .string (⟨#[]⟩ : ByteArray), .int .i64 0, .int .u64 0, .int .u64 0, .int .u64 0, .int .u64 0, .int .u64 0, .int .u64 0, .int .u64 0]) ?_ 5 _ rfl; (with_reducible repeat (first | refine blk_drewN ?_ _ | refine blk_drew ?_ | refine blk_alloc ?_ _)); refine blk_put (cs := #[.int .i64 0, .int .u64 0, .string (⟨#[]⟩ : ByteArray), .int .i64 0, .int .u64 0, .int .u64 0, .int .u64 0, .int .u64 0, .int .u64 0, .int .u64 0, .int .u64 0]) ?_ 4 _ rfl; (with_reducible repeat (first | refine blk_drewN ?_ _ | refine blk_drew ?_ | refine blk_alloc ?_ _)); refine blk_put (cs := #[.int .i64 0, .int .u64 0, .string (⟨#[]⟩ : ByteArray), .int .i64 0, .int .u64 0, .int .u64 0, .int .u64 0, .int .u64 0, .int .u64 0, .int .u64 0, .int .u64 0]) ?_ 3 _ rfl; (with_reducible repeat (first | refine blk_drewN ?_ _ | refine blk_drew ?_ | refine blk_alloc ?_ _)); refine blk_put (cs := #[.int .i64 0, .int .u64 0, .string (⟨#[]⟩ : ByteArray), .int .i64 0, .int .u64 0, .int .u64 0, .int .u64 0, .int .u64 0, .int .u64 0, .int .u64 0, .int .u64 0]) ?_ 2 _ rfl; (with_reducible repeat (first | refine blk_drewN ?_ _ | refine blk_drew ?_ | refine blk_alloc ?_ _)); refine blk_put (cs := #[.int .i64 0, .int .u64 0, .string (⟨#[]⟩ : ByteArray), .int .i64 0, .int .u64 0, .int .u64 0, .int .u64 0, .int .u64 0, .int .u64 0, .int .u64 0, .int .u64 0]) ?_ 1 _ rfl; (with_reducible repeat (first | refine blk_drewN ?_ _ | refine blk_drew ?_ | refine blk_alloc ?_ _)); refine blk_put (cs := #[.int .i64 0, .int .u64 0, .string (⟨#[]⟩ : ByteArray), .int .i64 0, .int .u64 0, .int .u64 0, .int .u64 0, .int .u64 0, .int .u64 0, .int .u64 0, .int .u64 0]) ?_ 0 _ rfl; (with_reducible repeat (first | refine blk_drewN ?_ _ | refine blk_drew ?_ | refine blk_alloc ?_ _)); exact BK378.out) Tryd.underlying32 rfl (by kernel_rfl)) rfl ?_
                    exact ⟨re, by repeat (first | (with_reducible first | exact HB.out | apply below_alloc | apply pw_below_drewN | apply below_drew1 | refine below_set ?_ (IsS99.ge HI379.out) | refine below_set ?_ GE378.out | refine below_set ?_ GE383.out) | exact HB.out)⟩
                · rw [if_neg c60] at H
                  have c60b0 : (x380001_20 == (l0.length : Int)) = false := beq_eq_false_iff_ne.mpr c60
                  have c60b1 : (x380001_20 != (l0.length : Int)) = true := bne_iff_ne.mpr c60
                  simp only [Option.some.injEq, Prod.mk.injEq] at H
                  obtain ⟨rfl, rfl, rfl, rfl, rfl, rfl, rfl, rfl, rfl, rfl, rfl, rfl⟩ := H
                  obtain ⟨ASz79_0, cSz79_0, HGz79, hgz79, ⟨HSz79_0, HCsz79_0⟩⟩ := HI379.out
                  have hcz79_0 := cellS99_0 HGz79
                  have hcz79_1 := cellS99_1 HGz79
                  have hcz79_2 := cellS99_2 HGz79
                  have hfz79_1 := blk_frozen HGz79 1
                  have hfz79_2 := blk_frozen HGz79 2
                  clear HGz79 hgz79
                  have hnb80 := NB383_378.out
                  have hnc80 := NB378_383.out
                  have hnb81 := NB383_379.out
                  have hnc81 := NB379_383.out
                  obtain ⟨hcz82_0, hcz82_1, hcz82_2, hcz82_3, hcz82_4, hcz82_5, hcz82_6, hcz82_7, hcz82_8, hcz82_9, hcz82_10, hfz82_0, hfz82_1, hfz82_2, hfz82_3, hfz82_4, hfz82_5, hfz82_6, hfz82_7, hfz82_8, hfz82_9, hfz82_10⟩ := bc11 BK383
                  go_wp2_with (first | ((with_reducible refine gate_callee (f := 31) rfl ?_); refine gm (some 72) Tryd.func31 #[.agg #[.int .i64 (wrap64 (t380)), .int .u64 t384, .string t387, .int .i64 x384003_20, .int .u64 x384004_20, .int .u64 x384005_20, .int .u64 x384006_20, .int .u64 x384007_20, .int .u64 x384008_20, .int .u64 x384009_20, .int .u64 x384010_20]] (turnstileref11_Valid.calls kj20 (wrap64 (t380)) t384 t387 x384003_20 x384004_20 x384005_20 x384006_20 x384007_20 x384008_20 x384009_20 x384010_20 t413 _ A59.out) ?_; intro w83 hb; have n0_ := bb BK378 hb; have n1_ := bb BK383 hb; have n2_ := Aside0.mk (IsS99.below (by repeat (first | (with_reducible first | exact HI379.out | apply IsS99.alloc | apply IsS99.drewN | apply IsS99.drew | apply IsS99.set_1 | apply IsS99.set_2 | refine IsS99.far ?_ NB379_378.out _ | refine IsS99.far ?_ NB379_383.out _) | exact HI379.out)) hb); have n3_ := Aside0.mk (below_step (by repeat (first | (with_reducible first | exact HB.out | apply below_alloc | apply pw_below_drewN | apply below_drew1 | refine below_set ?_ (IsS99.ge HI379.out) | refine below_set ?_ GE378.out | refine below_set ?_ GE383.out) | exact HB.out)) hb); clear BK378; clear BK383; clear HI379; clear HB; have BK378 := n0_; have BK383 := n1_; have HI379 := n2_; have HB := n3_; clear n0_ n1_ n2_ n3_; (try clear hb); (try clear hb2); (try clear hk); (try clear hi); obtain ⟨ASz84_0, cSz84_0, HGz84, hgz84, ⟨HSz84_0, HCsz84_0⟩⟩ := HI379.out; have hcz84_0 := cellS99_0 HGz84; have hcz84_1 := cellS99_1 HGz84; have hcz84_2 := cellS99_2 HGz84; have hfz84_1 := blk_frozen HGz84 1; have hfz84_2 := blk_frozen HGz84 2; clear HGz84 hgz84; have hnb85 := NB378_379.out; have hnc85 := NB379_378.out; obtain ⟨hcz86_0, hcz86_1, hcz86_2, hcz86_3, hcz86_4, hcz86_5, hcz86_6, hcz86_7, hcz86_8, hcz86_9, hcz86_10, hfz86_0, hfz86_1, hfz86_2, hfz86_3, hfz86_4, hfz86_5, hfz86_6, hfz86_7, hfz86_8, hfz86_9, hfz86_10⟩ := bc11 BK378))
                  refine bodyPost_ret (results_ct rfl _ _ gb378 32 #[.int .i64 0, .int .u64 0, .string (⟨#[]⟩ : ByteArray), .int .i64 0, .int .u64 0, .int .u64 0, .int .u64 0, .int .u64 0, .int .u64 0, .int .u64 0, .int .u64 0] (0, 0) _ rfl (by (with_reducible repeat (first | refine blk_drewN ?_ _ | refine blk_drew ?_ | refine blk_alloc ?_ _)); refine blk_put (cs := #[.int .i64 0, .int .u64 0, .string (⟨#[]⟩ : ByteArray), .int .i64 0, .int .u64 0, .int .u64 0, .int .u64 0, .int .u64 0, .int .u64 0, .int .u64 0, .int .u64 0]) ?_ 10 _ rfl; (with_reducible repeat (first | refine blk_drewN ?_ _ | refine blk_drew ?_ | refine blk_alloc ?_ _)); refine blk_put (cs := #[.int .i64 0, .int .u64 0, .string (⟨#[]⟩ : ByteArray), .int .i64 0, .int .u64 0, .int .u64 0, .int .u64 0, .int .u64 0, .int .u64 0, .int .u64 0, .int .u64 0]) ?_ 9 _ rfl; (with_reducible repeat (first | refine blk_drewN ?_ _ | refine blk_drew ?_ | refine blk_alloc ?_ _)); refine blk_put (cs := #[.int .i64 0, .int .u64 0, .string (⟨#[]⟩ : ByteArray), .int .i64 0, .int .u64 0, .int .u64 0, .int .u64 0, .int .u64 0, .int .u64 0, .int .u64 0, .int .u64 0]) ?_ 8 _ rfl; (with_reducible repeat (first | refine blk_drewN ?_ _ | refine blk_drew ?_ | refine blk_alloc ?_ _)); refine blk_put (cs := #[.int .i64 0, .int .u64 0, .string (⟨#[]⟩ : ByteArray), .int .i64 0, .int .u64 0, .int .u64 0, .int .u64 0, .int .u64 0, .int .u64 0, .int .u64 0, .int .u64 0]) ?_ 7 _ rfl; (with_reducible repeat (first | refine blk_drewN ?_ _ | refine blk_drew ?_ | refine blk_alloc ?_ _)); refine blk_put (cs := #[.int .i64 0, .int .u64 0, .string (⟨#[]⟩ : ByteArray), .int .i64 0, .int .u64 0, .int .u64 0, .int .u64 0, .int .u64 0, .int .u64 0, .int .u64 0, .int .u64 0]) ?_ 6 _ rfl; (with_reducible repeat (first | refine blk_drewN ?_ _ | refine blk_drew ?_ | refine blk_alloc ?_ _)); refine blk_put (cs := #[.int .i64 0, .int .u64 0, .string (⟨#[]⟩ : ByteArray), .int .i64 0, .int .u64 0, .int .u64 0, .int .u64 0, .int .u64 0, .int .u64 0, .int .u64 0, .int .u64 0]) ?_ 5 _ rfl; (with_reducible repeat (first | refine blk_drewN ?_ _ | refine blk_drew ?_ | refine blk_alloc ?_ _)); refine blk_put (cs := #[.int .i64 0, .int .u64 0, .string (⟨#[]⟩ : ByteArray), .int .i64 0, .int .u64 0, .int .u64 0, .int .u64 0, .int .u64 0, .int .u64 0, .int .u64 0, .int .u64 0]) ?_ 4 _ rfl; (with_reducible repeat (first | refine blk_drewN ?_ _ | refine blk_drew ?_ | refine blk_alloc ?_ _)); refine blk_put (cs := #[.int .i64 0, .int .u64 0, .string (⟨#[]⟩ : ByteArray), .int .i64 0, .int .u64 0, .int .u64 0, .int .u64 0, .int .u64 0, .int .u64 0, .int .u64 0, .int .u64 0]) ?_ 3 _ rfl; (with_reducible repeat (first | refine blk_drewN ?_ _ | refine blk_drew ?_ | refine blk_alloc ?_ _)); refine blk_put (cs := #[.int .i64 0, .int .u64 0, .string (⟨#[]⟩ : ByteArray), .int .i64 0, .int .u64 0, .int .u64 0, .int .u64 0, .int .u64 0, .int .u64 0, .int .u64 0, .int .u64 0]) ?_ 2 _ rfl; (with_reducible repeat (first | refine blk_drewN ?_ _ | refine blk_drew ?_ | refine blk_alloc ?_ _)); refine blk_put (cs := #[.int .i64 0, .int .u64 0, .string (⟨#[]⟩ : ByteArray), .int .i64 0, .int .u64 0, .int .u64 0, .int .u64 0, .int .u64 0, .int .u64 0, .int .u64 0, .int .u64 0]) ?_ 1 _ rfl; (with_reducible repeat (first | refine blk_drewN ?_ _ | refine blk_drew ?_ | refine blk_alloc ?_ _)); refine blk_put (cs := #[.int .i64 0, .int .u64 0, .string (⟨#[]⟩ : ByteArray), .int .i64 0, .int .u64 0, .int .u64 0, .int .u64 0, .int .u64 0, .int .u64 0, .int .u64 0, .int .u64 0]) ?_ 0 _ rfl; (with_reducible repeat (first | refine blk_drewN ?_ _ | refine blk_drew ?_ | refine blk_alloc ?_ _)); exact BK378.out) Tryd.underlying32 rfl (by kernel_rfl)) rfl ?_
                  exact ⟨re, by repeat (first | (with_reducible first | exact HB.out | apply below_alloc | apply pw_below_drewN | apply below_drew1 | refine below_set ?_ (IsS99.ge HI379.out) | refine below_set ?_ GE378.out | refine below_set ?_ GE383.out) | exact HB.out)⟩

end Go.Proofs.YtkgjepmminmjjaaDoor.E
