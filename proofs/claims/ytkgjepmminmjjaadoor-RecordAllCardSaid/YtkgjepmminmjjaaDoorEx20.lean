/- Written by the session's own program hyb.py: what functions of the program compute; Lean checks it. -/
import Derived.Test.YtkgjepmminmjjaaDoorEx0
import Derived.Test.YtkgjepmminmjjaaDoorEx15
import Derived.Test.YtkgjepmminmjjaaDoorEx18
import Derived.Test.YtkgjepmminmjjaaDoorEx19
import Derived.Test.YtkgjepmminmjjaaDoorWErr
namespace Go.Proofs.YtkgjepmminmjjaaDoor.E
open Go.RowKit Go.Proofs.YtkgjepmminmjjaaDoorW.PrintWords Go.Proofs.YtkgjepmminmjjaaDoorW.PrintLast Go.Proofs.YtkgjepmminmjjaaDoorW.PrintMore Go.Proofs.YtkgjepmminmjjaaDoorW.PrintShort
attribute [local go_sem] run_Add64 run_Sub64
attribute [local go_sem] max2_int min2_int max_two min_two max_three min_three max_four min_four   -- for this text's walks alone
set_option linter.unusedVariables false
set_option linter.unusedSimpArgs false

/-! ### record_Decode: function 18 -/
mutual
def record_Decode.j0 : Nat → Bool → List Int → Int → Int → Int → ByteArray → Int → Int → Int → Int → Int → Int → Int → Int → Option (Int × Int × ByteArray × Int × Int × Int × Int × Int × Int × Int × Int × Int)
  | 0, _, _, _, _, _, _, _, _, _, _, _, _, _, _ => none
  | k + 1, x29, x259000, x259001, x263000, x263001, x263002, x263003, x263004, x263005, x263006, x263007, x263008, x263009, x263010 => if x29 = true then (some (0, 0, (⟨#[]⟩ : ByteArray), 0, 0, 0, 0, 0, 0, 0, 0, 3)) else ((pack_Reader_U64.f x259000 x259001).bind fun bt266 => ((pack_Reader_Text.f bt266.2.1 bt266.2.2).bind fun bt269 => (if x263000 = 1 then ((pack_Reader_U8.f bt269.2.1 bt269.2.2).bind fun bt272 => ((pack_Reader_U64.f bt272.2.1 bt272.2.2).bind fun bt275 => ((pack_Reader_U64.f bt275.2.1 bt275.2.2).bind fun bt278 => (if (wrap64 (bt272.1)) = 2 then (record_Decode.j1 k bt278.2.1 bt278.2.2 x263000 bt266.1 bt269.1 (wrap64 (bt272.1)) x263004 x263005 bt275.1 bt278.1 x263008 x263009 x263010) else (record_Decode.j1 k bt278.2.1 bt278.2.2 x263000 bt266.1 bt269.1 (wrap64 (bt272.1)) bt275.1 bt278.1 x263006 x263007 x263008 x263009 x263010))))) else (if x263000 = 3 then ((pack_Reader_U64.f bt269.2.1 bt269.2.2).bind fun bt281 => ((pack_Reader_U64.f bt281.2.1 bt281.2.2).bind fun bt284 => ((pack_Reader_U64.f bt284.2.1 bt284.2.2).bind fun bt287 => (record_Decode.j1 k bt287.2.1 bt287.2.2 x263000 bt266.1 bt269.1 x263003 x263004 x263005 x263006 x263007 bt281.1 bt284.1 bt287.1)))) else (record_Decode.j1 k bt269.2.1 bt269.2.2 x263000 bt266.1 bt269.1 x263003 x263004 x263005 x263006 x263007 x263008 x263009 x263010)))))
def record_Decode.j1 : Nat → List Int → Int → Int → Int → ByteArray → Int → Int → Int → Int → Int → Int → Int → Int → Option (Int × Int × ByteArray × Int × Int × Int × Int × Int × Int × Int × Int × Int)
  | 0, _, _, _, _, _, _, _, _, _, _, _, _, _ => none
  | k + 1, x259000, x259001, x263000, x263001, x263002, x263003, x263004, x263005, x263006, x263007, x263008, x263009, x263010 => (pack_Reader_Err.f x259000 x259001).bind fun bt290 => (if 0 ≤ bt290.1 then (if bt290.1 = 0 then ((pack_Reader_Left.f bt290.2.1 bt290.2.2).bind fun bt293 => (if bt293.1 > 0 then (some (0, 0, (⟨#[]⟩ : ByteArray), 0, 0, 0, 0, 0, 0, 0, 0, 3)) else ((record_Valid.f k x263000 x263001 x263002 x263003 x263004 x263005 x263006 x263007 x263008 x263009 x263010).bind fun t296 => (if t296 = true then (some (x263000, x263001, x263002, x263003, x263004, x263005, x263006, x263007, x263008, x263009, x263010, 0)) else (some (0, 0, (⟨#[]⟩ : ByteArray), 0, 0, 0, 0, 0, 0, 0, 0, 3)))))) else (some (0, 0, (⟨#[]⟩ : ByteArray), 0, 0, 0, 0, 0, 0, 0, 0, bt290.1))) else (none))
end
def record_Decode.f (k : Nat) (l0 : List Int) : Option (Int × Int × ByteArray × Int × Int × Int × Int × Int × Int × Int × Int × Int) := (pack_NewReader.f l0).bind fun bt256 => ((pack_Reader_U8.f bt256.1 bt256.2).bind fun bt259 => ((pack_Reader_Err.f bt259.2.1 bt259.2.2).bind fun bt263 => (if 0 ≤ bt263.1 then (if bt263.1 = 0 then (if (wrap64 (bt259.1)) < 1 then (record_Decode.j0 k true bt263.2.1 bt263.2.2 (wrap64 (bt259.1)) 0 (⟨#[]⟩ : ByteArray) 0 0 0 0 0 0 0 0) else (record_Decode.j0 k (decide ((wrap64 (bt259.1)) > 3)) bt263.2.1 bt263.2.2 (wrap64 (bt259.1)) 0 (⟨#[]⟩ : ByteArray) 0 0 0 0 0 0 0 0)) else (some (0, 0, (⟨#[]⟩ : ByteArray), 0, 0, 0, 0, 0, 0, 0, 0, bt263.1))) else (none))))
theorem record_Decode.mono_l : ∀ k, (∀ y0 y1 y2 y3 y4 y5 y6 y7 y8 y9 y10 y11 y12 y13, LeO (record_Decode.j0 k y0 y1 y2 y3 y4 y5 y6 y7 y8 y9 y10 y11 y12 y13) (record_Decode.j0 (k + 1) y0 y1 y2 y3 y4 y5 y6 y7 y8 y9 y10 y11 y12 y13)) ∧ (∀ y0 y1 y2 y3 y4 y5 y6 y7 y8 y9 y10 y11 y12, LeO (record_Decode.j1 k y0 y1 y2 y3 y4 y5 y6 y7 y8 y9 y10 y11 y12) (record_Decode.j1 (k + 1) y0 y1 y2 y3 y4 y5 y6 y7 y8 y9 y10 y11 y12))
  | 0 => ⟨fun _ _ _ _ _ _ _ _ _ _ _ _ _ _ r h => by simp [record_Decode.j0] at h, fun _ _ _ _ _ _ _ _ _ _ _ _ _ r h => by simp [record_Decode.j1] at h⟩
  | k + 1 => by
    obtain ⟨ih0, ih1⟩ := record_Decode.mono_l k
    refine ⟨?_, ?_⟩
    · intro y0 y1 y2 y3 y4 y5 y6 y7 y8 y9 y10 y11 y12 y13
      unfold record_Decode.j0
      repeat' first
      | (with_reducible exact ih0 _ _ _ _ _ _ _ _ _ _ _ _ _ _)
      | (with_reducible exact ih1 _ _ _ _ _ _ _ _ _ _ _ _ _)
      | (with_reducible exact record_Valid.mono _ _ _ _ _ _ _ _ _ _ _ _)
      | (with_reducible exact LeO.refl _)
      | (with_reducible exact LeO.none _)
      | (with_reducible refine LeO.ite ?_ ?_)
      | (with_reducible refine LeO.bind ?_ (fun _ => ?_))
      | exact ih0 _ _ _ _ _ _ _ _ _ _ _ _ _ _
      | exact ih1 _ _ _ _ _ _ _ _ _ _ _ _ _
      | exact record_Valid.mono _ _ _ _ _ _ _ _ _ _ _ _
      | exact LeO.none _
      | refine LeO.ite ?_ ?_
      | refine LeO.bind ?_ (fun _ => ?_)
    · intro y0 y1 y2 y3 y4 y5 y6 y7 y8 y9 y10 y11 y12
      unfold record_Decode.j1
      repeat' first
      | (with_reducible exact ih0 _ _ _ _ _ _ _ _ _ _ _ _ _ _)
      | (with_reducible exact ih1 _ _ _ _ _ _ _ _ _ _ _ _ _)
      | (with_reducible exact record_Valid.mono _ _ _ _ _ _ _ _ _ _ _ _)
      | (with_reducible exact LeO.refl _)
      | (with_reducible exact LeO.none _)
      | (with_reducible refine LeO.ite ?_ ?_)
      | (with_reducible refine LeO.bind ?_ (fun _ => ?_))
      | exact ih0 _ _ _ _ _ _ _ _ _ _ _ _ _ _
      | exact ih1 _ _ _ _ _ _ _ _ _ _ _ _ _
      | exact record_Valid.mono _ _ _ _ _ _ _ _ _ _ _ _
      | exact LeO.none _
      | refine LeO.ite ?_ ?_
      | refine LeO.bind ?_ (fun _ => ?_)
theorem record_Decode.mono : ∀ a0 k, LeO (record_Decode.f k a0) (record_Decode.f (k + 1) a0) := by
  intro a0 k
  obtain ⟨ih0, ih1⟩ := record_Decode.mono_l k
  unfold record_Decode.f
  repeat' first
      | (with_reducible exact ih0 _ _ _ _ _ _ _ _ _ _ _ _ _ _)
      | (with_reducible exact ih1 _ _ _ _ _ _ _ _ _ _ _ _ _)
      | (with_reducible exact record_Valid.mono _ _ _ _ _ _ _ _ _ _ _ _)
      | (with_reducible exact LeO.refl _)
      | (with_reducible exact LeO.none _)
      | (with_reducible refine LeO.ite ?_ ?_)
      | (with_reducible refine LeO.bind ?_ (fun _ => ?_))
      | exact ih0 _ _ _ _ _ _ _ _ _ _ _ _ _ _
      | exact ih1 _ _ _ _ _ _ _ _ _ _ _ _ _
      | exact record_Valid.mono _ _ _ _ _ _ _ _ _ _ _ _
      | exact LeO.none _
      | refine LeO.ite ?_ ?_
      | refine LeO.bind ?_ (fun _ => ?_)
set_option maxHeartbeats 8000000 in
set_option maxRecDepth 100000 in
theorem record_Decode.calls (k : Nat) [Errs] (A0 : Option Addr) (c0 : Nat) (l0 : List Int) (r1 : Int) (r2 : Int) (r3 : ByteArray) (r4 : Int) (r5 : Int) (r6 : Int) (r7 : Int) (r8 : Int) (r9 : Int) (r10 : Int) (r11 : Int) (r12 : Int) (w : World) (hE : Sent w) (hr0 : Kd.C (Kd.int .u8) w A0 l0.length l0) (hc0 : l0.length ≤ c0) (h : record_Decode.f k l0 = some (r1, r2, r3, r4, r5, r6, r7, r8, r9, r10, r11, r12)) :
    Calls Tryd.prog 18 #[.slice A0 l0.length c0] w fun e w' => e = .returned (.tuple #[.agg #[.int .i64 r1, .int .u64 r2, .string r3, .int .i64 r4, .int .u64 r5, .int .u64 r6, .int .u64 r7, .int .u64 r8, .int .u64 r9, .int .u64 r10, .int .u64 r11], errW r12]) ∧ Below w.heap.size w w' := by
  have hu32 := Tryd.underlying32
  have hu37 := Tryd.underlying37
  have HR0 := Aside0.mk hr0
  have HC0 := Aside0.mk hc0
  clear hr0 hc0
  have HERR := Aside0.mk hE
  clear hE
  have HB := Aside0.mk (Below.refl w.heap.size w)
  have H : ((pack_NewReader.f l0).bind fun bt256 => ((pack_Reader_U8.f bt256.1 bt256.2).bind fun bt259 => ((pack_Reader_Err.f bt259.2.1 bt259.2.2).bind fun bt263 => (if 0 ≤ bt263.1 then (if bt263.1 = 0 then (if (wrap64 (bt259.1)) < 1 then (record_Decode.j0 k true bt263.2.1 bt263.2.2 (wrap64 (bt259.1)) 0 (⟨#[]⟩ : ByteArray) 0 0 0 0 0 0 0 0) else (record_Decode.j0 k (decide ((wrap64 (bt259.1)) > 3)) bt263.2.1 bt263.2.2 (wrap64 (bt259.1)) 0 (⟨#[]⟩ : ByteArray) 0 0 0 0 0 0 0 0)) else (some (0, 0, (⟨#[]⟩ : ByteArray), 0, 0, 0, 0, 0, 0, 0, 0, bt263.1))) else (none))))) = some (r1, r2, r3, r4, r5, r6, r7, r8, r9, r10, r11, r12) := h
  clear h
  replace H := Option.bind_eq_some_iff.mp H
  obtain ⟨⟨t256, t257⟩, A20, H⟩ := H
  replace H : ((pack_Reader_U8.f t256 t257).bind fun bt259 => ((pack_Reader_Err.f bt259.2.1 bt259.2.2).bind fun bt263 => (if 0 ≤ bt263.1 then (if bt263.1 = 0 then (if (wrap64 (bt259.1)) < 1 then (record_Decode.j0 k true bt263.2.1 bt263.2.2 (wrap64 (bt259.1)) 0 (⟨#[]⟩ : ByteArray) 0 0 0 0 0 0 0 0) else (record_Decode.j0 k (decide ((wrap64 (bt259.1)) > 3)) bt263.2.1 bt263.2.2 (wrap64 (bt259.1)) 0 (⟨#[]⟩ : ByteArray) 0 0 0 0 0 0 0 0)) else (some (0, 0, (⟨#[]⟩ : ByteArray), 0, 0, 0, 0, 0, 0, 0, 0, bt263.1))) else (none)))) = some (r1, r2, r3, r4, r5, r6, r7, r8, r9, r10, r11, r12) := H
  have A2 := Aside0.mk A20
  clear A20
  replace H := Option.bind_eq_some_iff.mp H
  obtain ⟨⟨t259, t260, t261⟩, A30, H⟩ := H
  replace H : ((pack_Reader_Err.f t260 t261).bind fun bt263 => (if 0 ≤ bt263.1 then (if bt263.1 = 0 then (if (wrap64 (t259)) < 1 then (record_Decode.j0 k true bt263.2.1 bt263.2.2 (wrap64 (t259)) 0 (⟨#[]⟩ : ByteArray) 0 0 0 0 0 0 0 0) else (record_Decode.j0 k (decide ((wrap64 (t259)) > 3)) bt263.2.1 bt263.2.2 (wrap64 (t259)) 0 (⟨#[]⟩ : ByteArray) 0 0 0 0 0 0 0 0)) else (some (0, 0, (⟨#[]⟩ : ByteArray), 0, 0, 0, 0, 0, 0, 0, 0, bt263.1))) else (none))) = some (r1, r2, r3, r4, r5, r6, r7, r8, r9, r10, r11, r12) := H
  have A3 := Aside0.mk A30
  clear A30
  replace H := Option.bind_eq_some_iff.mp H
  obtain ⟨⟨t263, t264, t265⟩, A40, H⟩ := H
  replace H : (if 0 ≤ t263 then (if t263 = 0 then (if (wrap64 (t259)) < 1 then (record_Decode.j0 k true t264 t265 (wrap64 (t259)) 0 (⟨#[]⟩ : ByteArray) 0 0 0 0 0 0 0 0) else (record_Decode.j0 k (decide ((wrap64 (t259)) > 3)) t264 t265 (wrap64 (t259)) 0 (⟨#[]⟩ : ByteArray) 0 0 0 0 0 0 0 0)) else (some (0, 0, (⟨#[]⟩ : ByteArray), 0, 0, 0, 0, 0, 0, 0, 0, t263))) else (none)) = some (r1, r2, r3, r4, r5, r6, r7, r8, r9, r10, r11, r12) := H
  have A4 := Aside0.mk A40
  clear A40
  by_cases c5 : 0 ≤ t263
  · rw [if_pos c5] at H
    have c5b0 := eq_true c5
    have c5b1 : decide (0 ≤ t263) = true := decide_eq_true c5
    clear c5
    by_cases c6 : t263 = 0
    · rw [if_pos c6] at H
      have c6b0 : (t263 == 0) = true := beq_iff_eq.mpr c6
      have c6b1 : (t263 != 0) = false := bne_eq_false_iff_eq.mpr c6
      clear c6
      have HC7 := Aside0.mk H
      clear H
      go_enter Tryd.func18, Tryd.ntmps18
      go_upto_region 6 with (first | ((with_reducible refine gate_dst (N := 2) rfl ?_); refine bx 2 #[.int .i64 0, .int .u64 0, .string (⟨#[]⟩ : ByteArray), .int .i64 0, .int .u64 0, .int .u64 0, .int .u64 0, .int .u64 0, .int .u64 0, .int .u64 0, .int .u64 0] 32 ?_; intro gb255 hg w8 hbox hb; have n0_ := bs HB hb; have n1_ := Aside0.mk (hbox); have n2_ := sz HB hg; have n3_ := sz HB hg; clear HB; have HB := n0_; have BK255 := n1_; have GW255 := n2_; have GE255 := n3_; clear n0_ n1_ n2_ n3_; clear hb hbox hg) | ((with_reducible refine gate_callee (f := 38) rfl ?_); refine gl (some 11) Tryd.func38 #[.slice A0 l0.length c0] ?_; (with_reducible refine (pack_NewReader.calls _ _ l0 t256 t257 w _ ?side1 ?side2 ?side3 A2.out).mono ?_); (case side1 => repeat (first | (with_reducible first | exact HB.out | apply below_alloc | apply pw_below_drewN | apply below_drew1 | refine below_set ?_ GE255.out) | exact HB.out)); (case side2 => exact HR0.out); (case side3 => exact HC0.out); rintro e w9 ⟨g258, rfl, hi, hb, hb2⟩; refine ⟨_, rfl, ?_⟩; have n0_ := Aside0.mk (blk_below (g := gb255) (o := .cells #[.int .i64 0, .int .u64 0, .string (⟨#[]⟩ : ByteArray), .int .i64 0, .int .u64 0, .int .u64 0, .int .u64 0, .int .u64 0, .int .u64 0, .int .u64 0, .int .u64 0] 32 (0, 0)) (bk BK255) hb2); have n1_ := Aside0.mk (hb); have n2_ := Aside0.mk (hi); have n3_ := Aside0.mk (IsS114.ne_blk hi (blk_below (g := gb255) (o := .cells #[.int .i64 0, .int .u64 0, .string (⟨#[]⟩ : ByteArray), .int .i64 0, .int .u64 0, .int .u64 0, .int .u64 0, .int .u64 0, .int .u64 0, .int .u64 0, .int .u64 0] 32 (0, 0)) (bk BK255) hb2) (by decide)); have n4_ := Aside0.mk (Ne.symm (IsS114.ne_blk hi (blk_below (g := gb255) (o := .cells #[.int .i64 0, .int .u64 0, .string (⟨#[]⟩ : ByteArray), .int .i64 0, .int .u64 0, .int .u64 0, .int .u64 0, .int .u64 0, .int .u64 0, .int .u64 0, .int .u64 0] 32 (0, 0)) (bk BK255) hb2) (by decide))); clear BK255; clear HB; have BK255 := n0_; have HB := n1_; have HI258 := n2_; have NB258_255 := n3_; have NB255_258 := n4_; clear n0_ n1_ n2_ n3_ n4_; (try clear hb); (try clear hb2); (try clear hk); (try clear hi)) | ((with_reducible refine gate_callee (f := 39) rfl ?_); refine gl (some 13) Tryd.func39 #[.pointer (some ⟨g258, 0, none⟩)] ?_; (with_reducible refine (pack_Reader_U8.calls g258 t256 t257 t259 t260 t261 w _ ?side3 ?side1 ?side2 A3.out).mono ?_); (case side1 => repeat (first | (with_reducible first | exact HI258.out | apply IsS114.alloc | apply IsS114.drewN | apply IsS114.drew | apply IsS114.set_0 | apply IsS114.set_1 | refine IsS114.far ?_ NB258_255.out (tb BK255) (by decide) _) | exact HI258.out)); (case side2 => repeat (first | (with_reducible first | exact HB.out | apply below_alloc | apply pw_below_drewN | apply below_drew1 | refine below_set ?_ (IsS114.ge HI258.out) | refine below_set ?_ GE255.out) | exact HB.out)); (case side3 => exact HERR.out); rintro e w10 ⟨rfl, hi, hb, hk⟩; refine ⟨_, rfl, ?_⟩; have n0_ := Aside0.mk (KeepBut.blk hk (g' := gb255) (o := .cells #[.int .i64 0, .int .u64 0, .string (⟨#[]⟩ : ByteArray), .int .i64 0, .int .u64 0, .int .u64 0, .int .u64 0, .int .u64 0, .int .u64 0, .int .u64 0, .int .u64 0] 32 (0, 0)) (bk BK255) NB255_258.out (by simp)); have n1_ := Aside0.mk (hb); have n2_ := Aside0.mk (hi); clear BK255; clear HB; clear HI258; have BK255 := n0_; have HB := n1_; have HI258 := n2_; clear n0_ n1_ n2_; (try clear hb); (try clear hb2); (try clear hk); (try clear hi)) | ((with_reducible refine gate_dst (N := 5) rfl ?_); refine bx 5 #[.int .i64 0, .int .u64 0, .string (⟨#[]⟩ : ByteArray), .int .i64 0, .int .u64 0, .int .u64 0, .int .u64 0, .int .u64 0, .int .u64 0, .int .u64 0, .int .u64 0] 32 ?_; intro gb262 hg w11 hbox hb; have n0_ := bb BK255 hb; have n1_ := Aside0.mk (IsS114.below (by repeat (first | (with_reducible first | exact HI258.out | apply IsS114.alloc | apply IsS114.drewN | apply IsS114.drew | apply IsS114.set_0 | apply IsS114.set_1 | refine IsS114.far ?_ NB258_255.out (tb BK255) (by decide) _) | exact HI258.out)) hb); have n2_ := Aside0.mk (below_step (by repeat (first | (with_reducible first | exact HB.out | apply below_alloc | apply pw_below_drewN | apply below_drew1 | refine below_set ?_ (IsS114.ge HI258.out) | refine below_set ?_ GE255.out) | exact HB.out)) hb); have n3_ := Aside0.mk (hbox); have n4_ := Aside0.mk ((by rw [hg]; exact (below_size (by repeat (first | (with_reducible first | exact HB.out | apply below_alloc | apply pw_below_drewN | apply below_drew1 | refine below_set ?_ (IsS114.ge HI258.out) | refine below_set ?_ GE255.out) | exact HB.out))) : w.heap.size ≤ gb262)); have n5_ := Aside0.mk ((by rw [hg]; exact (below_size (by repeat (first | (with_reducible first | exact HB.out | apply below_alloc | apply pw_below_drewN | apply below_drew1 | refine below_set ?_ (IsS114.ge HI258.out) | refine below_set ?_ GE255.out) | exact HB.out))) : w.heap.size ≤ gb262)); have n6_ := nl BK255 hg; have n7_ := nr BK255 hg; have n8_ := Aside0.mk ((by rw [hg]; exact Nat.ne_of_lt (IsS114.lt (show IsS114 w _ g258 t260 t261 from by repeat (first | (with_reducible first | exact HI258.out | apply IsS114.alloc | apply IsS114.drewN | apply IsS114.drew | apply IsS114.set_0 | apply IsS114.set_1 | refine IsS114.far ?_ NB258_255.out (tb BK255) (by decide) _) | exact HI258.out))) : g258 ≠ gb262)); have n9_ := Aside0.mk ((by rw [hg]; exact Nat.ne_of_gt (IsS114.lt (show IsS114 w _ g258 t260 t261 from by repeat (first | (with_reducible first | exact HI258.out | apply IsS114.alloc | apply IsS114.drewN | apply IsS114.drew | apply IsS114.set_0 | apply IsS114.set_1 | refine IsS114.far ?_ NB258_255.out (tb BK255) (by decide) _) | exact HI258.out))) : gb262 ≠ g258)); clear BK255; clear HI258; clear HB; have BK255 := n0_; have HI258 := n1_; have HB := n2_; have BK262 := n3_; have GW262 := n4_; have GE262 := n5_; have NB255_262 := n6_; have NB262_255 := n7_; have NB258_262 := n8_; have NB262_258 := n9_; clear n0_ n1_ n2_ n3_ n4_ n5_ n6_ n7_ n8_ n9_; clear hb hbox hg; have hnb12 := NB262_255.out; have hnc12 := NB255_262.out; have hnb13 := NB262_258.out; have hnc13 := NB258_262.out; obtain ⟨hcz14_0, hcz14_1, hcz14_2, hcz14_3, hcz14_4, hcz14_5, hcz14_6, hcz14_7, hcz14_8, hcz14_9, hcz14_10, hfz14_0, hfz14_1, hfz14_2, hfz14_3, hfz14_4, hfz14_5, hfz14_6, hfz14_7, hfz14_8, hfz14_9, hfz14_10⟩ := bc11 BK262) | ((with_reducible refine gate_callee (f := 40) rfl ?_); refine gl (some 17) Tryd.func40 #[.pointer (some ⟨g258, 0, none⟩)] ?_; (with_reducible refine (pack_Reader_Err.calls g258 t260 t261 t263 t264 t265 w _ ?side3 ?side1 ?side2 A4.out).mono ?_); (case side1 => repeat (first | (with_reducible first | exact HI258.out | apply IsS114.alloc | apply IsS114.drewN | apply IsS114.drew | apply IsS114.set_0 | apply IsS114.set_1 | refine IsS114.far ?_ NB258_255.out (tb BK255) (by decide) _ | refine IsS114.far ?_ NB258_262.out (tb BK262) (by decide) _) | exact HI258.out)); (case side2 => repeat (first | (with_reducible first | exact HB.out | apply below_alloc | apply pw_below_drewN | apply below_drew1 | refine below_set ?_ (IsS114.ge HI258.out) | refine below_set ?_ GE255.out | refine below_set ?_ GE262.out) | exact HB.out)); (case side3 => exact HERR.out); rintro e w15 ⟨rfl, hi, hb, hk⟩; refine ⟨_, rfl, ?_⟩; have n0_ := Aside0.mk (KeepBut.blk hk (g' := gb255) (o := .cells #[.int .i64 0, .int .u64 0, .string (⟨#[]⟩ : ByteArray), .int .i64 0, .int .u64 0, .int .u64 0, .int .u64 0, .int .u64 0, .int .u64 0, .int .u64 0, .int .u64 0] 32 (0, 0)) (bk BK255) NB255_258.out (by simp)); have n1_ := Aside0.mk (KeepBut.blk hk (g' := gb262) (o := .cells #[.int .i64 (wrap64 (t259)), .int .u64 0, .string (⟨#[]⟩ : ByteArray), .int .i64 0, .int .u64 0, .int .u64 0, .int .u64 0, .int .u64 0, .int .u64 0, .int .u64 0, .int .u64 0] 32 (0, 0)) (by (with_reducible repeat (first | refine blk_drewN ?_ _ | refine blk_drew ?_ | refine blk_alloc ?_ _)); refine blk_put (cs := #[.int .i64 (wrap64 (t259)), .int .u64 0, .string (⟨#[]⟩ : ByteArray), .int .i64 0, .int .u64 0, .int .u64 0, .int .u64 0, .int .u64 0, .int .u64 0, .int .u64 0, .int .u64 0]) ?_ 10 _ rfl; (with_reducible repeat (first | refine blk_drewN ?_ _ | refine blk_drew ?_ | refine blk_alloc ?_ _)); refine blk_put (cs := #[.int .i64 (wrap64 (t259)), .int .u64 0, .string (⟨#[]⟩ : ByteArray), .int .i64 0, .int .u64 0, .int .u64 0, .int .u64 0, .int .u64 0, .int .u64 0, .int .u64 0, .int .u64 0]) ?_ 9 _ rfl; (with_reducible repeat (first | refine blk_drewN ?_ _ | refine blk_drew ?_ | refine blk_alloc ?_ _)); refine blk_put (cs := #[.int .i64 (wrap64 (t259)), .int .u64 0, .string (⟨#[]⟩ : ByteArray), .int .i64 0, .int .u64 0, .int .u64 0, .int .u64 0, .int .u64 0, .int .u64 0, .int .u64 0, .int .u64 0]) ?_ 8 _ rfl; (with_reducible repeat (first | refine blk_drewN ?_ _ | refine blk_drew ?_ | refine blk_alloc ?_ _)); refine blk_put (cs := #[.int .i64 (wrap64 (t259)), .int .u64 0, .string (⟨#[]⟩ : ByteArray), .int .i64 0, .int .u64 0, .int .u64 0, .int .u64 0, .int .u64 0, .int .u64 0, .int .u64 0, .int .u64 0]) ?_ 7 _ rfl; (with_reducible repeat (first | refine blk_drewN ?_ _ | refine blk_drew ?_ | refine blk_alloc ?_ _)); refine blk_put (cs := #[.int .i64 (wrap64 (t259)), .int .u64 0, .string (⟨#[]⟩ : ByteArray), .int .i64 0, .int .u64 0, .int .u64 0, .int .u64 0, .int .u64 0, .int .u64 0, .int .u64 0, .int .u64 0]) ?_ 6 _ rfl; (with_reducible repeat (first | refine blk_drewN ?_ _ | refine blk_drew ?_ | refine blk_alloc ?_ _)); refine blk_put (cs := #[.int .i64 (wrap64 (t259)), .int .u64 0, .string (⟨#[]⟩ : ByteArray), .int .i64 0, .int .u64 0, .int .u64 0, .int .u64 0, .int .u64 0, .int .u64 0, .int .u64 0, .int .u64 0]) ?_ 5 _ rfl; (with_reducible repeat (first | refine blk_drewN ?_ _ | refine blk_drew ?_ | refine blk_alloc ?_ _)); refine blk_put (cs := #[.int .i64 (wrap64 (t259)), .int .u64 0, .string (⟨#[]⟩ : ByteArray), .int .i64 0, .int .u64 0, .int .u64 0, .int .u64 0, .int .u64 0, .int .u64 0, .int .u64 0, .int .u64 0]) ?_ 4 _ rfl; (with_reducible repeat (first | refine blk_drewN ?_ _ | refine blk_drew ?_ | refine blk_alloc ?_ _)); refine blk_put (cs := #[.int .i64 (wrap64 (t259)), .int .u64 0, .string (⟨#[]⟩ : ByteArray), .int .i64 0, .int .u64 0, .int .u64 0, .int .u64 0, .int .u64 0, .int .u64 0, .int .u64 0, .int .u64 0]) ?_ 3 _ rfl; (with_reducible repeat (first | refine blk_drewN ?_ _ | refine blk_drew ?_ | refine blk_alloc ?_ _)); refine blk_put (cs := #[.int .i64 (wrap64 (t259)), .int .u64 0, .string (⟨#[]⟩ : ByteArray), .int .i64 0, .int .u64 0, .int .u64 0, .int .u64 0, .int .u64 0, .int .u64 0, .int .u64 0, .int .u64 0]) ?_ 2 _ rfl; (with_reducible repeat (first | refine blk_drewN ?_ _ | refine blk_drew ?_ | refine blk_alloc ?_ _)); refine blk_put (cs := #[.int .i64 (wrap64 (t259)), .int .u64 0, .string (⟨#[]⟩ : ByteArray), .int .i64 0, .int .u64 0, .int .u64 0, .int .u64 0, .int .u64 0, .int .u64 0, .int .u64 0, .int .u64 0]) ?_ 1 _ rfl; (with_reducible repeat (first | refine blk_drewN ?_ _ | refine blk_drew ?_ | refine blk_alloc ?_ _)); refine blk_put (cs := #[.int .i64 0, .int .u64 0, .string (⟨#[]⟩ : ByteArray), .int .i64 0, .int .u64 0, .int .u64 0, .int .u64 0, .int .u64 0, .int .u64 0, .int .u64 0, .int .u64 0]) ?_ 0 _ rfl; (with_reducible repeat (first | refine blk_drewN ?_ _ | refine blk_drew ?_ | refine blk_alloc ?_ _)); exact BK262.out) NB262_258.out (by simp)); have n2_ := Aside0.mk (hb); have n3_ := Aside0.mk (hi); clear BK255; clear BK262; clear HB; clear HI258; have BK255 := n0_; have BK262 := n1_; have HB := n2_; have HI258 := n3_; clear n0_ n1_ n2_ n3_; (try clear hb); (try clear hb2); (try clear hk); (try clear hi)) | ((with_reducible refine gate_dst (N := 19) rfl ?_); refine nen_err t263 (b := (t263 != 0)) ?_ rfl (of_decide_eq_true (by first | (with_reducible assumption) | assumption))))
      (try simp only [Act.put, List.setIfInBounds_toArray, List.set_cons_zero, List.set_cons_succ])
      go_cut [29] (fun v29 wc => ∃ (kq : Nat) (x29_6 : Bool), v29 = .bool x29_6 ∧ Aside0 (record_Decode.j0 kq x29_6 t264 t265 (wrap64 (t259)) 0 (⟨#[]⟩ : ByteArray) 0 0 0 0 0 0 0 0 = some (r1, r2, r3, r4, r5, r6, r7, r8, r9, r10, r11, r12)) ∧ Aside0 (kq ≤ k) ∧ Aside0 (wc.heap[gb255]? = some (.cells #[.int .i64 0, .int .u64 0, .string (⟨#[]⟩ : ByteArray), .int .i64 0, .int .u64 0, .int .u64 0, .int .u64 0, .int .u64 0, .int .u64 0, .int .u64 0, .int .u64 0] 32 (0, 0))) ∧ Aside0 (wc.heap[gb262]? = some (.cells #[.int .i64 (wrap64 (t259)), .int .u64 0, .string (⟨#[]⟩ : ByteArray), .int .i64 0, .int .u64 0, .int .u64 0, .int .u64 0, .int .u64 0, .int .u64 0, .int .u64 0, .int .u64 0] 32 (0, 0))) ∧ Aside0 (IsS114 w wc g258 t264 t265) ∧ Aside0 (Below w.heap.size w wc))
      case first =>
        have H := HC7.out
        clear HC7
        by_cases c16 : (wrap64 (t259)) < 1
        · rw [if_pos c16] at H
          have c16b0 : decide ((wrap64 (t259)) < 1) = true := decide_eq_true c16
          clear c16
          (first | rw [c16b0] | (simp only [i64_w, i32_w]; rw [c16b0]) | skip)
          have H' := Aside0.mk H
          clear H
          have hnb17 := NB262_255.out
          have hnc17 := NB255_262.out
          have hnb18 := NB262_258.out
          have hnc18 := NB258_262.out
          obtain ⟨hcz19_0, hcz19_1, hcz19_2, hcz19_3, hcz19_4, hcz19_5, hcz19_6, hcz19_7, hcz19_8, hcz19_9, hcz19_10, hfz19_0, hfz19_1, hfz19_2, hfz19_3, hfz19_4, hfz19_5, hfz19_6, hfz19_7, hfz19_8, hfz19_9, hfz19_10⟩ := bc11 BK262
          go_wp2
          go_meet
          case rel => exact ⟨_, (true), rs, H', ⟨by first | omega | exact Nat.le_refl _⟩, ⟨bk BK255⟩, ⟨bk BK262⟩, ⟨by repeat (first | (with_reducible first | exact HI258.out | apply IsS114.alloc | apply IsS114.drewN | apply IsS114.drew | apply IsS114.set_0 | apply IsS114.set_1 | refine IsS114.far ?_ NB258_255.out (tb BK255) (by decide) _ | refine IsS114.far ?_ NB258_262.out (tb BK262) (by decide) _) | exact HI258.out)⟩, ⟨by repeat (first | (with_reducible first | exact HB.out | apply below_alloc | apply pw_below_drewN | apply below_drew1 | refine below_set ?_ (IsS114.ge HI258.out) | refine below_set ?_ GE255.out | refine below_set ?_ GE262.out) | exact HB.out)⟩⟩
        · rw [if_neg c16] at H
          have c16b0 : decide ((wrap64 (t259)) < 1) = false := decide_eq_false c16
          clear c16
          (first | rw [c16b0] | (simp only [i64_w, i32_w]; rw [c16b0]) | skip)
          have H' := Aside0.mk H
          clear H
          have hnb20 := NB262_255.out
          have hnc20 := NB255_262.out
          have hnb21 := NB262_258.out
          have hnc21 := NB258_262.out
          obtain ⟨hcz22_0, hcz22_1, hcz22_2, hcz22_3, hcz22_4, hcz22_5, hcz22_6, hcz22_7, hcz22_8, hcz22_9, hcz22_10, hfz22_0, hfz22_1, hfz22_2, hfz22_3, hfz22_4, hfz22_5, hfz22_6, hfz22_7, hfz22_8, hfz22_9, hfz22_10⟩ := bc11 BK262
          go_wp2
          go_meet
          case rel => exact ⟨_, (decide ((wrap64 (t259)) > 3)), rs, H', ⟨by first | omega | exact Nat.le_refl _⟩, ⟨bk BK255⟩, ⟨bk BK262⟩, ⟨by repeat (first | (with_reducible first | exact HI258.out | apply IsS114.alloc | apply IsS114.drewN | apply IsS114.drew | apply IsS114.set_0 | apply IsS114.set_1 | refine IsS114.far ?_ NB258_255.out (tb BK255) (by decide) _ | refine IsS114.far ?_ NB258_262.out (tb BK262) (by decide) _) | exact HI258.out)⟩, ⟨by repeat (first | (with_reducible first | exact HB.out | apply below_alloc | apply pw_below_drewN | apply below_drew1 | refine below_set ?_ (IsS114.ge HI258.out) | refine below_set ?_ GE255.out | refine below_set ?_ GE262.out) | exact HB.out)⟩⟩
      case rest =>
        clear HC7
        try clear c1
        try clear c2
        try clear p2
        try clear c3
        try clear c4
        try clear c5
        try clear c5b0
        try clear c5b1
        try clear c6
        try clear c6b0
        try clear c6b1
        try clear p6
        try clear c12
        try clear c13
        try clear c16
        try clear c16b0
        try clear c17
        try clear c18
        try clear c20
        try clear c21
        try clear hcz14_0
        try clear hcz14_1
        try clear hcz14_10
        try clear hcz14_2
        try clear hcz14_3
        try clear hcz14_4
        try clear hcz14_5
        try clear hcz14_6
        try clear hcz14_7
        try clear hcz14_8
        try clear hcz14_9
        try clear hcz19_0
        try clear hcz19_1
        try clear hcz19_10
        try clear hcz19_2
        try clear hcz19_3
        try clear hcz19_4
        try clear hcz19_5
        try clear hcz19_6
        try clear hcz19_7
        try clear hcz19_8
        try clear hcz19_9
        try clear hcz22_0
        try clear hcz22_1
        try clear hcz22_10
        try clear hcz22_2
        try clear hcz22_3
        try clear hcz22_4
        try clear hcz22_5
        try clear hcz22_6
        try clear hcz22_7
        try clear hcz22_8
        try clear hcz22_9
        try clear hfz14_0
        try clear hfz14_1
        try clear hfz14_10
        try clear hfz14_2
        try clear hfz14_3
        try clear hfz14_4
        try clear hfz14_5
        try clear hfz14_6
        try clear hfz14_7
        try clear hfz14_8
        try clear hfz14_9
        try clear hfz19_0
        try clear hfz19_1
        try clear hfz19_10
        try clear hfz19_2
        try clear hfz19_3
        try clear hfz19_4
        try clear hfz19_5
        try clear hfz19_6
        try clear hfz19_7
        try clear hfz19_8
        try clear hfz19_9
        try clear hfz22_0
        try clear hfz22_1
        try clear hfz22_10
        try clear hfz22_2
        try clear hfz22_3
        try clear hfz22_4
        try clear hfz22_5
        try clear hfz22_6
        try clear hfz22_7
        try clear hfz22_8
        try clear hfz22_9
        obtain ⟨kq, x29_6, rfl, HA, HJ6, BK255, BK262, HI258, HB⟩ := hcut
        cases kq with
        | zero => exact absurd HA.out (by simp [record_Decode.j0])
        | succ kj6 =>
          have H := HA.out
          clear HA
          simp only [record_Decode.j0] at H
          by_cases c23 : x29_6 = true
          · subst c23
            have H1 : (some (0, 0, (⟨#[]⟩ : ByteArray), 0, 0, 0, 0, 0, 0, 0, 0, 3)) = some (r1, r2, r3, r4, r5, r6, r7, r8, r9, r10, r11, r12) := by rw [if_pos rfl] at H; exact H
            clear H
            have H := H1
            clear H1
            simp only [Option.some.injEq, Prod.mk.injEq] at H
            obtain ⟨rfl, rfl, rfl, rfl, rfl, rfl, rfl, rfl, rfl, rfl, rfl, rfl⟩ := H
            try go_wp2
            have n0_ := Aside0.mk (blk_drew BK255.out)
            have n1_ := Aside0.mk (blk_drew BK262.out)
            have n2_ := Aside0.mk (IsS114.drew HI258.out)
            have n3_ := Aside0.mk (below_drew1 HB.out)
            clear BK255
            clear BK262
            clear HI258
            clear HB
            have BK255 := n0_
            have BK262 := n1_
            have HI258 := n2_
            have HB := n3_
            clear n0_ n1_ n2_ n3_
            refine start_ (n := 4) (S := fun w' => w'.cell? ⟨2, 0, none⟩ = some (errW 3)) (ds := []) #[false, false, false, false] (by kernel_rfl) rfl rfl ((sent_cell 3 2 (HERR.out.below (by repeat (first | (with_reducible first | exact HB.out | apply below_alloc | apply pw_below_drewN | apply below_drew1 | refine below_set ?_ (IsS114.ge HI258.out) | refine below_set ?_ GE255.out | refine below_set ?_ GE262.out) | exact HB.out))) (by decide) (by have := Errs.five; omega) rfl)) (fun hHeld => ?_)
            generalize wc.drew = w24 at BK255 BK262 HI258 HB hHeld ⊢
            refine pure_ (i := 0) (N := some 30) (v := ?_) (a' := ?_) #[true, false, false, false] rfl rfl (by kernel_rfl) (fun _ _ _ h => h) (Or.inl ⟨by rfl, ?_⟩) ?_ ?_
            rotate_left
            · intro w'
              go_simp
              with_reducible rfl
            rotate_left
            · simp only [Act.put, List.setIfInBounds_toArray, List.set_cons_zero, List.set_cons_succ, i64_w, i32_w]
              rfl
            refine take_ (i := 1) (N := some 31) (v := ?_) (a' := ?_) #[true, true, false, false] rfl rfl (by kernel_rfl) (fun _ _ _ h => h) (Or.inl ⟨by rfl, ?_⟩) hHeld ?_ ?_
            rotate_left
            · intro w' s0
              go_simp
              with_reducible rfl
            rotate_left
            · simp only [Act.put, List.setIfInBounds_toArray, List.set_cons_zero, List.set_cons_succ, i64_w, i32_w]
              rfl
            refine one_ (i := 2) (N := none) #[true, true, true, false] rfl rfl (by kernel_rfl) (by decide) (fun K hK => ?_)
            have hs25 : w24.cell? ⟨gb255, 0, none⟩ = some (.int .i64 0) := (blk_cell BK255.out 0).trans rfl
            have hfs25 := blk_frozen BK255.out 0
            have hns25_1 := NB262_255.out
            have hms25_1 := NB255_262.out
            have hs26 : w24.cell? ⟨gb255, 1, none⟩ = some (.int .u64 0) := (blk_cell BK255.out 1).trans rfl
            have hfs26 := blk_frozen BK255.out 1
            have hns26_1 := NB262_255.out
            have hms26_1 := NB255_262.out
            have hs27 : w24.cell? ⟨gb255, 2, none⟩ = some (.string (⟨#[]⟩ : ByteArray)) := (blk_cell BK255.out 2).trans rfl
            have hfs27 := blk_frozen BK255.out 2
            have hns27_1 := NB262_255.out
            have hms27_1 := NB255_262.out
            have hs28 : w24.cell? ⟨gb255, 3, none⟩ = some (.int .i64 0) := (blk_cell BK255.out 3).trans rfl
            have hfs28 := blk_frozen BK255.out 3
            have hns28_1 := NB262_255.out
            have hms28_1 := NB255_262.out
            have hs29 : w24.cell? ⟨gb255, 4, none⟩ = some (.int .u64 0) := (blk_cell BK255.out 4).trans rfl
            have hfs29 := blk_frozen BK255.out 4
            have hns29_1 := NB262_255.out
            have hms29_1 := NB255_262.out
            have hs30 : w24.cell? ⟨gb255, 5, none⟩ = some (.int .u64 0) := (blk_cell BK255.out 5).trans rfl
            have hfs30 := blk_frozen BK255.out 5
            have hns30_1 := NB262_255.out
            have hms30_1 := NB255_262.out
            have hs31 : w24.cell? ⟨gb255, 6, none⟩ = some (.int .u64 0) := (blk_cell BK255.out 6).trans rfl
            have hfs31 := blk_frozen BK255.out 6
            have hns31_1 := NB262_255.out
            have hms31_1 := NB255_262.out
            have hs32 : w24.cell? ⟨gb255, 7, none⟩ = some (.int .u64 0) := (blk_cell BK255.out 7).trans rfl
            have hfs32 := blk_frozen BK255.out 7
            have hns32_1 := NB262_255.out
            have hms32_1 := NB255_262.out
            have hs33 : w24.cell? ⟨gb255, 8, none⟩ = some (.int .u64 0) := (blk_cell BK255.out 8).trans rfl
            have hfs33 := blk_frozen BK255.out 8
            have hns33_1 := NB262_255.out
            have hms33_1 := NB255_262.out
            have hs34 : w24.cell? ⟨gb255, 9, none⟩ = some (.int .u64 0) := (blk_cell BK255.out 9).trans rfl
            have hfs34 := blk_frozen BK255.out 9
            have hns34_1 := NB262_255.out
            have hms34_1 := NB255_262.out
            have hs35 : w24.cell? ⟨gb255, 10, none⟩ = some (.int .u64 0) := (blk_cell BK255.out 10).trans rfl
            have hfs35 := blk_frozen BK255.out 10
            have hns35_1 := NB262_255.out
            have hms35_1 := NB255_262.out
            refine skip_ (w1 := ?_) (by rfl) rfl ?_ ?_
            rotate_left
            · go_simp
              rfl
            refine hK.out _ _ ((sent_cell 3 2 (HERR.out.below (by repeat (first | (with_reducible first | exact HB.out | apply below_alloc | apply pw_below_drewN | apply below_drew1 | refine below_set ?_ (IsS114.ge HI258.out) | refine below_set ?_ GE255.out | refine below_set ?_ GE262.out) | exact HB.out))) (by decide) (by have := Errs.five; omega) rfl)) (fun hHeld => ?_)
            clear hK K
            refine pure_ (i := 3) (N := some 3) (v := ?_) (a' := ?_) #[true, true, true, true] rfl rfl (by kernel_rfl) (fun _ _ _ h => h) (Or.inl ⟨by rfl, ?_⟩) ?_ ?_
            rotate_left
            · intro w'
              go_simp
              with_reducible rfl
            rotate_left
            · simp only [Act.put, List.setIfInBounds_toArray, List.set_cons_zero, List.set_cons_succ, i64_w, i32_w]
              rfl
            refine done_ (by kernel_rfl) ?_
            try go_wp2
            refine bodyPost_ret (results_ct rfl _ _ gb255 32 #[.int .i64 0, .int .u64 0, .string (⟨#[]⟩ : ByteArray), .int .i64 0, .int .u64 0, .int .u64 0, .int .u64 0, .int .u64 0, .int .u64 0, .int .u64 0, .int .u64 0] (0, 0) _ rfl (by (with_reducible repeat (first | refine blk_drewN ?_ _ | refine blk_drew ?_ | refine blk_alloc ?_ _)); refine blk_put (cs := #[.int .i64 0, .int .u64 0, .string (⟨#[]⟩ : ByteArray), .int .i64 0, .int .u64 0, .int .u64 0, .int .u64 0, .int .u64 0, .int .u64 0, .int .u64 0, .int .u64 0]) ?_ 10 _ rfl; (with_reducible repeat (first | refine blk_drewN ?_ _ | refine blk_drew ?_ | refine blk_alloc ?_ _)); refine blk_put (cs := #[.int .i64 0, .int .u64 0, .string (⟨#[]⟩ : ByteArray), .int .i64 0, .int .u64 0, .int .u64 0, .int .u64 0, .int .u64 0, .int .u64 0, .int .u64 0, .int .u64 0]) ?_ 9 _ rfl; (with_reducible repeat (first | refine blk_drewN ?_ _ | refine blk_drew ?_ | refine blk_alloc ?_ _)); refine blk_put (cs := #[.int .i64 0, .int .u64 0, .string (⟨#[]⟩ : ByteArray), .int .i64 0, .int .u64 0, .int .u64 0, .int .u64 0, .int .u64 0, .int .u64 0, .int .u64 0, .int .u64 0]) ?_ 8 _ rfl; (with_reducible repeat (first | refine blk_drewN ?_ _ | refine blk_drew ?_ | refine blk_alloc ?_ _)); refine blk_put (cs := #[.int .i64 0, .int .u64 0, .string (⟨#[]⟩ : ByteArray), .int .i64 0, .int .u64 0, .int .u64 0, .int .u64 0, .int .u64 0, .int .u64 0, .int .u64 0, .int .u64 0]) ?_ 7 _ rfl; (with_reducible repeat (first | refine blk_drewN ?_ _ | refine blk_drew ?_ | refine blk_alloc ?_ _)); refine blk_put (cs := #[.int .i64 0, .int .u64 0, .string (⟨#[]⟩ : ByteArray), .int .i64 0, .int .u64 0, .int .u64 0, .int .u64 0, .int .u64 0, .int .u64 0, .int .u64 0, .int .u64 0]) ?_ 6 _ rfl; (with_reducible repeat (first | refine blk_drewN ?_ _ | refine blk_drew ?_ | refine blk_alloc ?_ _)); refine blk_put (cs := #[.int .i64 0, .int .u64 0, .string (⟨#[]⟩ : ByteArray), .int .i64 0, .int .u64 0, .int .u64 0, .int .u64 0, .int .u64 0, .int .u64 0, .int .u64 0, .int .u64 0]) ?_ 5 _ rfl; (with_reducible repeat (first | refine blk_drewN ?_ _ | refine blk_drew ?_ | refine blk_alloc ?_ _)); refine blk_put (cs := #[.int .i64 0, .int .u64 0, .string (⟨#[]⟩ : ByteArray), .int .i64 0, .int .u64 0, .int .u64 0, .int .u64 0, .int .u64 0, .int .u64 0, .int .u64 0, .int .u64 0]) ?_ 4 _ rfl; (with_reducible repeat (first | refine blk_drewN ?_ _ | refine blk_drew ?_ | refine blk_alloc ?_ _)); refine blk_put (cs := #[.int .i64 0, .int .u64 0, .string (⟨#[]⟩ : ByteArray), .int .i64 0, .int .u64 0, .int .u64 0, .int .u64 0, .int .u64 0, .int .u64 0, .int .u64 0, .int .u64 0]) ?_ 3 _ rfl; (with_reducible repeat (first | refine blk_drewN ?_ _ | refine blk_drew ?_ | refine blk_alloc ?_ _)); refine blk_put (cs := #[.int .i64 0, .int .u64 0, .string (⟨#[]⟩ : ByteArray), .int .i64 0, .int .u64 0, .int .u64 0, .int .u64 0, .int .u64 0, .int .u64 0, .int .u64 0, .int .u64 0]) ?_ 2 _ rfl; (with_reducible repeat (first | refine blk_drewN ?_ _ | refine blk_drew ?_ | refine blk_alloc ?_ _)); refine blk_put (cs := #[.int .i64 0, .int .u64 0, .string (⟨#[]⟩ : ByteArray), .int .i64 0, .int .u64 0, .int .u64 0, .int .u64 0, .int .u64 0, .int .u64 0, .int .u64 0, .int .u64 0]) ?_ 1 _ rfl; (with_reducible repeat (first | refine blk_drewN ?_ _ | refine blk_drew ?_ | refine blk_alloc ?_ _)); refine blk_put (cs := #[.int .i64 0, .int .u64 0, .string (⟨#[]⟩ : ByteArray), .int .i64 0, .int .u64 0, .int .u64 0, .int .u64 0, .int .u64 0, .int .u64 0, .int .u64 0, .int .u64 0]) ?_ 0 _ rfl; (with_reducible repeat (first | refine blk_drewN ?_ _ | refine blk_drew ?_ | refine blk_alloc ?_ _)); exact BK255.out) Tryd.underlying32 rfl (by kernel_rfl)) rfl ?_
            exact ⟨re, by repeat (first | (with_reducible first | exact HB.out | apply below_alloc | apply pw_below_drewN | apply below_drew1 | refine below_set ?_ (IsS114.ge HI258.out) | refine below_set ?_ GE255.out | refine below_set ?_ GE262.out) | exact HB.out)⟩
          · replace c23 := Bool.eq_false_iff.mpr c23
            subst c23
            have H1 : ((pack_Reader_U64.f t264 t265).bind fun bt266 => ((pack_Reader_Text.f bt266.2.1 bt266.2.2).bind fun bt269 => (if (wrap64 (t259)) = 1 then ((pack_Reader_U8.f bt269.2.1 bt269.2.2).bind fun bt272 => ((pack_Reader_U64.f bt272.2.1 bt272.2.2).bind fun bt275 => ((pack_Reader_U64.f bt275.2.1 bt275.2.2).bind fun bt278 => (if (wrap64 (bt272.1)) = 2 then (record_Decode.j1 kj6 bt278.2.1 bt278.2.2 (wrap64 (t259)) bt266.1 bt269.1 (wrap64 (bt272.1)) 0 0 bt275.1 bt278.1 0 0 0) else (record_Decode.j1 kj6 bt278.2.1 bt278.2.2 (wrap64 (t259)) bt266.1 bt269.1 (wrap64 (bt272.1)) bt275.1 bt278.1 0 0 0 0 0))))) else (if (wrap64 (t259)) = 3 then ((pack_Reader_U64.f bt269.2.1 bt269.2.2).bind fun bt281 => ((pack_Reader_U64.f bt281.2.1 bt281.2.2).bind fun bt284 => ((pack_Reader_U64.f bt284.2.1 bt284.2.2).bind fun bt287 => (record_Decode.j1 kj6 bt287.2.1 bt287.2.2 (wrap64 (t259)) bt266.1 bt269.1 0 0 0 0 0 bt281.1 bt284.1 bt287.1)))) else (record_Decode.j1 kj6 bt269.2.1 bt269.2.2 (wrap64 (t259)) bt266.1 bt269.1 0 0 0 0 0 0 0 0))))) = some (r1, r2, r3, r4, r5, r6, r7, r8, r9, r10, r11, r12) := by rw [if_neg (show ¬ (false = true) by decide)] at H; exact H
            clear H
            have H := H1
            clear H1
            replace H := Option.bind_eq_some_iff.mp H
            obtain ⟨⟨t266, t267, t268⟩, A360, H⟩ := H
            replace H : ((pack_Reader_Text.f t267 t268).bind fun bt269 => (if (wrap64 (t259)) = 1 then ((pack_Reader_U8.f bt269.2.1 bt269.2.2).bind fun bt272 => ((pack_Reader_U64.f bt272.2.1 bt272.2.2).bind fun bt275 => ((pack_Reader_U64.f bt275.2.1 bt275.2.2).bind fun bt278 => (if (wrap64 (bt272.1)) = 2 then (record_Decode.j1 kj6 bt278.2.1 bt278.2.2 (wrap64 (t259)) t266 bt269.1 (wrap64 (bt272.1)) 0 0 bt275.1 bt278.1 0 0 0) else (record_Decode.j1 kj6 bt278.2.1 bt278.2.2 (wrap64 (t259)) t266 bt269.1 (wrap64 (bt272.1)) bt275.1 bt278.1 0 0 0 0 0))))) else (if (wrap64 (t259)) = 3 then ((pack_Reader_U64.f bt269.2.1 bt269.2.2).bind fun bt281 => ((pack_Reader_U64.f bt281.2.1 bt281.2.2).bind fun bt284 => ((pack_Reader_U64.f bt284.2.1 bt284.2.2).bind fun bt287 => (record_Decode.j1 kj6 bt287.2.1 bt287.2.2 (wrap64 (t259)) t266 bt269.1 0 0 0 0 0 bt281.1 bt284.1 bt287.1)))) else (record_Decode.j1 kj6 bt269.2.1 bt269.2.2 (wrap64 (t259)) t266 bt269.1 0 0 0 0 0 0 0 0)))) = some (r1, r2, r3, r4, r5, r6, r7, r8, r9, r10, r11, r12) := H
            have A36 := Aside0.mk A360
            clear A360
            replace H := Option.bind_eq_some_iff.mp H
            obtain ⟨⟨t269, t270, t271⟩, A370, H⟩ := H
            replace H : (if (wrap64 (t259)) = 1 then ((pack_Reader_U8.f t270 t271).bind fun bt272 => ((pack_Reader_U64.f bt272.2.1 bt272.2.2).bind fun bt275 => ((pack_Reader_U64.f bt275.2.1 bt275.2.2).bind fun bt278 => (if (wrap64 (bt272.1)) = 2 then (record_Decode.j1 kj6 bt278.2.1 bt278.2.2 (wrap64 (t259)) t266 t269 (wrap64 (bt272.1)) 0 0 bt275.1 bt278.1 0 0 0) else (record_Decode.j1 kj6 bt278.2.1 bt278.2.2 (wrap64 (t259)) t266 t269 (wrap64 (bt272.1)) bt275.1 bt278.1 0 0 0 0 0))))) else (if (wrap64 (t259)) = 3 then ((pack_Reader_U64.f t270 t271).bind fun bt281 => ((pack_Reader_U64.f bt281.2.1 bt281.2.2).bind fun bt284 => ((pack_Reader_U64.f bt284.2.1 bt284.2.2).bind fun bt287 => (record_Decode.j1 kj6 bt287.2.1 bt287.2.2 (wrap64 (t259)) t266 t269 0 0 0 0 0 bt281.1 bt284.1 bt287.1)))) else (record_Decode.j1 kj6 t270 t271 (wrap64 (t259)) t266 t269 0 0 0 0 0 0 0 0))) = some (r1, r2, r3, r4, r5, r6, r7, r8, r9, r10, r11, r12) := H
            have A37 := Aside0.mk A370
            clear A370
            have HC38 := Aside0.mk H
            clear H
            go_upto_block 0 with (first | ((with_reducible refine gate_callee (f := 41) rfl ?_); refine gl (some 33) Tryd.func41 #[.pointer (some ⟨g258, 0, none⟩)] ?_; (with_reducible refine (pack_Reader_U64.calls g258 t264 t265 t266 t267 t268 w _ ?side3 ?side1 ?side2 A36.out).mono ?_); (case side1 => repeat (first | (with_reducible first | exact HI258.out | apply IsS114.alloc | apply IsS114.drewN | apply IsS114.drew | apply IsS114.set_0 | apply IsS114.set_1 | refine IsS114.far ?_ NB258_255.out (tb BK255) (by decide) _ | refine IsS114.far ?_ NB258_262.out (tb BK262) (by decide) _) | exact HI258.out)); (case side2 => repeat (first | (with_reducible first | exact HB.out | apply below_alloc | apply pw_below_drewN | apply below_drew1 | refine below_set ?_ (IsS114.ge HI258.out) | refine below_set ?_ GE255.out | refine below_set ?_ GE262.out) | exact HB.out)); (case side3 => exact HERR.out); rintro e w39 ⟨rfl, hi, hb, hk⟩; refine ⟨_, rfl, ?_⟩; have n0_ := Aside0.mk (KeepBut.blk hk (g' := gb255) (o := .cells #[.int .i64 0, .int .u64 0, .string (⟨#[]⟩ : ByteArray), .int .i64 0, .int .u64 0, .int .u64 0, .int .u64 0, .int .u64 0, .int .u64 0, .int .u64 0, .int .u64 0] 32 (0, 0)) (bk BK255) NB255_258.out (by simp)); have n1_ := Aside0.mk (KeepBut.blk hk (g' := gb262) (o := .cells #[.int .i64 (wrap64 (t259)), .int .u64 0, .string (⟨#[]⟩ : ByteArray), .int .i64 0, .int .u64 0, .int .u64 0, .int .u64 0, .int .u64 0, .int .u64 0, .int .u64 0, .int .u64 0] 32 (0, 0)) (bk BK262) NB262_258.out (by simp)); have n2_ := Aside0.mk (hb); have n3_ := Aside0.mk (hi); clear BK255; clear BK262; clear HB; clear HI258; have BK255 := n0_; have BK262 := n1_; have HB := n2_; have HI258 := n3_; clear n0_ n1_ n2_ n3_; (try clear hb); (try clear hb2); (try clear hk); (try clear hi); have hnb40 := NB262_255.out; have hnc40 := NB255_262.out; have hnb41 := NB262_258.out; have hnc41 := NB258_262.out; obtain ⟨hcz42_0, hcz42_1, hcz42_2, hcz42_3, hcz42_4, hcz42_5, hcz42_6, hcz42_7, hcz42_8, hcz42_9, hcz42_10, hfz42_0, hfz42_1, hfz42_2, hfz42_3, hfz42_4, hfz42_5, hfz42_6, hfz42_7, hfz42_8, hfz42_9, hfz42_10⟩ := bc11 BK262) | ((with_reducible refine gate_callee (f := 42) rfl ?_); refine gl (some 36) Tryd.func42 #[.pointer (some ⟨g258, 0, none⟩)] ?_; (with_reducible refine (pack_Reader_Text.calls g258 t267 t268 t269 t270 t271 w _ ?side3 ?side1 ?side2 A37.out).mono ?_); (case side1 => repeat (first | (with_reducible first | exact HI258.out | apply IsS114.alloc | apply IsS114.drewN | apply IsS114.drew | apply IsS114.set_0 | apply IsS114.set_1 | refine IsS114.far ?_ NB258_255.out (tb BK255) (by decide) _ | refine IsS114.far ?_ NB258_262.out (tb BK262) (by decide) _) | exact HI258.out)); (case side2 => repeat (first | (with_reducible first | exact HB.out | apply below_alloc | apply pw_below_drewN | apply below_drew1 | refine below_set ?_ (IsS114.ge HI258.out) | refine below_set ?_ GE255.out | refine below_set ?_ GE262.out) | exact HB.out)); (case side3 => exact HERR.out); rintro e w43 ⟨rfl, hi, hb, hk⟩; refine ⟨_, rfl, ?_⟩; have n0_ := Aside0.mk (KeepBut.blk hk (g' := gb255) (o := .cells #[.int .i64 0, .int .u64 0, .string (⟨#[]⟩ : ByteArray), .int .i64 0, .int .u64 0, .int .u64 0, .int .u64 0, .int .u64 0, .int .u64 0, .int .u64 0, .int .u64 0] 32 (0, 0)) (bk BK255) NB255_258.out (by simp)); have n1_ := Aside0.mk (KeepBut.blk hk (g' := gb262) (o := .cells #[.int .i64 (wrap64 (t259)), .int .u64 t266, .string (⟨#[]⟩ : ByteArray), .int .i64 0, .int .u64 0, .int .u64 0, .int .u64 0, .int .u64 0, .int .u64 0, .int .u64 0, .int .u64 0] 32 (0, 0)) (by (with_reducible repeat (first | refine blk_drewN ?_ _ | refine blk_drew ?_ | refine blk_alloc ?_ _)); refine blk_put (cs := #[.int .i64 (wrap64 (t259)), .int .u64 0, .string (⟨#[]⟩ : ByteArray), .int .i64 0, .int .u64 0, .int .u64 0, .int .u64 0, .int .u64 0, .int .u64 0, .int .u64 0, .int .u64 0]) ?_ 1 _ rfl; (with_reducible repeat (first | refine blk_drewN ?_ _ | refine blk_drew ?_ | refine blk_alloc ?_ _)); exact BK262.out) NB262_258.out (by simp)); have n2_ := Aside0.mk (hb); have n3_ := Aside0.mk (hi); clear BK255; clear BK262; clear HB; clear HI258; have BK255 := n0_; have BK262 := n1_; have HB := n2_; have HI258 := n3_; clear n0_ n1_ n2_ n3_; (try clear hb); (try clear hb2); (try clear hk); (try clear hi); obtain ⟨hcz44_0, hcz44_1, hcz44_2, hcz44_3, hcz44_4, hcz44_5, hcz44_6, hcz44_7, hcz44_8, hcz44_9, hcz44_10, hfz44_0, hfz44_1, hfz44_2, hfz44_3, hfz44_4, hfz44_5, hfz44_6, hfz44_7, hfz44_8, hfz44_9, hfz44_10⟩ := bc11 BK262))
            (try simp only [Act.put, List.setIfInBounds_toArray, List.set_cons_zero, List.set_cons_succ])
            go_cut [] (fun wc => ∃ (kq : Nat) (x259000_37 : List Int) (x259001_37 : Int) (x263003_37 : Int) (x263004_37 : Int) (x263005_37 : Int) (x263006_37 : Int) (x263007_37 : Int) (x263008_37 : Int) (x263009_37 : Int) (x263010_37 : Int), Aside0 (record_Decode.j1 kq x259000_37 x259001_37 (wrap64 (t259)) t266 t269 x263003_37 x263004_37 x263005_37 x263006_37 x263007_37 x263008_37 x263009_37 x263010_37 = some (r1, r2, r3, r4, r5, r6, r7, r8, r9, r10, r11, r12)) ∧ Aside0 (kq ≤ kj6) ∧ Aside0 (wc.heap[gb255]? = some (.cells #[.int .i64 0, .int .u64 0, .string (⟨#[]⟩ : ByteArray), .int .i64 0, .int .u64 0, .int .u64 0, .int .u64 0, .int .u64 0, .int .u64 0, .int .u64 0, .int .u64 0] 32 (0, 0))) ∧ Aside0 (wc.heap[gb262]? = some (.cells #[.int .i64 (wrap64 (t259)), .int .u64 t266, .string t269, .int .i64 x263003_37, .int .u64 x263004_37, .int .u64 x263005_37, .int .u64 x263006_37, .int .u64 x263007_37, .int .u64 x263008_37, .int .u64 x263009_37, .int .u64 x263010_37] 32 (0, 0))) ∧ Aside0 (IsS114 w wc g258 x259000_37 x259001_37) ∧ Aside0 (Below w.heap.size w wc))
            case first =>
              have H := HC38.out
              clear HC38
              by_cases c45 : (wrap64 (t259)) = 1
              · rw [if_pos c45] at H
                have c45b0 : ((wrap64 (t259)) == 1) = true := beq_iff_eq.mpr c45
                have c45b1 : ((wrap64 (t259)) != 1) = false := bne_eq_false_iff_eq.mpr c45
                clear c45
                (first | rw [c45b0] | (simp only [i64_w, i32_w]; rw [c45b0]) | skip)
                replace H := Option.bind_eq_some_iff.mp H
                obtain ⟨⟨t272, t273, t274⟩, A460, H⟩ := H
                replace H : ((pack_Reader_U64.f t273 t274).bind fun bt275 => ((pack_Reader_U64.f bt275.2.1 bt275.2.2).bind fun bt278 => (if (wrap64 (t272)) = 2 then (record_Decode.j1 kj6 bt278.2.1 bt278.2.2 (wrap64 (t259)) t266 t269 (wrap64 (t272)) 0 0 bt275.1 bt278.1 0 0 0) else (record_Decode.j1 kj6 bt278.2.1 bt278.2.2 (wrap64 (t259)) t266 t269 (wrap64 (t272)) bt275.1 bt278.1 0 0 0 0 0)))) = some (r1, r2, r3, r4, r5, r6, r7, r8, r9, r10, r11, r12) := H
                have A46 := Aside0.mk A460
                clear A460
                replace H := Option.bind_eq_some_iff.mp H
                obtain ⟨⟨t275, t276, t277⟩, A470, H⟩ := H
                replace H : ((pack_Reader_U64.f t276 t277).bind fun bt278 => (if (wrap64 (t272)) = 2 then (record_Decode.j1 kj6 bt278.2.1 bt278.2.2 (wrap64 (t259)) t266 t269 (wrap64 (t272)) 0 0 t275 bt278.1 0 0 0) else (record_Decode.j1 kj6 bt278.2.1 bt278.2.2 (wrap64 (t259)) t266 t269 (wrap64 (t272)) t275 bt278.1 0 0 0 0 0))) = some (r1, r2, r3, r4, r5, r6, r7, r8, r9, r10, r11, r12) := H
                have A47 := Aside0.mk A470
                clear A470
                replace H := Option.bind_eq_some_iff.mp H
                obtain ⟨⟨t278, t279, t280⟩, A480, H⟩ := H
                replace H : (if (wrap64 (t272)) = 2 then (record_Decode.j1 kj6 t279 t280 (wrap64 (t259)) t266 t269 (wrap64 (t272)) 0 0 t275 t278 0 0 0) else (record_Decode.j1 kj6 t279 t280 (wrap64 (t259)) t266 t269 (wrap64 (t272)) t275 t278 0 0 0 0 0)) = some (r1, r2, r3, r4, r5, r6, r7, r8, r9, r10, r11, r12) := H
                have A48 := Aside0.mk A480
                clear A480
                by_cases c49 : (wrap64 (t272)) = 2
                · rw [if_pos c49] at H
                  have c49b0 : ((wrap64 (t272)) == 2) = true := beq_iff_eq.mpr c49
                  have c49b1 : ((wrap64 (t272)) != 2) = false := bne_eq_false_iff_eq.mpr c49
                  clear c49
                  have H' := Aside0.mk H
                  clear H
                  go_wp2_with (first | ((with_reducible refine gate_callee (f := 39) rfl ?_); refine gl (some 43) Tryd.func39 #[.pointer (some ⟨g258, 0, none⟩)] ?_; (with_reducible refine (pack_Reader_U8.calls g258 t270 t271 t272 t273 t274 w _ ?side3 ?side1 ?side2 A46.out).mono ?_); (case side1 => repeat (first | (with_reducible first | exact HI258.out | apply IsS114.alloc | apply IsS114.drewN | apply IsS114.drew | apply IsS114.set_0 | apply IsS114.set_1 | refine IsS114.far ?_ NB258_255.out (tb BK255) (by decide) _ | refine IsS114.far ?_ NB258_262.out (tb BK262) (by decide) _) | exact HI258.out)); (case side2 => repeat (first | (with_reducible first | exact HB.out | apply below_alloc | apply pw_below_drewN | apply below_drew1 | refine below_set ?_ (IsS114.ge HI258.out) | refine below_set ?_ GE255.out | refine below_set ?_ GE262.out) | exact HB.out)); (case side3 => exact HERR.out); rintro e w50 ⟨rfl, hi, hb, hk⟩; refine ⟨_, rfl, ?_⟩; have n0_ := Aside0.mk (KeepBut.blk hk (g' := gb255) (o := .cells #[.int .i64 0, .int .u64 0, .string (⟨#[]⟩ : ByteArray), .int .i64 0, .int .u64 0, .int .u64 0, .int .u64 0, .int .u64 0, .int .u64 0, .int .u64 0, .int .u64 0] 32 (0, 0)) (bk BK255) NB255_258.out (by simp)); have n1_ := Aside0.mk (KeepBut.blk hk (g' := gb262) (o := .cells #[.int .i64 (wrap64 (t259)), .int .u64 t266, .string t269, .int .i64 0, .int .u64 0, .int .u64 0, .int .u64 0, .int .u64 0, .int .u64 0, .int .u64 0, .int .u64 0] 32 (0, 0)) (by (with_reducible repeat (first | refine blk_drewN ?_ _ | refine blk_drew ?_ | refine blk_alloc ?_ _)); refine blk_put (cs := #[.int .i64 (wrap64 (t259)), .int .u64 t266, .string (⟨#[]⟩ : ByteArray), .int .i64 0, .int .u64 0, .int .u64 0, .int .u64 0, .int .u64 0, .int .u64 0, .int .u64 0, .int .u64 0]) ?_ 2 _ rfl; (with_reducible repeat (first | refine blk_drewN ?_ _ | refine blk_drew ?_ | refine blk_alloc ?_ _)); exact BK262.out) NB262_258.out (by simp)); have n2_ := Aside0.mk (hb); have n3_ := Aside0.mk (hi); clear BK255; clear BK262; clear HB; clear HI258; have BK255 := n0_; have BK262 := n1_; have HB := n2_; have HI258 := n3_; clear n0_ n1_ n2_ n3_; (try clear hb); (try clear hb2); (try clear hk); (try clear hi); have hnb51 := NB262_255.out; have hnc51 := NB255_262.out; have hnb52 := NB262_258.out; have hnc52 := NB258_262.out; obtain ⟨hcz53_0, hcz53_1, hcz53_2, hcz53_3, hcz53_4, hcz53_5, hcz53_6, hcz53_7, hcz53_8, hcz53_9, hcz53_10, hfz53_0, hfz53_1, hfz53_2, hfz53_3, hfz53_4, hfz53_5, hfz53_6, hfz53_7, hfz53_8, hfz53_9, hfz53_10⟩ := bc11 BK262) | ((with_reducible refine gate_callee (f := 41) rfl ?_); refine gl (some 48) Tryd.func41 #[.pointer (some ⟨g258, 0, none⟩)] ?_; (with_reducible refine (pack_Reader_U64.calls g258 t273 t274 t275 t276 t277 w _ ?side3 ?side1 ?side2 A47.out).mono ?_); (case side1 => repeat (first | (with_reducible first | exact HI258.out | apply IsS114.alloc | apply IsS114.drewN | apply IsS114.drew | apply IsS114.set_0 | apply IsS114.set_1 | refine IsS114.far ?_ NB258_255.out (tb BK255) (by decide) _ | refine IsS114.far ?_ NB258_262.out (tb BK262) (by decide) _) | exact HI258.out)); (case side2 => repeat (first | (with_reducible first | exact HB.out | apply below_alloc | apply pw_below_drewN | apply below_drew1 | refine below_set ?_ (IsS114.ge HI258.out) | refine below_set ?_ GE255.out | refine below_set ?_ GE262.out) | exact HB.out)); (case side3 => exact HERR.out); rintro e w54 ⟨rfl, hi, hb, hk⟩; refine ⟨_, rfl, ?_⟩; have n0_ := Aside0.mk (KeepBut.blk hk (g' := gb255) (o := .cells #[.int .i64 0, .int .u64 0, .string (⟨#[]⟩ : ByteArray), .int .i64 0, .int .u64 0, .int .u64 0, .int .u64 0, .int .u64 0, .int .u64 0, .int .u64 0, .int .u64 0] 32 (0, 0)) (bk BK255) NB255_258.out (by simp)); have n1_ := Aside0.mk (KeepBut.blk hk (g' := gb262) (o := .cells #[.int .i64 (wrap64 (t259)), .int .u64 t266, .string t269, .int .i64 (wrap64 (t272)), .int .u64 0, .int .u64 0, .int .u64 0, .int .u64 0, .int .u64 0, .int .u64 0, .int .u64 0] 32 (0, 0)) (bk BK262) NB262_258.out (by simp)); have n2_ := Aside0.mk (hb); have n3_ := Aside0.mk (hi); clear BK255; clear BK262; clear HB; clear HI258; have BK255 := n0_; have BK262 := n1_; have HB := n2_; have HI258 := n3_; clear n0_ n1_ n2_ n3_; (try clear hb); (try clear hb2); (try clear hk); (try clear hi)) | ((with_reducible refine gate_callee (f := 41) rfl ?_); refine gl (some 50) Tryd.func41 #[.pointer (some ⟨g258, 0, none⟩)] ?_; (with_reducible refine (pack_Reader_U64.calls g258 t276 t277 t278 t279 t280 w _ ?side3 ?side1 ?side2 A48.out).mono ?_); (case side1 => repeat (first | (with_reducible first | exact HI258.out | apply IsS114.alloc | apply IsS114.drewN | apply IsS114.drew | apply IsS114.set_0 | apply IsS114.set_1 | refine IsS114.far ?_ NB258_255.out (tb BK255) (by decide) _ | refine IsS114.far ?_ NB258_262.out (tb BK262) (by decide) _) | exact HI258.out)); (case side2 => repeat (first | (with_reducible first | exact HB.out | apply below_alloc | apply pw_below_drewN | apply below_drew1 | refine below_set ?_ (IsS114.ge HI258.out) | refine below_set ?_ GE255.out | refine below_set ?_ GE262.out) | exact HB.out)); (case side3 => exact HERR.out); rintro e w55 ⟨rfl, hi, hb, hk⟩; refine ⟨_, rfl, ?_⟩; have n0_ := Aside0.mk (KeepBut.blk hk (g' := gb255) (o := .cells #[.int .i64 0, .int .u64 0, .string (⟨#[]⟩ : ByteArray), .int .i64 0, .int .u64 0, .int .u64 0, .int .u64 0, .int .u64 0, .int .u64 0, .int .u64 0, .int .u64 0] 32 (0, 0)) (bk BK255) NB255_258.out (by simp)); have n1_ := Aside0.mk (KeepBut.blk hk (g' := gb262) (o := .cells #[.int .i64 (wrap64 (t259)), .int .u64 t266, .string t269, .int .i64 (wrap64 (t272)), .int .u64 0, .int .u64 0, .int .u64 0, .int .u64 0, .int .u64 0, .int .u64 0, .int .u64 0] 32 (0, 0)) (bk BK262) NB262_258.out (by simp)); have n2_ := Aside0.mk (hb); have n3_ := Aside0.mk (hi); clear BK255; clear BK262; clear HB; clear HI258; have BK255 := n0_; have BK262 := n1_; have HB := n2_; have HI258 := n3_; clear n0_ n1_ n2_ n3_; (try clear hb); (try clear hb2); (try clear hk); (try clear hi); obtain ⟨hcz56_0, hcz56_1, hcz56_2, hcz56_3, hcz56_4, hcz56_5, hcz56_6, hcz56_7, hcz56_8, hcz56_9, hcz56_10, hfz56_0, hfz56_1, hfz56_2, hfz56_3, hfz56_4, hfz56_5, hfz56_6, hfz56_7, hfz56_8, hfz56_9, hfz56_10⟩ := bc11 BK262))
                  go_meet
                  case rel => exact ⟨_, (t279), (t280), (wrap64 (t272)), (0), (0), (t275), (t278), (0), (0), (0), H', ⟨by have := HJ6.out; first | omega | exact Nat.le_refl _⟩, ⟨bk BK255⟩, ⟨bk BK262⟩, ⟨by repeat (first | (with_reducible first | exact HI258.out | apply IsS114.alloc | apply IsS114.drewN | apply IsS114.drew | apply IsS114.set_0 | apply IsS114.set_1 | refine IsS114.far ?_ NB258_255.out (tb BK255) (by decide) _ | refine IsS114.far ?_ NB258_262.out (tb BK262) (by decide) _) | exact HI258.out)⟩, ⟨by repeat (first | (with_reducible first | exact HB.out | apply below_alloc | apply pw_below_drewN | apply below_drew1 | refine below_set ?_ (IsS114.ge HI258.out) | refine below_set ?_ GE255.out | refine below_set ?_ GE262.out) | exact HB.out)⟩⟩
                · rw [if_neg c49] at H
                  have c49b0 : ((wrap64 (t272)) == 2) = false := beq_eq_false_iff_ne.mpr c49
                  have c49b1 : ((wrap64 (t272)) != 2) = true := bne_iff_ne.mpr c49
                  have H' := Aside0.mk H
                  clear H
                  go_wp2_with (first | ((with_reducible refine gate_callee (f := 39) rfl ?_); refine gl (some 43) Tryd.func39 #[.pointer (some ⟨g258, 0, none⟩)] ?_; (with_reducible refine (pack_Reader_U8.calls g258 t270 t271 t272 t273 t274 w _ ?side3 ?side1 ?side2 A46.out).mono ?_); (case side1 => repeat (first | (with_reducible first | exact HI258.out | apply IsS114.alloc | apply IsS114.drewN | apply IsS114.drew | apply IsS114.set_0 | apply IsS114.set_1 | refine IsS114.far ?_ NB258_255.out (tb BK255) (by decide) _ | refine IsS114.far ?_ NB258_262.out (tb BK262) (by decide) _) | exact HI258.out)); (case side2 => repeat (first | (with_reducible first | exact HB.out | apply below_alloc | apply pw_below_drewN | apply below_drew1 | refine below_set ?_ (IsS114.ge HI258.out) | refine below_set ?_ GE255.out | refine below_set ?_ GE262.out) | exact HB.out)); (case side3 => exact HERR.out); rintro e w57 ⟨rfl, hi, hb, hk⟩; refine ⟨_, rfl, ?_⟩; have n0_ := Aside0.mk (KeepBut.blk hk (g' := gb255) (o := .cells #[.int .i64 0, .int .u64 0, .string (⟨#[]⟩ : ByteArray), .int .i64 0, .int .u64 0, .int .u64 0, .int .u64 0, .int .u64 0, .int .u64 0, .int .u64 0, .int .u64 0] 32 (0, 0)) (bk BK255) NB255_258.out (by simp)); have n1_ := Aside0.mk (KeepBut.blk hk (g' := gb262) (o := .cells #[.int .i64 (wrap64 (t259)), .int .u64 t266, .string t269, .int .i64 0, .int .u64 0, .int .u64 0, .int .u64 0, .int .u64 0, .int .u64 0, .int .u64 0, .int .u64 0] 32 (0, 0)) (by (with_reducible repeat (first | refine blk_drewN ?_ _ | refine blk_drew ?_ | refine blk_alloc ?_ _)); refine blk_put (cs := #[.int .i64 (wrap64 (t259)), .int .u64 t266, .string (⟨#[]⟩ : ByteArray), .int .i64 0, .int .u64 0, .int .u64 0, .int .u64 0, .int .u64 0, .int .u64 0, .int .u64 0, .int .u64 0]) ?_ 2 _ rfl; (with_reducible repeat (first | refine blk_drewN ?_ _ | refine blk_drew ?_ | refine blk_alloc ?_ _)); exact BK262.out) NB262_258.out (by simp)); have n2_ := Aside0.mk (hb); have n3_ := Aside0.mk (hi); clear BK255; clear BK262; clear HB; clear HI258; have BK255 := n0_; have BK262 := n1_; have HB := n2_; have HI258 := n3_; clear n0_ n1_ n2_ n3_; (try clear hb); (try clear hb2); (try clear hk); (try clear hi); have hnb58 := NB262_255.out; have hnc58 := NB255_262.out; have hnb59 := NB262_258.out; have hnc59 := NB258_262.out; obtain ⟨hcz60_0, hcz60_1, hcz60_2, hcz60_3, hcz60_4, hcz60_5, hcz60_6, hcz60_7, hcz60_8, hcz60_9, hcz60_10, hfz60_0, hfz60_1, hfz60_2, hfz60_3, hfz60_4, hfz60_5, hfz60_6, hfz60_7, hfz60_8, hfz60_9, hfz60_10⟩ := bc11 BK262) | ((with_reducible refine gate_callee (f := 41) rfl ?_); refine gl (some 48) Tryd.func41 #[.pointer (some ⟨g258, 0, none⟩)] ?_; (with_reducible refine (pack_Reader_U64.calls g258 t273 t274 t275 t276 t277 w _ ?side3 ?side1 ?side2 A47.out).mono ?_); (case side1 => repeat (first | (with_reducible first | exact HI258.out | apply IsS114.alloc | apply IsS114.drewN | apply IsS114.drew | apply IsS114.set_0 | apply IsS114.set_1 | refine IsS114.far ?_ NB258_255.out (tb BK255) (by decide) _ | refine IsS114.far ?_ NB258_262.out (tb BK262) (by decide) _) | exact HI258.out)); (case side2 => repeat (first | (with_reducible first | exact HB.out | apply below_alloc | apply pw_below_drewN | apply below_drew1 | refine below_set ?_ (IsS114.ge HI258.out) | refine below_set ?_ GE255.out | refine below_set ?_ GE262.out) | exact HB.out)); (case side3 => exact HERR.out); rintro e w61 ⟨rfl, hi, hb, hk⟩; refine ⟨_, rfl, ?_⟩; have n0_ := Aside0.mk (KeepBut.blk hk (g' := gb255) (o := .cells #[.int .i64 0, .int .u64 0, .string (⟨#[]⟩ : ByteArray), .int .i64 0, .int .u64 0, .int .u64 0, .int .u64 0, .int .u64 0, .int .u64 0, .int .u64 0, .int .u64 0] 32 (0, 0)) (bk BK255) NB255_258.out (by simp)); have n1_ := Aside0.mk (KeepBut.blk hk (g' := gb262) (o := .cells #[.int .i64 (wrap64 (t259)), .int .u64 t266, .string t269, .int .i64 (wrap64 (t272)), .int .u64 0, .int .u64 0, .int .u64 0, .int .u64 0, .int .u64 0, .int .u64 0, .int .u64 0] 32 (0, 0)) (bk BK262) NB262_258.out (by simp)); have n2_ := Aside0.mk (hb); have n3_ := Aside0.mk (hi); clear BK255; clear BK262; clear HB; clear HI258; have BK255 := n0_; have BK262 := n1_; have HB := n2_; have HI258 := n3_; clear n0_ n1_ n2_ n3_; (try clear hb); (try clear hb2); (try clear hk); (try clear hi)) | ((with_reducible refine gate_callee (f := 41) rfl ?_); refine gl (some 50) Tryd.func41 #[.pointer (some ⟨g258, 0, none⟩)] ?_; (with_reducible refine (pack_Reader_U64.calls g258 t276 t277 t278 t279 t280 w _ ?side3 ?side1 ?side2 A48.out).mono ?_); (case side1 => repeat (first | (with_reducible first | exact HI258.out | apply IsS114.alloc | apply IsS114.drewN | apply IsS114.drew | apply IsS114.set_0 | apply IsS114.set_1 | refine IsS114.far ?_ NB258_255.out (tb BK255) (by decide) _ | refine IsS114.far ?_ NB258_262.out (tb BK262) (by decide) _) | exact HI258.out)); (case side2 => repeat (first | (with_reducible first | exact HB.out | apply below_alloc | apply pw_below_drewN | apply below_drew1 | refine below_set ?_ (IsS114.ge HI258.out) | refine below_set ?_ GE255.out | refine below_set ?_ GE262.out) | exact HB.out)); (case side3 => exact HERR.out); rintro e w62 ⟨rfl, hi, hb, hk⟩; refine ⟨_, rfl, ?_⟩; have n0_ := Aside0.mk (KeepBut.blk hk (g' := gb255) (o := .cells #[.int .i64 0, .int .u64 0, .string (⟨#[]⟩ : ByteArray), .int .i64 0, .int .u64 0, .int .u64 0, .int .u64 0, .int .u64 0, .int .u64 0, .int .u64 0, .int .u64 0] 32 (0, 0)) (bk BK255) NB255_258.out (by simp)); have n1_ := Aside0.mk (KeepBut.blk hk (g' := gb262) (o := .cells #[.int .i64 (wrap64 (t259)), .int .u64 t266, .string t269, .int .i64 (wrap64 (t272)), .int .u64 0, .int .u64 0, .int .u64 0, .int .u64 0, .int .u64 0, .int .u64 0, .int .u64 0] 32 (0, 0)) (bk BK262) NB262_258.out (by simp)); have n2_ := Aside0.mk (hb); have n3_ := Aside0.mk (hi); clear BK255; clear BK262; clear HB; clear HI258; have BK255 := n0_; have BK262 := n1_; have HB := n2_; have HI258 := n3_; clear n0_ n1_ n2_ n3_; (try clear hb); (try clear hb2); (try clear hk); (try clear hi); obtain ⟨hcz63_0, hcz63_1, hcz63_2, hcz63_3, hcz63_4, hcz63_5, hcz63_6, hcz63_7, hcz63_8, hcz63_9, hcz63_10, hfz63_0, hfz63_1, hfz63_2, hfz63_3, hfz63_4, hfz63_5, hfz63_6, hfz63_7, hfz63_8, hfz63_9, hfz63_10⟩ := bc11 BK262))
                  go_meet
                  case rel => exact ⟨_, (t279), (t280), (wrap64 (t272)), (t275), (t278), (0), (0), (0), (0), (0), H', ⟨by have := HJ6.out; first | omega | exact Nat.le_refl _⟩, ⟨bk BK255⟩, ⟨bk BK262⟩, ⟨by repeat (first | (with_reducible first | exact HI258.out | apply IsS114.alloc | apply IsS114.drewN | apply IsS114.drew | apply IsS114.set_0 | apply IsS114.set_1 | refine IsS114.far ?_ NB258_255.out (tb BK255) (by decide) _ | refine IsS114.far ?_ NB258_262.out (tb BK262) (by decide) _) | exact HI258.out)⟩, ⟨by repeat (first | (with_reducible first | exact HB.out | apply below_alloc | apply pw_below_drewN | apply below_drew1 | refine below_set ?_ (IsS114.ge HI258.out) | refine below_set ?_ GE255.out | refine below_set ?_ GE262.out) | exact HB.out)⟩⟩
              · rw [if_neg c45] at H
                have c45b0 : ((wrap64 (t259)) == 1) = false := beq_eq_false_iff_ne.mpr c45
                have c45b1 : ((wrap64 (t259)) != 1) = true := bne_iff_ne.mpr c45
                (first | rw [c45b0] | (simp only [i64_w, i32_w]; rw [c45b0]) | skip)
                by_cases c64 : (wrap64 (t259)) = 3
                · rw [if_pos c64] at H
                  have c64b0 : ((wrap64 (t259)) == 3) = true := beq_iff_eq.mpr c64
                  have c64b1 : ((wrap64 (t259)) != 3) = false := bne_eq_false_iff_eq.mpr c64
                  clear c64
                  replace H := Option.bind_eq_some_iff.mp H
                  obtain ⟨⟨t281, t282, t283⟩, A650, H⟩ := H
                  replace H : ((pack_Reader_U64.f t282 t283).bind fun bt284 => ((pack_Reader_U64.f bt284.2.1 bt284.2.2).bind fun bt287 => (record_Decode.j1 kj6 bt287.2.1 bt287.2.2 (wrap64 (t259)) t266 t269 0 0 0 0 0 t281 bt284.1 bt287.1))) = some (r1, r2, r3, r4, r5, r6, r7, r8, r9, r10, r11, r12) := H
                  have A65 := Aside0.mk A650
                  clear A650
                  replace H := Option.bind_eq_some_iff.mp H
                  obtain ⟨⟨t284, t285, t286⟩, A660, H⟩ := H
                  replace H : ((pack_Reader_U64.f t285 t286).bind fun bt287 => (record_Decode.j1 kj6 bt287.2.1 bt287.2.2 (wrap64 (t259)) t266 t269 0 0 0 0 0 t281 t284 bt287.1)) = some (r1, r2, r3, r4, r5, r6, r7, r8, r9, r10, r11, r12) := H
                  have A66 := Aside0.mk A660
                  clear A660
                  replace H := Option.bind_eq_some_iff.mp H
                  obtain ⟨⟨t287, t288, t289⟩, A670, H⟩ := H
                  replace H : (record_Decode.j1 kj6 t288 t289 (wrap64 (t259)) t266 t269 0 0 0 0 0 t281 t284 t287) = some (r1, r2, r3, r4, r5, r6, r7, r8, r9, r10, r11, r12) := H
                  have A67 := Aside0.mk A670
                  clear A670
                  have H' := Aside0.mk H
                  clear H
                  go_wp2_with (first | ((with_reducible refine gate_callee (f := 41) rfl ?_); refine gl (some 70) Tryd.func41 #[.pointer (some ⟨g258, 0, none⟩)] ?_; (with_reducible refine (pack_Reader_U64.calls g258 t270 t271 t281 t282 t283 w _ ?side3 ?side1 ?side2 A65.out).mono ?_); (case side1 => repeat (first | (with_reducible first | exact HI258.out | apply IsS114.alloc | apply IsS114.drewN | apply IsS114.drew | apply IsS114.set_0 | apply IsS114.set_1 | refine IsS114.far ?_ NB258_255.out (tb BK255) (by decide) _ | refine IsS114.far ?_ NB258_262.out (tb BK262) (by decide) _) | exact HI258.out)); (case side2 => repeat (first | (with_reducible first | exact HB.out | apply below_alloc | apply pw_below_drewN | apply below_drew1 | refine below_set ?_ (IsS114.ge HI258.out) | refine below_set ?_ GE255.out | refine below_set ?_ GE262.out) | exact HB.out)); (case side3 => exact HERR.out); rintro e w68 ⟨rfl, hi, hb, hk⟩; refine ⟨_, rfl, ?_⟩; have n0_ := Aside0.mk (KeepBut.blk hk (g' := gb255) (o := .cells #[.int .i64 0, .int .u64 0, .string (⟨#[]⟩ : ByteArray), .int .i64 0, .int .u64 0, .int .u64 0, .int .u64 0, .int .u64 0, .int .u64 0, .int .u64 0, .int .u64 0] 32 (0, 0)) (bk BK255) NB255_258.out (by simp)); have n1_ := Aside0.mk (KeepBut.blk hk (g' := gb262) (o := .cells #[.int .i64 (wrap64 (t259)), .int .u64 t266, .string t269, .int .i64 0, .int .u64 0, .int .u64 0, .int .u64 0, .int .u64 0, .int .u64 0, .int .u64 0, .int .u64 0] 32 (0, 0)) (by (with_reducible repeat (first | refine blk_drewN ?_ _ | refine blk_drew ?_ | refine blk_alloc ?_ _)); refine blk_put (cs := #[.int .i64 (wrap64 (t259)), .int .u64 t266, .string (⟨#[]⟩ : ByteArray), .int .i64 0, .int .u64 0, .int .u64 0, .int .u64 0, .int .u64 0, .int .u64 0, .int .u64 0, .int .u64 0]) ?_ 2 _ rfl; (with_reducible repeat (first | refine blk_drewN ?_ _ | refine blk_drew ?_ | refine blk_alloc ?_ _)); exact BK262.out) NB262_258.out (by simp)); have n2_ := Aside0.mk (hb); have n3_ := Aside0.mk (hi); clear BK255; clear BK262; clear HB; clear HI258; have BK255 := n0_; have BK262 := n1_; have HB := n2_; have HI258 := n3_; clear n0_ n1_ n2_ n3_; (try clear hb); (try clear hb2); (try clear hk); (try clear hi); have hnb69 := NB262_255.out; have hnc69 := NB255_262.out; have hnb70 := NB262_258.out; have hnc70 := NB258_262.out; obtain ⟨hcz71_0, hcz71_1, hcz71_2, hcz71_3, hcz71_4, hcz71_5, hcz71_6, hcz71_7, hcz71_8, hcz71_9, hcz71_10, hfz71_0, hfz71_1, hfz71_2, hfz71_3, hfz71_4, hfz71_5, hfz71_6, hfz71_7, hfz71_8, hfz71_9, hfz71_10⟩ := bc11 BK262) | ((with_reducible refine gate_callee (f := 41) rfl ?_); refine gl (some 74) Tryd.func41 #[.pointer (some ⟨g258, 0, none⟩)] ?_; (with_reducible refine (pack_Reader_U64.calls g258 t282 t283 t284 t285 t286 w _ ?side3 ?side1 ?side2 A66.out).mono ?_); (case side1 => repeat (first | (with_reducible first | exact HI258.out | apply IsS114.alloc | apply IsS114.drewN | apply IsS114.drew | apply IsS114.set_0 | apply IsS114.set_1 | refine IsS114.far ?_ NB258_255.out (tb BK255) (by decide) _ | refine IsS114.far ?_ NB258_262.out (tb BK262) (by decide) _) | exact HI258.out)); (case side2 => repeat (first | (with_reducible first | exact HB.out | apply below_alloc | apply pw_below_drewN | apply below_drew1 | refine below_set ?_ (IsS114.ge HI258.out) | refine below_set ?_ GE255.out | refine below_set ?_ GE262.out) | exact HB.out)); (case side3 => exact HERR.out); rintro e w72 ⟨rfl, hi, hb, hk⟩; refine ⟨_, rfl, ?_⟩; have n0_ := Aside0.mk (KeepBut.blk hk (g' := gb255) (o := .cells #[.int .i64 0, .int .u64 0, .string (⟨#[]⟩ : ByteArray), .int .i64 0, .int .u64 0, .int .u64 0, .int .u64 0, .int .u64 0, .int .u64 0, .int .u64 0, .int .u64 0] 32 (0, 0)) (bk BK255) NB255_258.out (by simp)); have n1_ := Aside0.mk (KeepBut.blk hk (g' := gb262) (o := .cells #[.int .i64 (wrap64 (t259)), .int .u64 t266, .string t269, .int .i64 0, .int .u64 0, .int .u64 0, .int .u64 0, .int .u64 0, .int .u64 t281, .int .u64 0, .int .u64 0] 32 (0, 0)) (bk BK262) NB262_258.out (by simp)); have n2_ := Aside0.mk (hb); have n3_ := Aside0.mk (hi); clear BK255; clear BK262; clear HB; clear HI258; have BK255 := n0_; have BK262 := n1_; have HB := n2_; have HI258 := n3_; clear n0_ n1_ n2_ n3_; (try clear hb); (try clear hb2); (try clear hk); (try clear hi); obtain ⟨hcz73_0, hcz73_1, hcz73_2, hcz73_3, hcz73_4, hcz73_5, hcz73_6, hcz73_7, hcz73_8, hcz73_9, hcz73_10, hfz73_0, hfz73_1, hfz73_2, hfz73_3, hfz73_4, hfz73_5, hfz73_6, hfz73_7, hfz73_8, hfz73_9, hfz73_10⟩ := bc11 BK262) | ((with_reducible refine gate_callee (f := 41) rfl ?_); refine gl (some 78) Tryd.func41 #[.pointer (some ⟨g258, 0, none⟩)] ?_; (with_reducible refine (pack_Reader_U64.calls g258 t285 t286 t287 t288 t289 w _ ?side3 ?side1 ?side2 A67.out).mono ?_); (case side1 => repeat (first | (with_reducible first | exact HI258.out | apply IsS114.alloc | apply IsS114.drewN | apply IsS114.drew | apply IsS114.set_0 | apply IsS114.set_1 | refine IsS114.far ?_ NB258_255.out (tb BK255) (by decide) _ | refine IsS114.far ?_ NB258_262.out (tb BK262) (by decide) _) | exact HI258.out)); (case side2 => repeat (first | (with_reducible first | exact HB.out | apply below_alloc | apply pw_below_drewN | apply below_drew1 | refine below_set ?_ (IsS114.ge HI258.out) | refine below_set ?_ GE255.out | refine below_set ?_ GE262.out) | exact HB.out)); (case side3 => exact HERR.out); rintro e w74 ⟨rfl, hi, hb, hk⟩; refine ⟨_, rfl, ?_⟩; have n0_ := Aside0.mk (KeepBut.blk hk (g' := gb255) (o := .cells #[.int .i64 0, .int .u64 0, .string (⟨#[]⟩ : ByteArray), .int .i64 0, .int .u64 0, .int .u64 0, .int .u64 0, .int .u64 0, .int .u64 0, .int .u64 0, .int .u64 0] 32 (0, 0)) (bk BK255) NB255_258.out (by simp)); have n1_ := Aside0.mk (KeepBut.blk hk (g' := gb262) (o := .cells #[.int .i64 (wrap64 (t259)), .int .u64 t266, .string t269, .int .i64 0, .int .u64 0, .int .u64 0, .int .u64 0, .int .u64 0, .int .u64 t281, .int .u64 t284, .int .u64 0] 32 (0, 0)) (bk BK262) NB262_258.out (by simp)); have n2_ := Aside0.mk (hb); have n3_ := Aside0.mk (hi); clear BK255; clear BK262; clear HB; clear HI258; have BK255 := n0_; have BK262 := n1_; have HB := n2_; have HI258 := n3_; clear n0_ n1_ n2_ n3_; (try clear hb); (try clear hb2); (try clear hk); (try clear hi); obtain ⟨hcz75_0, hcz75_1, hcz75_2, hcz75_3, hcz75_4, hcz75_5, hcz75_6, hcz75_7, hcz75_8, hcz75_9, hcz75_10, hfz75_0, hfz75_1, hfz75_2, hfz75_3, hfz75_4, hfz75_5, hfz75_6, hfz75_7, hfz75_8, hfz75_9, hfz75_10⟩ := bc11 BK262))
                  go_meet
                  case rel => exact ⟨_, (t288), (t289), (0), (0), (0), (0), (0), (t281), (t284), (t287), H', ⟨by have := HJ6.out; first | omega | exact Nat.le_refl _⟩, ⟨bk BK255⟩, ⟨bk BK262⟩, ⟨by repeat (first | (with_reducible first | exact HI258.out | apply IsS114.alloc | apply IsS114.drewN | apply IsS114.drew | apply IsS114.set_0 | apply IsS114.set_1 | refine IsS114.far ?_ NB258_255.out (tb BK255) (by decide) _ | refine IsS114.far ?_ NB258_262.out (tb BK262) (by decide) _) | exact HI258.out)⟩, ⟨by repeat (first | (with_reducible first | exact HB.out | apply below_alloc | apply pw_below_drewN | apply below_drew1 | refine below_set ?_ (IsS114.ge HI258.out) | refine below_set ?_ GE255.out | refine below_set ?_ GE262.out) | exact HB.out)⟩⟩
                · rw [if_neg c64] at H
                  have c64b0 : ((wrap64 (t259)) == 3) = false := beq_eq_false_iff_ne.mpr c64
                  have c64b1 : ((wrap64 (t259)) != 3) = true := bne_iff_ne.mpr c64
                  have H' := Aside0.mk H
                  clear H
                  go_wp2
                  go_meet
                  case rel => exact ⟨_, (t270), (t271), (0), (0), (0), (0), (0), (0), (0), (0), H', ⟨by have := HJ6.out; first | omega | exact Nat.le_refl _⟩, ⟨bk BK255⟩, ⟨by (with_reducible repeat (first | refine blk_drewN ?_ _ | refine blk_drew ?_ | refine blk_alloc ?_ _)); refine blk_put (cs := #[.int .i64 (wrap64 (t259)), .int .u64 t266, .string (⟨#[]⟩ : ByteArray), .int .i64 0, .int .u64 0, .int .u64 0, .int .u64 0, .int .u64 0, .int .u64 0, .int .u64 0, .int .u64 0]) ?_ 2 _ rfl; (with_reducible repeat (first | refine blk_drewN ?_ _ | refine blk_drew ?_ | refine blk_alloc ?_ _)); exact BK262.out⟩, ⟨by repeat (first | (with_reducible first | exact HI258.out | apply IsS114.alloc | apply IsS114.drewN | apply IsS114.drew | apply IsS114.set_0 | apply IsS114.set_1 | refine IsS114.far ?_ NB258_255.out (tb BK255) (by decide) _ | refine IsS114.far ?_ NB258_262.out (tb BK262) (by decide) _) | exact HI258.out)⟩, ⟨by repeat (first | (with_reducible first | exact HB.out | apply below_alloc | apply pw_below_drewN | apply below_drew1 | refine below_set ?_ (IsS114.ge HI258.out) | refine below_set ?_ GE255.out | refine below_set ?_ GE262.out) | exact HB.out)⟩⟩
            case rest =>
              clear HC38
              try clear c1
              try clear c2
              try clear p2
              try clear c3
              try clear c4
              try clear c5
              try clear c5b0
              try clear c5b1
              try clear c6
              try clear c6b0
              try clear c6b1
              try clear p6
              try clear c7
              try clear c12
              try clear c13
              try clear c16
              try clear c16b0
              try clear c17
              try clear c18
              try clear c20
              try clear c21
              try clear c23
              try clear c38
              try clear c39
              try clear c40
              try clear c41
              try clear c42
              try clear c45
              try clear c45b0
              try clear c45b1
              try clear c49
              try clear c49b0
              try clear c49b1
              try clear c51
              try clear c52
              try clear c58
              try clear c59
              try clear c64
              try clear c64b0
              try clear c64b1
              try clear p64
              try clear c69
              try clear c70
              try clear hcz14_0
              try clear hcz14_1
              try clear hcz14_10
              try clear hcz14_2
              try clear hcz14_3
              try clear hcz14_4
              try clear hcz14_5
              try clear hcz14_6
              try clear hcz14_7
              try clear hcz14_8
              try clear hcz14_9
              try clear hcz19_0
              try clear hcz19_1
              try clear hcz19_10
              try clear hcz19_2
              try clear hcz19_3
              try clear hcz19_4
              try clear hcz19_5
              try clear hcz19_6
              try clear hcz19_7
              try clear hcz19_8
              try clear hcz19_9
              try clear hcz22_0
              try clear hcz22_1
              try clear hcz22_10
              try clear hcz22_2
              try clear hcz22_3
              try clear hcz22_4
              try clear hcz22_5
              try clear hcz22_6
              try clear hcz22_7
              try clear hcz22_8
              try clear hcz22_9
              try clear hcz42_0
              try clear hcz42_1
              try clear hcz42_10
              try clear hcz42_2
              try clear hcz42_3
              try clear hcz42_4
              try clear hcz42_5
              try clear hcz42_6
              try clear hcz42_7
              try clear hcz42_8
              try clear hcz42_9
              try clear hcz44_0
              try clear hcz44_1
              try clear hcz44_10
              try clear hcz44_2
              try clear hcz44_3
              try clear hcz44_4
              try clear hcz44_5
              try clear hcz44_6
              try clear hcz44_7
              try clear hcz44_8
              try clear hcz44_9
              try clear hcz53_0
              try clear hcz53_1
              try clear hcz53_10
              try clear hcz53_2
              try clear hcz53_3
              try clear hcz53_4
              try clear hcz53_5
              try clear hcz53_6
              try clear hcz53_7
              try clear hcz53_8
              try clear hcz53_9
              try clear hcz56_0
              try clear hcz56_1
              try clear hcz56_10
              try clear hcz56_2
              try clear hcz56_3
              try clear hcz56_4
              try clear hcz56_5
              try clear hcz56_6
              try clear hcz56_7
              try clear hcz56_8
              try clear hcz56_9
              try clear hcz60_0
              try clear hcz60_1
              try clear hcz60_10
              try clear hcz60_2
              try clear hcz60_3
              try clear hcz60_4
              try clear hcz60_5
              try clear hcz60_6
              try clear hcz60_7
              try clear hcz60_8
              try clear hcz60_9
              try clear hcz63_0
              try clear hcz63_1
              try clear hcz63_10
              try clear hcz63_2
              try clear hcz63_3
              try clear hcz63_4
              try clear hcz63_5
              try clear hcz63_6
              try clear hcz63_7
              try clear hcz63_8
              try clear hcz63_9
              try clear hcz71_0
              try clear hcz71_1
              try clear hcz71_10
              try clear hcz71_2
              try clear hcz71_3
              try clear hcz71_4
              try clear hcz71_5
              try clear hcz71_6
              try clear hcz71_7
              try clear hcz71_8
              try clear hcz71_9
              try clear hcz73_0
              try clear hcz73_1
              try clear hcz73_10
              try clear hcz73_2
              try clear hcz73_3
              try clear hcz73_4
              try clear hcz73_5
              try clear hcz73_6
              try clear hcz73_7
              try clear hcz73_8
              try clear hcz73_9
              try clear hcz75_0
              try clear hcz75_1
              try clear hcz75_10
              try clear hcz75_2
              try clear hcz75_3
              try clear hcz75_4
              try clear hcz75_5
              try clear hcz75_6
              try clear hcz75_7
              try clear hcz75_8
              try clear hcz75_9
              try clear hfz14_0
              try clear hfz14_1
              try clear hfz14_10
              try clear hfz14_2
              try clear hfz14_3
              try clear hfz14_4
              try clear hfz14_5
              try clear hfz14_6
              try clear hfz14_7
              try clear hfz14_8
              try clear hfz14_9
              try clear hfz19_0
              try clear hfz19_1
              try clear hfz19_10
              try clear hfz19_2
              try clear hfz19_3
              try clear hfz19_4
              try clear hfz19_5
              try clear hfz19_6
              try clear hfz19_7
              try clear hfz19_8
              try clear hfz19_9
              try clear hfz22_0
              try clear hfz22_1
              try clear hfz22_10
              try clear hfz22_2
              try clear hfz22_3
              try clear hfz22_4
              try clear hfz22_5
              try clear hfz22_6
              try clear hfz22_7
              try clear hfz22_8
              try clear hfz22_9
              try clear hfz42_0
              try clear hfz42_1
              try clear hfz42_10
              try clear hfz42_2
              try clear hfz42_3
              try clear hfz42_4
              try clear hfz42_5
              try clear hfz42_6
              try clear hfz42_7
              try clear hfz42_8
              try clear hfz42_9
              try clear hfz44_0
              try clear hfz44_1
              try clear hfz44_10
              try clear hfz44_2
              try clear hfz44_3
              try clear hfz44_4
              try clear hfz44_5
              try clear hfz44_6
              try clear hfz44_7
              try clear hfz44_8
              try clear hfz44_9
              try clear hfz53_0
              try clear hfz53_1
              try clear hfz53_10
              try clear hfz53_2
              try clear hfz53_3
              try clear hfz53_4
              try clear hfz53_5
              try clear hfz53_6
              try clear hfz53_7
              try clear hfz53_8
              try clear hfz53_9
              try clear hfz56_0
              try clear hfz56_1
              try clear hfz56_10
              try clear hfz56_2
              try clear hfz56_3
              try clear hfz56_4
              try clear hfz56_5
              try clear hfz56_6
              try clear hfz56_7
              try clear hfz56_8
              try clear hfz56_9
              try clear hfz60_0
              try clear hfz60_1
              try clear hfz60_10
              try clear hfz60_2
              try clear hfz60_3
              try clear hfz60_4
              try clear hfz60_5
              try clear hfz60_6
              try clear hfz60_7
              try clear hfz60_8
              try clear hfz60_9
              try clear hfz63_0
              try clear hfz63_1
              try clear hfz63_10
              try clear hfz63_2
              try clear hfz63_3
              try clear hfz63_4
              try clear hfz63_5
              try clear hfz63_6
              try clear hfz63_7
              try clear hfz63_8
              try clear hfz63_9
              try clear hfz71_0
              try clear hfz71_1
              try clear hfz71_10
              try clear hfz71_2
              try clear hfz71_3
              try clear hfz71_4
              try clear hfz71_5
              try clear hfz71_6
              try clear hfz71_7
              try clear hfz71_8
              try clear hfz71_9
              try clear hfz73_0
              try clear hfz73_1
              try clear hfz73_10
              try clear hfz73_2
              try clear hfz73_3
              try clear hfz73_4
              try clear hfz73_5
              try clear hfz73_6
              try clear hfz73_7
              try clear hfz73_8
              try clear hfz73_9
              try clear hfz75_0
              try clear hfz75_1
              try clear hfz75_10
              try clear hfz75_2
              try clear hfz75_3
              try clear hfz75_4
              try clear hfz75_5
              try clear hfz75_6
              try clear hfz75_7
              try clear hfz75_8
              try clear hfz75_9
              try clear p2
              try clear p6
              obtain ⟨kq, x259000_37, x259001_37, x263003_37, x263004_37, x263005_37, x263006_37, x263007_37, x263008_37, x263009_37, x263010_37, HA, HJ37, BK255, BK262, HI258, HB⟩ := hcut
              cases kq with
              | zero => exact absurd HA.out (by simp [record_Decode.j1])
              | succ kj37 =>
                have H := HA.out
                clear HA
                simp only [record_Decode.j1] at H
                replace H := Option.bind_eq_some_iff.mp H
                obtain ⟨⟨t290, t291, t292⟩, A760, H⟩ := H
                replace H : (if 0 ≤ t290 then (if t290 = 0 then ((pack_Reader_Left.f t291 t292).bind fun bt293 => (if bt293.1 > 0 then (some (0, 0, (⟨#[]⟩ : ByteArray), 0, 0, 0, 0, 0, 0, 0, 0, 3)) else ((record_Valid.f kj37 (wrap64 (t259)) t266 t269 x263003_37 x263004_37 x263005_37 x263006_37 x263007_37 x263008_37 x263009_37 x263010_37).bind fun t296 => (if t296 = true then (some ((wrap64 (t259)), t266, t269, x263003_37, x263004_37, x263005_37, x263006_37, x263007_37, x263008_37, x263009_37, x263010_37, 0)) else (some (0, 0, (⟨#[]⟩ : ByteArray), 0, 0, 0, 0, 0, 0, 0, 0, 3)))))) else (some (0, 0, (⟨#[]⟩ : ByteArray), 0, 0, 0, 0, 0, 0, 0, 0, t290))) else (none)) = some (r1, r2, r3, r4, r5, r6, r7, r8, r9, r10, r11, r12) := H
                have A76 := Aside0.mk A760
                clear A760
                by_cases c77 : 0 ≤ t290
                · rw [if_pos c77] at H
                  have c77b0 := eq_true c77
                  have c77b1 : decide (0 ≤ t290) = true := decide_eq_true c77
                  clear c77
                  by_cases c78 : t290 = 0
                  · rw [if_pos c78] at H
                    have c78b0 : (t290 == 0) = true := beq_iff_eq.mpr c78
                    have c78b1 : (t290 != 0) = false := bne_eq_false_iff_eq.mpr c78
                    clear c78
                    replace H := Option.bind_eq_some_iff.mp H
                    obtain ⟨⟨t293, t294, t295⟩, A790, H⟩ := H
                    replace H : (if t293 > 0 then (some (0, 0, (⟨#[]⟩ : ByteArray), 0, 0, 0, 0, 0, 0, 0, 0, 3)) else ((record_Valid.f kj37 (wrap64 (t259)) t266 t269 x263003_37 x263004_37 x263005_37 x263006_37 x263007_37 x263008_37 x263009_37 x263010_37).bind fun t296 => (if t296 = true then (some ((wrap64 (t259)), t266, t269, x263003_37, x263004_37, x263005_37, x263006_37, x263007_37, x263008_37, x263009_37, x263010_37, 0)) else (some (0, 0, (⟨#[]⟩ : ByteArray), 0, 0, 0, 0, 0, 0, 0, 0, 3))))) = some (r1, r2, r3, r4, r5, r6, r7, r8, r9, r10, r11, r12) := H
                    have A79 := Aside0.mk A790
                    clear A790
                    by_cases c80 : t293 > 0
                    · rw [if_pos c80] at H
                      have c80b0 : decide (0 < t293) = true := decide_eq_true c80
                      clear c80
                      simp only [Option.some.injEq, Prod.mk.injEq] at H
                      obtain ⟨rfl, rfl, rfl, rfl, rfl, rfl, rfl, rfl, rfl, rfl, rfl, rfl⟩ := H
                      try go_wp2_with (first | ((with_reducible refine gate_callee (f := 40) rfl ?_); refine gl (some 82) Tryd.func40 #[.pointer (some ⟨g258, 0, none⟩)] ?_; (with_reducible refine (pack_Reader_Err.calls g258 x259000_37 x259001_37 t290 t291 t292 w _ ?side3 ?side1 ?side2 A76.out).mono ?_); (case side1 => repeat (first | (with_reducible first | exact HI258.out | apply IsS114.alloc | apply IsS114.drewN | apply IsS114.drew | apply IsS114.set_0 | apply IsS114.set_1 | refine IsS114.far ?_ NB258_255.out (tb BK255) (by decide) _ | refine IsS114.far ?_ NB258_262.out (tb BK262) (by decide) _) | exact HI258.out)); (case side2 => repeat (first | (with_reducible first | exact HB.out | apply below_alloc | apply pw_below_drewN | apply below_drew1 | refine below_set ?_ (IsS114.ge HI258.out) | refine below_set ?_ GE255.out | refine below_set ?_ GE262.out) | exact HB.out)); (case side3 => exact HERR.out); rintro e w81 ⟨rfl, hi, hb, hk⟩; refine ⟨_, rfl, ?_⟩; have n0_ := Aside0.mk (KeepBut.blk hk (g' := gb255) (o := .cells #[.int .i64 0, .int .u64 0, .string (⟨#[]⟩ : ByteArray), .int .i64 0, .int .u64 0, .int .u64 0, .int .u64 0, .int .u64 0, .int .u64 0, .int .u64 0, .int .u64 0] 32 (0, 0)) (bk BK255) NB255_258.out (by simp)); have n1_ := Aside0.mk (KeepBut.blk hk (g' := gb262) (o := .cells #[.int .i64 (wrap64 (t259)), .int .u64 t266, .string t269, .int .i64 x263003_37, .int .u64 x263004_37, .int .u64 x263005_37, .int .u64 x263006_37, .int .u64 x263007_37, .int .u64 x263008_37, .int .u64 x263009_37, .int .u64 x263010_37] 32 (0, 0)) (bk BK262) NB262_258.out (by simp)); have n2_ := Aside0.mk (hb); have n3_ := Aside0.mk (hi); clear BK255; clear BK262; clear HB; clear HI258; have BK255 := n0_; have BK262 := n1_; have HB := n2_; have HI258 := n3_; clear n0_ n1_ n2_ n3_; (try clear hb); (try clear hb2); (try clear hk); (try clear hi)) | ((with_reducible refine gate_dst (N := 84) rfl ?_); refine nen_err t290 (b := (t290 != 0)) ?_ rfl (of_decide_eq_true (by first | (with_reducible assumption) | assumption))) | ((with_reducible refine gate_callee (f := 43) rfl ?_); refine gl (some 88) Tryd.func43 #[.pointer (some ⟨g258, 0, none⟩)] ?_; (with_reducible refine (pack_Reader_Left.calls g258 t291 t292 t293 t294 t295 w _ ?side3 ?side1 ?side2 A79.out).mono ?_); (case side1 => repeat (first | (with_reducible first | exact HI258.out | apply IsS114.alloc | apply IsS114.drewN | apply IsS114.drew | apply IsS114.set_0 | apply IsS114.set_1 | refine IsS114.far ?_ NB258_255.out (tb BK255) (by decide) _ | refine IsS114.far ?_ NB258_262.out (tb BK262) (by decide) _) | exact HI258.out)); (case side2 => repeat (first | (with_reducible first | exact HB.out | apply below_alloc | apply pw_below_drewN | apply below_drew1 | refine below_set ?_ (IsS114.ge HI258.out) | refine below_set ?_ GE255.out | refine below_set ?_ GE262.out) | exact HB.out)); (case side3 => exact HERR.out); rintro e w82 ⟨rfl, hi, hb, hk⟩; refine ⟨_, rfl, ?_⟩; have n0_ := Aside0.mk (KeepBut.blk hk (g' := gb255) (o := .cells #[.int .i64 0, .int .u64 0, .string (⟨#[]⟩ : ByteArray), .int .i64 0, .int .u64 0, .int .u64 0, .int .u64 0, .int .u64 0, .int .u64 0, .int .u64 0, .int .u64 0] 32 (0, 0)) (bk BK255) NB255_258.out (by simp)); have n1_ := Aside0.mk (KeepBut.blk hk (g' := gb262) (o := .cells #[.int .i64 (wrap64 (t259)), .int .u64 t266, .string t269, .int .i64 x263003_37, .int .u64 x263004_37, .int .u64 x263005_37, .int .u64 x263006_37, .int .u64 x263007_37, .int .u64 x263008_37, .int .u64 x263009_37, .int .u64 x263010_37] 32 (0, 0)) (bk BK262) NB262_258.out (by simp)); have n2_ := Aside0.mk (hb); have n3_ := Aside0.mk (hi); clear BK255; clear BK262; clear HB; clear HI258; have BK255 := n0_; have BK262 := n1_; have HB := n2_; have HI258 := n3_; clear n0_ n1_ n2_ n3_; (try clear hb); (try clear hb2); (try clear hk); (try clear hi)))
                      have n0_ := Aside0.mk (blk_drew BK255.out)
                      have n1_ := Aside0.mk (blk_drew BK262.out)
                      have n2_ := Aside0.mk (IsS114.drew HI258.out)
                      have n3_ := Aside0.mk (below_drew1 HB.out)
                      clear BK255
                      clear BK262
                      clear HI258
                      clear HB
                      have BK255 := n0_
                      have BK262 := n1_
                      have HI258 := n2_
                      have HB := n3_
                      clear n0_ n1_ n2_ n3_
                      refine start_ (n := 4) (S := fun w' => w'.cell? ⟨2, 0, none⟩ = some (errW 3)) (ds := []) #[false, false, false, false] (by kernel_rfl) rfl rfl ((sent_cell 3 2 (HERR.out.below (by repeat (first | (with_reducible first | exact HB.out | apply below_alloc | apply pw_below_drewN | apply below_drew1 | refine below_set ?_ (IsS114.ge HI258.out) | refine below_set ?_ GE255.out | refine below_set ?_ GE262.out) | exact HB.out))) (by decide) (by have := Errs.five; omega) rfl)) (fun hHeld => ?_)
                      generalize w82.drew = w83 at BK255 BK262 HI258 HB hHeld ⊢
                      refine pure_ (i := 0) (N := some 95) (v := ?_) (a' := ?_) #[true, false, false, false] rfl rfl (by kernel_rfl) (fun _ _ _ h => h) (Or.inl ⟨by rfl, ?_⟩) ?_ ?_
                      rotate_left
                      · intro w'
                        go_simp
                        with_reducible rfl
                      rotate_left
                      · simp only [Act.put, List.setIfInBounds_toArray, List.set_cons_zero, List.set_cons_succ, i64_w, i32_w]
                        rfl
                      refine take_ (i := 1) (N := some 96) (v := ?_) (a' := ?_) #[true, true, false, false] rfl rfl (by kernel_rfl) (fun _ _ _ h => h) (Or.inl ⟨by rfl, ?_⟩) hHeld ?_ ?_
                      rotate_left
                      · intro w' s0
                        go_simp
                        with_reducible rfl
                      rotate_left
                      · simp only [Act.put, List.setIfInBounds_toArray, List.set_cons_zero, List.set_cons_succ, i64_w, i32_w]
                        rfl
                      refine one_ (i := 2) (N := none) #[true, true, true, false] rfl rfl (by kernel_rfl) (by decide) (fun K hK => ?_)
                      have hs84 : w83.cell? ⟨gb255, 0, none⟩ = some (.int .i64 0) := (blk_cell BK255.out 0).trans rfl
                      have hfs84 := blk_frozen BK255.out 0
                      have hns84_1 := NB262_255.out
                      have hms84_1 := NB255_262.out
                      have hs85 : w83.cell? ⟨gb255, 1, none⟩ = some (.int .u64 0) := (blk_cell BK255.out 1).trans rfl
                      have hfs85 := blk_frozen BK255.out 1
                      have hns85_1 := NB262_255.out
                      have hms85_1 := NB255_262.out
                      have hs86 : w83.cell? ⟨gb255, 2, none⟩ = some (.string (⟨#[]⟩ : ByteArray)) := (blk_cell BK255.out 2).trans rfl
                      have hfs86 := blk_frozen BK255.out 2
                      have hns86_1 := NB262_255.out
                      have hms86_1 := NB255_262.out
                      have hs87 : w83.cell? ⟨gb255, 3, none⟩ = some (.int .i64 0) := (blk_cell BK255.out 3).trans rfl
                      have hfs87 := blk_frozen BK255.out 3
                      have hns87_1 := NB262_255.out
                      have hms87_1 := NB255_262.out
                      have hs88 : w83.cell? ⟨gb255, 4, none⟩ = some (.int .u64 0) := (blk_cell BK255.out 4).trans rfl
                      have hfs88 := blk_frozen BK255.out 4
                      have hns88_1 := NB262_255.out
                      have hms88_1 := NB255_262.out
                      have hs89 : w83.cell? ⟨gb255, 5, none⟩ = some (.int .u64 0) := (blk_cell BK255.out 5).trans rfl
                      have hfs89 := blk_frozen BK255.out 5
                      have hns89_1 := NB262_255.out
                      have hms89_1 := NB255_262.out
                      have hs90 : w83.cell? ⟨gb255, 6, none⟩ = some (.int .u64 0) := (blk_cell BK255.out 6).trans rfl
                      have hfs90 := blk_frozen BK255.out 6
                      have hns90_1 := NB262_255.out
                      have hms90_1 := NB255_262.out
                      have hs91 : w83.cell? ⟨gb255, 7, none⟩ = some (.int .u64 0) := (blk_cell BK255.out 7).trans rfl
                      have hfs91 := blk_frozen BK255.out 7
                      have hns91_1 := NB262_255.out
                      have hms91_1 := NB255_262.out
                      have hs92 : w83.cell? ⟨gb255, 8, none⟩ = some (.int .u64 0) := (blk_cell BK255.out 8).trans rfl
                      have hfs92 := blk_frozen BK255.out 8
                      have hns92_1 := NB262_255.out
                      have hms92_1 := NB255_262.out
                      have hs93 : w83.cell? ⟨gb255, 9, none⟩ = some (.int .u64 0) := (blk_cell BK255.out 9).trans rfl
                      have hfs93 := blk_frozen BK255.out 9
                      have hns93_1 := NB262_255.out
                      have hms93_1 := NB255_262.out
                      have hs94 : w83.cell? ⟨gb255, 10, none⟩ = some (.int .u64 0) := (blk_cell BK255.out 10).trans rfl
                      have hfs94 := blk_frozen BK255.out 10
                      have hns94_1 := NB262_255.out
                      have hms94_1 := NB255_262.out
                      refine skip_ (w1 := ?_) (by rfl) rfl ?_ ?_
                      rotate_left
                      · go_simp
                        rfl
                      refine hK.out _ _ ((sent_cell 3 2 (HERR.out.below (by repeat (first | (with_reducible first | exact HB.out | apply below_alloc | apply pw_below_drewN | apply below_drew1 | refine below_set ?_ (IsS114.ge HI258.out) | refine below_set ?_ GE255.out | refine below_set ?_ GE262.out) | exact HB.out))) (by decide) (by have := Errs.five; omega) rfl)) (fun hHeld => ?_)
                      clear hK K
                      refine pure_ (i := 3) (N := some 3) (v := ?_) (a' := ?_) #[true, true, true, true] rfl rfl (by kernel_rfl) (fun _ _ _ h => h) (Or.inl ⟨by rfl, ?_⟩) ?_ ?_
                      rotate_left
                      · intro w'
                        go_simp
                        with_reducible rfl
                      rotate_left
                      · simp only [Act.put, List.setIfInBounds_toArray, List.set_cons_zero, List.set_cons_succ, i64_w, i32_w]
                        rfl
                      refine done_ (by kernel_rfl) ?_
                      try go_wp2
                      refine bodyPost_ret (results_ct rfl _ _ gb255 32 #[.int .i64 0, .int .u64 0, .string (⟨#[]⟩ : ByteArray), .int .i64 0, .int .u64 0, .int .u64 0, .int .u64 0, .int .u64 0, .int .u64 0, .int .u64 0, .int .u64 0] (0, 0) _ rfl (by (with_reducible repeat (first | refine blk_drewN ?_ _ | refine blk_drew ?_ | refine blk_alloc ?_ _)); refine blk_put (cs := #[.int .i64 0, .int .u64 0, .string (⟨#[]⟩ : ByteArray), .int .i64 0, .int .u64 0, .int .u64 0, .int .u64 0, .int .u64 0, .int .u64 0, .int .u64 0, .int .u64 0]) ?_ 10 _ rfl; (with_reducible repeat (first | refine blk_drewN ?_ _ | refine blk_drew ?_ | refine blk_alloc ?_ _)); refine blk_put (cs := #[.int .i64 0, .int .u64 0, .string (⟨#[]⟩ : ByteArray), .int .i64 0, .int .u64 0, .int .u64 0, .int .u64 0, .int .u64 0, .int .u64 0, .int .u64 0, .int .u64 0]) ?_ 9 _ rfl; (with_reducible repeat (first | refine blk_drewN ?_ _ | refine blk_drew ?_ | refine blk_alloc ?_ _)); refine blk_put (cs := #[.int .i64 0, .int .u64 0, .string (⟨#[]⟩ : ByteArray), .int .i64 0, .int .u64 0, .int .u64 0, .int .u64 0, .int .u64 0, .int .u64 0, .int .u64 0, .int .u64 0]) ?_ 8 _ rfl; (with_reducible repeat (first | refine blk_drewN ?_ _ | refine blk_drew ?_ | refine blk_alloc ?_ _)); refine blk_put (cs := #[.int .i64 0, .int .u64 0, .string (⟨#[]⟩ : ByteArray), .int .i64 0, .int .u64 0, .int .u64 0, .int .u64 0, .int .u64 0, .int .u64 0, .int .u64 0, .int .u64 0]) ?_ 7 _ rfl; (with_reducible repeat (first | refine blk_drewN ?_ _ | refine blk_drew ?_ | refine blk_alloc ?_ _)); refine blk_put (cs := #[.int .i64 0, .int .u64 0, .string (⟨#[]⟩ : ByteArray), .int .i64 0, .int .u64 0, .int .u64 0, .int .u64 0, .int .u64 0, .int .u64 0, .int .u64 0, .int .u64 0]) ?_ 6 _ rfl; (with_reducible repeat (first | refine blk_drewN ?_ _ | refine blk_drew ?_ | refine blk_alloc ?_ _)); refine blk_put (cs := #[.int .i64 0, .int .u64 0, .string (⟨#[]⟩ : ByteArray), .int .i64 0, .int .u64 0, .int .u64 0, .int .u64 0, .int .u64 0, .int .u64 0, .int .u64 0, .int .u64 0]) ?_ 5 _ rfl; (with_reducible repeat (first | refine blk_drewN ?_ _ | refine blk_drew ?_ | refine blk_alloc ?_ _)); refine blk_put (cs := #[.int .i64 0, .int .u64 0, .string (⟨#[]⟩ : ByteArray), .int .i64 0, .int .u64 0, .int .u64 0, .int .u64 0, .int .u64 0, .int .u64 0, .int .u64 0, .int .u64 0]) ?_ 4 _ rfl; (with_reducible repeat (first | refine blk_drewN ?_ _ | refine blk_drew ?_ | refine blk_alloc ?_ _)); refine blk_put (cs := #[.int .i64 0, .int .u64 0, .string (⟨#[]⟩ : ByteArray), .int .i64 0, .int .u64 0, .int .u64 0, .int .u64 0, .int .u64 0, .int .u64 0, .int .u64 0, .int .u64 0]) ?_ 3 _ rfl; (with_reducible repeat (first | refine blk_drewN ?_ _ | refine blk_drew ?_ | refine blk_alloc ?_ _)); refine blk_put (cs := #[.int .i64 0, .int .u64 0, .string (⟨#[]⟩ : ByteArray), .int .i64 0, .int .u64 0, .int .u64 0, .int .u64 0, .int .u64 0, .int .u64 0, .int .u64 0, .int .u64 0]) ?_ 2 _ rfl; (with_reducible repeat (first | refine blk_drewN ?_ _ | refine blk_drew ?_ | refine blk_alloc ?_ _)); refine blk_put (cs := #[.int .i64 0, .int .u64 0, .string (⟨#[]⟩ : ByteArray), .int .i64 0, .int .u64 0, .int .u64 0, .int .u64 0, .int .u64 0, .int .u64 0, .int .u64 0, .int .u64 0]) ?_ 1 _ rfl; (with_reducible repeat (first | refine blk_drewN ?_ _ | refine blk_drew ?_ | refine blk_alloc ?_ _)); refine blk_put (cs := #[.int .i64 0, .int .u64 0, .string (⟨#[]⟩ : ByteArray), .int .i64 0, .int .u64 0, .int .u64 0, .int .u64 0, .int .u64 0, .int .u64 0, .int .u64 0, .int .u64 0]) ?_ 0 _ rfl; (with_reducible repeat (first | refine blk_drewN ?_ _ | refine blk_drew ?_ | refine blk_alloc ?_ _)); exact BK255.out) Tryd.underlying32 rfl (by kernel_rfl)) rfl ?_
                      exact ⟨re, by repeat (first | (with_reducible first | exact HB.out | apply below_alloc | apply pw_below_drewN | apply below_drew1 | refine below_set ?_ (IsS114.ge HI258.out) | refine below_set ?_ GE255.out | refine below_set ?_ GE262.out) | exact HB.out)⟩
                    · rw [if_neg c80] at H
                      have c80b0 : decide (0 < t293) = false := decide_eq_false c80
                      clear c80
                      replace H := Option.bind_eq_some_iff.mp H
                      obtain ⟨t296, A950, H⟩ := H
                      replace H : (if t296 = true then (some ((wrap64 (t259)), t266, t269, x263003_37, x263004_37, x263005_37, x263006_37, x263007_37, x263008_37, x263009_37, x263010_37, 0)) else (some (0, 0, (⟨#[]⟩ : ByteArray), 0, 0, 0, 0, 0, 0, 0, 0, 3))) = some (r1, r2, r3, r4, r5, r6, r7, r8, r9, r10, r11, r12) := H
                      have A95 := Aside0.mk A950
                      clear A950
                      by_cases c96 : t296 = true
                      · subst c96
                        have H1 : (some ((wrap64 (t259)), t266, t269, x263003_37, x263004_37, x263005_37, x263006_37, x263007_37, x263008_37, x263009_37, x263010_37, 0)) = some (r1, r2, r3, r4, r5, r6, r7, r8, r9, r10, r11, r12) := by rw [if_pos rfl] at H; exact H
                        clear H
                        have H := H1
                        clear H1
                        simp only [Option.some.injEq, Prod.mk.injEq] at H
                        obtain ⟨rfl, rfl, rfl, rfl, rfl, rfl, rfl, rfl, rfl, rfl, rfl, rfl⟩ := H
                        go_wp2_with (first | ((with_reducible refine gate_callee (f := 40) rfl ?_); refine gl (some 82) Tryd.func40 #[.pointer (some ⟨g258, 0, none⟩)] ?_; (with_reducible refine (pack_Reader_Err.calls g258 x259000_37 x259001_37 t290 t291 t292 w _ ?side3 ?side1 ?side2 A76.out).mono ?_); (case side1 => repeat (first | (with_reducible first | exact HI258.out | apply IsS114.alloc | apply IsS114.drewN | apply IsS114.drew | apply IsS114.set_0 | apply IsS114.set_1 | refine IsS114.far ?_ NB258_255.out (tb BK255) (by decide) _ | refine IsS114.far ?_ NB258_262.out (tb BK262) (by decide) _) | exact HI258.out)); (case side2 => repeat (first | (with_reducible first | exact HB.out | apply below_alloc | apply pw_below_drewN | apply below_drew1 | refine below_set ?_ (IsS114.ge HI258.out) | refine below_set ?_ GE255.out | refine below_set ?_ GE262.out) | exact HB.out)); (case side3 => exact HERR.out); rintro e w97 ⟨rfl, hi, hb, hk⟩; refine ⟨_, rfl, ?_⟩; have n0_ := Aside0.mk (KeepBut.blk hk (g' := gb255) (o := .cells #[.int .i64 0, .int .u64 0, .string (⟨#[]⟩ : ByteArray), .int .i64 0, .int .u64 0, .int .u64 0, .int .u64 0, .int .u64 0, .int .u64 0, .int .u64 0, .int .u64 0] 32 (0, 0)) (bk BK255) NB255_258.out (by simp)); have n1_ := Aside0.mk (KeepBut.blk hk (g' := gb262) (o := .cells #[.int .i64 (wrap64 (t259)), .int .u64 t266, .string t269, .int .i64 x263003_37, .int .u64 x263004_37, .int .u64 x263005_37, .int .u64 x263006_37, .int .u64 x263007_37, .int .u64 x263008_37, .int .u64 x263009_37, .int .u64 x263010_37] 32 (0, 0)) (bk BK262) NB262_258.out (by simp)); have n2_ := Aside0.mk (hb); have n3_ := Aside0.mk (hi); clear BK255; clear BK262; clear HB; clear HI258; have BK255 := n0_; have BK262 := n1_; have HB := n2_; have HI258 := n3_; clear n0_ n1_ n2_ n3_; (try clear hb); (try clear hb2); (try clear hk); (try clear hi)) | ((with_reducible refine gate_dst (N := 84) rfl ?_); refine nen_err t290 (b := (t290 != 0)) ?_ rfl (of_decide_eq_true (by first | (with_reducible assumption) | assumption))) | ((with_reducible refine gate_callee (f := 43) rfl ?_); refine gl (some 88) Tryd.func43 #[.pointer (some ⟨g258, 0, none⟩)] ?_; (with_reducible refine (pack_Reader_Left.calls g258 t291 t292 t293 t294 t295 w _ ?side3 ?side1 ?side2 A79.out).mono ?_); (case side1 => repeat (first | (with_reducible first | exact HI258.out | apply IsS114.alloc | apply IsS114.drewN | apply IsS114.drew | apply IsS114.set_0 | apply IsS114.set_1 | refine IsS114.far ?_ NB258_255.out (tb BK255) (by decide) _ | refine IsS114.far ?_ NB258_262.out (tb BK262) (by decide) _) | exact HI258.out)); (case side2 => repeat (first | (with_reducible first | exact HB.out | apply below_alloc | apply pw_below_drewN | apply below_drew1 | refine below_set ?_ (IsS114.ge HI258.out) | refine below_set ?_ GE255.out | refine below_set ?_ GE262.out) | exact HB.out)); (case side3 => exact HERR.out); rintro e w98 ⟨rfl, hi, hb, hk⟩; refine ⟨_, rfl, ?_⟩; have n0_ := Aside0.mk (KeepBut.blk hk (g' := gb255) (o := .cells #[.int .i64 0, .int .u64 0, .string (⟨#[]⟩ : ByteArray), .int .i64 0, .int .u64 0, .int .u64 0, .int .u64 0, .int .u64 0, .int .u64 0, .int .u64 0, .int .u64 0] 32 (0, 0)) (bk BK255) NB255_258.out (by simp)); have n1_ := Aside0.mk (KeepBut.blk hk (g' := gb262) (o := .cells #[.int .i64 (wrap64 (t259)), .int .u64 t266, .string t269, .int .i64 x263003_37, .int .u64 x263004_37, .int .u64 x263005_37, .int .u64 x263006_37, .int .u64 x263007_37, .int .u64 x263008_37, .int .u64 x263009_37, .int .u64 x263010_37] 32 (0, 0)) (bk BK262) NB262_258.out (by simp)); have n2_ := Aside0.mk (hb); have n3_ := Aside0.mk (hi); clear BK255; clear BK262; clear HB; clear HI258; have BK255 := n0_; have BK262 := n1_; have HB := n2_; have HI258 := n3_; clear n0_ n1_ n2_ n3_; (try clear hb); (try clear hb2); (try clear hk); (try clear hi); have hnb99 := NB262_255.out; have hnc99 := NB255_262.out; have hnb100 := NB262_258.out; have hnc100 := NB258_262.out; obtain ⟨hcz101_0, hcz101_1, hcz101_2, hcz101_3, hcz101_4, hcz101_5, hcz101_6, hcz101_7, hcz101_8, hcz101_9, hcz101_10, hfz101_0, hfz101_1, hfz101_2, hfz101_3, hfz101_4, hfz101_5, hfz101_6, hfz101_7, hfz101_8, hfz101_9, hfz101_10⟩ := bc11 BK262) | (go_at_call 17; (with_reducible refine (record_Valid.calls kj37 (wrap64 (t259)) t266 t269 x263003_37 x263004_37 x263005_37 x263006_37 x263007_37 x263008_37 x263009_37 x263010_37 true _ A95.out).mono ?_); rintro e w102 ⟨rfl, hb⟩; have n0_ := bb BK255 hb; have n1_ := bb BK262 hb; have n2_ := Aside0.mk (IsS114.below (by repeat (first | (with_reducible first | exact HI258.out | apply IsS114.alloc | apply IsS114.drewN | apply IsS114.drew | apply IsS114.set_0 | apply IsS114.set_1 | refine IsS114.far ?_ NB258_255.out (tb BK255) (by decide) _ | refine IsS114.far ?_ NB258_262.out (tb BK262) (by decide) _) | exact HI258.out)) hb); have n3_ := Aside0.mk (below_step (by repeat (first | (with_reducible first | exact HB.out | apply below_alloc | apply pw_below_drewN | apply below_drew1 | refine below_set ?_ (IsS114.ge HI258.out) | refine below_set ?_ GE255.out | refine below_set ?_ GE262.out) | exact HB.out)) hb); clear BK255; clear BK262; clear HI258; clear HB; have BK255 := n0_; have BK262 := n1_; have HI258 := n2_; have HB := n3_; clear n0_ n1_ n2_ n3_; (try clear hb); (try clear hb2); (try clear hk); (try clear hi); obtain ⟨hcz103_0, hcz103_1, hcz103_2, hcz103_3, hcz103_4, hcz103_5, hcz103_6, hcz103_7, hcz103_8, hcz103_9, hcz103_10, hfz103_0, hfz103_1, hfz103_2, hfz103_3, hfz103_4, hfz103_5, hfz103_6, hfz103_7, hfz103_8, hfz103_9, hfz103_10⟩ := bc11 BK262; have hnb104 := NB255_258.out; have hnc104 := NB258_255.out; obtain ⟨hcz105_0, hcz105_1, hcz105_2, hcz105_3, hcz105_4, hcz105_5, hcz105_6, hcz105_7, hcz105_8, hcz105_9, hcz105_10, hfz105_0, hfz105_1, hfz105_2, hfz105_3, hfz105_4, hfz105_5, hfz105_6, hfz105_7, hfz105_8, hfz105_9, hfz105_10⟩ := bc11 BK255))
                        refine bodyPost_ret (results_ct rfl _ _ gb255 32 #[.int .i64 (wrap64 (t259)), .int .u64 t266, .string t269, .int .i64 x263003_37, .int .u64 x263004_37, .int .u64 x263005_37, .int .u64 x263006_37, .int .u64 x263007_37, .int .u64 x263008_37, .int .u64 x263009_37, .int .u64 x263010_37] (0, 0) _ rfl (by (with_reducible repeat (first | refine blk_drewN ?_ _ | refine blk_drew ?_ | refine blk_alloc ?_ _)); refine blk_put (cs := #[.int .i64 (wrap64 (t259)), .int .u64 t266, .string t269, .int .i64 x263003_37, .int .u64 x263004_37, .int .u64 x263005_37, .int .u64 x263006_37, .int .u64 x263007_37, .int .u64 x263008_37, .int .u64 x263009_37, .int .u64 0]) ?_ 10 _ rfl; (with_reducible repeat (first | refine blk_drewN ?_ _ | refine blk_drew ?_ | refine blk_alloc ?_ _)); refine blk_put (cs := #[.int .i64 (wrap64 (t259)), .int .u64 t266, .string t269, .int .i64 x263003_37, .int .u64 x263004_37, .int .u64 x263005_37, .int .u64 x263006_37, .int .u64 x263007_37, .int .u64 x263008_37, .int .u64 0, .int .u64 0]) ?_ 9 _ rfl; (with_reducible repeat (first | refine blk_drewN ?_ _ | refine blk_drew ?_ | refine blk_alloc ?_ _)); refine blk_put (cs := #[.int .i64 (wrap64 (t259)), .int .u64 t266, .string t269, .int .i64 x263003_37, .int .u64 x263004_37, .int .u64 x263005_37, .int .u64 x263006_37, .int .u64 x263007_37, .int .u64 0, .int .u64 0, .int .u64 0]) ?_ 8 _ rfl; (with_reducible repeat (first | refine blk_drewN ?_ _ | refine blk_drew ?_ | refine blk_alloc ?_ _)); refine blk_put (cs := #[.int .i64 (wrap64 (t259)), .int .u64 t266, .string t269, .int .i64 x263003_37, .int .u64 x263004_37, .int .u64 x263005_37, .int .u64 x263006_37, .int .u64 0, .int .u64 0, .int .u64 0, .int .u64 0]) ?_ 7 _ rfl; (with_reducible repeat (first | refine blk_drewN ?_ _ | refine blk_drew ?_ | refine blk_alloc ?_ _)); refine blk_put (cs := #[.int .i64 (wrap64 (t259)), .int .u64 t266, .string t269, .int .i64 x263003_37, .int .u64 x263004_37, .int .u64 x263005_37, .int .u64 0, .int .u64 0, .int .u64 0, .int .u64 0, .int .u64 0]) ?_ 6 _ rfl; (with_reducible repeat (first | refine blk_drewN ?_ _ | refine blk_drew ?_ | refine blk_alloc ?_ _)); refine blk_put (cs := #[.int .i64 (wrap64 (t259)), .int .u64 t266, .string t269, .int .i64 x263003_37, .int .u64 x263004_37, .int .u64 0, .int .u64 0, .int .u64 0, .int .u64 0, .int .u64 0, .int .u64 0]) ?_ 5 _ rfl; (with_reducible repeat (first | refine blk_drewN ?_ _ | refine blk_drew ?_ | refine blk_alloc ?_ _)); refine blk_put (cs := #[.int .i64 (wrap64 (t259)), .int .u64 t266, .string t269, .int .i64 x263003_37, .int .u64 0, .int .u64 0, .int .u64 0, .int .u64 0, .int .u64 0, .int .u64 0, .int .u64 0]) ?_ 4 _ rfl; (with_reducible repeat (first | refine blk_drewN ?_ _ | refine blk_drew ?_ | refine blk_alloc ?_ _)); refine blk_put (cs := #[.int .i64 (wrap64 (t259)), .int .u64 t266, .string t269, .int .i64 0, .int .u64 0, .int .u64 0, .int .u64 0, .int .u64 0, .int .u64 0, .int .u64 0, .int .u64 0]) ?_ 3 _ rfl; (with_reducible repeat (first | refine blk_drewN ?_ _ | refine blk_drew ?_ | refine blk_alloc ?_ _)); refine blk_put (cs := #[.int .i64 (wrap64 (t259)), .int .u64 t266, .string (⟨#[]⟩ : ByteArray), .int .i64 0, .int .u64 0, .int .u64 0, .int .u64 0, .int .u64 0, .int .u64 0, .int .u64 0, .int .u64 0]) ?_ 2 _ rfl; (with_reducible repeat (first | refine blk_drewN ?_ _ | refine blk_drew ?_ | refine blk_alloc ?_ _)); refine blk_put (cs := #[.int .i64 (wrap64 (t259)), .int .u64 0, .string (⟨#[]⟩ : ByteArray), .int .i64 0, .int .u64 0, .int .u64 0, .int .u64 0, .int .u64 0, .int .u64 0, .int .u64 0, .int .u64 0]) ?_ 1 _ rfl; (with_reducible repeat (first | refine blk_drewN ?_ _ | refine blk_drew ?_ | refine blk_alloc ?_ _)); refine blk_put (cs := #[.int .i64 0, .int .u64 0, .string (⟨#[]⟩ : ByteArray), .int .i64 0, .int .u64 0, .int .u64 0, .int .u64 0, .int .u64 0, .int .u64 0, .int .u64 0, .int .u64 0]) ?_ 0 _ rfl; (with_reducible repeat (first | refine blk_drewN ?_ _ | refine blk_drew ?_ | refine blk_alloc ?_ _)); exact BK255.out) Tryd.underlying32 rfl (by kernel_rfl)) rfl ?_
                        exact ⟨re, by repeat (first | (with_reducible first | exact HB.out | apply below_alloc | apply pw_below_drewN | apply below_drew1 | refine below_set ?_ (IsS114.ge HI258.out) | refine below_set ?_ GE255.out | refine below_set ?_ GE262.out) | exact HB.out)⟩
                      · replace c96 := Bool.eq_false_iff.mpr c96
                        subst c96
                        have H1 : (some (0, 0, (⟨#[]⟩ : ByteArray), 0, 0, 0, 0, 0, 0, 0, 0, 3)) = some (r1, r2, r3, r4, r5, r6, r7, r8, r9, r10, r11, r12) := by rw [if_neg (show ¬ (false = true) by decide)] at H; exact H
                        clear H
                        have H := H1
                        clear H1
                        simp only [Option.some.injEq, Prod.mk.injEq] at H
                        obtain ⟨rfl, rfl, rfl, rfl, rfl, rfl, rfl, rfl, rfl, rfl, rfl, rfl⟩ := H
                        try go_wp2_with (first | ((with_reducible refine gate_callee (f := 40) rfl ?_); refine gl (some 82) Tryd.func40 #[.pointer (some ⟨g258, 0, none⟩)] ?_; (with_reducible refine (pack_Reader_Err.calls g258 x259000_37 x259001_37 t290 t291 t292 w _ ?side3 ?side1 ?side2 A76.out).mono ?_); (case side1 => repeat (first | (with_reducible first | exact HI258.out | apply IsS114.alloc | apply IsS114.drewN | apply IsS114.drew | apply IsS114.set_0 | apply IsS114.set_1 | refine IsS114.far ?_ NB258_255.out (tb BK255) (by decide) _ | refine IsS114.far ?_ NB258_262.out (tb BK262) (by decide) _) | exact HI258.out)); (case side2 => repeat (first | (with_reducible first | exact HB.out | apply below_alloc | apply pw_below_drewN | apply below_drew1 | refine below_set ?_ (IsS114.ge HI258.out) | refine below_set ?_ GE255.out | refine below_set ?_ GE262.out) | exact HB.out)); (case side3 => exact HERR.out); rintro e w106 ⟨rfl, hi, hb, hk⟩; refine ⟨_, rfl, ?_⟩; have n0_ := Aside0.mk (KeepBut.blk hk (g' := gb255) (o := .cells #[.int .i64 0, .int .u64 0, .string (⟨#[]⟩ : ByteArray), .int .i64 0, .int .u64 0, .int .u64 0, .int .u64 0, .int .u64 0, .int .u64 0, .int .u64 0, .int .u64 0] 32 (0, 0)) (bk BK255) NB255_258.out (by simp)); have n1_ := Aside0.mk (KeepBut.blk hk (g' := gb262) (o := .cells #[.int .i64 (wrap64 (t259)), .int .u64 t266, .string t269, .int .i64 x263003_37, .int .u64 x263004_37, .int .u64 x263005_37, .int .u64 x263006_37, .int .u64 x263007_37, .int .u64 x263008_37, .int .u64 x263009_37, .int .u64 x263010_37] 32 (0, 0)) (bk BK262) NB262_258.out (by simp)); have n2_ := Aside0.mk (hb); have n3_ := Aside0.mk (hi); clear BK255; clear BK262; clear HB; clear HI258; have BK255 := n0_; have BK262 := n1_; have HB := n2_; have HI258 := n3_; clear n0_ n1_ n2_ n3_; (try clear hb); (try clear hb2); (try clear hk); (try clear hi)) | ((with_reducible refine gate_dst (N := 84) rfl ?_); refine nen_err t290 (b := (t290 != 0)) ?_ rfl (of_decide_eq_true (by first | (with_reducible assumption) | assumption))) | ((with_reducible refine gate_callee (f := 43) rfl ?_); refine gl (some 88) Tryd.func43 #[.pointer (some ⟨g258, 0, none⟩)] ?_; (with_reducible refine (pack_Reader_Left.calls g258 t291 t292 t293 t294 t295 w _ ?side3 ?side1 ?side2 A79.out).mono ?_); (case side1 => repeat (first | (with_reducible first | exact HI258.out | apply IsS114.alloc | apply IsS114.drewN | apply IsS114.drew | apply IsS114.set_0 | apply IsS114.set_1 | refine IsS114.far ?_ NB258_255.out (tb BK255) (by decide) _ | refine IsS114.far ?_ NB258_262.out (tb BK262) (by decide) _) | exact HI258.out)); (case side2 => repeat (first | (with_reducible first | exact HB.out | apply below_alloc | apply pw_below_drewN | apply below_drew1 | refine below_set ?_ (IsS114.ge HI258.out) | refine below_set ?_ GE255.out | refine below_set ?_ GE262.out) | exact HB.out)); (case side3 => exact HERR.out); rintro e w107 ⟨rfl, hi, hb, hk⟩; refine ⟨_, rfl, ?_⟩; have n0_ := Aside0.mk (KeepBut.blk hk (g' := gb255) (o := .cells #[.int .i64 0, .int .u64 0, .string (⟨#[]⟩ : ByteArray), .int .i64 0, .int .u64 0, .int .u64 0, .int .u64 0, .int .u64 0, .int .u64 0, .int .u64 0, .int .u64 0] 32 (0, 0)) (bk BK255) NB255_258.out (by simp)); have n1_ := Aside0.mk (KeepBut.blk hk (g' := gb262) (o := .cells #[.int .i64 (wrap64 (t259)), .int .u64 t266, .string t269, .int .i64 x263003_37, .int .u64 x263004_37, .int .u64 x263005_37, .int .u64 x263006_37, .int .u64 x263007_37, .int .u64 x263008_37, .int .u64 x263009_37, .int .u64 x263010_37] 32 (0, 0)) (bk BK262) NB262_258.out (by simp)); have n2_ := Aside0.mk (hb); have n3_ := Aside0.mk (hi); clear BK255; clear BK262; clear HB; clear HI258; have BK255 := n0_; have BK262 := n1_; have HB := n2_; have HI258 := n3_; clear n0_ n1_ n2_ n3_; (try clear hb); (try clear hb2); (try clear hk); (try clear hi); have hnb108 := NB262_255.out; have hnc108 := NB255_262.out; have hnb109 := NB262_258.out; have hnc109 := NB258_262.out; obtain ⟨hcz110_0, hcz110_1, hcz110_2, hcz110_3, hcz110_4, hcz110_5, hcz110_6, hcz110_7, hcz110_8, hcz110_9, hcz110_10, hfz110_0, hfz110_1, hfz110_2, hfz110_3, hfz110_4, hfz110_5, hfz110_6, hfz110_7, hfz110_8, hfz110_9, hfz110_10⟩ := bc11 BK262) | (go_at_call 17; (with_reducible refine (record_Valid.calls kj37 (wrap64 (t259)) t266 t269 x263003_37 x263004_37 x263005_37 x263006_37 x263007_37 x263008_37 x263009_37 x263010_37 false _ A95.out).mono ?_); rintro e w111 ⟨rfl, hb⟩; have n0_ := bb BK255 hb; have n1_ := bb BK262 hb; have n2_ := Aside0.mk (IsS114.below (by repeat (first | (with_reducible first | exact HI258.out | apply IsS114.alloc | apply IsS114.drewN | apply IsS114.drew | apply IsS114.set_0 | apply IsS114.set_1 | refine IsS114.far ?_ NB258_255.out (tb BK255) (by decide) _ | refine IsS114.far ?_ NB258_262.out (tb BK262) (by decide) _) | exact HI258.out)) hb); have n3_ := Aside0.mk (below_step (by repeat (first | (with_reducible first | exact HB.out | apply below_alloc | apply pw_below_drewN | apply below_drew1 | refine below_set ?_ (IsS114.ge HI258.out) | refine below_set ?_ GE255.out | refine below_set ?_ GE262.out) | exact HB.out)) hb); clear BK255; clear BK262; clear HI258; clear HB; have BK255 := n0_; have BK262 := n1_; have HI258 := n2_; have HB := n3_; clear n0_ n1_ n2_ n3_; (try clear hb); (try clear hb2); (try clear hk); (try clear hi)))
                        have n0_ := Aside0.mk (blk_drew BK255.out)
                        have n1_ := Aside0.mk (blk_drew BK262.out)
                        have n2_ := Aside0.mk (IsS114.drew HI258.out)
                        have n3_ := Aside0.mk (below_drew1 HB.out)
                        clear BK255
                        clear BK262
                        clear HI258
                        clear HB
                        have BK255 := n0_
                        have BK262 := n1_
                        have HI258 := n2_
                        have HB := n3_
                        clear n0_ n1_ n2_ n3_
                        refine start_ (n := 4) (S := fun w' => w'.cell? ⟨2, 0, none⟩ = some (errW 3)) (ds := []) #[false, false, false, false] (by kernel_rfl) rfl rfl ((sent_cell 3 2 (HERR.out.below (by repeat (first | (with_reducible first | exact HB.out | apply below_alloc | apply pw_below_drewN | apply below_drew1 | refine below_set ?_ (IsS114.ge HI258.out) | refine below_set ?_ GE255.out | refine below_set ?_ GE262.out) | exact HB.out))) (by decide) (by have := Errs.five; omega) rfl)) (fun hHeld => ?_)
                        generalize w111.drew = w112 at BK255 BK262 HI258 HB hHeld ⊢
                        refine pure_ (i := 0) (N := some 95) (v := ?_) (a' := ?_) #[true, false, false, false] rfl rfl (by kernel_rfl) (fun _ _ _ h => h) (Or.inl ⟨by rfl, ?_⟩) ?_ ?_
                        rotate_left
                        · intro w'
                          go_simp
                          with_reducible rfl
                        rotate_left
                        · simp only [Act.put, List.setIfInBounds_toArray, List.set_cons_zero, List.set_cons_succ, i64_w, i32_w]
                          rfl
                        refine take_ (i := 1) (N := some 96) (v := ?_) (a' := ?_) #[true, true, false, false] rfl rfl (by kernel_rfl) (fun _ _ _ h => h) (Or.inl ⟨by rfl, ?_⟩) hHeld ?_ ?_
                        rotate_left
                        · intro w' s0
                          go_simp
                          with_reducible rfl
                        rotate_left
                        · simp only [Act.put, List.setIfInBounds_toArray, List.set_cons_zero, List.set_cons_succ, i64_w, i32_w]
                          rfl
                        refine one_ (i := 2) (N := none) #[true, true, true, false] rfl rfl (by kernel_rfl) (by decide) (fun K hK => ?_)
                        have hs113 : w112.cell? ⟨gb255, 0, none⟩ = some (.int .i64 0) := (blk_cell BK255.out 0).trans rfl
                        have hfs113 := blk_frozen BK255.out 0
                        have hns113_1 := NB262_255.out
                        have hms113_1 := NB255_262.out
                        have hs114 : w112.cell? ⟨gb255, 1, none⟩ = some (.int .u64 0) := (blk_cell BK255.out 1).trans rfl
                        have hfs114 := blk_frozen BK255.out 1
                        have hns114_1 := NB262_255.out
                        have hms114_1 := NB255_262.out
                        have hs115 : w112.cell? ⟨gb255, 2, none⟩ = some (.string (⟨#[]⟩ : ByteArray)) := (blk_cell BK255.out 2).trans rfl
                        have hfs115 := blk_frozen BK255.out 2
                        have hns115_1 := NB262_255.out
                        have hms115_1 := NB255_262.out
                        have hs116 : w112.cell? ⟨gb255, 3, none⟩ = some (.int .i64 0) := (blk_cell BK255.out 3).trans rfl
                        have hfs116 := blk_frozen BK255.out 3
                        have hns116_1 := NB262_255.out
                        have hms116_1 := NB255_262.out
                        have hs117 : w112.cell? ⟨gb255, 4, none⟩ = some (.int .u64 0) := (blk_cell BK255.out 4).trans rfl
                        have hfs117 := blk_frozen BK255.out 4
                        have hns117_1 := NB262_255.out
                        have hms117_1 := NB255_262.out
                        have hs118 : w112.cell? ⟨gb255, 5, none⟩ = some (.int .u64 0) := (blk_cell BK255.out 5).trans rfl
                        have hfs118 := blk_frozen BK255.out 5
                        have hns118_1 := NB262_255.out
                        have hms118_1 := NB255_262.out
                        have hs119 : w112.cell? ⟨gb255, 6, none⟩ = some (.int .u64 0) := (blk_cell BK255.out 6).trans rfl
                        have hfs119 := blk_frozen BK255.out 6
                        have hns119_1 := NB262_255.out
                        have hms119_1 := NB255_262.out
                        have hs120 : w112.cell? ⟨gb255, 7, none⟩ = some (.int .u64 0) := (blk_cell BK255.out 7).trans rfl
                        have hfs120 := blk_frozen BK255.out 7
                        have hns120_1 := NB262_255.out
                        have hms120_1 := NB255_262.out
                        have hs121 : w112.cell? ⟨gb255, 8, none⟩ = some (.int .u64 0) := (blk_cell BK255.out 8).trans rfl
                        have hfs121 := blk_frozen BK255.out 8
                        have hns121_1 := NB262_255.out
                        have hms121_1 := NB255_262.out
                        have hs122 : w112.cell? ⟨gb255, 9, none⟩ = some (.int .u64 0) := (blk_cell BK255.out 9).trans rfl
                        have hfs122 := blk_frozen BK255.out 9
                        have hns122_1 := NB262_255.out
                        have hms122_1 := NB255_262.out
                        have hs123 : w112.cell? ⟨gb255, 10, none⟩ = some (.int .u64 0) := (blk_cell BK255.out 10).trans rfl
                        have hfs123 := blk_frozen BK255.out 10
                        have hns123_1 := NB262_255.out
                        have hms123_1 := NB255_262.out
                        refine skip_ (w1 := ?_) (by rfl) rfl ?_ ?_
                        rotate_left
                        · go_simp
                          rfl
                        refine hK.out _ _ ((sent_cell 3 2 (HERR.out.below (by repeat (first | (with_reducible first | exact HB.out | apply below_alloc | apply pw_below_drewN | apply below_drew1 | refine below_set ?_ (IsS114.ge HI258.out) | refine below_set ?_ GE255.out | refine below_set ?_ GE262.out) | exact HB.out))) (by decide) (by have := Errs.five; omega) rfl)) (fun hHeld => ?_)
                        clear hK K
                        refine pure_ (i := 3) (N := some 3) (v := ?_) (a' := ?_) #[true, true, true, true] rfl rfl (by kernel_rfl) (fun _ _ _ h => h) (Or.inl ⟨by rfl, ?_⟩) ?_ ?_
                        rotate_left
                        · intro w'
                          go_simp
                          with_reducible rfl
                        rotate_left
                        · simp only [Act.put, List.setIfInBounds_toArray, List.set_cons_zero, List.set_cons_succ, i64_w, i32_w]
                          rfl
                        refine done_ (by kernel_rfl) ?_
                        try go_wp2
                        refine bodyPost_ret (results_ct rfl _ _ gb255 32 #[.int .i64 0, .int .u64 0, .string (⟨#[]⟩ : ByteArray), .int .i64 0, .int .u64 0, .int .u64 0, .int .u64 0, .int .u64 0, .int .u64 0, .int .u64 0, .int .u64 0] (0, 0) _ rfl (by (with_reducible repeat (first | refine blk_drewN ?_ _ | refine blk_drew ?_ | refine blk_alloc ?_ _)); refine blk_put (cs := #[.int .i64 0, .int .u64 0, .string (⟨#[]⟩ : ByteArray), .int .i64 0, .int .u64 0, .int .u64 0, .int .u64 0, .int .u64 0, .int .u64 0, .int .u64 0, .int .u64 0]) ?_ 10 _ rfl; (with_reducible repeat (first | refine blk_drewN ?_ _ | refine blk_drew ?_ | refine blk_alloc ?_ _)); refine blk_put (cs := #[.int .i64 0, .int .u64 0, .string (⟨#[]⟩ : ByteArray), .int .i64 0, .int .u64 0, .int .u64 0, .int .u64 0, .int .u64 0, .int .u64 0, .int .u64 0, .int .u64 0]) ?_ 9 _ rfl; (with_reducible repeat (first | refine blk_drewN ?_ _ | refine blk_drew ?_ | refine blk_alloc ?_ _)); refine blk_put (cs := #[.int .i64 0, .int .u64 0, .string (⟨#[]⟩ : ByteArray), .int .i64 0, .int .u64 0, .int .u64 0, .int .u64 0, .int .u64 0, .int .u64 0, .int .u64 0, .int .u64 0]) ?_ 8 _ rfl; (with_reducible repeat (first | refine blk_drewN ?_ _ | refine blk_drew ?_ | refine blk_alloc ?_ _)); refine blk_put (cs := #[.int .i64 0, .int .u64 0, .string (⟨#[]⟩ : ByteArray), .int .i64 0, .int .u64 0, .int .u64 0, .int .u64 0, .int .u64 0, .int .u64 0, .int .u64 0, .int .u64 0]) ?_ 7 _ rfl; (with_reducible repeat (first | refine blk_drewN ?_ _ | refine blk_drew ?_ | refine blk_alloc ?_ _)); refine blk_put (cs := #[.int .i64 0, .int .u64 0, .string (⟨#[]⟩ : ByteArray), .int .i64 0, .int .u64 0, .int .u64 0, .int .u64 0, .int .u64 0, .int .u64 0, .int .u64 0, .int .u64 0]) ?_ 6 _ rfl; (with_reducible repeat (first | refine blk_drewN ?_ _ | refine blk_drew ?_ | refine blk_alloc ?_ _)); refine blk_put (cs := #[.int .i64 0, .int .u64 0, .string (⟨#[]⟩ : ByteArray), .int .i64 0, .int .u64 0, .int .u64 0, .int .u64 0, .int .u64 0, .int .u64 0, .int .u64 0, .int .u64 0]) ?_ 5 _ rfl; (with_reducible repeat (first | refine blk_drewN ?_ _ | refine blk_drew ?_ | refine blk_alloc ?_ _)); refine blk_put (cs := #[.int .i64 0, .int .u64 0, .string (⟨#[]⟩ : ByteArray), .int .i64 0, .int .u64 0, .int .u64 0, .int .u64 0, .int .u64 0, .int .u64 0, .int .u64 0, .int .u64 0]) ?_ 4 _ rfl; (with_reducible repeat (first | refine blk_drewN ?_ _ | refine blk_drew ?_ | refine blk_alloc ?_ _)); refine blk_put (cs := #[.int .i64 0, .int .u64 0, .string (⟨#[]⟩ : ByteArray), .int .i64 0, .int .u64 0, .int .u64 0, .int .u64 0, .int .u64 0, .int .u64 0, .int .u64 0, .int .u64 0]) ?_ 3 _ rfl; (with_reducible repeat (first | refine blk_drewN ?_ _ | refine blk_drew ?_ | refine blk_alloc ?_ _)); refine blk_put (cs := #[.int .i64 0, .int .u64 0, .string (⟨#[]⟩ : ByteArray), .int .i64 0, .int .u64 0, .int .u64 0, .int .u64 0, .int .u64 0, .int .u64 0, .int .u64 0, .int .u64 0]) ?_ 2 _ rfl; (with_reducible repeat (first | refine blk_drewN ?_ _ | refine blk_drew ?_ | refine blk_alloc ?_ _)); refine blk_put (cs := #[.int .i64 0, .int .u64 0, .string (⟨#[]⟩ : ByteArray), .int .i64 0, .int .u64 0, .int .u64 0, .int .u64 0, .int .u64 0, .int .u64 0, .int .u64 0, .int .u64 0]) ?_ 1 _ rfl; (with_reducible repeat (first | refine blk_drewN ?_ _ | refine blk_drew ?_ | refine blk_alloc ?_ _)); refine blk_put (cs := #[.int .i64 0, .int .u64 0, .string (⟨#[]⟩ : ByteArray), .int .i64 0, .int .u64 0, .int .u64 0, .int .u64 0, .int .u64 0, .int .u64 0, .int .u64 0, .int .u64 0]) ?_ 0 _ rfl; (with_reducible repeat (first | refine blk_drewN ?_ _ | refine blk_drew ?_ | refine blk_alloc ?_ _)); exact BK255.out) Tryd.underlying32 rfl (by kernel_rfl)) rfl ?_
                        exact ⟨re, by repeat (first | (with_reducible first | exact HB.out | apply below_alloc | apply pw_below_drewN | apply below_drew1 | refine below_set ?_ (IsS114.ge HI258.out) | refine below_set ?_ GE255.out | refine below_set ?_ GE262.out) | exact HB.out)⟩
                  · rw [if_neg c78] at H
                    have c78b0 : (t290 == 0) = false := beq_eq_false_iff_ne.mpr c78
                    have c78b1 : (t290 != 0) = true := bne_iff_ne.mpr c78
                    simp only [Option.some.injEq, Prod.mk.injEq] at H
                    obtain ⟨rfl, rfl, rfl, rfl, rfl, rfl, rfl, rfl, rfl, rfl, rfl, rfl⟩ := H
                    go_wp2_with (first | ((with_reducible refine gate_callee (f := 40) rfl ?_); refine gl (some 82) Tryd.func40 #[.pointer (some ⟨g258, 0, none⟩)] ?_; (with_reducible refine (pack_Reader_Err.calls g258 x259000_37 x259001_37 t290 t291 t292 w _ ?side3 ?side1 ?side2 A76.out).mono ?_); (case side1 => repeat (first | (with_reducible first | exact HI258.out | apply IsS114.alloc | apply IsS114.drewN | apply IsS114.drew | apply IsS114.set_0 | apply IsS114.set_1 | refine IsS114.far ?_ NB258_255.out (tb BK255) (by decide) _ | refine IsS114.far ?_ NB258_262.out (tb BK262) (by decide) _) | exact HI258.out)); (case side2 => repeat (first | (with_reducible first | exact HB.out | apply below_alloc | apply pw_below_drewN | apply below_drew1 | refine below_set ?_ (IsS114.ge HI258.out) | refine below_set ?_ GE255.out | refine below_set ?_ GE262.out) | exact HB.out)); (case side3 => exact HERR.out); rintro e w124 ⟨rfl, hi, hb, hk⟩; refine ⟨_, rfl, ?_⟩; have n0_ := Aside0.mk (KeepBut.blk hk (g' := gb255) (o := .cells #[.int .i64 0, .int .u64 0, .string (⟨#[]⟩ : ByteArray), .int .i64 0, .int .u64 0, .int .u64 0, .int .u64 0, .int .u64 0, .int .u64 0, .int .u64 0, .int .u64 0] 32 (0, 0)) (bk BK255) NB255_258.out (by simp)); have n1_ := Aside0.mk (KeepBut.blk hk (g' := gb262) (o := .cells #[.int .i64 (wrap64 (t259)), .int .u64 t266, .string t269, .int .i64 x263003_37, .int .u64 x263004_37, .int .u64 x263005_37, .int .u64 x263006_37, .int .u64 x263007_37, .int .u64 x263008_37, .int .u64 x263009_37, .int .u64 x263010_37] 32 (0, 0)) (bk BK262) NB262_258.out (by simp)); have n2_ := Aside0.mk (hb); have n3_ := Aside0.mk (hi); clear BK255; clear BK262; clear HB; clear HI258; have BK255 := n0_; have BK262 := n1_; have HB := n2_; have HI258 := n3_; clear n0_ n1_ n2_ n3_; (try clear hb); (try clear hb2); (try clear hk); (try clear hi); have hnb125 := NB255_262.out; have hnc125 := NB262_255.out; have hnb126 := NB255_258.out; have hnc126 := NB258_255.out; obtain ⟨hcz127_0, hcz127_1, hcz127_2, hcz127_3, hcz127_4, hcz127_5, hcz127_6, hcz127_7, hcz127_8, hcz127_9, hcz127_10, hfz127_0, hfz127_1, hfz127_2, hfz127_3, hfz127_4, hfz127_5, hfz127_6, hfz127_7, hfz127_8, hfz127_9, hfz127_10⟩ := bc11 BK255) | ((with_reducible refine gate_dst (N := 84) rfl ?_); refine nen_err t290 (b := (t290 != 0)) ?_ rfl (of_decide_eq_true (by first | (with_reducible assumption) | assumption))))
                    refine bodyPost_ret (results_ct rfl _ _ gb255 32 #[.int .i64 0, .int .u64 0, .string (⟨#[]⟩ : ByteArray), .int .i64 0, .int .u64 0, .int .u64 0, .int .u64 0, .int .u64 0, .int .u64 0, .int .u64 0, .int .u64 0] (0, 0) _ rfl (by (with_reducible repeat (first | refine blk_drewN ?_ _ | refine blk_drew ?_ | refine blk_alloc ?_ _)); refine blk_put (cs := #[.int .i64 0, .int .u64 0, .string (⟨#[]⟩ : ByteArray), .int .i64 0, .int .u64 0, .int .u64 0, .int .u64 0, .int .u64 0, .int .u64 0, .int .u64 0, .int .u64 0]) ?_ 10 _ rfl; (with_reducible repeat (first | refine blk_drewN ?_ _ | refine blk_drew ?_ | refine blk_alloc ?_ _)); refine blk_put (cs := #[.int .i64 0, .int .u64 0, .string (⟨#[]⟩ : ByteArray), .int .i64 0, .int .u64 0, .int .u64 0, .int .u64 0, .int .u64 0, .int .u64 0, .int .u64 0, .int .u64 0]) ?_ 9 _ rfl; (with_reducible repeat (first | refine blk_drewN ?_ _ | refine blk_drew ?_ | refine blk_alloc ?_ _)); refine blk_put (cs := #[.int .i64 0, .int .u64 0, .string (⟨#[]⟩ : ByteArray), .int .i64 0, .int .u64 0, .int .u64 0, .int .u64 0, .int .u64 0, .int .u64 0, .int .u64 0, .int .u64 0]) ?_ 8 _ rfl; (with_reducible repeat (first | refine blk_drewN ?_ _ | refine blk_drew ?_ | refine blk_alloc ?_ _)); refine blk_put (cs := #[.int .i64 0, .int .u64 0, .string (⟨#[]⟩ : ByteArray), .int .i64 0, .int .u64 0, .int .u64 0, .int .u64 0, .int .u64 0, .int .u64 0, .int .u64 0, .int .u64 0]) ?_ 7 _ rfl; (with_reducible repeat (first | refine blk_drewN ?_ _ | refine blk_drew ?_ | refine blk_alloc ?_ _)); refine blk_put (cs := #[.int .i64 0, .int .u64 0, .string (⟨#[]⟩ : ByteArray), .int .i64 0, .int .u64 0, .int .u64 0, .int .u64 0, .int .u64 0, .int .u64 0, .int .u64 0, .int .u64 0]) ?_ 6 _ rfl; (with_reducible repeat (first | refine blk_drewN ?_ _ | refine blk_drew ?_ | refine blk_alloc ?_ _)); refine blk_put (cs := #[.int .i64 0, .int .u64 0, .string (⟨#[]⟩ : ByteArray), .int .i64 0, .int .u64 0, .int .u64 0, .int .u64 0, .int .u64 0, .int .u64 0, .int .u64 0, .int .u64 0]) ?_ 5 _ rfl; (with_reducible repeat (first | refine blk_drewN ?_ _ | refine blk_drew ?_ | refine blk_alloc ?_ _)); refine blk_put (cs := #[.int .i64 0, .int .u64 0, .string (⟨#[]⟩ : ByteArray), .int .i64 0, .int .u64 0, .int .u64 0, .int .u64 0, .int .u64 0, .int .u64 0, .int .u64 0, .int .u64 0]) ?_ 4 _ rfl; (with_reducible repeat (first | refine blk_drewN ?_ _ | refine blk_drew ?_ | refine blk_alloc ?_ _)); refine blk_put (cs := #[.int .i64 0, .int .u64 0, .string (⟨#[]⟩ : ByteArray), .int .i64 0, .int .u64 0, .int .u64 0, .int .u64 0, .int .u64 0, .int .u64 0, .int .u64 0, .int .u64 0]) ?_ 3 _ rfl; (with_reducible repeat (first | refine blk_drewN ?_ _ | refine blk_drew ?_ | refine blk_alloc ?_ _)); refine blk_put (cs := #[.int .i64 0, .int .u64 0, .string (⟨#[]⟩ : ByteArray), .int .i64 0, .int .u64 0, .int .u64 0, .int .u64 0, .int .u64 0, .int .u64 0, .int .u64 0, .int .u64 0]) ?_ 2 _ rfl; (with_reducible repeat (first | refine blk_drewN ?_ _ | refine blk_drew ?_ | refine blk_alloc ?_ _)); refine blk_put (cs := #[.int .i64 0, .int .u64 0, .string (⟨#[]⟩ : ByteArray), .int .i64 0, .int .u64 0, .int .u64 0, .int .u64 0, .int .u64 0, .int .u64 0, .int .u64 0, .int .u64 0]) ?_ 1 _ rfl; (with_reducible repeat (first | refine blk_drewN ?_ _ | refine blk_drew ?_ | refine blk_alloc ?_ _)); refine blk_put (cs := #[.int .i64 0, .int .u64 0, .string (⟨#[]⟩ : ByteArray), .int .i64 0, .int .u64 0, .int .u64 0, .int .u64 0, .int .u64 0, .int .u64 0, .int .u64 0, .int .u64 0]) ?_ 0 _ rfl; (with_reducible repeat (first | refine blk_drewN ?_ _ | refine blk_drew ?_ | refine blk_alloc ?_ _)); exact BK255.out) Tryd.underlying32 rfl (by kernel_rfl)) rfl ?_
                    exact ⟨re, by repeat (first | (with_reducible first | exact HB.out | apply below_alloc | apply pw_below_drewN | apply below_drew1 | refine below_set ?_ (IsS114.ge HI258.out) | refine below_set ?_ GE255.out | refine below_set ?_ GE262.out) | exact HB.out)⟩
                · rw [if_neg c77] at H
                  exact absurd H (by simp)
    · rw [if_neg c6] at H
      have c6b0 : (t263 == 0) = false := beq_eq_false_iff_ne.mpr c6
      have c6b1 : (t263 != 0) = true := bne_iff_ne.mpr c6
      simp only [Option.some.injEq, Prod.mk.injEq] at H
      obtain ⟨rfl, rfl, rfl, rfl, rfl, rfl, rfl, rfl, rfl, rfl, rfl, rfl⟩ := H
      go_enter Tryd.func18, Tryd.ntmps18
      go_wp2_with (first | ((with_reducible refine gate_dst (N := 2) rfl ?_); refine bx 2 #[.int .i64 0, .int .u64 0, .string (⟨#[]⟩ : ByteArray), .int .i64 0, .int .u64 0, .int .u64 0, .int .u64 0, .int .u64 0, .int .u64 0, .int .u64 0, .int .u64 0] 32 ?_; intro gb255 hg w128 hbox hb; have n0_ := bs HB hb; have n1_ := Aside0.mk (hbox); have n2_ := sz HB hg; have n3_ := sz HB hg; clear HB; have HB := n0_; have BK255 := n1_; have GW255 := n2_; have GE255 := n3_; clear n0_ n1_ n2_ n3_; clear hb hbox hg) | ((with_reducible refine gate_callee (f := 38) rfl ?_); refine gl (some 11) Tryd.func38 #[.slice A0 l0.length c0] ?_; (with_reducible refine (pack_NewReader.calls _ _ l0 t256 t257 w _ ?side1 ?side2 ?side3 A2.out).mono ?_); (case side1 => repeat (first | (with_reducible first | exact HB.out | apply below_alloc | apply pw_below_drewN | apply below_drew1 | refine below_set ?_ GE255.out) | exact HB.out)); (case side2 => exact HR0.out); (case side3 => exact HC0.out); rintro e w129 ⟨g258, rfl, hi, hb, hb2⟩; refine ⟨_, rfl, ?_⟩; have n0_ := Aside0.mk (blk_below (g := gb255) (o := .cells #[.int .i64 0, .int .u64 0, .string (⟨#[]⟩ : ByteArray), .int .i64 0, .int .u64 0, .int .u64 0, .int .u64 0, .int .u64 0, .int .u64 0, .int .u64 0, .int .u64 0] 32 (0, 0)) (bk BK255) hb2); have n1_ := Aside0.mk (hb); have n2_ := Aside0.mk (hi); have n3_ := Aside0.mk (IsS114.ne_blk hi (blk_below (g := gb255) (o := .cells #[.int .i64 0, .int .u64 0, .string (⟨#[]⟩ : ByteArray), .int .i64 0, .int .u64 0, .int .u64 0, .int .u64 0, .int .u64 0, .int .u64 0, .int .u64 0, .int .u64 0] 32 (0, 0)) (bk BK255) hb2) (by decide)); have n4_ := Aside0.mk (Ne.symm (IsS114.ne_blk hi (blk_below (g := gb255) (o := .cells #[.int .i64 0, .int .u64 0, .string (⟨#[]⟩ : ByteArray), .int .i64 0, .int .u64 0, .int .u64 0, .int .u64 0, .int .u64 0, .int .u64 0, .int .u64 0, .int .u64 0] 32 (0, 0)) (bk BK255) hb2) (by decide))); clear BK255; clear HB; have BK255 := n0_; have HB := n1_; have HI258 := n2_; have NB258_255 := n3_; have NB255_258 := n4_; clear n0_ n1_ n2_ n3_ n4_; (try clear hb); (try clear hb2); (try clear hk); (try clear hi)) | ((with_reducible refine gate_callee (f := 39) rfl ?_); refine gl (some 13) Tryd.func39 #[.pointer (some ⟨g258, 0, none⟩)] ?_; (with_reducible refine (pack_Reader_U8.calls g258 t256 t257 t259 t260 t261 w _ ?side3 ?side1 ?side2 A3.out).mono ?_); (case side1 => repeat (first | (with_reducible first | exact HI258.out | apply IsS114.alloc | apply IsS114.drewN | apply IsS114.drew | apply IsS114.set_0 | apply IsS114.set_1 | refine IsS114.far ?_ NB258_255.out (tb BK255) (by decide) _) | exact HI258.out)); (case side2 => repeat (first | (with_reducible first | exact HB.out | apply below_alloc | apply pw_below_drewN | apply below_drew1 | refine below_set ?_ (IsS114.ge HI258.out) | refine below_set ?_ GE255.out) | exact HB.out)); (case side3 => exact HERR.out); rintro e w130 ⟨rfl, hi, hb, hk⟩; refine ⟨_, rfl, ?_⟩; have n0_ := Aside0.mk (KeepBut.blk hk (g' := gb255) (o := .cells #[.int .i64 0, .int .u64 0, .string (⟨#[]⟩ : ByteArray), .int .i64 0, .int .u64 0, .int .u64 0, .int .u64 0, .int .u64 0, .int .u64 0, .int .u64 0, .int .u64 0] 32 (0, 0)) (bk BK255) NB255_258.out (by simp)); have n1_ := Aside0.mk (hb); have n2_ := Aside0.mk (hi); clear BK255; clear HB; clear HI258; have BK255 := n0_; have HB := n1_; have HI258 := n2_; clear n0_ n1_ n2_; (try clear hb); (try clear hb2); (try clear hk); (try clear hi)) | ((with_reducible refine gate_dst (N := 5) rfl ?_); refine bx 5 #[.int .i64 0, .int .u64 0, .string (⟨#[]⟩ : ByteArray), .int .i64 0, .int .u64 0, .int .u64 0, .int .u64 0, .int .u64 0, .int .u64 0, .int .u64 0, .int .u64 0] 32 ?_; intro gb262 hg w131 hbox hb; have n0_ := bb BK255 hb; have n1_ := Aside0.mk (IsS114.below (by repeat (first | (with_reducible first | exact HI258.out | apply IsS114.alloc | apply IsS114.drewN | apply IsS114.drew | apply IsS114.set_0 | apply IsS114.set_1 | refine IsS114.far ?_ NB258_255.out (tb BK255) (by decide) _) | exact HI258.out)) hb); have n2_ := Aside0.mk (below_step (by repeat (first | (with_reducible first | exact HB.out | apply below_alloc | apply pw_below_drewN | apply below_drew1 | refine below_set ?_ (IsS114.ge HI258.out) | refine below_set ?_ GE255.out) | exact HB.out)) hb); have n3_ := Aside0.mk (hbox); have n4_ := Aside0.mk ((by rw [hg]; exact (below_size (by repeat (first | (with_reducible first | exact HB.out | apply below_alloc | apply pw_below_drewN | apply below_drew1 | refine below_set ?_ (IsS114.ge HI258.out) | refine below_set ?_ GE255.out) | exact HB.out))) : w.heap.size ≤ gb262)); have n5_ := Aside0.mk ((by rw [hg]; exact (below_size (by repeat (first | (with_reducible first | exact HB.out | apply below_alloc | apply pw_below_drewN | apply below_drew1 | refine below_set ?_ (IsS114.ge HI258.out) | refine below_set ?_ GE255.out) | exact HB.out))) : w.heap.size ≤ gb262)); have n6_ := nl BK255 hg; have n7_ := nr BK255 hg; have n8_ := Aside0.mk ((by rw [hg]; exact Nat.ne_of_lt (IsS114.lt (show IsS114 w _ g258 t260 t261 from by repeat (first | (with_reducible first | exact HI258.out | apply IsS114.alloc | apply IsS114.drewN | apply IsS114.drew | apply IsS114.set_0 | apply IsS114.set_1 | refine IsS114.far ?_ NB258_255.out (tb BK255) (by decide) _) | exact HI258.out))) : g258 ≠ gb262)); have n9_ := Aside0.mk ((by rw [hg]; exact Nat.ne_of_gt (IsS114.lt (show IsS114 w _ g258 t260 t261 from by repeat (first | (with_reducible first | exact HI258.out | apply IsS114.alloc | apply IsS114.drewN | apply IsS114.drew | apply IsS114.set_0 | apply IsS114.set_1 | refine IsS114.far ?_ NB258_255.out (tb BK255) (by decide) _) | exact HI258.out))) : gb262 ≠ g258)); clear BK255; clear HI258; clear HB; have BK255 := n0_; have HI258 := n1_; have HB := n2_; have BK262 := n3_; have GW262 := n4_; have GE262 := n5_; have NB255_262 := n6_; have NB262_255 := n7_; have NB258_262 := n8_; have NB262_258 := n9_; clear n0_ n1_ n2_ n3_ n4_ n5_ n6_ n7_ n8_ n9_; clear hb hbox hg; have hnb132 := NB262_255.out; have hnc132 := NB255_262.out; have hnb133 := NB262_258.out; have hnc133 := NB258_262.out; obtain ⟨hcz134_0, hcz134_1, hcz134_2, hcz134_3, hcz134_4, hcz134_5, hcz134_6, hcz134_7, hcz134_8, hcz134_9, hcz134_10, hfz134_0, hfz134_1, hfz134_2, hfz134_3, hfz134_4, hfz134_5, hfz134_6, hfz134_7, hfz134_8, hfz134_9, hfz134_10⟩ := bc11 BK262) | ((with_reducible refine gate_callee (f := 40) rfl ?_); refine gl (some 17) Tryd.func40 #[.pointer (some ⟨g258, 0, none⟩)] ?_; (with_reducible refine (pack_Reader_Err.calls g258 t260 t261 t263 t264 t265 w _ ?side3 ?side1 ?side2 A4.out).mono ?_); (case side1 => repeat (first | (with_reducible first | exact HI258.out | apply IsS114.alloc | apply IsS114.drewN | apply IsS114.drew | apply IsS114.set_0 | apply IsS114.set_1 | refine IsS114.far ?_ NB258_255.out (tb BK255) (by decide) _ | refine IsS114.far ?_ NB258_262.out (tb BK262) (by decide) _) | exact HI258.out)); (case side2 => repeat (first | (with_reducible first | exact HB.out | apply below_alloc | apply pw_below_drewN | apply below_drew1 | refine below_set ?_ (IsS114.ge HI258.out) | refine below_set ?_ GE255.out | refine below_set ?_ GE262.out) | exact HB.out)); (case side3 => exact HERR.out); rintro e w135 ⟨rfl, hi, hb, hk⟩; refine ⟨_, rfl, ?_⟩; have n0_ := Aside0.mk (KeepBut.blk hk (g' := gb255) (o := .cells #[.int .i64 0, .int .u64 0, .string (⟨#[]⟩ : ByteArray), .int .i64 0, .int .u64 0, .int .u64 0, .int .u64 0, .int .u64 0, .int .u64 0, .int .u64 0, .int .u64 0] 32 (0, 0)) (bk BK255) NB255_258.out (by simp)); have n1_ := Aside0.mk (KeepBut.blk hk (g' := gb262) (o := .cells #[.int .i64 (wrap64 (t259)), .int .u64 0, .string (⟨#[]⟩ : ByteArray), .int .i64 0, .int .u64 0, .int .u64 0, .int .u64 0, .int .u64 0, .int .u64 0, .int .u64 0, .int .u64 0] 32 (0, 0)) (by (with_reducible repeat (first | refine blk_drewN ?_ _ | refine blk_drew ?_ | refine blk_alloc ?_ _)); refine blk_put (cs := #[.int .i64 (wrap64 (t259)), .int .u64 0, .string (⟨#[]⟩ : ByteArray), .int .i64 0, .int .u64 0, .int .u64 0, .int .u64 0, .int .u64 0, .int .u64 0, .int .u64 0, .int .u64 0]) ?_ 10 _ rfl; (with_reducible repeat (first | refine blk_drewN ?_ _ | refine blk_drew ?_ | refine blk_alloc ?_ _)); refine blk_put (cs := #[.int .i64 (wrap64 (t259)), .int .u64 0, .string (⟨#[]⟩ : ByteArray), .int .i64 0, .int .u64 0, .int .u64 0, .int .u64 0, .int .u64 0, .int .u64 0, .int .u64 0, .int .u64 0]) ?_ 9 _ rfl; (with_reducible repeat (first | refine blk_drewN ?_ _ | refine blk_drew ?_ | refine blk_alloc ?_ _)); refine blk_put (cs := #[.int .i64 (wrap64 (t259)), .int .u64 0, .string (⟨#[]⟩ : ByteArray), .int .i64 0, .int .u64 0, .int .u64 0, .int .u64 0, .int .u64 0, .int .u64 0, .int .u64 0, .int .u64 0]) ?_ 8 _ rfl; (with_reducible repeat (first | refine blk_drewN ?_ _ | refine blk_drew ?_ | refine blk_alloc ?_ _)); refine blk_put (cs := #[.int .i64 (wrap64 (t259)), .int .u64 0, .string (⟨#[]⟩ : ByteArray), .int .i64 0, .int .u64 0, .int .u64 0, .int .u64 0, .int .u64 0, .int .u64 0, .int .u64 0, .int .u64 0]) ?_ 7 _ rfl; (with_reducible repeat (first | refine blk_drewN ?_ _ | refine blk_drew ?_ | refine blk_alloc ?_ _)); refine blk_put (cs := #[.int .i64 (wrap64 (t259)), .int .u64 0, .string (⟨#[]⟩ : ByteArray), .int .i64 0, .int .u64 0, .int .u64 0, .int .u64 0, .int .u64 0, .int .u64 0, .int .u64 0, .int .u64 0]) ?_ 6 _ rfl; (with_reducible repeat (first | refine blk_drewN ?_ _ | refine blk_drew ?_ | refine blk_alloc ?_ _)); refine blk_put (cs := #[.int .i64 (wrap64 (t259)), .int .u64 0, .string (⟨#[]⟩ : ByteArray), .int .i64 0, .int .u64 0, .int .u64 0, .int .u64 0, .int .u64 0, .int .u64 0, .int .u64 0, .int .u64 0]) ?_ 5 _ rfl; (with_reducible repeat (first | refine blk_drewN ?_ _ | refine blk_drew ?_ | refine blk_alloc ?_ _)); refine blk_put (cs := #[.int .i64 (wrap64 (t259)), .int .u64 0, .string (⟨#[]⟩ : ByteArray), .int .i64 0, .int .u64 0, .int .u64 0, .int .u64 0, .int .u64 0, .int .u64 0, .int .u64 0, .int .u64 0]) ?_ 4 _ rfl; (with_reducible repeat (first | refine blk_drewN ?_ _ | refine blk_drew ?_ | refine blk_alloc ?_ _)); refine blk_put (cs := #[.int .i64 (wrap64 (t259)), .int .u64 0, .string (⟨#[]⟩ : ByteArray), .int .i64 0, .int .u64 0, .int .u64 0, .int .u64 0, .int .u64 0, .int .u64 0, .int .u64 0, .int .u64 0]) ?_ 3 _ rfl; (with_reducible repeat (first | refine blk_drewN ?_ _ | refine blk_drew ?_ | refine blk_alloc ?_ _)); refine blk_put (cs := #[.int .i64 (wrap64 (t259)), .int .u64 0, .string (⟨#[]⟩ : ByteArray), .int .i64 0, .int .u64 0, .int .u64 0, .int .u64 0, .int .u64 0, .int .u64 0, .int .u64 0, .int .u64 0]) ?_ 2 _ rfl; (with_reducible repeat (first | refine blk_drewN ?_ _ | refine blk_drew ?_ | refine blk_alloc ?_ _)); refine blk_put (cs := #[.int .i64 (wrap64 (t259)), .int .u64 0, .string (⟨#[]⟩ : ByteArray), .int .i64 0, .int .u64 0, .int .u64 0, .int .u64 0, .int .u64 0, .int .u64 0, .int .u64 0, .int .u64 0]) ?_ 1 _ rfl; (with_reducible repeat (first | refine blk_drewN ?_ _ | refine blk_drew ?_ | refine blk_alloc ?_ _)); refine blk_put (cs := #[.int .i64 0, .int .u64 0, .string (⟨#[]⟩ : ByteArray), .int .i64 0, .int .u64 0, .int .u64 0, .int .u64 0, .int .u64 0, .int .u64 0, .int .u64 0, .int .u64 0]) ?_ 0 _ rfl; (with_reducible repeat (first | refine blk_drewN ?_ _ | refine blk_drew ?_ | refine blk_alloc ?_ _)); exact BK262.out) NB262_258.out (by simp)); have n2_ := Aside0.mk (hb); have n3_ := Aside0.mk (hi); clear BK255; clear BK262; clear HB; clear HI258; have BK255 := n0_; have BK262 := n1_; have HB := n2_; have HI258 := n3_; clear n0_ n1_ n2_ n3_; (try clear hb); (try clear hb2); (try clear hk); (try clear hi); have hnb136 := NB255_258.out; have hnc136 := NB258_255.out; obtain ⟨hcz137_0, hcz137_1, hcz137_2, hcz137_3, hcz137_4, hcz137_5, hcz137_6, hcz137_7, hcz137_8, hcz137_9, hcz137_10, hfz137_0, hfz137_1, hfz137_2, hfz137_3, hfz137_4, hfz137_5, hfz137_6, hfz137_7, hfz137_8, hfz137_9, hfz137_10⟩ := bc11 BK255) | ((with_reducible refine gate_dst (N := 19) rfl ?_); refine nen_err t263 (b := (t263 != 0)) ?_ rfl (of_decide_eq_true (by first | (with_reducible assumption) | assumption))))
      refine bodyPost_ret (results_ct rfl _ _ gb255 32 #[.int .i64 0, .int .u64 0, .string (⟨#[]⟩ : ByteArray), .int .i64 0, .int .u64 0, .int .u64 0, .int .u64 0, .int .u64 0, .int .u64 0, .int .u64 0, .int .u64 0] (0, 0) _ rfl (by (with_reducible repeat (first | refine blk_drewN ?_ _ | refine blk_drew ?_ | refine blk_alloc ?_ _)); refine blk_put (cs := #[.int .i64 0, .int .u64 0, .string (⟨#[]⟩ : ByteArray), .int .i64 0, .int .u64 0, .int .u64 0, .int .u64 0, .int .u64 0, .int .u64 0, .int .u64 0, .int .u64 0]) ?_ 10 _ rfl; (with_reducible repeat (first | refine blk_drewN ?_ _ | refine blk_drew ?_ | refine blk_alloc ?_ _)); refine blk_put (cs := #[.int .i64 0, .int .u64 0, .string (⟨#[]⟩ : ByteArray), .int .i64 0, .int .u64 0, .int .u64 0, .int .u64 0, .int .u64 0, .int .u64 0, .int .u64 0, .int .u64 0]) ?_ 9 _ rfl; (with_reducible repeat (first | refine blk_drewN ?_ _ | refine blk_drew ?_ | refine blk_alloc ?_ _)); refine blk_put (cs := #[.int .i64 0, .int .u64 0, .string (⟨#[]⟩ : ByteArray), .int .i64 0, .int .u64 0, .int .u64 0, .int .u64 0, .int .u64 0, .int .u64 0, .int .u64 0, .int .u64 0]) ?_ 8 _ rfl; (with_reducible repeat (first | refine blk_drewN ?_ _ | refine blk_drew ?_ | refine blk_alloc ?_ _)); refine blk_put (cs := #[.int .i64 0, .int .u64 0, .string (⟨#[]⟩ : ByteArray), .int .i64 0, .int .u64 0, .int .u64 0, .int .u64 0, .int .u64 0, .int .u64 0, .int .u64 0, .int .u64 0]) ?_ 7 _ rfl; (with_reducible repeat (first | refine blk_drewN ?_ _ | refine blk_drew ?_ | refine blk_alloc ?_ _)); refine blk_put (cs := #[.int .i64 0, .int .u64 0, .string (⟨#[]⟩ : ByteArray), .int .i64 0, .int .u64 0, .int .u64 0, .int .u64 0, .int .u64 0, .int .u64 0, .int .u64 0, .int .u64 0]) ?_ 6 _ rfl; (with_reducible repeat (first | refine blk_drewN ?_ _ | refine blk_drew ?_ | refine blk_alloc ?_ _)); refine blk_put (cs := #[.int .i64 0, .int .u64 0, .string (⟨#[]⟩ : ByteArray), .int .i64 0, .int .u64 0, .int .u64 0, .int .u64 0, .int .u64 0, .int .u64 0, .int .u64 0, .int .u64 0]) ?_ 5 _ rfl; (with_reducible repeat (first | refine blk_drewN ?_ _ | refine blk_drew ?_ | refine blk_alloc ?_ _)); refine blk_put (cs := #[.int .i64 0, .int .u64 0, .string (⟨#[]⟩ : ByteArray), .int .i64 0, .int .u64 0, .int .u64 0, .int .u64 0, .int .u64 0, .int .u64 0, .int .u64 0, .int .u64 0]) ?_ 4 _ rfl; (with_reducible repeat (first | refine blk_drewN ?_ _ | refine blk_drew ?_ | refine blk_alloc ?_ _)); refine blk_put (cs := #[.int .i64 0, .int .u64 0, .string (⟨#[]⟩ : ByteArray), .int .i64 0, .int .u64 0, .int .u64 0, .int .u64 0, .int .u64 0, .int .u64 0, .int .u64 0, .int .u64 0]) ?_ 3 _ rfl; (with_reducible repeat (first | refine blk_drewN ?_ _ | refine blk_drew ?_ | refine blk_alloc ?_ _)); refine blk_put (cs := #[.int .i64 0, .int .u64 0, .string (⟨#[]⟩ : ByteArray), .int .i64 0, .int .u64 0, .int .u64 0, .int .u64 0, .int .u64 0, .int .u64 0, .int .u64 0, .int .u64 0]) ?_ 2 _ rfl; (with_reducible repeat (first | refine blk_drewN ?_ _ | refine blk_drew ?_ | refine blk_alloc ?_ _)); refine blk_put (cs := #[.int .i64 0, .int .u64 0, .string (⟨#[]⟩ : ByteArray), .int .i64 0, .int .u64 0, .int .u64 0, .int .u64 0, .int .u64 0, .int .u64 0, .int .u64 0, .int .u64 0]) ?_ 1 _ rfl; (with_reducible repeat (first | refine blk_drewN ?_ _ | refine blk_drew ?_ | refine blk_alloc ?_ _)); refine blk_put (cs := #[.int .i64 0, .int .u64 0, .string (⟨#[]⟩ : ByteArray), .int .i64 0, .int .u64 0, .int .u64 0, .int .u64 0, .int .u64 0, .int .u64 0, .int .u64 0, .int .u64 0]) ?_ 0 _ rfl; (with_reducible repeat (first | refine blk_drewN ?_ _ | refine blk_drew ?_ | refine blk_alloc ?_ _)); exact BK255.out) Tryd.underlying32 rfl (by kernel_rfl)) rfl ?_
      exact ⟨re, by repeat (first | (with_reducible first | exact HB.out | apply below_alloc | apply pw_below_drewN | apply below_drew1 | refine below_set ?_ (IsS114.ge HI258.out) | refine below_set ?_ GE255.out | refine below_set ?_ GE262.out) | exact HB.out)⟩
  · rw [if_neg c5] at H
    exact absurd H (by simp)

end Go.Proofs.YtkgjepmminmjjaaDoor.E
