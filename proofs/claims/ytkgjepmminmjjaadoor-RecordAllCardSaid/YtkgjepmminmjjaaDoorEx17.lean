/- Written by the session's own program hyb.py: what functions of the program compute; Lean checks it. -/
import Derived.Test.YtkgjepmminmjjaaDoorEx0
import Derived.Test.YtkgjepmminmjjaaDoorEx15
import Derived.Test.YtkgjepmminmjjaaDoorEx16
import Derived.Test.YtkgjepmminmjjaaDoorWErr
namespace Go.Proofs.YtkgjepmminmjjaaDoor.E
open Go.RowKit Go.Proofs.YtkgjepmminmjjaaDoorW.PrintWords Go.Proofs.YtkgjepmminmjjaaDoorW.PrintLast Go.Proofs.YtkgjepmminmjjaaDoorW.PrintMore Go.Proofs.YtkgjepmminmjjaaDoorW.PrintShort
attribute [local go_sem] run_Add64 run_Sub64
attribute [local go_sem] max2_int min2_int max_two min_two max_three min_three max_four min_four   -- for this text's walks alone
set_option linter.unusedVariables false
set_option linter.unusedSimpArgs false

/-! ### record_Encode: function 16 -/
mutual
def record_Encode.j0 : Nat → List Int → List Int → Option (List Int × Int)
  | 0, _, _ => none
  | k + 1, x4, x6 => record_Encode.l0 k x4 x6 (x6.length : Int) 0
def record_Encode.l0 : Nat → List Int → List Int → Int → Int → Option (List Int × Int)
  | 0, _, _, _, _ => none
  | k + 1, x4, x71, x72, x73 => if x73 < x72 then (if 0 ≤ x73 then (if x73 < (x71.length : Int) then ((pack_PutU64.f x4 (rd x71 x73)).bind fun t252 => (record_Encode.l0 k t252 x71 x72 (wrap64 (x73 + 1)))) else (none)) else (none)) else (some (x4, 0))
end
def record_Encode.f (k : Nat) (a0_0 : Int) (a0_1 : Int) (a0_2 : ByteArray) (a0_3 : Int) (a0_4 : Int) (a0_5 : Int) (a0_6 : Int) (a0_7 : Int) (a0_8 : Int) (a0_9 : Int) (a0_10 : Int) : Option (List Int × Int) := (record_Valid.f k a0_0 a0_1 a0_2 a0_3 a0_4 a0_5 a0_6 a0_7 a0_8 a0_9 a0_10).bind fun t228 => (if t228 = true then ((pack_PutU64.f (([(a0_0) % 256] : List Int)) a0_1).bind fun t232 => ((pack_PutText.f t232 a0_2).bind fun bt235 => (if 0 ≤ bt235.2 then (if bt235.2 = 0 then (if a0_0 = 1 then (if bt235.1.length < 140737488355328 then ((some (bt235.1 ++ [(a0_3) % 256] : List Int)).bind fun y239 => (if a0_3 = 2 then (record_Encode.j0 k y239 (([a0_6, a0_7] : List Int))) else (record_Encode.j0 k y239 (([a0_4, a0_5] : List Int))))) else (none)) else (if a0_0 = 3 then (record_Encode.j0 k bt235.1 (([a0_8, a0_9, a0_10] : List Int))) else (record_Encode.j0 k bt235.1 ([] : List Int)))) else (some (([] : List Int), bt235.2))) else (none)))) else (some (([] : List Int), 1)))
theorem record_Encode.mono_l : ∀ k, (∀ y0 y1, LeO (record_Encode.j0 k y0 y1) (record_Encode.j0 (k + 1) y0 y1)) ∧ (∀ y0 y1 y2 y3, LeO (record_Encode.l0 k y0 y1 y2 y3) (record_Encode.l0 (k + 1) y0 y1 y2 y3))
  | 0 => ⟨fun _ _ r h => by simp [record_Encode.j0] at h, fun _ _ _ _ r h => by simp [record_Encode.l0] at h⟩
  | k + 1 => by
    obtain ⟨ih0, ih1⟩ := record_Encode.mono_l k
    refine ⟨?_, ?_⟩
    · intro y0 y1
      unfold record_Encode.j0
      repeat' first
      | (with_reducible exact ih0 _ _)
      | (with_reducible exact ih1 _ _ _ _)
      | (with_reducible exact record_Valid.mono _ _ _ _ _ _ _ _ _ _ _ _)
      | (with_reducible exact LeO.refl _)
      | (with_reducible exact LeO.none _)
      | (with_reducible refine LeO.ite ?_ ?_)
      | (with_reducible refine LeO.bind ?_ (fun _ => ?_))
      | exact ih0 _ _
      | exact ih1 _ _ _ _
      | exact record_Valid.mono _ _ _ _ _ _ _ _ _ _ _ _
      | exact LeO.none _
      | refine LeO.ite ?_ ?_
      | refine LeO.bind ?_ (fun _ => ?_)
    · intro y0 y1 y2 y3
      unfold record_Encode.l0
      repeat' first
      | (with_reducible exact ih0 _ _)
      | (with_reducible exact ih1 _ _ _ _)
      | (with_reducible exact record_Valid.mono _ _ _ _ _ _ _ _ _ _ _ _)
      | (with_reducible exact LeO.refl _)
      | (with_reducible exact LeO.none _)
      | (with_reducible refine LeO.ite ?_ ?_)
      | (with_reducible refine LeO.bind ?_ (fun _ => ?_))
      | exact ih0 _ _
      | exact ih1 _ _ _ _
      | exact record_Valid.mono _ _ _ _ _ _ _ _ _ _ _ _
      | exact LeO.none _
      | refine LeO.ite ?_ ?_
      | refine LeO.bind ?_ (fun _ => ?_)
theorem record_Encode.mono : ∀ a0 a1 a2 a3 a4 a5 a6 a7 a8 a9 a10 k, LeO (record_Encode.f k a0 a1 a2 a3 a4 a5 a6 a7 a8 a9 a10) (record_Encode.f (k + 1) a0 a1 a2 a3 a4 a5 a6 a7 a8 a9 a10) := by
  intro a0 a1 a2 a3 a4 a5 a6 a7 a8 a9 a10 k
  obtain ⟨ih0, ih1⟩ := record_Encode.mono_l k
  unfold record_Encode.f
  repeat' first
      | (with_reducible exact ih0 _ _)
      | (with_reducible exact ih1 _ _ _ _)
      | (with_reducible exact record_Valid.mono _ _ _ _ _ _ _ _ _ _ _ _)
      | (with_reducible exact LeO.refl _)
      | (with_reducible exact LeO.none _)
      | (with_reducible refine LeO.ite ?_ ?_)
      | (with_reducible refine LeO.bind ?_ (fun _ => ?_))
      | exact ih0 _ _
      | exact ih1 _ _ _ _
      | exact record_Valid.mono _ _ _ _ _ _ _ _ _ _ _ _
      | exact LeO.none _
      | refine LeO.ite ?_ ?_
      | refine LeO.bind ?_ (fun _ => ?_)
set_option maxHeartbeats 8000000 in
set_option maxRecDepth 100000 in
theorem record_Encode.calls (k : Nat) [Errs] (a0_0 : Int) (a0_1 : Int) (a0_2 : ByteArray) (a0_3 : Int) (a0_4 : Int) (a0_5 : Int) (a0_6 : Int) (a0_7 : Int) (a0_8 : Int) (a0_9 : Int) (a0_10 : Int) (r1 : List Int) (r2 : Int) (w : World) (hE : Sent w) (h : record_Encode.f k a0_0 a0_1 a0_2 a0_3 a0_4 a0_5 a0_6 a0_7 a0_8 a0_9 a0_10 = some (r1, r2)) :
    Calls Tryd.prog 16 #[.agg #[.int .i64 a0_0, .int .u64 a0_1, .string a0_2, .int .i64 a0_3, .int .u64 a0_4, .int .u64 a0_5, .int .u64 a0_6, .int .u64 a0_7, .int .u64 a0_8, .int .u64 a0_9, .int .u64 a0_10]] w fun e w' => ∃ v0_ : Value, e = .returned (.tuple #[v0_, errW r2]) ∧ Kd.R (Kd.int .u8) 5 w' w.heap.size (fun _ => True) v0_ r1 ∧ Below w.heap.size w w' := by
  have hu32 := Tryd.underlying32
  have hu37 := Tryd.underlying37
  have HERR := Aside0.mk hE
  clear hE
  have HB := Aside0.mk (Below.refl w.heap.size w)
  have H : ((record_Valid.f k a0_0 a0_1 a0_2 a0_3 a0_4 a0_5 a0_6 a0_7 a0_8 a0_9 a0_10).bind fun t228 => (if t228 = true then ((pack_PutU64.f (([(a0_0) % 256] : List Int)) a0_1).bind fun t232 => ((pack_PutText.f t232 a0_2).bind fun bt235 => (if 0 ≤ bt235.2 then (if bt235.2 = 0 then (if a0_0 = 1 then (if bt235.1.length < 140737488355328 then ((some (bt235.1 ++ [(a0_3) % 256] : List Int)).bind fun y239 => (if a0_3 = 2 then (record_Encode.j0 k y239 (([a0_6, a0_7] : List Int))) else (record_Encode.j0 k y239 (([a0_4, a0_5] : List Int))))) else (none)) else (if a0_0 = 3 then (record_Encode.j0 k bt235.1 (([a0_8, a0_9, a0_10] : List Int))) else (record_Encode.j0 k bt235.1 ([] : List Int)))) else (some (([] : List Int), bt235.2))) else (none)))) else (some (([] : List Int), 1)))) = some (r1, r2) := h
  clear h
  replace H := Option.bind_eq_some_iff.mp H
  obtain ⟨t228, A20, H⟩ := H
  replace H : (if t228 = true then ((pack_PutU64.f (([(a0_0) % 256] : List Int)) a0_1).bind fun t232 => ((pack_PutText.f t232 a0_2).bind fun bt235 => (if 0 ≤ bt235.2 then (if bt235.2 = 0 then (if a0_0 = 1 then (if bt235.1.length < 140737488355328 then ((some (bt235.1 ++ [(a0_3) % 256] : List Int)).bind fun y239 => (if a0_3 = 2 then (record_Encode.j0 k y239 (([a0_6, a0_7] : List Int))) else (record_Encode.j0 k y239 (([a0_4, a0_5] : List Int))))) else (none)) else (if a0_0 = 3 then (record_Encode.j0 k bt235.1 (([a0_8, a0_9, a0_10] : List Int))) else (record_Encode.j0 k bt235.1 ([] : List Int)))) else (some (([] : List Int), bt235.2))) else (none)))) else (some (([] : List Int), 1))) = some (r1, r2) := H
  have A2 := Aside0.mk A20
  clear A20
  by_cases c3 : t228 = true
  · subst c3
    have H1 : ((pack_PutU64.f (([(a0_0) % 256] : List Int)) a0_1).bind fun t232 => ((pack_PutText.f t232 a0_2).bind fun bt235 => (if 0 ≤ bt235.2 then (if bt235.2 = 0 then (if a0_0 = 1 then (if bt235.1.length < 140737488355328 then ((some (bt235.1 ++ [(a0_3) % 256] : List Int)).bind fun y239 => (if a0_3 = 2 then (record_Encode.j0 k y239 (([a0_6, a0_7] : List Int))) else (record_Encode.j0 k y239 (([a0_4, a0_5] : List Int))))) else (none)) else (if a0_0 = 3 then (record_Encode.j0 k bt235.1 (([a0_8, a0_9, a0_10] : List Int))) else (record_Encode.j0 k bt235.1 ([] : List Int)))) else (some (([] : List Int), bt235.2))) else (none)))) = some (r1, r2) := by rw [if_pos rfl] at H; exact H
    clear H
    have H := H1
    clear H1
    obtain ⟨y229, hy229⟩ : ∃ y_ : List Int, y_ = (([(a0_0) % 256] : List Int)) := ⟨_, rfl⟩
    replace H : ((pack_PutU64.f y229 a0_1).bind fun t232 => ((pack_PutText.f t232 a0_2).bind fun bt235 => (if 0 ≤ bt235.2 then (if bt235.2 = 0 then (if a0_0 = 1 then (if bt235.1.length < 140737488355328 then ((some (bt235.1 ++ [(a0_3) % 256] : List Int)).bind fun y239 => (if a0_3 = 2 then (record_Encode.j0 k y239 (([a0_6, a0_7] : List Int))) else (record_Encode.j0 k y239 (([a0_4, a0_5] : List Int))))) else (none)) else (if a0_0 = 3 then (record_Encode.j0 k bt235.1 (([a0_8, a0_9, a0_10] : List Int))) else (record_Encode.j0 k bt235.1 ([] : List Int)))) else (some (([] : List Int), bt235.2))) else (none)))) = some (r1, r2) := by first | (rw [hy229]; with_reducible exact H) | (have H2_ := (Option.bind_some _ _).symm.trans H; rw [hy229]; with_reducible exact H2_) | (have H2_ := (Option.bind_some _ _).symm.trans H; with_reducible exact H2_) | with_reducible exact H | (rw [hy229]; exact H) | exact H
    have Ny229 := Aside0.mk hy229
    clear hy229
    replace H := Option.bind_eq_some_iff.mp H
    obtain ⟨t232, A40, H⟩ := H
    replace H : ((pack_PutText.f t232 a0_2).bind fun bt235 => (if 0 ≤ bt235.2 then (if bt235.2 = 0 then (if a0_0 = 1 then (if bt235.1.length < 140737488355328 then ((some (bt235.1 ++ [(a0_3) % 256] : List Int)).bind fun y239 => (if a0_3 = 2 then (record_Encode.j0 k y239 (([a0_6, a0_7] : List Int))) else (record_Encode.j0 k y239 (([a0_4, a0_5] : List Int))))) else (none)) else (if a0_0 = 3 then (record_Encode.j0 k bt235.1 (([a0_8, a0_9, a0_10] : List Int))) else (record_Encode.j0 k bt235.1 ([] : List Int)))) else (some (([] : List Int), bt235.2))) else (none))) = some (r1, r2) := H
    have A4 := Aside0.mk A40
    clear A40
    replace H := Option.bind_eq_some_iff.mp H
    obtain ⟨⟨t235, t236⟩, A50, H⟩ := H
    replace H : (if 0 ≤ t236 then (if t236 = 0 then (if a0_0 = 1 then (if t235.length < 140737488355328 then ((some (t235 ++ [(a0_3) % 256] : List Int)).bind fun y239 => (if a0_3 = 2 then (record_Encode.j0 k y239 (([a0_6, a0_7] : List Int))) else (record_Encode.j0 k y239 (([a0_4, a0_5] : List Int))))) else (none)) else (if a0_0 = 3 then (record_Encode.j0 k t235 (([a0_8, a0_9, a0_10] : List Int))) else (record_Encode.j0 k t235 ([] : List Int)))) else (some (([] : List Int), t236))) else (none)) = some (r1, r2) := H
    have A5 := Aside0.mk A50
    clear A50
    by_cases c6 : 0 ≤ t236
    · rw [if_pos c6] at H
      have c6b0 := eq_true c6
      have c6b1 : decide (0 ≤ t236) = true := decide_eq_true c6
      clear c6
      by_cases c7 : t236 = 0
      · rw [if_pos c7] at H
        have c7b0 : (t236 == 0) = true := beq_iff_eq.mpr c7
        have c7b1 : (t236 != 0) = false := bne_eq_false_iff_eq.mpr c7
        clear c7
        have HC8 := Aside0.mk H
        clear H
        go_enter Tryd.func16, Tryd.ntmps16
        go_upto_block 0 with (first | ((with_reducible refine gate_dst (N := 1) rfl ?_); refine bx 1 #[.int .i64 a0_0, .int .u64 a0_1, .string a0_2, .int .i64 a0_3, .int .u64 a0_4, .int .u64 a0_5, .int .u64 a0_6, .int .u64 a0_7, .int .u64 a0_8, .int .u64 a0_9, .int .u64 a0_10] 32 ?_; intro gb227 hg w9 hbox hb; have n0_ := bs HB hb; have n1_ := Aside0.mk (hbox); have n2_ := sz HB hg; have n3_ := sz HB hg; clear HB; have HB := n0_; have BK227 := n1_; have GW227 := n2_; have GE227 := n3_; clear n0_ n1_ n2_ n3_; clear hb hbox hg; obtain ⟨hcz10_0, hcz10_1, hcz10_2, hcz10_3, hcz10_4, hcz10_5, hcz10_6, hcz10_7, hcz10_8, hcz10_9, hcz10_10, hfz10_0, hfz10_1, hfz10_2, hfz10_3, hfz10_4, hfz10_5, hfz10_6, hfz10_7, hfz10_8, hfz10_9, hfz10_10⟩ := bc11 BK227) | (go_at_call 17; (with_reducible refine (record_Valid.calls k a0_0 a0_1 a0_2 a0_3 a0_4 a0_5 a0_6 a0_7 a0_8 a0_9 a0_10 true _ A2.out).mono ?_); rintro e w11 ⟨rfl, hb⟩; have n0_ := bb BK227 hb; have n1_ := bs HB hb; clear BK227; clear HB; have BK227 := n0_; have HB := n1_; clear n0_ n1_; (try clear hb); (try clear hb2); (try clear hk); (try clear hi); obtain ⟨hcz12_0, hcz12_1, hcz12_2, hcz12_3, hcz12_4, hcz12_5, hcz12_6, hcz12_7, hcz12_8, hcz12_9, hcz12_10, hfz12_0, hfz12_1, hfz12_2, hfz12_3, hfz12_4, hfz12_5, hfz12_6, hfz12_7, hfz12_8, hfz12_9, hfz12_10⟩ := bc11 BK227) | ((with_reducible refine gate_dst (N := 16) rfl ?_); refine Kd.R_lit (Kd.int .u8) _ 5 ?hg (N := 16) ?hd (xs := ([(a0_0) % 256] : List Int)) (inner := [.int .u8 ((a0_0) % 256)]) (ok := fun _ => True) (okp := fun _ => True) ?hr ?hp (fun _ hk => hk) trivial (Below.refl _ _) (Nat.le_refl _) (by simp) ?_; (case hd => rfl); (case hg => rfl); (case hr => first | (go_simp; done) | (go_simp; rfl)); (case hp => exact (Reps.one (show Kd.M (Kd.int .u8) _ _ _ ((a0_0) % 256) [.int .u8 ((a0_0) % 256)] from rfl) (Reps.none _ _))); intro v230 w13 ho14 hb hg_ hnew_; clear hg_ hnew_; (first | rw [← Ny229.out] at ho14 | (simp only [Int.reduceToNat] at ho14; rw [← Ny229.out] at ho14)); have n0_ := Aside0.mk (Kd.R_lower ho14 (below_size (bw HB))); have n1_ := bb BK227 hb; have n2_ := bs HB hb; clear BK227; clear HB; have HO231 := n0_; have BK227 := n1_; have HB := n2_; clear n0_ n1_ n2_; clear hb ho14; obtain ⟨hcz15_0, hcz15_1, hcz15_2, hcz15_3, hcz15_4, hcz15_5, hcz15_6, hcz15_7, hcz15_8, hcz15_9, hcz15_10, hfz15_0, hfz15_1, hfz15_2, hfz15_3, hfz15_4, hfz15_5, hfz15_6, hfz15_7, hfz15_8, hfz15_9, hfz15_10⟩ := bc11 BK227; obtain ⟨Ao16, co16, eo16⟩ := Kd.R_slice HO231.out; subst eo16) | (go_at_call 35; (with_reducible refine (pack_PutU64.calls _ _ y229 a0_1 t232 _ ?side1 ?side2 A4.out).mono ?_); (case side1 => repeat (first | exact (Kd.R_reads' HO231.out).2.2 | (with_reducible refine Kd.C_alloc ?_ _) | (with_reducible refine Kd.C_drewN ?_ _) | (with_reducible refine Kd.C_drew ?_))); (case side2 => exact (Kd.R_reads' HO231.out).2.1); rintro e w17 ⟨v233, rfl, ho0, hb⟩; have n0_ := Aside0.mk (Kd.R_elder' (by (with_reducible repeat (first | apply Kd.R_alloc | apply Kd.R_drewN | apply Kd.R_drew)); exact HO231.out) (Kd.R_base ho0) hb); have n1_ := Aside0.mk (Kd.R_lower (Kd.R_new' ho0 (Kd.R_lt (by (with_reducible repeat (first | apply Kd.R_alloc | apply Kd.R_drewN | apply Kd.R_drew)); exact HO231.out))) (below_size (bw HB))); have n2_ := bb BK227 hb; have n3_ := bs HB hb; clear HO231; clear BK227; clear HB; have HO231 := n0_; have HO234 := n1_; have BK227 := n2_; have HB := n3_; clear n0_ n1_ n2_ n3_; (try clear hb); (try clear hb2); (try clear hk); (try clear hi); (try clear ho0); obtain ⟨hcz18_0, hcz18_1, hcz18_2, hcz18_3, hcz18_4, hcz18_5, hcz18_6, hcz18_7, hcz18_8, hcz18_9, hcz18_10, hfz18_0, hfz18_1, hfz18_2, hfz18_3, hfz18_4, hfz18_5, hfz18_6, hfz18_7, hfz18_8, hfz18_9, hfz18_10⟩ := bc11 BK227; obtain ⟨Ao19, co19, eo19⟩ := Kd.R_slice HO234.out; subst eo19) | (go_at_call 36; (with_reducible refine (pack_PutText.calls _ _ t232 a0_2 t235 t236 _ ?side3 ?side1 ?side2 A5.out).mono ?_); (case side1 => repeat (first | exact (Kd.R_reads' HO234.out).2.2 | (with_reducible refine Kd.C_alloc ?_ _) | (with_reducible refine Kd.C_drewN ?_ _) | (with_reducible refine Kd.C_drew ?_))); (case side2 => exact (Kd.R_reads' HO234.out).2.1); (case side3 => exact (HERR.out.below (bw HB))); rintro e w20 ⟨v237, rfl, ho0, hb⟩; have n0_ := Aside0.mk (Kd.R_elder' (by (with_reducible repeat (first | apply Kd.R_alloc | apply Kd.R_drewN | apply Kd.R_drew)); exact HO231.out) (Kd.R_base ho0) hb); have n1_ := Aside0.mk (Kd.R_elder' (by (with_reducible repeat (first | apply Kd.R_alloc | apply Kd.R_drewN | apply Kd.R_drew)); exact HO234.out) (Kd.R_base ho0) hb); have n2_ := Aside0.mk (Kd.R_lower (Kd.R_new' (Kd.R_new' ho0 (Kd.R_lt (by (with_reducible repeat (first | apply Kd.R_alloc | apply Kd.R_drewN | apply Kd.R_drew)); exact HO231.out))) (Kd.R_lt (by (with_reducible repeat (first | apply Kd.R_alloc | apply Kd.R_drewN | apply Kd.R_drew)); exact HO234.out))) (below_size (bw HB))); have n3_ := bb BK227 hb; have n4_ := bs HB hb; clear HO231; clear HO234; clear BK227; clear HB; have HO231 := n0_; have HO234 := n1_; have HO238 := n2_; have BK227 := n3_; have HB := n4_; clear n0_ n1_ n2_ n3_ n4_; (try clear hb); (try clear hb2); (try clear hk); (try clear hi); (try clear ho0); obtain ⟨hcz21_0, hcz21_1, hcz21_2, hcz21_3, hcz21_4, hcz21_5, hcz21_6, hcz21_7, hcz21_8, hcz21_9, hcz21_10, hfz21_0, hfz21_1, hfz21_2, hfz21_3, hfz21_4, hfz21_5, hfz21_6, hfz21_7, hfz21_8, hfz21_9, hfz21_10⟩ := bc11 BK227) | ((with_reducible refine gate_dst (N := 28) rfl ?_); refine nen_err t236 (b := (t236 != 0)) ?_ rfl (of_decide_eq_true (by first | (with_reducible assumption) | assumption))))
        repeat (go_quiet (first | ((with_reducible refine gate_dst (N := 1) rfl ?_); refine bx 1 #[.int .i64 a0_0, .int .u64 a0_1, .string a0_2, .int .i64 a0_3, .int .u64 a0_4, .int .u64 a0_5, .int .u64 a0_6, .int .u64 a0_7, .int .u64 a0_8, .int .u64 a0_9, .int .u64 a0_10] 32 ?_; intro gb227 hg w9 hbox hb; have n0_ := bs HB hb; have n1_ := Aside0.mk (hbox); have n2_ := sz HB hg; have n3_ := sz HB hg; clear HB; have HB := n0_; have BK227 := n1_; have GW227 := n2_; have GE227 := n3_; clear n0_ n1_ n2_ n3_; clear hb hbox hg; obtain ⟨hcz10_0, hcz10_1, hcz10_2, hcz10_3, hcz10_4, hcz10_5, hcz10_6, hcz10_7, hcz10_8, hcz10_9, hcz10_10, hfz10_0, hfz10_1, hfz10_2, hfz10_3, hfz10_4, hfz10_5, hfz10_6, hfz10_7, hfz10_8, hfz10_9, hfz10_10⟩ := bc11 BK227) | (go_at_call 17; (with_reducible refine (record_Valid.calls k a0_0 a0_1 a0_2 a0_3 a0_4 a0_5 a0_6 a0_7 a0_8 a0_9 a0_10 true _ A2.out).mono ?_); rintro e w11 ⟨rfl, hb⟩; have n0_ := bb BK227 hb; have n1_ := bs HB hb; clear BK227; clear HB; have BK227 := n0_; have HB := n1_; clear n0_ n1_; (try clear hb); (try clear hb2); (try clear hk); (try clear hi); obtain ⟨hcz12_0, hcz12_1, hcz12_2, hcz12_3, hcz12_4, hcz12_5, hcz12_6, hcz12_7, hcz12_8, hcz12_9, hcz12_10, hfz12_0, hfz12_1, hfz12_2, hfz12_3, hfz12_4, hfz12_5, hfz12_6, hfz12_7, hfz12_8, hfz12_9, hfz12_10⟩ := bc11 BK227) | ((with_reducible refine gate_dst (N := 16) rfl ?_); refine Kd.R_lit (Kd.int .u8) _ 5 ?hg (N := 16) ?hd (xs := ([(a0_0) % 256] : List Int)) (inner := [.int .u8 ((a0_0) % 256)]) (ok := fun _ => True) (okp := fun _ => True) ?hr ?hp (fun _ hk => hk) trivial (Below.refl _ _) (Nat.le_refl _) (by simp) ?_; (case hd => rfl); (case hg => rfl); (case hr => first | (go_simp; done) | (go_simp; rfl)); (case hp => exact (Reps.one (show Kd.M (Kd.int .u8) _ _ _ ((a0_0) % 256) [.int .u8 ((a0_0) % 256)] from rfl) (Reps.none _ _))); intro v230 w13 ho14 hb hg_ hnew_; clear hg_ hnew_; (first | rw [← Ny229.out] at ho14 | (simp only [Int.reduceToNat] at ho14; rw [← Ny229.out] at ho14)); have n0_ := Aside0.mk (Kd.R_lower ho14 (below_size (bw HB))); have n1_ := bb BK227 hb; have n2_ := bs HB hb; clear BK227; clear HB; have HO231 := n0_; have BK227 := n1_; have HB := n2_; clear n0_ n1_ n2_; clear hb ho14; obtain ⟨hcz15_0, hcz15_1, hcz15_2, hcz15_3, hcz15_4, hcz15_5, hcz15_6, hcz15_7, hcz15_8, hcz15_9, hcz15_10, hfz15_0, hfz15_1, hfz15_2, hfz15_3, hfz15_4, hfz15_5, hfz15_6, hfz15_7, hfz15_8, hfz15_9, hfz15_10⟩ := bc11 BK227; obtain ⟨Ao16, co16, eo16⟩ := Kd.R_slice HO231.out; subst eo16) | (go_at_call 35; (with_reducible refine (pack_PutU64.calls _ _ y229 a0_1 t232 _ ?side1 ?side2 A4.out).mono ?_); (case side1 => repeat (first | exact (Kd.R_reads' HO231.out).2.2 | (with_reducible refine Kd.C_alloc ?_ _) | (with_reducible refine Kd.C_drewN ?_ _) | (with_reducible refine Kd.C_drew ?_))); (case side2 => exact (Kd.R_reads' HO231.out).2.1); rintro e w17 ⟨v233, rfl, ho0, hb⟩; have n0_ := Aside0.mk (Kd.R_elder' (by (with_reducible repeat (first | apply Kd.R_alloc | apply Kd.R_drewN | apply Kd.R_drew)); exact HO231.out) (Kd.R_base ho0) hb); have n1_ := Aside0.mk (Kd.R_lower (Kd.R_new' ho0 (Kd.R_lt (by (with_reducible repeat (first | apply Kd.R_alloc | apply Kd.R_drewN | apply Kd.R_drew)); exact HO231.out))) (below_size (bw HB))); have n2_ := bb BK227 hb; have n3_ := bs HB hb; clear HO231; clear BK227; clear HB; have HO231 := n0_; have HO234 := n1_; have BK227 := n2_; have HB := n3_; clear n0_ n1_ n2_ n3_; (try clear hb); (try clear hb2); (try clear hk); (try clear hi); (try clear ho0); obtain ⟨hcz18_0, hcz18_1, hcz18_2, hcz18_3, hcz18_4, hcz18_5, hcz18_6, hcz18_7, hcz18_8, hcz18_9, hcz18_10, hfz18_0, hfz18_1, hfz18_2, hfz18_3, hfz18_4, hfz18_5, hfz18_6, hfz18_7, hfz18_8, hfz18_9, hfz18_10⟩ := bc11 BK227; obtain ⟨Ao19, co19, eo19⟩ := Kd.R_slice HO234.out; subst eo19) | (go_at_call 36; (with_reducible refine (pack_PutText.calls _ _ t232 a0_2 t235 t236 _ ?side3 ?side1 ?side2 A5.out).mono ?_); (case side1 => repeat (first | exact (Kd.R_reads' HO234.out).2.2 | (with_reducible refine Kd.C_alloc ?_ _) | (with_reducible refine Kd.C_drewN ?_ _) | (with_reducible refine Kd.C_drew ?_))); (case side2 => exact (Kd.R_reads' HO234.out).2.1); (case side3 => exact (HERR.out.below (bw HB))); rintro e w20 ⟨v237, rfl, ho0, hb⟩; have n0_ := Aside0.mk (Kd.R_elder' (by (with_reducible repeat (first | apply Kd.R_alloc | apply Kd.R_drewN | apply Kd.R_drew)); exact HO231.out) (Kd.R_base ho0) hb); have n1_ := Aside0.mk (Kd.R_elder' (by (with_reducible repeat (first | apply Kd.R_alloc | apply Kd.R_drewN | apply Kd.R_drew)); exact HO234.out) (Kd.R_base ho0) hb); have n2_ := Aside0.mk (Kd.R_lower (Kd.R_new' (Kd.R_new' ho0 (Kd.R_lt (by (with_reducible repeat (first | apply Kd.R_alloc | apply Kd.R_drewN | apply Kd.R_drew)); exact HO231.out))) (Kd.R_lt (by (with_reducible repeat (first | apply Kd.R_alloc | apply Kd.R_drewN | apply Kd.R_drew)); exact HO234.out))) (below_size (bw HB))); have n3_ := bb BK227 hb; have n4_ := bs HB hb; clear HO231; clear HO234; clear BK227; clear HB; have HO231 := n0_; have HO234 := n1_; have HO238 := n2_; have BK227 := n3_; have HB := n4_; clear n0_ n1_ n2_ n3_ n4_; (try clear hb); (try clear hb2); (try clear hk); (try clear hi); (try clear ho0); obtain ⟨hcz21_0, hcz21_1, hcz21_2, hcz21_3, hcz21_4, hcz21_5, hcz21_6, hcz21_7, hcz21_8, hcz21_9, hcz21_10, hfz21_0, hfz21_1, hfz21_2, hfz21_3, hfz21_4, hfz21_5, hfz21_6, hfz21_7, hfz21_8, hfz21_9, hfz21_10⟩ := bc11 BK227) | ((with_reducible refine gate_dst (N := 28) rfl ?_); refine nen_err t236 (b := (t236 != 0)) ?_ rfl (of_decide_eq_true (by first | (with_reducible assumption) | assumption)))); go_upto_block 0 with (first | ((with_reducible refine gate_dst (N := 1) rfl ?_); refine bx 1 #[.int .i64 a0_0, .int .u64 a0_1, .string a0_2, .int .i64 a0_3, .int .u64 a0_4, .int .u64 a0_5, .int .u64 a0_6, .int .u64 a0_7, .int .u64 a0_8, .int .u64 a0_9, .int .u64 a0_10] 32 ?_; intro gb227 hg w9 hbox hb; have n0_ := bs HB hb; have n1_ := Aside0.mk (hbox); have n2_ := sz HB hg; have n3_ := sz HB hg; clear HB; have HB := n0_; have BK227 := n1_; have GW227 := n2_; have GE227 := n3_; clear n0_ n1_ n2_ n3_; clear hb hbox hg; obtain ⟨hcz10_0, hcz10_1, hcz10_2, hcz10_3, hcz10_4, hcz10_5, hcz10_6, hcz10_7, hcz10_8, hcz10_9, hcz10_10, hfz10_0, hfz10_1, hfz10_2, hfz10_3, hfz10_4, hfz10_5, hfz10_6, hfz10_7, hfz10_8, hfz10_9, hfz10_10⟩ := bc11 BK227) | (go_at_call 17; (with_reducible refine (record_Valid.calls k a0_0 a0_1 a0_2 a0_3 a0_4 a0_5 a0_6 a0_7 a0_8 a0_9 a0_10 true _ A2.out).mono ?_); rintro e w11 ⟨rfl, hb⟩; have n0_ := bb BK227 hb; have n1_ := bs HB hb; clear BK227; clear HB; have BK227 := n0_; have HB := n1_; clear n0_ n1_; (try clear hb); (try clear hb2); (try clear hk); (try clear hi); obtain ⟨hcz12_0, hcz12_1, hcz12_2, hcz12_3, hcz12_4, hcz12_5, hcz12_6, hcz12_7, hcz12_8, hcz12_9, hcz12_10, hfz12_0, hfz12_1, hfz12_2, hfz12_3, hfz12_4, hfz12_5, hfz12_6, hfz12_7, hfz12_8, hfz12_9, hfz12_10⟩ := bc11 BK227) | ((with_reducible refine gate_dst (N := 16) rfl ?_); refine Kd.R_lit (Kd.int .u8) _ 5 ?hg (N := 16) ?hd (xs := ([(a0_0) % 256] : List Int)) (inner := [.int .u8 ((a0_0) % 256)]) (ok := fun _ => True) (okp := fun _ => True) ?hr ?hp (fun _ hk => hk) trivial (Below.refl _ _) (Nat.le_refl _) (by simp) ?_; (case hd => rfl); (case hg => rfl); (case hr => first | (go_simp; done) | (go_simp; rfl)); (case hp => exact (Reps.one (show Kd.M (Kd.int .u8) _ _ _ ((a0_0) % 256) [.int .u8 ((a0_0) % 256)] from rfl) (Reps.none _ _))); intro v230 w13 ho14 hb hg_ hnew_; clear hg_ hnew_; (first | rw [← Ny229.out] at ho14 | (simp only [Int.reduceToNat] at ho14; rw [← Ny229.out] at ho14)); have n0_ := Aside0.mk (Kd.R_lower ho14 (below_size (bw HB))); have n1_ := bb BK227 hb; have n2_ := bs HB hb; clear BK227; clear HB; have HO231 := n0_; have BK227 := n1_; have HB := n2_; clear n0_ n1_ n2_; clear hb ho14; obtain ⟨hcz15_0, hcz15_1, hcz15_2, hcz15_3, hcz15_4, hcz15_5, hcz15_6, hcz15_7, hcz15_8, hcz15_9, hcz15_10, hfz15_0, hfz15_1, hfz15_2, hfz15_3, hfz15_4, hfz15_5, hfz15_6, hfz15_7, hfz15_8, hfz15_9, hfz15_10⟩ := bc11 BK227; obtain ⟨Ao16, co16, eo16⟩ := Kd.R_slice HO231.out; subst eo16) | (go_at_call 35; (with_reducible refine (pack_PutU64.calls _ _ y229 a0_1 t232 _ ?side1 ?side2 A4.out).mono ?_); (case side1 => repeat (first | exact (Kd.R_reads' HO231.out).2.2 | (with_reducible refine Kd.C_alloc ?_ _) | (with_reducible refine Kd.C_drewN ?_ _) | (with_reducible refine Kd.C_drew ?_))); (case side2 => exact (Kd.R_reads' HO231.out).2.1); rintro e w17 ⟨v233, rfl, ho0, hb⟩; have n0_ := Aside0.mk (Kd.R_elder' (by (with_reducible repeat (first | apply Kd.R_alloc | apply Kd.R_drewN | apply Kd.R_drew)); exact HO231.out) (Kd.R_base ho0) hb); have n1_ := Aside0.mk (Kd.R_lower (Kd.R_new' ho0 (Kd.R_lt (by (with_reducible repeat (first | apply Kd.R_alloc | apply Kd.R_drewN | apply Kd.R_drew)); exact HO231.out))) (below_size (bw HB))); have n2_ := bb BK227 hb; have n3_ := bs HB hb; clear HO231; clear BK227; clear HB; have HO231 := n0_; have HO234 := n1_; have BK227 := n2_; have HB := n3_; clear n0_ n1_ n2_ n3_; (try clear hb); (try clear hb2); (try clear hk); (try clear hi); (try clear ho0); obtain ⟨hcz18_0, hcz18_1, hcz18_2, hcz18_3, hcz18_4, hcz18_5, hcz18_6, hcz18_7, hcz18_8, hcz18_9, hcz18_10, hfz18_0, hfz18_1, hfz18_2, hfz18_3, hfz18_4, hfz18_5, hfz18_6, hfz18_7, hfz18_8, hfz18_9, hfz18_10⟩ := bc11 BK227; obtain ⟨Ao19, co19, eo19⟩ := Kd.R_slice HO234.out; subst eo19) | (go_at_call 36; (with_reducible refine (pack_PutText.calls _ _ t232 a0_2 t235 t236 _ ?side3 ?side1 ?side2 A5.out).mono ?_); (case side1 => repeat (first | exact (Kd.R_reads' HO234.out).2.2 | (with_reducible refine Kd.C_alloc ?_ _) | (with_reducible refine Kd.C_drewN ?_ _) | (with_reducible refine Kd.C_drew ?_))); (case side2 => exact (Kd.R_reads' HO234.out).2.1); (case side3 => exact (HERR.out.below (bw HB))); rintro e w20 ⟨v237, rfl, ho0, hb⟩; have n0_ := Aside0.mk (Kd.R_elder' (by (with_reducible repeat (first | apply Kd.R_alloc | apply Kd.R_drewN | apply Kd.R_drew)); exact HO231.out) (Kd.R_base ho0) hb); have n1_ := Aside0.mk (Kd.R_elder' (by (with_reducible repeat (first | apply Kd.R_alloc | apply Kd.R_drewN | apply Kd.R_drew)); exact HO234.out) (Kd.R_base ho0) hb); have n2_ := Aside0.mk (Kd.R_lower (Kd.R_new' (Kd.R_new' ho0 (Kd.R_lt (by (with_reducible repeat (first | apply Kd.R_alloc | apply Kd.R_drewN | apply Kd.R_drew)); exact HO231.out))) (Kd.R_lt (by (with_reducible repeat (first | apply Kd.R_alloc | apply Kd.R_drewN | apply Kd.R_drew)); exact HO234.out))) (below_size (bw HB))); have n3_ := bb BK227 hb; have n4_ := bs HB hb; clear HO231; clear HO234; clear BK227; clear HB; have HO231 := n0_; have HO234 := n1_; have HO238 := n2_; have BK227 := n3_; have HB := n4_; clear n0_ n1_ n2_ n3_ n4_; (try clear hb); (try clear hb2); (try clear hk); (try clear hi); (try clear ho0); obtain ⟨hcz21_0, hcz21_1, hcz21_2, hcz21_3, hcz21_4, hcz21_5, hcz21_6, hcz21_7, hcz21_8, hcz21_9, hcz21_10, hfz21_0, hfz21_1, hfz21_2, hfz21_3, hfz21_4, hfz21_5, hfz21_6, hfz21_7, hfz21_8, hfz21_9, hfz21_10⟩ := bc11 BK227) | ((with_reducible refine gate_dst (N := 28) rfl ?_); refine nen_err t236 (b := (t236 != 0)) ?_ rfl (of_decide_eq_true (by first | (with_reducible assumption) | assumption)))))
        (try simp only [Act.put, List.setIfInBounds_toArray, List.set_cons_zero, List.set_cons_succ])
        go_cut [4, 6] (fun v4 v6 wc => ∃ (kq : Nat) (x4_7 : List Int) (x6_7 : List Int), Aside0 (record_Encode.j0 kq x4_7 x6_7 = some (r1, r2)) ∧ Aside0 (kq ≤ k) ∧ Aside0 (Kd.R (Kd.int .u8) 5 wc w.heap.size (fun _ => True) v4 x4_7) ∧ Aside0 (Kd.R (Kd.int .u64) 26 wc w.heap.size (fun _ => True) v6 x6_7) ∧ Aside0 (wc.heap[gb227]? = some (.cells #[.int .i64 a0_0, .int .u64 a0_1, .string a0_2, .int .i64 a0_3, .int .u64 a0_4, .int .u64 a0_5, .int .u64 a0_6, .int .u64 a0_7, .int .u64 a0_8, .int .u64 a0_9, .int .u64 a0_10] 32 (0, 0))) ∧ Aside0 (Below w.heap.size w wc))
        case first =>
          have H := HC8.out
          clear HC8
          by_cases c22 : a0_0 = 1
          · rw [if_pos c22] at H
            have c22b0 : (a0_0 == 1) = true := beq_iff_eq.mpr c22
            have c22b1 : (a0_0 != 1) = false := bne_eq_false_iff_eq.mpr c22
            clear c22
            (first | rw [c22b0] | (simp only [i64_w, i32_w]; rw [c22b0]) | skip)
            by_cases c23 : t235.length < 140737488355328
            · rw [if_pos c23] at H
              have LMc23 := Aside0.mk c23
              clear c23
              obtain ⟨y239, hy239⟩ : ∃ y_ : List Int, y_ = (t235 ++ [(a0_3) % 256]) := ⟨_, rfl⟩
              replace H : (if a0_3 = 2 then (record_Encode.j0 k y239 (([a0_6, a0_7] : List Int))) else (record_Encode.j0 k y239 (([a0_4, a0_5] : List Int)))) = some (r1, r2) := by first | (rw [hy239]; with_reducible exact H) | (have H2_ := (Option.bind_some _ _).symm.trans H; rw [hy239]; with_reducible exact H2_) | (have H2_ := (Option.bind_some _ _).symm.trans H; with_reducible exact H2_) | with_reducible exact H | (rw [hy239]; exact H) | exact H
              have Ny239 := Aside0.mk hy239
              clear hy239
              obtain ⟨y242, hy242⟩ : ∃ y_ : List Int, y_ = (([a0_4, a0_5] : List Int)) := ⟨_, rfl⟩
              replace H : (if a0_3 = 2 then (record_Encode.j0 k y239 (([a0_6, a0_7] : List Int))) else (record_Encode.j0 k y239 y242)) = some (r1, r2) := by first | (rw [hy242]; with_reducible exact H) | (have H2_ := (Option.bind_some _ _).symm.trans H; rw [hy242]; with_reducible exact H2_) | (have H2_ := (Option.bind_some _ _).symm.trans H; with_reducible exact H2_) | with_reducible exact H | (rw [hy242]; exact H) | exact H
              have Ny242 := Aside0.mk hy242
              clear hy242
              by_cases c24 : a0_3 = 2
              · rw [if_pos c24] at H
                have c24b0 : (a0_3 == 2) = true := beq_iff_eq.mpr c24
                have c24b1 : (a0_3 != 2) = false := bne_eq_false_iff_eq.mpr c24
                clear c24
                obtain ⟨y245, hy245⟩ : ∃ y_ : List Int, y_ = (([a0_6, a0_7] : List Int)) := ⟨_, rfl⟩
                replace H : (record_Encode.j0 k y239 y245) = some (r1, r2) := by first | (rw [hy245]; with_reducible exact H) | (have H2_ := (Option.bind_some _ _).symm.trans H; rw [hy245]; with_reducible exact H2_) | (have H2_ := (Option.bind_some _ _).symm.trans H; with_reducible exact H2_) | with_reducible exact H | (rw [hy245]; exact H) | exact H
                have Ny245 := Aside0.mk hy245
                clear hy245
                have H' := Aside0.mk H
                clear H
                obtain ⟨hcz25_0, hcz25_1, hcz25_2, hcz25_3, hcz25_4, hcz25_5, hcz25_6, hcz25_7, hcz25_8, hcz25_9, hcz25_10, hfz25_0, hfz25_1, hfz25_2, hfz25_3, hfz25_4, hfz25_5, hfz25_6, hfz25_7, hfz25_8, hfz25_9, hfz25_10⟩ := bc11 BK227
                go_wp2_with (first | ((with_reducible refine gate_builtin (b := .append) (xs := #[.tmp 34, .tmp 39]) rfl ?_); at_builtin; refine Kd.R_append (Kd.int .u8) (w0 := w) w.heap.size rfl (.tmp 34) (.tmp 39) 33 5 (.int .u8 0) 1 rfl Tryd.underlying33 info5 rfl (by decide) (by omega) v237 t235 ((a0_3) % 256) [.int .u8 ((a0_3) % 256)] (fun k_ => some k_ ≠ (.slice Ao16 y229.length co16 : Value).ownBlock ∧ some k_ ≠ (.slice Ao19 t232.length co19 : Value).ownBlock) (fun _ => False) rfl rfl ?aP (fun _ hk => hk.elim) ?aF ?aO ?aB ?aS ?aL ?_; (case aP => exact rfl); (case aB => exact (bw HB)); (case aF => exact (fun k_ hk => ⟨Kd.fresh' (Kd.R_lt (by (with_reducible repeat (first | apply Kd.R_alloc | apply Kd.R_drewN | apply Kd.R_drew)); exact HO231.out)) k_ hk, Kd.fresh' (Kd.R_lt (by (with_reducible repeat (first | apply Kd.R_alloc | apply Kd.R_drewN | apply Kd.R_drew)); exact HO234.out)) k_ hk⟩)); (case aO => exact (by (with_reducible repeat (first | apply Kd.R_alloc | apply Kd.R_drewN | apply Kd.R_drew)); exact Kd.R_mono HO238.out (fun _ hk => ⟨hk.1.2, hk.2⟩))); (case aS => exact (below_size (bw HB))); (case aL => have := LMc23.out; omega); intro v240 w26 ho hb hg hat; rw [← Ny239.out] at ho; have n0_ := Aside0.mk (blk_grown (g := gb227) (o := .cells #[.int .i64 a0_0, .int .u64 a0_1, .string a0_2, .int .i64 a0_3, .int .u64 a0_4, .int .u64 a0_5, .int .u64 a0_6, .int .u64 a0_7, .int .u64 a0_8, .int .u64 a0_9, .int .u64 a0_10] 32 (0, 0)) (bk BK227) hg (Kd.R_ne HO238.out BK227.out (by decide))); have n1_ := Aside0.mk (Kd.R_after (ok := (fun k_ => some k_ ≠ (.slice Ao19 t232.length co19 : Value).ownBlock)) (by (with_reducible repeat (first | apply Kd.R_alloc | apply Kd.R_drewN | apply Kd.R_drew)); exact Kd.R_mono HO231.out (fun _ hk => ⟨hk.1.2, hk.2⟩)) hg hat); have n2_ := Aside0.mk (Kd.R_after (ok := (fun k_ => some k_ ≠ (.slice Ao16 y229.length co16 : Value).ownBlock)) (by (with_reducible repeat (first | apply Kd.R_alloc | apply Kd.R_drewN | apply Kd.R_drew)); exact Kd.R_mono HO234.out (fun _ hk => ⟨hk.1.2, hk.2⟩)) hg hat); have n3_ := Aside0.mk (hb); have n4_ := Aside0.mk (ho); clear BK227; clear HO231; clear HO234; clear HB; clear HO238; have BK227 := n0_; have HO231 := n1_; have HO234 := n2_; have HB := n3_; have HO241 := n4_; clear n0_ n1_ n2_ n3_ n4_; clear ho hb hg hat; obtain ⟨hcz27_0, hcz27_1, hcz27_2, hcz27_3, hcz27_4, hcz27_5, hcz27_6, hcz27_7, hcz27_8, hcz27_9, hcz27_10, hfz27_0, hfz27_1, hfz27_2, hfz27_3, hfz27_4, hfz27_5, hfz27_6, hfz27_7, hfz27_8, hfz27_9, hfz27_10⟩ := bc11 BK227) | ((with_reducible refine gate_dst (N := 47) rfl ?_); refine Kd.R_lit (Kd.int .u64) _ 26 ?hg (N := 47) ?hd (xs := ([a0_4, a0_5] : List Int)) (inner := [.int .u64 a0_4, .int .u64 a0_5]) (ok := fun _ => True) (okp := fun _ => True) ?hr ?hp (fun _ hk => hk) trivial (Below.refl _ _) (Nat.le_refl _) (by simp) ?_; (case hd => rfl); (case hg => rfl); (case hr => first | (go_simp; done) | (go_simp; rfl)); (case hp => exact (Reps.one (show Kd.M (Kd.int .u64) _ _ _ a0_4 [.int .u64 a0_4] from rfl) (Reps.one (show Kd.M (Kd.int .u64) _ _ _ a0_5 [.int .u64 a0_5] from rfl) (Reps.none _ _)))); intro v243 w28 ho29 hb hg_ hnew_; clear hg_ hnew_; (first | rw [← Ny242.out] at ho29 | (simp only [Int.reduceToNat] at ho29; rw [← Ny242.out] at ho29)); have n0_ := Aside0.mk (Kd.R_below (by (with_reducible repeat (first | apply Kd.R_alloc | apply Kd.R_drewN | apply Kd.R_drew)); exact HO231.out) hb); have n1_ := Aside0.mk (Kd.R_below (by (with_reducible repeat (first | apply Kd.R_alloc | apply Kd.R_drewN | apply Kd.R_drew)); exact HO234.out) hb); have n2_ := Aside0.mk (Kd.R_below (by (with_reducible repeat (first | apply Kd.R_alloc | apply Kd.R_drewN | apply Kd.R_drew)); exact HO241.out) hb); have n3_ := Aside0.mk (Kd.R_lower ho29 (below_size (bw HB))); have n4_ := bb BK227 hb; have n5_ := bs HB hb; clear HO231; clear HO234; clear HO241; clear BK227; clear HB; have HO231 := n0_; have HO234 := n1_; have HO241 := n2_; have HO244 := n3_; have BK227 := n4_; have HB := n5_; clear n0_ n1_ n2_ n3_ n4_ n5_; clear hb ho29; obtain ⟨hcz30_0, hcz30_1, hcz30_2, hcz30_3, hcz30_4, hcz30_5, hcz30_6, hcz30_7, hcz30_8, hcz30_9, hcz30_10, hfz30_0, hfz30_1, hfz30_2, hfz30_3, hfz30_4, hfz30_5, hfz30_6, hfz30_7, hfz30_8, hfz30_9, hfz30_10⟩ := bc11 BK227) | ((with_reducible refine gate_dst (N := 58) rfl ?_); refine Kd.R_lit (Kd.int .u64) _ 26 ?hg (N := 58) ?hd (xs := ([a0_6, a0_7] : List Int)) (inner := [.int .u64 a0_6, .int .u64 a0_7]) (ok := fun _ => True) (okp := fun _ => True) ?hr ?hp (fun _ hk => hk) trivial (Below.refl _ _) (Nat.le_refl _) (by simp) ?_; (case hd => rfl); (case hg => rfl); (case hr => first | (go_simp; done) | (go_simp; rfl)); (case hp => exact (Reps.one (show Kd.M (Kd.int .u64) _ _ _ a0_6 [.int .u64 a0_6] from rfl) (Reps.one (show Kd.M (Kd.int .u64) _ _ _ a0_7 [.int .u64 a0_7] from rfl) (Reps.none _ _)))); intro v246 w31 ho32 hb hg_ hnew_; clear hg_ hnew_; (first | rw [← Ny245.out] at ho32 | (simp only [Int.reduceToNat] at ho32; rw [← Ny245.out] at ho32)); have n0_ := Aside0.mk (Kd.R_below (by (with_reducible repeat (first | apply Kd.R_alloc | apply Kd.R_drewN | apply Kd.R_drew)); exact HO231.out) hb); have n1_ := Aside0.mk (Kd.R_below (by (with_reducible repeat (first | apply Kd.R_alloc | apply Kd.R_drewN | apply Kd.R_drew)); exact HO234.out) hb); have n2_ := Aside0.mk (Kd.R_below (by (with_reducible repeat (first | apply Kd.R_alloc | apply Kd.R_drewN | apply Kd.R_drew)); exact HO241.out) hb); have n3_ := Aside0.mk (Kd.R_elder' (by (with_reducible repeat (first | apply Kd.R_alloc | apply Kd.R_drewN | apply Kd.R_drew)); exact HO244.out) (Kd.R_base ho32) hb); have n4_ := Aside0.mk (Kd.R_lower (Kd.R_new' ho32 (Kd.R_lt (by (with_reducible repeat (first | apply Kd.R_alloc | apply Kd.R_drewN | apply Kd.R_drew)); exact HO244.out))) (below_size (bw HB))); have n5_ := bb BK227 hb; have n6_ := bs HB hb; clear HO231; clear HO234; clear HO241; clear HO244; clear BK227; clear HB; have HO231 := n0_; have HO234 := n1_; have HO241 := n2_; have HO244 := n3_; have HO247 := n4_; have BK227 := n5_; have HB := n6_; clear n0_ n1_ n2_ n3_ n4_ n5_ n6_; clear hb ho32))
                repeat (go_quiet (first | ((with_reducible refine gate_builtin (b := .append) (xs := #[.tmp 34, .tmp 39]) rfl ?_); at_builtin; refine Kd.R_append (Kd.int .u8) (w0 := w) w.heap.size rfl (.tmp 34) (.tmp 39) 33 5 (.int .u8 0) 1 rfl Tryd.underlying33 info5 rfl (by decide) (by omega) v237 t235 ((a0_3) % 256) [.int .u8 ((a0_3) % 256)] (fun k_ => some k_ ≠ (.slice Ao16 y229.length co16 : Value).ownBlock ∧ some k_ ≠ (.slice Ao19 t232.length co19 : Value).ownBlock) (fun _ => False) rfl rfl ?aP (fun _ hk => hk.elim) ?aF ?aO ?aB ?aS ?aL ?_; (case aP => exact rfl); (case aB => exact (bw HB)); (case aF => exact (fun k_ hk => ⟨Kd.fresh' (Kd.R_lt (by (with_reducible repeat (first | apply Kd.R_alloc | apply Kd.R_drewN | apply Kd.R_drew)); exact HO231.out)) k_ hk, Kd.fresh' (Kd.R_lt (by (with_reducible repeat (first | apply Kd.R_alloc | apply Kd.R_drewN | apply Kd.R_drew)); exact HO234.out)) k_ hk⟩)); (case aO => exact (by (with_reducible repeat (first | apply Kd.R_alloc | apply Kd.R_drewN | apply Kd.R_drew)); exact Kd.R_mono HO238.out (fun _ hk => ⟨hk.1.2, hk.2⟩))); (case aS => exact (below_size (bw HB))); (case aL => have := LMc23.out; omega); intro v240 w26 ho hb hg hat; rw [← Ny239.out] at ho; have n0_ := Aside0.mk (blk_grown (g := gb227) (o := .cells #[.int .i64 a0_0, .int .u64 a0_1, .string a0_2, .int .i64 a0_3, .int .u64 a0_4, .int .u64 a0_5, .int .u64 a0_6, .int .u64 a0_7, .int .u64 a0_8, .int .u64 a0_9, .int .u64 a0_10] 32 (0, 0)) (bk BK227) hg (Kd.R_ne HO238.out BK227.out (by decide))); have n1_ := Aside0.mk (Kd.R_after (ok := (fun k_ => some k_ ≠ (.slice Ao19 t232.length co19 : Value).ownBlock)) (by (with_reducible repeat (first | apply Kd.R_alloc | apply Kd.R_drewN | apply Kd.R_drew)); exact Kd.R_mono HO231.out (fun _ hk => ⟨hk.1.2, hk.2⟩)) hg hat); have n2_ := Aside0.mk (Kd.R_after (ok := (fun k_ => some k_ ≠ (.slice Ao16 y229.length co16 : Value).ownBlock)) (by (with_reducible repeat (first | apply Kd.R_alloc | apply Kd.R_drewN | apply Kd.R_drew)); exact Kd.R_mono HO234.out (fun _ hk => ⟨hk.1.2, hk.2⟩)) hg hat); have n3_ := Aside0.mk (hb); have n4_ := Aside0.mk (ho); clear BK227; clear HO231; clear HO234; clear HB; clear HO238; have BK227 := n0_; have HO231 := n1_; have HO234 := n2_; have HB := n3_; have HO241 := n4_; clear n0_ n1_ n2_ n3_ n4_; clear ho hb hg hat; obtain ⟨hcz27_0, hcz27_1, hcz27_2, hcz27_3, hcz27_4, hcz27_5, hcz27_6, hcz27_7, hcz27_8, hcz27_9, hcz27_10, hfz27_0, hfz27_1, hfz27_2, hfz27_3, hfz27_4, hfz27_5, hfz27_6, hfz27_7, hfz27_8, hfz27_9, hfz27_10⟩ := bc11 BK227) | ((with_reducible refine gate_dst (N := 47) rfl ?_); refine Kd.R_lit (Kd.int .u64) _ 26 ?hg (N := 47) ?hd (xs := ([a0_4, a0_5] : List Int)) (inner := [.int .u64 a0_4, .int .u64 a0_5]) (ok := fun _ => True) (okp := fun _ => True) ?hr ?hp (fun _ hk => hk) trivial (Below.refl _ _) (Nat.le_refl _) (by simp) ?_; (case hd => rfl); (case hg => rfl); (case hr => first | (go_simp; done) | (go_simp; rfl)); (case hp => exact (Reps.one (show Kd.M (Kd.int .u64) _ _ _ a0_4 [.int .u64 a0_4] from rfl) (Reps.one (show Kd.M (Kd.int .u64) _ _ _ a0_5 [.int .u64 a0_5] from rfl) (Reps.none _ _)))); intro v243 w28 ho29 hb hg_ hnew_; clear hg_ hnew_; (first | rw [← Ny242.out] at ho29 | (simp only [Int.reduceToNat] at ho29; rw [← Ny242.out] at ho29)); have n0_ := Aside0.mk (Kd.R_below (by (with_reducible repeat (first | apply Kd.R_alloc | apply Kd.R_drewN | apply Kd.R_drew)); exact HO231.out) hb); have n1_ := Aside0.mk (Kd.R_below (by (with_reducible repeat (first | apply Kd.R_alloc | apply Kd.R_drewN | apply Kd.R_drew)); exact HO234.out) hb); have n2_ := Aside0.mk (Kd.R_below (by (with_reducible repeat (first | apply Kd.R_alloc | apply Kd.R_drewN | apply Kd.R_drew)); exact HO241.out) hb); have n3_ := Aside0.mk (Kd.R_lower ho29 (below_size (bw HB))); have n4_ := bb BK227 hb; have n5_ := bs HB hb; clear HO231; clear HO234; clear HO241; clear BK227; clear HB; have HO231 := n0_; have HO234 := n1_; have HO241 := n2_; have HO244 := n3_; have BK227 := n4_; have HB := n5_; clear n0_ n1_ n2_ n3_ n4_ n5_; clear hb ho29; obtain ⟨hcz30_0, hcz30_1, hcz30_2, hcz30_3, hcz30_4, hcz30_5, hcz30_6, hcz30_7, hcz30_8, hcz30_9, hcz30_10, hfz30_0, hfz30_1, hfz30_2, hfz30_3, hfz30_4, hfz30_5, hfz30_6, hfz30_7, hfz30_8, hfz30_9, hfz30_10⟩ := bc11 BK227) | ((with_reducible refine gate_dst (N := 58) rfl ?_); refine Kd.R_lit (Kd.int .u64) _ 26 ?hg (N := 58) ?hd (xs := ([a0_6, a0_7] : List Int)) (inner := [.int .u64 a0_6, .int .u64 a0_7]) (ok := fun _ => True) (okp := fun _ => True) ?hr ?hp (fun _ hk => hk) trivial (Below.refl _ _) (Nat.le_refl _) (by simp) ?_; (case hd => rfl); (case hg => rfl); (case hr => first | (go_simp; done) | (go_simp; rfl)); (case hp => exact (Reps.one (show Kd.M (Kd.int .u64) _ _ _ a0_6 [.int .u64 a0_6] from rfl) (Reps.one (show Kd.M (Kd.int .u64) _ _ _ a0_7 [.int .u64 a0_7] from rfl) (Reps.none _ _)))); intro v246 w31 ho32 hb hg_ hnew_; clear hg_ hnew_; (first | rw [← Ny245.out] at ho32 | (simp only [Int.reduceToNat] at ho32; rw [← Ny245.out] at ho32)); have n0_ := Aside0.mk (Kd.R_below (by (with_reducible repeat (first | apply Kd.R_alloc | apply Kd.R_drewN | apply Kd.R_drew)); exact HO231.out) hb); have n1_ := Aside0.mk (Kd.R_below (by (with_reducible repeat (first | apply Kd.R_alloc | apply Kd.R_drewN | apply Kd.R_drew)); exact HO234.out) hb); have n2_ := Aside0.mk (Kd.R_below (by (with_reducible repeat (first | apply Kd.R_alloc | apply Kd.R_drewN | apply Kd.R_drew)); exact HO241.out) hb); have n3_ := Aside0.mk (Kd.R_elder' (by (with_reducible repeat (first | apply Kd.R_alloc | apply Kd.R_drewN | apply Kd.R_drew)); exact HO244.out) (Kd.R_base ho32) hb); have n4_ := Aside0.mk (Kd.R_lower (Kd.R_new' ho32 (Kd.R_lt (by (with_reducible repeat (first | apply Kd.R_alloc | apply Kd.R_drewN | apply Kd.R_drew)); exact HO244.out))) (below_size (bw HB))); have n5_ := bb BK227 hb; have n6_ := bs HB hb; clear HO231; clear HO234; clear HO241; clear HO244; clear BK227; clear HB; have HO231 := n0_; have HO234 := n1_; have HO241 := n2_; have HO244 := n3_; have HO247 := n4_; have BK227 := n5_; have HB := n6_; clear n0_ n1_ n2_ n3_ n4_ n5_ n6_; clear hb ho32)); try go_wp2_with (first | ((with_reducible refine gate_builtin (b := .append) (xs := #[.tmp 34, .tmp 39]) rfl ?_); at_builtin; refine Kd.R_append (Kd.int .u8) (w0 := w) w.heap.size rfl (.tmp 34) (.tmp 39) 33 5 (.int .u8 0) 1 rfl Tryd.underlying33 info5 rfl (by decide) (by omega) v237 t235 ((a0_3) % 256) [.int .u8 ((a0_3) % 256)] (fun k_ => some k_ ≠ (.slice Ao16 y229.length co16 : Value).ownBlock ∧ some k_ ≠ (.slice Ao19 t232.length co19 : Value).ownBlock) (fun _ => False) rfl rfl ?aP (fun _ hk => hk.elim) ?aF ?aO ?aB ?aS ?aL ?_; (case aP => exact rfl); (case aB => exact (bw HB)); (case aF => exact (fun k_ hk => ⟨Kd.fresh' (Kd.R_lt (by (with_reducible repeat (first | apply Kd.R_alloc | apply Kd.R_drewN | apply Kd.R_drew)); exact HO231.out)) k_ hk, Kd.fresh' (Kd.R_lt (by (with_reducible repeat (first | apply Kd.R_alloc | apply Kd.R_drewN | apply Kd.R_drew)); exact HO234.out)) k_ hk⟩)); (case aO => exact (by (with_reducible repeat (first | apply Kd.R_alloc | apply Kd.R_drewN | apply Kd.R_drew)); exact Kd.R_mono HO238.out (fun _ hk => ⟨hk.1.2, hk.2⟩))); (case aS => exact (below_size (bw HB))); (case aL => have := LMc23.out; omega); intro v240 w26 ho hb hg hat; rw [← Ny239.out] at ho; have n0_ := Aside0.mk (blk_grown (g := gb227) (o := .cells #[.int .i64 a0_0, .int .u64 a0_1, .string a0_2, .int .i64 a0_3, .int .u64 a0_4, .int .u64 a0_5, .int .u64 a0_6, .int .u64 a0_7, .int .u64 a0_8, .int .u64 a0_9, .int .u64 a0_10] 32 (0, 0)) (bk BK227) hg (Kd.R_ne HO238.out BK227.out (by decide))); have n1_ := Aside0.mk (Kd.R_after (ok := (fun k_ => some k_ ≠ (.slice Ao19 t232.length co19 : Value).ownBlock)) (by (with_reducible repeat (first | apply Kd.R_alloc | apply Kd.R_drewN | apply Kd.R_drew)); exact Kd.R_mono HO231.out (fun _ hk => ⟨hk.1.2, hk.2⟩)) hg hat); have n2_ := Aside0.mk (Kd.R_after (ok := (fun k_ => some k_ ≠ (.slice Ao16 y229.length co16 : Value).ownBlock)) (by (with_reducible repeat (first | apply Kd.R_alloc | apply Kd.R_drewN | apply Kd.R_drew)); exact Kd.R_mono HO234.out (fun _ hk => ⟨hk.1.2, hk.2⟩)) hg hat); have n3_ := Aside0.mk (hb); have n4_ := Aside0.mk (ho); clear BK227; clear HO231; clear HO234; clear HB; clear HO238; have BK227 := n0_; have HO231 := n1_; have HO234 := n2_; have HB := n3_; have HO241 := n4_; clear n0_ n1_ n2_ n3_ n4_; clear ho hb hg hat; obtain ⟨hcz27_0, hcz27_1, hcz27_2, hcz27_3, hcz27_4, hcz27_5, hcz27_6, hcz27_7, hcz27_8, hcz27_9, hcz27_10, hfz27_0, hfz27_1, hfz27_2, hfz27_3, hfz27_4, hfz27_5, hfz27_6, hfz27_7, hfz27_8, hfz27_9, hfz27_10⟩ := bc11 BK227) | ((with_reducible refine gate_dst (N := 47) rfl ?_); refine Kd.R_lit (Kd.int .u64) _ 26 ?hg (N := 47) ?hd (xs := ([a0_4, a0_5] : List Int)) (inner := [.int .u64 a0_4, .int .u64 a0_5]) (ok := fun _ => True) (okp := fun _ => True) ?hr ?hp (fun _ hk => hk) trivial (Below.refl _ _) (Nat.le_refl _) (by simp) ?_; (case hd => rfl); (case hg => rfl); (case hr => first | (go_simp; done) | (go_simp; rfl)); (case hp => exact (Reps.one (show Kd.M (Kd.int .u64) _ _ _ a0_4 [.int .u64 a0_4] from rfl) (Reps.one (show Kd.M (Kd.int .u64) _ _ _ a0_5 [.int .u64 a0_5] from rfl) (Reps.none _ _)))); intro v243 w28 ho29 hb hg_ hnew_; clear hg_ hnew_; (first | rw [← Ny242.out] at ho29 | (simp only [Int.reduceToNat] at ho29; rw [← Ny242.out] at ho29)); have n0_ := Aside0.mk (Kd.R_below (by (with_reducible repeat (first | apply Kd.R_alloc | apply Kd.R_drewN | apply Kd.R_drew)); exact HO231.out) hb); have n1_ := Aside0.mk (Kd.R_below (by (with_reducible repeat (first | apply Kd.R_alloc | apply Kd.R_drewN | apply Kd.R_drew)); exact HO234.out) hb); have n2_ := Aside0.mk (Kd.R_below (by (with_reducible repeat (first | apply Kd.R_alloc | apply Kd.R_drewN | apply Kd.R_drew)); exact HO241.out) hb); have n3_ := Aside0.mk (Kd.R_lower ho29 (below_size (bw HB))); have n4_ := bb BK227 hb; have n5_ := bs HB hb; clear HO231; clear HO234; clear HO241; clear BK227; clear HB; have HO231 := n0_; have HO234 := n1_; have HO241 := n2_; have HO244 := n3_; have BK227 := n4_; have HB := n5_; clear n0_ n1_ n2_ n3_ n4_ n5_; clear hb ho29; obtain ⟨hcz30_0, hcz30_1, hcz30_2, hcz30_3, hcz30_4, hcz30_5, hcz30_6, hcz30_7, hcz30_8, hcz30_9, hcz30_10, hfz30_0, hfz30_1, hfz30_2, hfz30_3, hfz30_4, hfz30_5, hfz30_6, hfz30_7, hfz30_8, hfz30_9, hfz30_10⟩ := bc11 BK227) | ((with_reducible refine gate_dst (N := 58) rfl ?_); refine Kd.R_lit (Kd.int .u64) _ 26 ?hg (N := 58) ?hd (xs := ([a0_6, a0_7] : List Int)) (inner := [.int .u64 a0_6, .int .u64 a0_7]) (ok := fun _ => True) (okp := fun _ => True) ?hr ?hp (fun _ hk => hk) trivial (Below.refl _ _) (Nat.le_refl _) (by simp) ?_; (case hd => rfl); (case hg => rfl); (case hr => first | (go_simp; done) | (go_simp; rfl)); (case hp => exact (Reps.one (show Kd.M (Kd.int .u64) _ _ _ a0_6 [.int .u64 a0_6] from rfl) (Reps.one (show Kd.M (Kd.int .u64) _ _ _ a0_7 [.int .u64 a0_7] from rfl) (Reps.none _ _)))); intro v246 w31 ho32 hb hg_ hnew_; clear hg_ hnew_; (first | rw [← Ny245.out] at ho32 | (simp only [Int.reduceToNat] at ho32; rw [← Ny245.out] at ho32)); have n0_ := Aside0.mk (Kd.R_below (by (with_reducible repeat (first | apply Kd.R_alloc | apply Kd.R_drewN | apply Kd.R_drew)); exact HO231.out) hb); have n1_ := Aside0.mk (Kd.R_below (by (with_reducible repeat (first | apply Kd.R_alloc | apply Kd.R_drewN | apply Kd.R_drew)); exact HO234.out) hb); have n2_ := Aside0.mk (Kd.R_below (by (with_reducible repeat (first | apply Kd.R_alloc | apply Kd.R_drewN | apply Kd.R_drew)); exact HO241.out) hb); have n3_ := Aside0.mk (Kd.R_elder' (by (with_reducible repeat (first | apply Kd.R_alloc | apply Kd.R_drewN | apply Kd.R_drew)); exact HO244.out) (Kd.R_base ho32) hb); have n4_ := Aside0.mk (Kd.R_lower (Kd.R_new' ho32 (Kd.R_lt (by (with_reducible repeat (first | apply Kd.R_alloc | apply Kd.R_drewN | apply Kd.R_drew)); exact HO244.out))) (below_size (bw HB))); have n5_ := bb BK227 hb; have n6_ := bs HB hb; clear HO231; clear HO234; clear HO241; clear HO244; clear BK227; clear HB; have HO231 := n0_; have HO234 := n1_; have HO241 := n2_; have HO244 := n3_; have HO247 := n4_; have BK227 := n5_; have HB := n6_; clear n0_ n1_ n2_ n3_ n4_ n5_ n6_; clear hb ho32)))
                go_meet
                case rel => exact ⟨_, (y239), (y245), H', ⟨by first | omega | exact Nat.le_refl _⟩, ⟨by (with_reducible repeat (first | apply Kd.R_alloc | apply Kd.R_drewN | apply Kd.R_drew)); exact Kd.R_mono HO241.out (fun _ hk => trivial)⟩, ⟨by (with_reducible repeat (first | apply Kd.R_alloc | apply Kd.R_drewN | apply Kd.R_drew)); exact Kd.R_mono HO247.out (fun _ hk => trivial)⟩, ⟨bk BK227⟩, ⟨bw HB⟩⟩
              · rw [if_neg c24] at H
                have c24b0 : (a0_3 == 2) = false := beq_eq_false_iff_ne.mpr c24
                have c24b1 : (a0_3 != 2) = true := bne_iff_ne.mpr c24
                have H' := Aside0.mk H
                clear H
                obtain ⟨hcz33_0, hcz33_1, hcz33_2, hcz33_3, hcz33_4, hcz33_5, hcz33_6, hcz33_7, hcz33_8, hcz33_9, hcz33_10, hfz33_0, hfz33_1, hfz33_2, hfz33_3, hfz33_4, hfz33_5, hfz33_6, hfz33_7, hfz33_8, hfz33_9, hfz33_10⟩ := bc11 BK227
                go_wp2_with (first | ((with_reducible refine gate_builtin (b := .append) (xs := #[.tmp 34, .tmp 39]) rfl ?_); at_builtin; refine Kd.R_append (Kd.int .u8) (w0 := w) w.heap.size rfl (.tmp 34) (.tmp 39) 33 5 (.int .u8 0) 1 rfl Tryd.underlying33 info5 rfl (by decide) (by omega) v237 t235 ((a0_3) % 256) [.int .u8 ((a0_3) % 256)] (fun k_ => some k_ ≠ (.slice Ao16 y229.length co16 : Value).ownBlock ∧ some k_ ≠ (.slice Ao19 t232.length co19 : Value).ownBlock) (fun _ => False) rfl rfl ?aP (fun _ hk => hk.elim) ?aF ?aO ?aB ?aS ?aL ?_; (case aP => exact rfl); (case aB => exact (bw HB)); (case aF => exact (fun k_ hk => ⟨Kd.fresh' (Kd.R_lt (by (with_reducible repeat (first | apply Kd.R_alloc | apply Kd.R_drewN | apply Kd.R_drew)); exact HO231.out)) k_ hk, Kd.fresh' (Kd.R_lt (by (with_reducible repeat (first | apply Kd.R_alloc | apply Kd.R_drewN | apply Kd.R_drew)); exact HO234.out)) k_ hk⟩)); (case aO => exact (by (with_reducible repeat (first | apply Kd.R_alloc | apply Kd.R_drewN | apply Kd.R_drew)); exact Kd.R_mono HO238.out (fun _ hk => ⟨hk.1.2, hk.2⟩))); (case aS => exact (below_size (bw HB))); (case aL => have := LMc23.out; omega); intro v240 w34 ho hb hg hat; rw [← Ny239.out] at ho; have n0_ := Aside0.mk (blk_grown (g := gb227) (o := .cells #[.int .i64 a0_0, .int .u64 a0_1, .string a0_2, .int .i64 a0_3, .int .u64 a0_4, .int .u64 a0_5, .int .u64 a0_6, .int .u64 a0_7, .int .u64 a0_8, .int .u64 a0_9, .int .u64 a0_10] 32 (0, 0)) (bk BK227) hg (Kd.R_ne HO238.out BK227.out (by decide))); have n1_ := Aside0.mk (Kd.R_after (ok := (fun k_ => some k_ ≠ (.slice Ao19 t232.length co19 : Value).ownBlock)) (by (with_reducible repeat (first | apply Kd.R_alloc | apply Kd.R_drewN | apply Kd.R_drew)); exact Kd.R_mono HO231.out (fun _ hk => ⟨hk.1.2, hk.2⟩)) hg hat); have n2_ := Aside0.mk (Kd.R_after (ok := (fun k_ => some k_ ≠ (.slice Ao16 y229.length co16 : Value).ownBlock)) (by (with_reducible repeat (first | apply Kd.R_alloc | apply Kd.R_drewN | apply Kd.R_drew)); exact Kd.R_mono HO234.out (fun _ hk => ⟨hk.1.2, hk.2⟩)) hg hat); have n3_ := Aside0.mk (hb); have n4_ := Aside0.mk (ho); clear BK227; clear HO231; clear HO234; clear HB; clear HO238; have BK227 := n0_; have HO231 := n1_; have HO234 := n2_; have HB := n3_; have HO241 := n4_; clear n0_ n1_ n2_ n3_ n4_; clear ho hb hg hat; obtain ⟨hcz35_0, hcz35_1, hcz35_2, hcz35_3, hcz35_4, hcz35_5, hcz35_6, hcz35_7, hcz35_8, hcz35_9, hcz35_10, hfz35_0, hfz35_1, hfz35_2, hfz35_3, hfz35_4, hfz35_5, hfz35_6, hfz35_7, hfz35_8, hfz35_9, hfz35_10⟩ := bc11 BK227) | ((with_reducible refine gate_dst (N := 47) rfl ?_); refine Kd.R_lit (Kd.int .u64) _ 26 ?hg (N := 47) ?hd (xs := ([a0_4, a0_5] : List Int)) (inner := [.int .u64 a0_4, .int .u64 a0_5]) (ok := fun _ => True) (okp := fun _ => True) ?hr ?hp (fun _ hk => hk) trivial (Below.refl _ _) (Nat.le_refl _) (by simp) ?_; (case hd => rfl); (case hg => rfl); (case hr => first | (go_simp; done) | (go_simp; rfl)); (case hp => exact (Reps.one (show Kd.M (Kd.int .u64) _ _ _ a0_4 [.int .u64 a0_4] from rfl) (Reps.one (show Kd.M (Kd.int .u64) _ _ _ a0_5 [.int .u64 a0_5] from rfl) (Reps.none _ _)))); intro v243 w36 ho37 hb hg_ hnew_; clear hg_ hnew_; (first | rw [← Ny242.out] at ho37 | (simp only [Int.reduceToNat] at ho37; rw [← Ny242.out] at ho37)); have n0_ := Aside0.mk (Kd.R_below (by (with_reducible repeat (first | apply Kd.R_alloc | apply Kd.R_drewN | apply Kd.R_drew)); exact HO231.out) hb); have n1_ := Aside0.mk (Kd.R_below (by (with_reducible repeat (first | apply Kd.R_alloc | apply Kd.R_drewN | apply Kd.R_drew)); exact HO234.out) hb); have n2_ := Aside0.mk (Kd.R_below (by (with_reducible repeat (first | apply Kd.R_alloc | apply Kd.R_drewN | apply Kd.R_drew)); exact HO241.out) hb); have n3_ := Aside0.mk (Kd.R_lower ho37 (below_size (bw HB))); have n4_ := bb BK227 hb; have n5_ := bs HB hb; clear HO231; clear HO234; clear HO241; clear BK227; clear HB; have HO231 := n0_; have HO234 := n1_; have HO241 := n2_; have HO244 := n3_; have BK227 := n4_; have HB := n5_; clear n0_ n1_ n2_ n3_ n4_ n5_; clear hb ho37; obtain ⟨hcz38_0, hcz38_1, hcz38_2, hcz38_3, hcz38_4, hcz38_5, hcz38_6, hcz38_7, hcz38_8, hcz38_9, hcz38_10, hfz38_0, hfz38_1, hfz38_2, hfz38_3, hfz38_4, hfz38_5, hfz38_6, hfz38_7, hfz38_8, hfz38_9, hfz38_10⟩ := bc11 BK227))
                repeat (go_quiet (first | ((with_reducible refine gate_builtin (b := .append) (xs := #[.tmp 34, .tmp 39]) rfl ?_); at_builtin; refine Kd.R_append (Kd.int .u8) (w0 := w) w.heap.size rfl (.tmp 34) (.tmp 39) 33 5 (.int .u8 0) 1 rfl Tryd.underlying33 info5 rfl (by decide) (by omega) v237 t235 ((a0_3) % 256) [.int .u8 ((a0_3) % 256)] (fun k_ => some k_ ≠ (.slice Ao16 y229.length co16 : Value).ownBlock ∧ some k_ ≠ (.slice Ao19 t232.length co19 : Value).ownBlock) (fun _ => False) rfl rfl ?aP (fun _ hk => hk.elim) ?aF ?aO ?aB ?aS ?aL ?_; (case aP => exact rfl); (case aB => exact (bw HB)); (case aF => exact (fun k_ hk => ⟨Kd.fresh' (Kd.R_lt (by (with_reducible repeat (first | apply Kd.R_alloc | apply Kd.R_drewN | apply Kd.R_drew)); exact HO231.out)) k_ hk, Kd.fresh' (Kd.R_lt (by (with_reducible repeat (first | apply Kd.R_alloc | apply Kd.R_drewN | apply Kd.R_drew)); exact HO234.out)) k_ hk⟩)); (case aO => exact (by (with_reducible repeat (first | apply Kd.R_alloc | apply Kd.R_drewN | apply Kd.R_drew)); exact Kd.R_mono HO238.out (fun _ hk => ⟨hk.1.2, hk.2⟩))); (case aS => exact (below_size (bw HB))); (case aL => have := LMc23.out; omega); intro v240 w34 ho hb hg hat; rw [← Ny239.out] at ho; have n0_ := Aside0.mk (blk_grown (g := gb227) (o := .cells #[.int .i64 a0_0, .int .u64 a0_1, .string a0_2, .int .i64 a0_3, .int .u64 a0_4, .int .u64 a0_5, .int .u64 a0_6, .int .u64 a0_7, .int .u64 a0_8, .int .u64 a0_9, .int .u64 a0_10] 32 (0, 0)) (bk BK227) hg (Kd.R_ne HO238.out BK227.out (by decide))); have n1_ := Aside0.mk (Kd.R_after (ok := (fun k_ => some k_ ≠ (.slice Ao19 t232.length co19 : Value).ownBlock)) (by (with_reducible repeat (first | apply Kd.R_alloc | apply Kd.R_drewN | apply Kd.R_drew)); exact Kd.R_mono HO231.out (fun _ hk => ⟨hk.1.2, hk.2⟩)) hg hat); have n2_ := Aside0.mk (Kd.R_after (ok := (fun k_ => some k_ ≠ (.slice Ao16 y229.length co16 : Value).ownBlock)) (by (with_reducible repeat (first | apply Kd.R_alloc | apply Kd.R_drewN | apply Kd.R_drew)); exact Kd.R_mono HO234.out (fun _ hk => ⟨hk.1.2, hk.2⟩)) hg hat); have n3_ := Aside0.mk (hb); have n4_ := Aside0.mk (ho); clear BK227; clear HO231; clear HO234; clear HB; clear HO238; have BK227 := n0_; have HO231 := n1_; have HO234 := n2_; have HB := n3_; have HO241 := n4_; clear n0_ n1_ n2_ n3_ n4_; clear ho hb hg hat; obtain ⟨hcz35_0, hcz35_1, hcz35_2, hcz35_3, hcz35_4, hcz35_5, hcz35_6, hcz35_7, hcz35_8, hcz35_9, hcz35_10, hfz35_0, hfz35_1, hfz35_2, hfz35_3, hfz35_4, hfz35_5, hfz35_6, hfz35_7, hfz35_8, hfz35_9, hfz35_10⟩ := bc11 BK227) | ((with_reducible refine gate_dst (N := 47) rfl ?_); refine Kd.R_lit (Kd.int .u64) _ 26 ?hg (N := 47) ?hd (xs := ([a0_4, a0_5] : List Int)) (inner := [.int .u64 a0_4, .int .u64 a0_5]) (ok := fun _ => True) (okp := fun _ => True) ?hr ?hp (fun _ hk => hk) trivial (Below.refl _ _) (Nat.le_refl _) (by simp) ?_; (case hd => rfl); (case hg => rfl); (case hr => first | (go_simp; done) | (go_simp; rfl)); (case hp => exact (Reps.one (show Kd.M (Kd.int .u64) _ _ _ a0_4 [.int .u64 a0_4] from rfl) (Reps.one (show Kd.M (Kd.int .u64) _ _ _ a0_5 [.int .u64 a0_5] from rfl) (Reps.none _ _)))); intro v243 w36 ho37 hb hg_ hnew_; clear hg_ hnew_; (first | rw [← Ny242.out] at ho37 | (simp only [Int.reduceToNat] at ho37; rw [← Ny242.out] at ho37)); have n0_ := Aside0.mk (Kd.R_below (by (with_reducible repeat (first | apply Kd.R_alloc | apply Kd.R_drewN | apply Kd.R_drew)); exact HO231.out) hb); have n1_ := Aside0.mk (Kd.R_below (by (with_reducible repeat (first | apply Kd.R_alloc | apply Kd.R_drewN | apply Kd.R_drew)); exact HO234.out) hb); have n2_ := Aside0.mk (Kd.R_below (by (with_reducible repeat (first | apply Kd.R_alloc | apply Kd.R_drewN | apply Kd.R_drew)); exact HO241.out) hb); have n3_ := Aside0.mk (Kd.R_lower ho37 (below_size (bw HB))); have n4_ := bb BK227 hb; have n5_ := bs HB hb; clear HO231; clear HO234; clear HO241; clear BK227; clear HB; have HO231 := n0_; have HO234 := n1_; have HO241 := n2_; have HO244 := n3_; have BK227 := n4_; have HB := n5_; clear n0_ n1_ n2_ n3_ n4_ n5_; clear hb ho37; obtain ⟨hcz38_0, hcz38_1, hcz38_2, hcz38_3, hcz38_4, hcz38_5, hcz38_6, hcz38_7, hcz38_8, hcz38_9, hcz38_10, hfz38_0, hfz38_1, hfz38_2, hfz38_3, hfz38_4, hfz38_5, hfz38_6, hfz38_7, hfz38_8, hfz38_9, hfz38_10⟩ := bc11 BK227)); try go_wp2_with (first | ((with_reducible refine gate_builtin (b := .append) (xs := #[.tmp 34, .tmp 39]) rfl ?_); at_builtin; refine Kd.R_append (Kd.int .u8) (w0 := w) w.heap.size rfl (.tmp 34) (.tmp 39) 33 5 (.int .u8 0) 1 rfl Tryd.underlying33 info5 rfl (by decide) (by omega) v237 t235 ((a0_3) % 256) [.int .u8 ((a0_3) % 256)] (fun k_ => some k_ ≠ (.slice Ao16 y229.length co16 : Value).ownBlock ∧ some k_ ≠ (.slice Ao19 t232.length co19 : Value).ownBlock) (fun _ => False) rfl rfl ?aP (fun _ hk => hk.elim) ?aF ?aO ?aB ?aS ?aL ?_; (case aP => exact rfl); (case aB => exact (bw HB)); (case aF => exact (fun k_ hk => ⟨Kd.fresh' (Kd.R_lt (by (with_reducible repeat (first | apply Kd.R_alloc | apply Kd.R_drewN | apply Kd.R_drew)); exact HO231.out)) k_ hk, Kd.fresh' (Kd.R_lt (by (with_reducible repeat (first | apply Kd.R_alloc | apply Kd.R_drewN | apply Kd.R_drew)); exact HO234.out)) k_ hk⟩)); (case aO => exact (by (with_reducible repeat (first | apply Kd.R_alloc | apply Kd.R_drewN | apply Kd.R_drew)); exact Kd.R_mono HO238.out (fun _ hk => ⟨hk.1.2, hk.2⟩))); (case aS => exact (below_size (bw HB))); (case aL => have := LMc23.out; omega); intro v240 w34 ho hb hg hat; rw [← Ny239.out] at ho; have n0_ := Aside0.mk (blk_grown (g := gb227) (o := .cells #[.int .i64 a0_0, .int .u64 a0_1, .string a0_2, .int .i64 a0_3, .int .u64 a0_4, .int .u64 a0_5, .int .u64 a0_6, .int .u64 a0_7, .int .u64 a0_8, .int .u64 a0_9, .int .u64 a0_10] 32 (0, 0)) (bk BK227) hg (Kd.R_ne HO238.out BK227.out (by decide))); have n1_ := Aside0.mk (Kd.R_after (ok := (fun k_ => some k_ ≠ (.slice Ao19 t232.length co19 : Value).ownBlock)) (by (with_reducible repeat (first | apply Kd.R_alloc | apply Kd.R_drewN | apply Kd.R_drew)); exact Kd.R_mono HO231.out (fun _ hk => ⟨hk.1.2, hk.2⟩)) hg hat); have n2_ := Aside0.mk (Kd.R_after (ok := (fun k_ => some k_ ≠ (.slice Ao16 y229.length co16 : Value).ownBlock)) (by (with_reducible repeat (first | apply Kd.R_alloc | apply Kd.R_drewN | apply Kd.R_drew)); exact Kd.R_mono HO234.out (fun _ hk => ⟨hk.1.2, hk.2⟩)) hg hat); have n3_ := Aside0.mk (hb); have n4_ := Aside0.mk (ho); clear BK227; clear HO231; clear HO234; clear HB; clear HO238; have BK227 := n0_; have HO231 := n1_; have HO234 := n2_; have HB := n3_; have HO241 := n4_; clear n0_ n1_ n2_ n3_ n4_; clear ho hb hg hat; obtain ⟨hcz35_0, hcz35_1, hcz35_2, hcz35_3, hcz35_4, hcz35_5, hcz35_6, hcz35_7, hcz35_8, hcz35_9, hcz35_10, hfz35_0, hfz35_1, hfz35_2, hfz35_3, hfz35_4, hfz35_5, hfz35_6, hfz35_7, hfz35_8, hfz35_9, hfz35_10⟩ := bc11 BK227) | ((with_reducible refine gate_dst (N := 47) rfl ?_); refine Kd.R_lit (Kd.int .u64) _ 26 ?hg (N := 47) ?hd (xs := ([a0_4, a0_5] : List Int)) (inner := [.int .u64 a0_4, .int .u64 a0_5]) (ok := fun _ => True) (okp := fun _ => True) ?hr ?hp (fun _ hk => hk) trivial (Below.refl _ _) (Nat.le_refl _) (by simp) ?_; (case hd => rfl); (case hg => rfl); (case hr => first | (go_simp; done) | (go_simp; rfl)); (case hp => exact (Reps.one (show Kd.M (Kd.int .u64) _ _ _ a0_4 [.int .u64 a0_4] from rfl) (Reps.one (show Kd.M (Kd.int .u64) _ _ _ a0_5 [.int .u64 a0_5] from rfl) (Reps.none _ _)))); intro v243 w36 ho37 hb hg_ hnew_; clear hg_ hnew_; (first | rw [← Ny242.out] at ho37 | (simp only [Int.reduceToNat] at ho37; rw [← Ny242.out] at ho37)); have n0_ := Aside0.mk (Kd.R_below (by (with_reducible repeat (first | apply Kd.R_alloc | apply Kd.R_drewN | apply Kd.R_drew)); exact HO231.out) hb); have n1_ := Aside0.mk (Kd.R_below (by (with_reducible repeat (first | apply Kd.R_alloc | apply Kd.R_drewN | apply Kd.R_drew)); exact HO234.out) hb); have n2_ := Aside0.mk (Kd.R_below (by (with_reducible repeat (first | apply Kd.R_alloc | apply Kd.R_drewN | apply Kd.R_drew)); exact HO241.out) hb); have n3_ := Aside0.mk (Kd.R_lower ho37 (below_size (bw HB))); have n4_ := bb BK227 hb; have n5_ := bs HB hb; clear HO231; clear HO234; clear HO241; clear BK227; clear HB; have HO231 := n0_; have HO234 := n1_; have HO241 := n2_; have HO244 := n3_; have BK227 := n4_; have HB := n5_; clear n0_ n1_ n2_ n3_ n4_ n5_; clear hb ho37; obtain ⟨hcz38_0, hcz38_1, hcz38_2, hcz38_3, hcz38_4, hcz38_5, hcz38_6, hcz38_7, hcz38_8, hcz38_9, hcz38_10, hfz38_0, hfz38_1, hfz38_2, hfz38_3, hfz38_4, hfz38_5, hfz38_6, hfz38_7, hfz38_8, hfz38_9, hfz38_10⟩ := bc11 BK227)))
                go_meet
                case rel => exact ⟨_, (y239), (y242), H', ⟨by first | omega | exact Nat.le_refl _⟩, ⟨by (with_reducible repeat (first | apply Kd.R_alloc | apply Kd.R_drewN | apply Kd.R_drew)); exact Kd.R_mono HO241.out (fun _ hk => trivial)⟩, ⟨by (with_reducible repeat (first | apply Kd.R_alloc | apply Kd.R_drewN | apply Kd.R_drew)); exact HO244.out⟩, ⟨bk BK227⟩, ⟨bw HB⟩⟩
            · rw [if_neg c23] at H
              exact absurd H (by simp)
          · rw [if_neg c22] at H
            have c22b0 : (a0_0 == 1) = false := beq_eq_false_iff_ne.mpr c22
            have c22b1 : (a0_0 != 1) = true := bne_iff_ne.mpr c22
            (first | rw [c22b0] | (simp only [i64_w, i32_w]; rw [c22b0]) | skip)
            by_cases c39 : a0_0 = 3
            · rw [if_pos c39] at H
              have c39b0 : (a0_0 == 3) = true := beq_iff_eq.mpr c39
              have c39b1 : (a0_0 != 3) = false := bne_eq_false_iff_eq.mpr c39
              clear c39
              obtain ⟨y248, hy248⟩ : ∃ y_ : List Int, y_ = (([a0_8, a0_9, a0_10] : List Int)) := ⟨_, rfl⟩
              replace H : (record_Encode.j0 k t235 y248) = some (r1, r2) := by first | (rw [hy248]; with_reducible exact H) | (have H2_ := (Option.bind_some _ _).symm.trans H; rw [hy248]; with_reducible exact H2_) | (have H2_ := (Option.bind_some _ _).symm.trans H; with_reducible exact H2_) | with_reducible exact H | (rw [hy248]; exact H) | exact H
              have Ny248 := Aside0.mk hy248
              clear hy248
              have H' := Aside0.mk H
              clear H
              obtain ⟨hcz40_0, hcz40_1, hcz40_2, hcz40_3, hcz40_4, hcz40_5, hcz40_6, hcz40_7, hcz40_8, hcz40_9, hcz40_10, hfz40_0, hfz40_1, hfz40_2, hfz40_3, hfz40_4, hfz40_5, hfz40_6, hfz40_7, hfz40_8, hfz40_9, hfz40_10⟩ := bc11 BK227
              go_wp2_with (first | ((with_reducible refine gate_dst (N := 70) rfl ?_); refine Kd.R_lit (Kd.int .u64) _ 26 ?hg (N := 70) ?hd (xs := ([a0_8, a0_9, a0_10] : List Int)) (inner := [.int .u64 a0_8, .int .u64 a0_9, .int .u64 a0_10]) (ok := fun _ => True) (okp := fun _ => True) ?hr ?hp (fun _ hk => hk) trivial (Below.refl _ _) (Nat.le_refl _) (by simp) ?_; (case hd => rfl); (case hg => rfl); (case hr => first | (go_simp; done) | (go_simp; rfl)); (case hp => exact (Reps.one (show Kd.M (Kd.int .u64) _ _ _ a0_8 [.int .u64 a0_8] from rfl) (Reps.one (show Kd.M (Kd.int .u64) _ _ _ a0_9 [.int .u64 a0_9] from rfl) (Reps.one (show Kd.M (Kd.int .u64) _ _ _ a0_10 [.int .u64 a0_10] from rfl) (Reps.none _ _))))); intro v249 w41 ho42 hb hg_ hnew_; clear hg_ hnew_; (first | rw [← Ny248.out] at ho42 | (simp only [Int.reduceToNat] at ho42; rw [← Ny248.out] at ho42)); have n0_ := Aside0.mk (Kd.R_below (by (with_reducible repeat (first | apply Kd.R_alloc | apply Kd.R_drewN | apply Kd.R_drew)); exact HO231.out) hb); have n1_ := Aside0.mk (Kd.R_below (by (with_reducible repeat (first | apply Kd.R_alloc | apply Kd.R_drewN | apply Kd.R_drew)); exact HO234.out) hb); have n2_ := Aside0.mk (Kd.R_below (by (with_reducible repeat (first | apply Kd.R_alloc | apply Kd.R_drewN | apply Kd.R_drew)); exact HO238.out) hb); have n3_ := Aside0.mk (Kd.R_lower ho42 (below_size (bw HB))); have n4_ := bb BK227 hb; have n5_ := bs HB hb; clear HO231; clear HO234; clear HO238; clear BK227; clear HB; have HO231 := n0_; have HO234 := n1_; have HO238 := n2_; have HO250 := n3_; have BK227 := n4_; have HB := n5_; clear n0_ n1_ n2_ n3_ n4_ n5_; clear hb ho42))
              repeat (go_quiet (first | ((with_reducible refine gate_dst (N := 70) rfl ?_); refine Kd.R_lit (Kd.int .u64) _ 26 ?hg (N := 70) ?hd (xs := ([a0_8, a0_9, a0_10] : List Int)) (inner := [.int .u64 a0_8, .int .u64 a0_9, .int .u64 a0_10]) (ok := fun _ => True) (okp := fun _ => True) ?hr ?hp (fun _ hk => hk) trivial (Below.refl _ _) (Nat.le_refl _) (by simp) ?_; (case hd => rfl); (case hg => rfl); (case hr => first | (go_simp; done) | (go_simp; rfl)); (case hp => exact (Reps.one (show Kd.M (Kd.int .u64) _ _ _ a0_8 [.int .u64 a0_8] from rfl) (Reps.one (show Kd.M (Kd.int .u64) _ _ _ a0_9 [.int .u64 a0_9] from rfl) (Reps.one (show Kd.M (Kd.int .u64) _ _ _ a0_10 [.int .u64 a0_10] from rfl) (Reps.none _ _))))); intro v249 w41 ho42 hb hg_ hnew_; clear hg_ hnew_; (first | rw [← Ny248.out] at ho42 | (simp only [Int.reduceToNat] at ho42; rw [← Ny248.out] at ho42)); have n0_ := Aside0.mk (Kd.R_below (by (with_reducible repeat (first | apply Kd.R_alloc | apply Kd.R_drewN | apply Kd.R_drew)); exact HO231.out) hb); have n1_ := Aside0.mk (Kd.R_below (by (with_reducible repeat (first | apply Kd.R_alloc | apply Kd.R_drewN | apply Kd.R_drew)); exact HO234.out) hb); have n2_ := Aside0.mk (Kd.R_below (by (with_reducible repeat (first | apply Kd.R_alloc | apply Kd.R_drewN | apply Kd.R_drew)); exact HO238.out) hb); have n3_ := Aside0.mk (Kd.R_lower ho42 (below_size (bw HB))); have n4_ := bb BK227 hb; have n5_ := bs HB hb; clear HO231; clear HO234; clear HO238; clear BK227; clear HB; have HO231 := n0_; have HO234 := n1_; have HO238 := n2_; have HO250 := n3_; have BK227 := n4_; have HB := n5_; clear n0_ n1_ n2_ n3_ n4_ n5_; clear hb ho42)); try go_wp2_with (first | ((with_reducible refine gate_dst (N := 70) rfl ?_); refine Kd.R_lit (Kd.int .u64) _ 26 ?hg (N := 70) ?hd (xs := ([a0_8, a0_9, a0_10] : List Int)) (inner := [.int .u64 a0_8, .int .u64 a0_9, .int .u64 a0_10]) (ok := fun _ => True) (okp := fun _ => True) ?hr ?hp (fun _ hk => hk) trivial (Below.refl _ _) (Nat.le_refl _) (by simp) ?_; (case hd => rfl); (case hg => rfl); (case hr => first | (go_simp; done) | (go_simp; rfl)); (case hp => exact (Reps.one (show Kd.M (Kd.int .u64) _ _ _ a0_8 [.int .u64 a0_8] from rfl) (Reps.one (show Kd.M (Kd.int .u64) _ _ _ a0_9 [.int .u64 a0_9] from rfl) (Reps.one (show Kd.M (Kd.int .u64) _ _ _ a0_10 [.int .u64 a0_10] from rfl) (Reps.none _ _))))); intro v249 w41 ho42 hb hg_ hnew_; clear hg_ hnew_; (first | rw [← Ny248.out] at ho42 | (simp only [Int.reduceToNat] at ho42; rw [← Ny248.out] at ho42)); have n0_ := Aside0.mk (Kd.R_below (by (with_reducible repeat (first | apply Kd.R_alloc | apply Kd.R_drewN | apply Kd.R_drew)); exact HO231.out) hb); have n1_ := Aside0.mk (Kd.R_below (by (with_reducible repeat (first | apply Kd.R_alloc | apply Kd.R_drewN | apply Kd.R_drew)); exact HO234.out) hb); have n2_ := Aside0.mk (Kd.R_below (by (with_reducible repeat (first | apply Kd.R_alloc | apply Kd.R_drewN | apply Kd.R_drew)); exact HO238.out) hb); have n3_ := Aside0.mk (Kd.R_lower ho42 (below_size (bw HB))); have n4_ := bb BK227 hb; have n5_ := bs HB hb; clear HO231; clear HO234; clear HO238; clear BK227; clear HB; have HO231 := n0_; have HO234 := n1_; have HO238 := n2_; have HO250 := n3_; have BK227 := n4_; have HB := n5_; clear n0_ n1_ n2_ n3_ n4_ n5_; clear hb ho42)))
              go_meet
              case rel => exact ⟨_, (t235), (y248), H', ⟨by first | omega | exact Nat.le_refl _⟩, ⟨by (with_reducible repeat (first | apply Kd.R_alloc | apply Kd.R_drewN | apply Kd.R_drew)); exact Kd.R_mono HO238.out (fun _ hk => trivial)⟩, ⟨by (with_reducible repeat (first | apply Kd.R_alloc | apply Kd.R_drewN | apply Kd.R_drew)); exact HO250.out⟩, ⟨bk BK227⟩, ⟨bw HB⟩⟩
            · rw [if_neg c39] at H
              have c39b0 : (a0_0 == 3) = false := beq_eq_false_iff_ne.mpr c39
              have c39b1 : (a0_0 != 3) = true := bne_iff_ne.mpr c39
              have H' := Aside0.mk H
              clear H
              go_wp2
              repeat (go_quiet (fail); try go_wp2)
              go_meet
              case rel => exact ⟨_, (t235), (([] : List Int)), H', ⟨by first | omega | exact Nat.le_refl _⟩, ⟨by (with_reducible repeat (first | apply Kd.R_alloc | apply Kd.R_drewN | apply Kd.R_drew)); exact Kd.R_mono HO238.out (fun _ hk => trivial)⟩, ⟨by first | exact Kd.R_nil _ _ _ _ _ | exact Kd.N_nil _ _ _ _ _ | exact Kd.V_nil _ _ _ _ _ | exact Kd.Q_nil _ _ _ _ _ | exact Kd.S_nil _ _ _ _ _⟩, ⟨bk BK227⟩, ⟨bw HB⟩⟩
        case rest =>
          clear HC8
          try clear c1
          try clear c2
          try clear p2
          try clear c3
          try clear c6
          try clear c6b0
          try clear c6b1
          try clear c7
          try clear c7b0
          try clear c7b1
          try clear c16
          try clear c22
          try clear c22b0
          try clear c22b1
          try clear c23
          try clear c24
          try clear c24b0
          try clear c24b1
          try clear c39
          try clear c39b0
          try clear c39b1
          try clear hcz10_0
          try clear hcz10_1
          try clear hcz10_10
          try clear hcz10_2
          try clear hcz10_3
          try clear hcz10_4
          try clear hcz10_5
          try clear hcz10_6
          try clear hcz10_7
          try clear hcz10_8
          try clear hcz10_9
          try clear hcz12_0
          try clear hcz12_1
          try clear hcz12_10
          try clear hcz12_2
          try clear hcz12_3
          try clear hcz12_4
          try clear hcz12_5
          try clear hcz12_6
          try clear hcz12_7
          try clear hcz12_8
          try clear hcz12_9
          try clear hcz15_0
          try clear hcz15_1
          try clear hcz15_10
          try clear hcz15_2
          try clear hcz15_3
          try clear hcz15_4
          try clear hcz15_5
          try clear hcz15_6
          try clear hcz15_7
          try clear hcz15_8
          try clear hcz15_9
          try clear hcz18_0
          try clear hcz18_1
          try clear hcz18_10
          try clear hcz18_2
          try clear hcz18_3
          try clear hcz18_4
          try clear hcz18_5
          try clear hcz18_6
          try clear hcz18_7
          try clear hcz18_8
          try clear hcz18_9
          try clear hcz21_0
          try clear hcz21_1
          try clear hcz21_10
          try clear hcz21_2
          try clear hcz21_3
          try clear hcz21_4
          try clear hcz21_5
          try clear hcz21_6
          try clear hcz21_7
          try clear hcz21_8
          try clear hcz21_9
          try clear hcz25_0
          try clear hcz25_1
          try clear hcz25_10
          try clear hcz25_2
          try clear hcz25_3
          try clear hcz25_4
          try clear hcz25_5
          try clear hcz25_6
          try clear hcz25_7
          try clear hcz25_8
          try clear hcz25_9
          try clear hcz27_0
          try clear hcz27_1
          try clear hcz27_10
          try clear hcz27_2
          try clear hcz27_3
          try clear hcz27_4
          try clear hcz27_5
          try clear hcz27_6
          try clear hcz27_7
          try clear hcz27_8
          try clear hcz27_9
          try clear hcz30_0
          try clear hcz30_1
          try clear hcz30_10
          try clear hcz30_2
          try clear hcz30_3
          try clear hcz30_4
          try clear hcz30_5
          try clear hcz30_6
          try clear hcz30_7
          try clear hcz30_8
          try clear hcz30_9
          try clear hcz33_0
          try clear hcz33_1
          try clear hcz33_10
          try clear hcz33_2
          try clear hcz33_3
          try clear hcz33_4
          try clear hcz33_5
          try clear hcz33_6
          try clear hcz33_7
          try clear hcz33_8
          try clear hcz33_9
          try clear hcz35_0
          try clear hcz35_1
          try clear hcz35_10
          try clear hcz35_2
          try clear hcz35_3
          try clear hcz35_4
          try clear hcz35_5
          try clear hcz35_6
          try clear hcz35_7
          try clear hcz35_8
          try clear hcz35_9
          try clear hcz38_0
          try clear hcz38_1
          try clear hcz38_10
          try clear hcz38_2
          try clear hcz38_3
          try clear hcz38_4
          try clear hcz38_5
          try clear hcz38_6
          try clear hcz38_7
          try clear hcz38_8
          try clear hcz38_9
          try clear hcz40_0
          try clear hcz40_1
          try clear hcz40_10
          try clear hcz40_2
          try clear hcz40_3
          try clear hcz40_4
          try clear hcz40_5
          try clear hcz40_6
          try clear hcz40_7
          try clear hcz40_8
          try clear hcz40_9
          try clear hfz10_0
          try clear hfz10_1
          try clear hfz10_10
          try clear hfz10_2
          try clear hfz10_3
          try clear hfz10_4
          try clear hfz10_5
          try clear hfz10_6
          try clear hfz10_7
          try clear hfz10_8
          try clear hfz10_9
          try clear hfz12_0
          try clear hfz12_1
          try clear hfz12_10
          try clear hfz12_2
          try clear hfz12_3
          try clear hfz12_4
          try clear hfz12_5
          try clear hfz12_6
          try clear hfz12_7
          try clear hfz12_8
          try clear hfz12_9
          try clear hfz15_0
          try clear hfz15_1
          try clear hfz15_10
          try clear hfz15_2
          try clear hfz15_3
          try clear hfz15_4
          try clear hfz15_5
          try clear hfz15_6
          try clear hfz15_7
          try clear hfz15_8
          try clear hfz15_9
          try clear hfz18_0
          try clear hfz18_1
          try clear hfz18_10
          try clear hfz18_2
          try clear hfz18_3
          try clear hfz18_4
          try clear hfz18_5
          try clear hfz18_6
          try clear hfz18_7
          try clear hfz18_8
          try clear hfz18_9
          try clear hfz21_0
          try clear hfz21_1
          try clear hfz21_10
          try clear hfz21_2
          try clear hfz21_3
          try clear hfz21_4
          try clear hfz21_5
          try clear hfz21_6
          try clear hfz21_7
          try clear hfz21_8
          try clear hfz21_9
          try clear hfz25_0
          try clear hfz25_1
          try clear hfz25_10
          try clear hfz25_2
          try clear hfz25_3
          try clear hfz25_4
          try clear hfz25_5
          try clear hfz25_6
          try clear hfz25_7
          try clear hfz25_8
          try clear hfz25_9
          try clear hfz27_0
          try clear hfz27_1
          try clear hfz27_10
          try clear hfz27_2
          try clear hfz27_3
          try clear hfz27_4
          try clear hfz27_5
          try clear hfz27_6
          try clear hfz27_7
          try clear hfz27_8
          try clear hfz27_9
          try clear hfz30_0
          try clear hfz30_1
          try clear hfz30_10
          try clear hfz30_2
          try clear hfz30_3
          try clear hfz30_4
          try clear hfz30_5
          try clear hfz30_6
          try clear hfz30_7
          try clear hfz30_8
          try clear hfz30_9
          try clear hfz33_0
          try clear hfz33_1
          try clear hfz33_10
          try clear hfz33_2
          try clear hfz33_3
          try clear hfz33_4
          try clear hfz33_5
          try clear hfz33_6
          try clear hfz33_7
          try clear hfz33_8
          try clear hfz33_9
          try clear hfz35_0
          try clear hfz35_1
          try clear hfz35_10
          try clear hfz35_2
          try clear hfz35_3
          try clear hfz35_4
          try clear hfz35_5
          try clear hfz35_6
          try clear hfz35_7
          try clear hfz35_8
          try clear hfz35_9
          try clear hfz38_0
          try clear hfz38_1
          try clear hfz38_10
          try clear hfz38_2
          try clear hfz38_3
          try clear hfz38_4
          try clear hfz38_5
          try clear hfz38_6
          try clear hfz38_7
          try clear hfz38_8
          try clear hfz38_9
          try clear hfz40_0
          try clear hfz40_1
          try clear hfz40_10
          try clear hfz40_2
          try clear hfz40_3
          try clear hfz40_4
          try clear hfz40_5
          try clear hfz40_6
          try clear hfz40_7
          try clear hfz40_8
          try clear hfz40_9
          obtain ⟨kq, x4_7, x6_7, HA, HJ7, HO_4, HO_6, BK227, HB⟩ := hcut
          cases kq with
          | zero => exact absurd HA.out (by simp [record_Encode.j0])
          | succ kj7 =>
            have H := HA.out
            clear HA
            simp only [record_Encode.j0] at H
            have H' := Aside0.mk H
            clear H
            obtain ⟨Ao43, co43, eo43⟩ := Kd.R_slice HO_6.out
            subst eo43
            go_wp2
            repeat (go_quiet (fail); try go_wp2)
            go_loopg [4, 73] kj7 (fun kq v4 v73 w' => ∃ (x4_2 : List Int) (x73_2 : Int), v73 = .int .i64 x73_2 ∧ Aside0 (record_Encode.l0 kq x4_2 x6_7 (x6_7.length : Int) x73_2 = some (r1, r2)) ∧ Aside0 (kq ≤ kj7) ∧ Aside0 (Kd.R (Kd.int .u8) 5 w' w.heap.size (fun _ => True) v4 x4_2) ∧ Aside0 (Kd.R (Kd.int .u64) 26 w' w.heap.size (fun _ => True) (.slice Ao43 x6_7.length co43) x6_7) ∧ Aside0 (w'.heap[gb227]? = some (.cells #[.int .i64 a0_0, .int .u64 a0_1, .string a0_2, .int .i64 a0_3, .int .u64 a0_4, .int .u64 a0_5, .int .u64 a0_6, .int .u64 a0_7, .int .u64 a0_8, .int .u64 a0_9, .int .u64 a0_10] 32 (0, 0))) ∧ Aside0 (Below w.heap.size w w'))
            case atStart => exact ⟨(x4_7), (0), rs, H', ⟨Nat.le_refl _⟩, ⟨by (with_reducible repeat (first | apply Kd.R_alloc | apply Kd.R_drewN | apply Kd.R_drew)); exact HO_4.out⟩, ⟨by (with_reducible repeat (first | apply Kd.R_alloc | apply Kd.R_drewN | apply Kd.R_drew)); exact HO_6.out⟩, ⟨bk BK227⟩, ⟨bw HB⟩⟩
            case round =>
              clear H'
              try clear c1
              try clear c2
              try clear p2
              try clear c3
              try clear c6
              try clear c6b0
              try clear c6b1
              try clear c7
              try clear c7b0
              try clear c7b1
              try clear c16
              try clear c22
              try clear c22b0
              try clear c22b1
              try clear c23
              try clear c24
              try clear c24b0
              try clear c24b1
              try clear c39
              try clear c39b0
              try clear c39b1
              try clear hcz10_0
              try clear hcz10_1
              try clear hcz10_10
              try clear hcz10_2
              try clear hcz10_3
              try clear hcz10_4
              try clear hcz10_5
              try clear hcz10_6
              try clear hcz10_7
              try clear hcz10_8
              try clear hcz10_9
              try clear hcz12_0
              try clear hcz12_1
              try clear hcz12_10
              try clear hcz12_2
              try clear hcz12_3
              try clear hcz12_4
              try clear hcz12_5
              try clear hcz12_6
              try clear hcz12_7
              try clear hcz12_8
              try clear hcz12_9
              try clear hcz15_0
              try clear hcz15_1
              try clear hcz15_10
              try clear hcz15_2
              try clear hcz15_3
              try clear hcz15_4
              try clear hcz15_5
              try clear hcz15_6
              try clear hcz15_7
              try clear hcz15_8
              try clear hcz15_9
              try clear hcz18_0
              try clear hcz18_1
              try clear hcz18_10
              try clear hcz18_2
              try clear hcz18_3
              try clear hcz18_4
              try clear hcz18_5
              try clear hcz18_6
              try clear hcz18_7
              try clear hcz18_8
              try clear hcz18_9
              try clear hcz21_0
              try clear hcz21_1
              try clear hcz21_10
              try clear hcz21_2
              try clear hcz21_3
              try clear hcz21_4
              try clear hcz21_5
              try clear hcz21_6
              try clear hcz21_7
              try clear hcz21_8
              try clear hcz21_9
              try clear hcz25_0
              try clear hcz25_1
              try clear hcz25_10
              try clear hcz25_2
              try clear hcz25_3
              try clear hcz25_4
              try clear hcz25_5
              try clear hcz25_6
              try clear hcz25_7
              try clear hcz25_8
              try clear hcz25_9
              try clear hcz27_0
              try clear hcz27_1
              try clear hcz27_10
              try clear hcz27_2
              try clear hcz27_3
              try clear hcz27_4
              try clear hcz27_5
              try clear hcz27_6
              try clear hcz27_7
              try clear hcz27_8
              try clear hcz27_9
              try clear hcz30_0
              try clear hcz30_1
              try clear hcz30_10
              try clear hcz30_2
              try clear hcz30_3
              try clear hcz30_4
              try clear hcz30_5
              try clear hcz30_6
              try clear hcz30_7
              try clear hcz30_8
              try clear hcz30_9
              try clear hcz33_0
              try clear hcz33_1
              try clear hcz33_10
              try clear hcz33_2
              try clear hcz33_3
              try clear hcz33_4
              try clear hcz33_5
              try clear hcz33_6
              try clear hcz33_7
              try clear hcz33_8
              try clear hcz33_9
              try clear hcz35_0
              try clear hcz35_1
              try clear hcz35_10
              try clear hcz35_2
              try clear hcz35_3
              try clear hcz35_4
              try clear hcz35_5
              try clear hcz35_6
              try clear hcz35_7
              try clear hcz35_8
              try clear hcz35_9
              try clear hcz38_0
              try clear hcz38_1
              try clear hcz38_10
              try clear hcz38_2
              try clear hcz38_3
              try clear hcz38_4
              try clear hcz38_5
              try clear hcz38_6
              try clear hcz38_7
              try clear hcz38_8
              try clear hcz38_9
              try clear hcz40_0
              try clear hcz40_1
              try clear hcz40_10
              try clear hcz40_2
              try clear hcz40_3
              try clear hcz40_4
              try clear hcz40_5
              try clear hcz40_6
              try clear hcz40_7
              try clear hcz40_8
              try clear hcz40_9
              try clear hfz10_0
              try clear hfz10_1
              try clear hfz10_10
              try clear hfz10_2
              try clear hfz10_3
              try clear hfz10_4
              try clear hfz10_5
              try clear hfz10_6
              try clear hfz10_7
              try clear hfz10_8
              try clear hfz10_9
              try clear hfz12_0
              try clear hfz12_1
              try clear hfz12_10
              try clear hfz12_2
              try clear hfz12_3
              try clear hfz12_4
              try clear hfz12_5
              try clear hfz12_6
              try clear hfz12_7
              try clear hfz12_8
              try clear hfz12_9
              try clear hfz15_0
              try clear hfz15_1
              try clear hfz15_10
              try clear hfz15_2
              try clear hfz15_3
              try clear hfz15_4
              try clear hfz15_5
              try clear hfz15_6
              try clear hfz15_7
              try clear hfz15_8
              try clear hfz15_9
              try clear hfz18_0
              try clear hfz18_1
              try clear hfz18_10
              try clear hfz18_2
              try clear hfz18_3
              try clear hfz18_4
              try clear hfz18_5
              try clear hfz18_6
              try clear hfz18_7
              try clear hfz18_8
              try clear hfz18_9
              try clear hfz21_0
              try clear hfz21_1
              try clear hfz21_10
              try clear hfz21_2
              try clear hfz21_3
              try clear hfz21_4
              try clear hfz21_5
              try clear hfz21_6
              try clear hfz21_7
              try clear hfz21_8
              try clear hfz21_9
              try clear hfz25_0
              try clear hfz25_1
              try clear hfz25_10
              try clear hfz25_2
              try clear hfz25_3
              try clear hfz25_4
              try clear hfz25_5
              try clear hfz25_6
              try clear hfz25_7
              try clear hfz25_8
              try clear hfz25_9
              try clear hfz27_0
              try clear hfz27_1
              try clear hfz27_10
              try clear hfz27_2
              try clear hfz27_3
              try clear hfz27_4
              try clear hfz27_5
              try clear hfz27_6
              try clear hfz27_7
              try clear hfz27_8
              try clear hfz27_9
              try clear hfz30_0
              try clear hfz30_1
              try clear hfz30_10
              try clear hfz30_2
              try clear hfz30_3
              try clear hfz30_4
              try clear hfz30_5
              try clear hfz30_6
              try clear hfz30_7
              try clear hfz30_8
              try clear hfz30_9
              try clear hfz33_0
              try clear hfz33_1
              try clear hfz33_10
              try clear hfz33_2
              try clear hfz33_3
              try clear hfz33_4
              try clear hfz33_5
              try clear hfz33_6
              try clear hfz33_7
              try clear hfz33_8
              try clear hfz33_9
              try clear hfz35_0
              try clear hfz35_1
              try clear hfz35_10
              try clear hfz35_2
              try clear hfz35_3
              try clear hfz35_4
              try clear hfz35_5
              try clear hfz35_6
              try clear hfz35_7
              try clear hfz35_8
              try clear hfz35_9
              try clear hfz38_0
              try clear hfz38_1
              try clear hfz38_10
              try clear hfz38_2
              try clear hfz38_3
              try clear hfz38_4
              try clear hfz38_5
              try clear hfz38_6
              try clear hfz38_7
              try clear hfz38_8
              try clear hfz38_9
              try clear hfz40_0
              try clear hfz40_1
              try clear hfz40_10
              try clear hfz40_2
              try clear hfz40_3
              try clear hfz40_4
              try clear hfz40_5
              try clear hfz40_6
              try clear hfz40_7
              try clear hfz40_8
              try clear hfz40_9
              try clear p2
              obtain ⟨x4_2, x73_2, rfl, HA, HK2, HO_4, HO_71, BK227, HB⟩ := hrel
              cases gk with
              | zero => exact absurd HA.out (by simp [record_Encode.l0])
              | succ k2 =>
                have H := HA.out
                clear HA
                simp only [record_Encode.l0] at H
                by_cases c44 : x73_2 < (x6_7.length : Int)
                · rw [if_pos c44] at H
                  have c44b0 : decide (x73_2 < (x6_7.length : Int)) = true := decide_eq_true c44
                  clear c44
                  by_cases c45 : 0 ≤ x73_2
                  · rw [if_pos c45] at H
                    have c45b0 : decide (0 ≤ x73_2) = true := decide_eq_true c45
                    clear c45
                    by_cases c46 : x73_2 < (x6_7.length : Int)
                    · rw [if_pos c46] at H
                      have c46b0 : decide (x73_2 < (x6_7.length : Int)) = true := decide_eq_true c46
                      clear c46
                      replace H := Option.bind_eq_some_iff.mp H
                      obtain ⟨t252, A470, H⟩ := H
                      replace H : (record_Encode.l0 k2 t252 x6_7 (x6_7.length : Int) (wrap64 (x73_2 + 1))) = some (r1, r2) := H
                      have A47 := Aside0.mk A470
                      clear A470
                      have H' := Aside0.mk H
                      clear H
                      have p251 : 0 ≤ (x73_2 : Int) := of_decide_eq_true (by first | (with_reducible assumption) | assumption)
                      have q251 : x73_2 < (x6_7.length : Int) := of_decide_eq_true (by first | (with_reducible assumption) | assumption)
                      obtain ⟨ad251, e251, hx251_0⟩ := Kd.at_int (Kd.R_reads' HO_71.out).2.2 x73_2 p251 q251
                      cases e251
                      replace p251 := eq_true p251
                      replace q251 := eq_true q251
                      obtain ⟨Ao48, co48, eo48⟩ := Kd.R_slice HO_4.out
                      subst eo48
                      go_wp2_with (first | (go_at_call 35; (with_reducible refine (pack_PutU64.calls _ _ x4_2 (rd x6_7 x73_2) t252 _ ?side1 ?side2 A47.out).mono ?_); (case side1 => repeat (first | exact (Kd.R_reads' HO_4.out).2.2 | (with_reducible refine Kd.C_alloc ?_ _) | (with_reducible refine Kd.C_drewN ?_ _) | (with_reducible refine Kd.C_drew ?_))); (case side2 => exact (Kd.R_reads' HO_4.out).2.1); rintro e w49 ⟨v253, rfl, ho0, hb⟩; have n0_ := Aside0.mk (Kd.R_elder' (by (with_reducible repeat (first | apply Kd.R_alloc | apply Kd.R_drewN | apply Kd.R_drew)); exact HO_4.out) (Kd.R_base ho0) hb); have n1_ := Aside0.mk (Kd.R_below (by (with_reducible repeat (first | apply Kd.R_alloc | apply Kd.R_drewN | apply Kd.R_drew)); exact HO_71.out) hb); have n2_ := Aside0.mk (Kd.R_lower (Kd.R_new' ho0 (Kd.R_lt (by (with_reducible repeat (first | apply Kd.R_alloc | apply Kd.R_drewN | apply Kd.R_drew)); exact HO_4.out))) (below_size (bw HB))); have n3_ := bb BK227 hb; have n4_ := bs HB hb; clear HO_4; clear HO_71; clear BK227; clear HB; have HO_4 := n0_; have HO_71 := n1_; have HO254 := n2_; have BK227 := n3_; have HB := n4_; clear n0_ n1_ n2_ n3_ n4_; (try clear hb); (try clear hb2); (try clear hk); (try clear hi); (try clear ho0)))
                      repeat (go_quiet (first | (go_at_call 35; (with_reducible refine (pack_PutU64.calls _ _ x4_2 (rd x6_7 x73_2) t252 _ ?side1 ?side2 A47.out).mono ?_); (case side1 => repeat (first | exact (Kd.R_reads' HO_4.out).2.2 | (with_reducible refine Kd.C_alloc ?_ _) | (with_reducible refine Kd.C_drewN ?_ _) | (with_reducible refine Kd.C_drew ?_))); (case side2 => exact (Kd.R_reads' HO_4.out).2.1); rintro e w49 ⟨v253, rfl, ho0, hb⟩; have n0_ := Aside0.mk (Kd.R_elder' (by (with_reducible repeat (first | apply Kd.R_alloc | apply Kd.R_drewN | apply Kd.R_drew)); exact HO_4.out) (Kd.R_base ho0) hb); have n1_ := Aside0.mk (Kd.R_below (by (with_reducible repeat (first | apply Kd.R_alloc | apply Kd.R_drewN | apply Kd.R_drew)); exact HO_71.out) hb); have n2_ := Aside0.mk (Kd.R_lower (Kd.R_new' ho0 (Kd.R_lt (by (with_reducible repeat (first | apply Kd.R_alloc | apply Kd.R_drewN | apply Kd.R_drew)); exact HO_4.out))) (below_size (bw HB))); have n3_ := bb BK227 hb; have n4_ := bs HB hb; clear HO_4; clear HO_71; clear BK227; clear HB; have HO_4 := n0_; have HO_71 := n1_; have HO254 := n2_; have BK227 := n3_; have HB := n4_; clear n0_ n1_ n2_ n3_ n4_; (try clear hb); (try clear hb2); (try clear hk); (try clear hi); (try clear ho0))); try go_wp2_with (first | (go_at_call 35; (with_reducible refine (pack_PutU64.calls _ _ x4_2 (rd x6_7 x73_2) t252 _ ?side1 ?side2 A47.out).mono ?_); (case side1 => repeat (first | exact (Kd.R_reads' HO_4.out).2.2 | (with_reducible refine Kd.C_alloc ?_ _) | (with_reducible refine Kd.C_drewN ?_ _) | (with_reducible refine Kd.C_drew ?_))); (case side2 => exact (Kd.R_reads' HO_4.out).2.1); rintro e w49 ⟨v253, rfl, ho0, hb⟩; have n0_ := Aside0.mk (Kd.R_elder' (by (with_reducible repeat (first | apply Kd.R_alloc | apply Kd.R_drewN | apply Kd.R_drew)); exact HO_4.out) (Kd.R_base ho0) hb); have n1_ := Aside0.mk (Kd.R_below (by (with_reducible repeat (first | apply Kd.R_alloc | apply Kd.R_drewN | apply Kd.R_drew)); exact HO_71.out) hb); have n2_ := Aside0.mk (Kd.R_lower (Kd.R_new' ho0 (Kd.R_lt (by (with_reducible repeat (first | apply Kd.R_alloc | apply Kd.R_drewN | apply Kd.R_drew)); exact HO_4.out))) (below_size (bw HB))); have n3_ := bb BK227 hb; have n4_ := bs HB hb; clear HO_4; clear HO_71; clear BK227; clear HB; have HO_4 := n0_; have HO_71 := n1_; have HO254 := n2_; have BK227 := n3_; have HB := n4_; clear n0_ n1_ n2_ n3_ n4_; (try clear hb); (try clear hb2); (try clear hk); (try clear hi); (try clear ho0))))
                      go_roundg k2
                      case measure => have := HJ7.out; have := HK2.out; omega
                      case rel => exact ⟨(t252), (wrap64 (x73_2 + 1)), rs, H', ⟨by have := HJ7.out; have := HK2.out; omega⟩, ⟨by (with_reducible repeat (first | apply Kd.R_alloc | apply Kd.R_drewN | apply Kd.R_drew)); exact Kd.R_mono HO254.out (fun _ hk => trivial)⟩, ⟨by (with_reducible repeat (first | apply Kd.R_alloc | apply Kd.R_drewN | apply Kd.R_drew)); exact HO_71.out⟩, ⟨bk BK227⟩, ⟨bw HB⟩⟩
                    · rw [if_neg c46] at H
                      exact absurd H (by simp)
                  · rw [if_neg c45] at H
                    exact absurd H (by simp)
                · rw [if_neg c44] at H
                  have c44b0 : decide (x73_2 < (x6_7.length : Int)) = false := decide_eq_false c44
                  clear c44
                  simp only [Option.some.injEq, Prod.mk.injEq] at H
                  obtain ⟨rfl, rfl⟩ := H
                  go_wp2
                  repeat (go_quiet (fail); try go_wp2)
                  go_ret2
                  exact ⟨_, re, by (with_reducible repeat (first | apply Kd.R_alloc | apply Kd.R_drewN | apply Kd.R_drew)); exact HO_4.out, bw HB⟩
      · rw [if_neg c7] at H
        have c7b0 : (t236 == 0) = false := beq_eq_false_iff_ne.mpr c7
        have c7b1 : (t236 != 0) = true := bne_iff_ne.mpr c7
        simp only [Option.some.injEq, Prod.mk.injEq] at H
        obtain ⟨rfl, rfl⟩ := H
        go_enter Tryd.func16, Tryd.ntmps16
        go_wp2_with (first | ((with_reducible refine gate_dst (N := 1) rfl ?_); refine bx 1 #[.int .i64 a0_0, .int .u64 a0_1, .string a0_2, .int .i64 a0_3, .int .u64 a0_4, .int .u64 a0_5, .int .u64 a0_6, .int .u64 a0_7, .int .u64 a0_8, .int .u64 a0_9, .int .u64 a0_10] 32 ?_; intro gb227 hg w50 hbox hb; have n0_ := bs HB hb; have n1_ := Aside0.mk (hbox); have n2_ := sz HB hg; have n3_ := sz HB hg; clear HB; have HB := n0_; have BK227 := n1_; have GW227 := n2_; have GE227 := n3_; clear n0_ n1_ n2_ n3_; clear hb hbox hg; obtain ⟨hcz51_0, hcz51_1, hcz51_2, hcz51_3, hcz51_4, hcz51_5, hcz51_6, hcz51_7, hcz51_8, hcz51_9, hcz51_10, hfz51_0, hfz51_1, hfz51_2, hfz51_3, hfz51_4, hfz51_5, hfz51_6, hfz51_7, hfz51_8, hfz51_9, hfz51_10⟩ := bc11 BK227) | (go_at_call 17; (with_reducible refine (record_Valid.calls k a0_0 a0_1 a0_2 a0_3 a0_4 a0_5 a0_6 a0_7 a0_8 a0_9 a0_10 true _ A2.out).mono ?_); rintro e w52 ⟨rfl, hb⟩; have n0_ := bb BK227 hb; have n1_ := bs HB hb; clear BK227; clear HB; have BK227 := n0_; have HB := n1_; clear n0_ n1_; (try clear hb); (try clear hb2); (try clear hk); (try clear hi); obtain ⟨hcz53_0, hcz53_1, hcz53_2, hcz53_3, hcz53_4, hcz53_5, hcz53_6, hcz53_7, hcz53_8, hcz53_9, hcz53_10, hfz53_0, hfz53_1, hfz53_2, hfz53_3, hfz53_4, hfz53_5, hfz53_6, hfz53_7, hfz53_8, hfz53_9, hfz53_10⟩ := bc11 BK227) | ((with_reducible refine gate_dst (N := 16) rfl ?_); refine Kd.R_lit (Kd.int .u8) _ 5 ?hg (N := 16) ?hd (xs := ([(a0_0) % 256] : List Int)) (inner := [.int .u8 ((a0_0) % 256)]) (ok := fun _ => True) (okp := fun _ => True) ?hr ?hp (fun _ hk => hk) trivial (Below.refl _ _) (Nat.le_refl _) (by simp) ?_; (case hd => rfl); (case hg => rfl); (case hr => first | (go_simp; done) | (go_simp; rfl)); (case hp => exact (Reps.one (show Kd.M (Kd.int .u8) _ _ _ ((a0_0) % 256) [.int .u8 ((a0_0) % 256)] from rfl) (Reps.none _ _))); intro v230 w54 ho55 hb hg_ hnew_; clear hg_ hnew_; (first | rw [← Ny229.out] at ho55 | (simp only [Int.reduceToNat] at ho55; rw [← Ny229.out] at ho55)); have n0_ := Aside0.mk (Kd.R_lower ho55 (below_size (bw HB))); have n1_ := bb BK227 hb; have n2_ := bs HB hb; clear BK227; clear HB; have HO231 := n0_; have BK227 := n1_; have HB := n2_; clear n0_ n1_ n2_; clear hb ho55; obtain ⟨hcz56_0, hcz56_1, hcz56_2, hcz56_3, hcz56_4, hcz56_5, hcz56_6, hcz56_7, hcz56_8, hcz56_9, hcz56_10, hfz56_0, hfz56_1, hfz56_2, hfz56_3, hfz56_4, hfz56_5, hfz56_6, hfz56_7, hfz56_8, hfz56_9, hfz56_10⟩ := bc11 BK227; obtain ⟨Ao57, co57, eo57⟩ := Kd.R_slice HO231.out; subst eo57) | (go_at_call 35; (with_reducible refine (pack_PutU64.calls _ _ y229 a0_1 t232 _ ?side1 ?side2 A4.out).mono ?_); (case side1 => repeat (first | exact (Kd.R_reads' HO231.out).2.2 | (with_reducible refine Kd.C_alloc ?_ _) | (with_reducible refine Kd.C_drewN ?_ _) | (with_reducible refine Kd.C_drew ?_))); (case side2 => exact (Kd.R_reads' HO231.out).2.1); rintro e w58 ⟨v233, rfl, ho0, hb⟩; have n0_ := Aside0.mk (Kd.R_elder' (by (with_reducible repeat (first | apply Kd.R_alloc | apply Kd.R_drewN | apply Kd.R_drew)); exact HO231.out) (Kd.R_base ho0) hb); have n1_ := Aside0.mk (Kd.R_lower (Kd.R_new' ho0 (Kd.R_lt (by (with_reducible repeat (first | apply Kd.R_alloc | apply Kd.R_drewN | apply Kd.R_drew)); exact HO231.out))) (below_size (bw HB))); have n2_ := bb BK227 hb; have n3_ := bs HB hb; clear HO231; clear BK227; clear HB; have HO231 := n0_; have HO234 := n1_; have BK227 := n2_; have HB := n3_; clear n0_ n1_ n2_ n3_; (try clear hb); (try clear hb2); (try clear hk); (try clear hi); (try clear ho0); obtain ⟨hcz59_0, hcz59_1, hcz59_2, hcz59_3, hcz59_4, hcz59_5, hcz59_6, hcz59_7, hcz59_8, hcz59_9, hcz59_10, hfz59_0, hfz59_1, hfz59_2, hfz59_3, hfz59_4, hfz59_5, hfz59_6, hfz59_7, hfz59_8, hfz59_9, hfz59_10⟩ := bc11 BK227; obtain ⟨Ao60, co60, eo60⟩ := Kd.R_slice HO234.out; subst eo60) | (go_at_call 36; (with_reducible refine (pack_PutText.calls _ _ t232 a0_2 t235 t236 _ ?side3 ?side1 ?side2 A5.out).mono ?_); (case side1 => repeat (first | exact (Kd.R_reads' HO234.out).2.2 | (with_reducible refine Kd.C_alloc ?_ _) | (with_reducible refine Kd.C_drewN ?_ _) | (with_reducible refine Kd.C_drew ?_))); (case side2 => exact (Kd.R_reads' HO234.out).2.1); (case side3 => exact (HERR.out.below (bw HB))); rintro e w61 ⟨v237, rfl, ho0, hb⟩; have n0_ := Aside0.mk (Kd.R_elder' (by (with_reducible repeat (first | apply Kd.R_alloc | apply Kd.R_drewN | apply Kd.R_drew)); exact HO231.out) (Kd.R_base ho0) hb); have n1_ := Aside0.mk (Kd.R_elder' (by (with_reducible repeat (first | apply Kd.R_alloc | apply Kd.R_drewN | apply Kd.R_drew)); exact HO234.out) (Kd.R_base ho0) hb); have n2_ := Aside0.mk (Kd.R_lower (Kd.R_new' (Kd.R_new' ho0 (Kd.R_lt (by (with_reducible repeat (first | apply Kd.R_alloc | apply Kd.R_drewN | apply Kd.R_drew)); exact HO231.out))) (Kd.R_lt (by (with_reducible repeat (first | apply Kd.R_alloc | apply Kd.R_drewN | apply Kd.R_drew)); exact HO234.out))) (below_size (bw HB))); have n3_ := bb BK227 hb; have n4_ := bs HB hb; clear HO231; clear HO234; clear BK227; clear HB; have HO231 := n0_; have HO234 := n1_; have HO238 := n2_; have BK227 := n3_; have HB := n4_; clear n0_ n1_ n2_ n3_ n4_; (try clear hb); (try clear hb2); (try clear hk); (try clear hi); (try clear ho0)) | ((with_reducible refine gate_dst (N := 28) rfl ?_); refine nen_err t236 (b := (t236 != 0)) ?_ rfl (of_decide_eq_true (by first | (with_reducible assumption) | assumption))))
        repeat (go_quiet (first | ((with_reducible refine gate_dst (N := 1) rfl ?_); refine bx 1 #[.int .i64 a0_0, .int .u64 a0_1, .string a0_2, .int .i64 a0_3, .int .u64 a0_4, .int .u64 a0_5, .int .u64 a0_6, .int .u64 a0_7, .int .u64 a0_8, .int .u64 a0_9, .int .u64 a0_10] 32 ?_; intro gb227 hg w50 hbox hb; have n0_ := bs HB hb; have n1_ := Aside0.mk (hbox); have n2_ := sz HB hg; have n3_ := sz HB hg; clear HB; have HB := n0_; have BK227 := n1_; have GW227 := n2_; have GE227 := n3_; clear n0_ n1_ n2_ n3_; clear hb hbox hg; obtain ⟨hcz51_0, hcz51_1, hcz51_2, hcz51_3, hcz51_4, hcz51_5, hcz51_6, hcz51_7, hcz51_8, hcz51_9, hcz51_10, hfz51_0, hfz51_1, hfz51_2, hfz51_3, hfz51_4, hfz51_5, hfz51_6, hfz51_7, hfz51_8, hfz51_9, hfz51_10⟩ := bc11 BK227) | (go_at_call 17; (with_reducible refine (record_Valid.calls k a0_0 a0_1 a0_2 a0_3 a0_4 a0_5 a0_6 a0_7 a0_8 a0_9 a0_10 true _ A2.out).mono ?_); rintro e w52 ⟨rfl, hb⟩; have n0_ := bb BK227 hb; have n1_ := bs HB hb; clear BK227; clear HB; have BK227 := n0_; have HB := n1_; clear n0_ n1_; (try clear hb); (try clear hb2); (try clear hk); (try clear hi); obtain ⟨hcz53_0, hcz53_1, hcz53_2, hcz53_3, hcz53_4, hcz53_5, hcz53_6, hcz53_7, hcz53_8, hcz53_9, hcz53_10, hfz53_0, hfz53_1, hfz53_2, hfz53_3, hfz53_4, hfz53_5, hfz53_6, hfz53_7, hfz53_8, hfz53_9, hfz53_10⟩ := bc11 BK227) | ((with_reducible refine gate_dst (N := 16) rfl ?_); refine Kd.R_lit (Kd.int .u8) _ 5 ?hg (N := 16) ?hd (xs := ([(a0_0) % 256] : List Int)) (inner := [.int .u8 ((a0_0) % 256)]) (ok := fun _ => True) (okp := fun _ => True) ?hr ?hp (fun _ hk => hk) trivial (Below.refl _ _) (Nat.le_refl _) (by simp) ?_; (case hd => rfl); (case hg => rfl); (case hr => first | (go_simp; done) | (go_simp; rfl)); (case hp => exact (Reps.one (show Kd.M (Kd.int .u8) _ _ _ ((a0_0) % 256) [.int .u8 ((a0_0) % 256)] from rfl) (Reps.none _ _))); intro v230 w54 ho55 hb hg_ hnew_; clear hg_ hnew_; (first | rw [← Ny229.out] at ho55 | (simp only [Int.reduceToNat] at ho55; rw [← Ny229.out] at ho55)); have n0_ := Aside0.mk (Kd.R_lower ho55 (below_size (bw HB))); have n1_ := bb BK227 hb; have n2_ := bs HB hb; clear BK227; clear HB; have HO231 := n0_; have BK227 := n1_; have HB := n2_; clear n0_ n1_ n2_; clear hb ho55; obtain ⟨hcz56_0, hcz56_1, hcz56_2, hcz56_3, hcz56_4, hcz56_5, hcz56_6, hcz56_7, hcz56_8, hcz56_9, hcz56_10, hfz56_0, hfz56_1, hfz56_2, hfz56_3, hfz56_4, hfz56_5, hfz56_6, hfz56_7, hfz56_8, hfz56_9, hfz56_10⟩ := bc11 BK227; obtain ⟨Ao57, co57, eo57⟩ := Kd.R_slice HO231.out; subst eo57) | (go_at_call 35; (with_reducible refine (pack_PutU64.calls _ _ y229 a0_1 t232 _ ?side1 ?side2 A4.out).mono ?_); (case side1 => repeat (first | exact (Kd.R_reads' HO231.out).2.2 | (with_reducible refine Kd.C_alloc ?_ _) | (with_reducible refine Kd.C_drewN ?_ _) | (with_reducible refine Kd.C_drew ?_))); (case side2 => exact (Kd.R_reads' HO231.out).2.1); rintro e w58 ⟨v233, rfl, ho0, hb⟩; have n0_ := Aside0.mk (Kd.R_elder' (by (with_reducible repeat (first | apply Kd.R_alloc | apply Kd.R_drewN | apply Kd.R_drew)); exact HO231.out) (Kd.R_base ho0) hb); have n1_ := Aside0.mk (Kd.R_lower (Kd.R_new' ho0 (Kd.R_lt (by (with_reducible repeat (first | apply Kd.R_alloc | apply Kd.R_drewN | apply Kd.R_drew)); exact HO231.out))) (below_size (bw HB))); have n2_ := bb BK227 hb; have n3_ := bs HB hb; clear HO231; clear BK227; clear HB; have HO231 := n0_; have HO234 := n1_; have BK227 := n2_; have HB := n3_; clear n0_ n1_ n2_ n3_; (try clear hb); (try clear hb2); (try clear hk); (try clear hi); (try clear ho0); obtain ⟨hcz59_0, hcz59_1, hcz59_2, hcz59_3, hcz59_4, hcz59_5, hcz59_6, hcz59_7, hcz59_8, hcz59_9, hcz59_10, hfz59_0, hfz59_1, hfz59_2, hfz59_3, hfz59_4, hfz59_5, hfz59_6, hfz59_7, hfz59_8, hfz59_9, hfz59_10⟩ := bc11 BK227; obtain ⟨Ao60, co60, eo60⟩ := Kd.R_slice HO234.out; subst eo60) | (go_at_call 36; (with_reducible refine (pack_PutText.calls _ _ t232 a0_2 t235 t236 _ ?side3 ?side1 ?side2 A5.out).mono ?_); (case side1 => repeat (first | exact (Kd.R_reads' HO234.out).2.2 | (with_reducible refine Kd.C_alloc ?_ _) | (with_reducible refine Kd.C_drewN ?_ _) | (with_reducible refine Kd.C_drew ?_))); (case side2 => exact (Kd.R_reads' HO234.out).2.1); (case side3 => exact (HERR.out.below (bw HB))); rintro e w61 ⟨v237, rfl, ho0, hb⟩; have n0_ := Aside0.mk (Kd.R_elder' (by (with_reducible repeat (first | apply Kd.R_alloc | apply Kd.R_drewN | apply Kd.R_drew)); exact HO231.out) (Kd.R_base ho0) hb); have n1_ := Aside0.mk (Kd.R_elder' (by (with_reducible repeat (first | apply Kd.R_alloc | apply Kd.R_drewN | apply Kd.R_drew)); exact HO234.out) (Kd.R_base ho0) hb); have n2_ := Aside0.mk (Kd.R_lower (Kd.R_new' (Kd.R_new' ho0 (Kd.R_lt (by (with_reducible repeat (first | apply Kd.R_alloc | apply Kd.R_drewN | apply Kd.R_drew)); exact HO231.out))) (Kd.R_lt (by (with_reducible repeat (first | apply Kd.R_alloc | apply Kd.R_drewN | apply Kd.R_drew)); exact HO234.out))) (below_size (bw HB))); have n3_ := bb BK227 hb; have n4_ := bs HB hb; clear HO231; clear HO234; clear BK227; clear HB; have HO231 := n0_; have HO234 := n1_; have HO238 := n2_; have BK227 := n3_; have HB := n4_; clear n0_ n1_ n2_ n3_ n4_; (try clear hb); (try clear hb2); (try clear hk); (try clear hi); (try clear ho0)) | ((with_reducible refine gate_dst (N := 28) rfl ?_); refine nen_err t236 (b := (t236 != 0)) ?_ rfl (of_decide_eq_true (by first | (with_reducible assumption) | assumption)))); try go_wp2_with (first | ((with_reducible refine gate_dst (N := 1) rfl ?_); refine bx 1 #[.int .i64 a0_0, .int .u64 a0_1, .string a0_2, .int .i64 a0_3, .int .u64 a0_4, .int .u64 a0_5, .int .u64 a0_6, .int .u64 a0_7, .int .u64 a0_8, .int .u64 a0_9, .int .u64 a0_10] 32 ?_; intro gb227 hg w50 hbox hb; have n0_ := bs HB hb; have n1_ := Aside0.mk (hbox); have n2_ := sz HB hg; have n3_ := sz HB hg; clear HB; have HB := n0_; have BK227 := n1_; have GW227 := n2_; have GE227 := n3_; clear n0_ n1_ n2_ n3_; clear hb hbox hg; obtain ⟨hcz51_0, hcz51_1, hcz51_2, hcz51_3, hcz51_4, hcz51_5, hcz51_6, hcz51_7, hcz51_8, hcz51_9, hcz51_10, hfz51_0, hfz51_1, hfz51_2, hfz51_3, hfz51_4, hfz51_5, hfz51_6, hfz51_7, hfz51_8, hfz51_9, hfz51_10⟩ := bc11 BK227) | (go_at_call 17; (with_reducible refine (record_Valid.calls k a0_0 a0_1 a0_2 a0_3 a0_4 a0_5 a0_6 a0_7 a0_8 a0_9 a0_10 true _ A2.out).mono ?_); rintro e w52 ⟨rfl, hb⟩; have n0_ := bb BK227 hb; have n1_ := bs HB hb; clear BK227; clear HB; have BK227 := n0_; have HB := n1_; clear n0_ n1_; (try clear hb); (try clear hb2); (try clear hk); (try clear hi); obtain ⟨hcz53_0, hcz53_1, hcz53_2, hcz53_3, hcz53_4, hcz53_5, hcz53_6, hcz53_7, hcz53_8, hcz53_9, hcz53_10, hfz53_0, hfz53_1, hfz53_2, hfz53_3, hfz53_4, hfz53_5, hfz53_6, hfz53_7, hfz53_8, hfz53_9, hfz53_10⟩ := bc11 BK227) | ((with_reducible refine gate_dst (N := 16) rfl ?_); refine Kd.R_lit (Kd.int .u8) _ 5 ?hg (N := 16) ?hd (xs := ([(a0_0) % 256] : List Int)) (inner := [.int .u8 ((a0_0) % 256)]) (ok := fun _ => True) (okp := fun _ => True) ?hr ?hp (fun _ hk => hk) trivial (Below.refl _ _) (Nat.le_refl _) (by simp) ?_; (case hd => rfl); (case hg => rfl); (case hr => first | (go_simp; done) | (go_simp; rfl)); (case hp => exact (Reps.one (show Kd.M (Kd.int .u8) _ _ _ ((a0_0) % 256) [.int .u8 ((a0_0) % 256)] from rfl) (Reps.none _ _))); intro v230 w54 ho55 hb hg_ hnew_; clear hg_ hnew_; (first | rw [← Ny229.out] at ho55 | (simp only [Int.reduceToNat] at ho55; rw [← Ny229.out] at ho55)); have n0_ := Aside0.mk (Kd.R_lower ho55 (below_size (bw HB))); have n1_ := bb BK227 hb; have n2_ := bs HB hb; clear BK227; clear HB; have HO231 := n0_; have BK227 := n1_; have HB := n2_; clear n0_ n1_ n2_; clear hb ho55; obtain ⟨hcz56_0, hcz56_1, hcz56_2, hcz56_3, hcz56_4, hcz56_5, hcz56_6, hcz56_7, hcz56_8, hcz56_9, hcz56_10, hfz56_0, hfz56_1, hfz56_2, hfz56_3, hfz56_4, hfz56_5, hfz56_6, hfz56_7, hfz56_8, hfz56_9, hfz56_10⟩ := bc11 BK227; obtain ⟨Ao57, co57, eo57⟩ := Kd.R_slice HO231.out; subst eo57) | (go_at_call 35; (with_reducible refine (pack_PutU64.calls _ _ y229 a0_1 t232 _ ?side1 ?side2 A4.out).mono ?_); (case side1 => repeat (first | exact (Kd.R_reads' HO231.out).2.2 | (with_reducible refine Kd.C_alloc ?_ _) | (with_reducible refine Kd.C_drewN ?_ _) | (with_reducible refine Kd.C_drew ?_))); (case side2 => exact (Kd.R_reads' HO231.out).2.1); rintro e w58 ⟨v233, rfl, ho0, hb⟩; have n0_ := Aside0.mk (Kd.R_elder' (by (with_reducible repeat (first | apply Kd.R_alloc | apply Kd.R_drewN | apply Kd.R_drew)); exact HO231.out) (Kd.R_base ho0) hb); have n1_ := Aside0.mk (Kd.R_lower (Kd.R_new' ho0 (Kd.R_lt (by (with_reducible repeat (first | apply Kd.R_alloc | apply Kd.R_drewN | apply Kd.R_drew)); exact HO231.out))) (below_size (bw HB))); have n2_ := bb BK227 hb; have n3_ := bs HB hb; clear HO231; clear BK227; clear HB; have HO231 := n0_; have HO234 := n1_; have BK227 := n2_; have HB := n3_; clear n0_ n1_ n2_ n3_; (try clear hb); (try clear hb2); (try clear hk); (try clear hi); (try clear ho0); obtain ⟨hcz59_0, hcz59_1, hcz59_2, hcz59_3, hcz59_4, hcz59_5, hcz59_6, hcz59_7, hcz59_8, hcz59_9, hcz59_10, hfz59_0, hfz59_1, hfz59_2, hfz59_3, hfz59_4, hfz59_5, hfz59_6, hfz59_7, hfz59_8, hfz59_9, hfz59_10⟩ := bc11 BK227; obtain ⟨Ao60, co60, eo60⟩ := Kd.R_slice HO234.out; subst eo60) | (go_at_call 36; (with_reducible refine (pack_PutText.calls _ _ t232 a0_2 t235 t236 _ ?side3 ?side1 ?side2 A5.out).mono ?_); (case side1 => repeat (first | exact (Kd.R_reads' HO234.out).2.2 | (with_reducible refine Kd.C_alloc ?_ _) | (with_reducible refine Kd.C_drewN ?_ _) | (with_reducible refine Kd.C_drew ?_))); (case side2 => exact (Kd.R_reads' HO234.out).2.1); (case side3 => exact (HERR.out.below (bw HB))); rintro e w61 ⟨v237, rfl, ho0, hb⟩; have n0_ := Aside0.mk (Kd.R_elder' (by (with_reducible repeat (first | apply Kd.R_alloc | apply Kd.R_drewN | apply Kd.R_drew)); exact HO231.out) (Kd.R_base ho0) hb); have n1_ := Aside0.mk (Kd.R_elder' (by (with_reducible repeat (first | apply Kd.R_alloc | apply Kd.R_drewN | apply Kd.R_drew)); exact HO234.out) (Kd.R_base ho0) hb); have n2_ := Aside0.mk (Kd.R_lower (Kd.R_new' (Kd.R_new' ho0 (Kd.R_lt (by (with_reducible repeat (first | apply Kd.R_alloc | apply Kd.R_drewN | apply Kd.R_drew)); exact HO231.out))) (Kd.R_lt (by (with_reducible repeat (first | apply Kd.R_alloc | apply Kd.R_drewN | apply Kd.R_drew)); exact HO234.out))) (below_size (bw HB))); have n3_ := bb BK227 hb; have n4_ := bs HB hb; clear HO231; clear HO234; clear BK227; clear HB; have HO231 := n0_; have HO234 := n1_; have HO238 := n2_; have BK227 := n3_; have HB := n4_; clear n0_ n1_ n2_ n3_ n4_; (try clear hb); (try clear hb2); (try clear hk); (try clear hi); (try clear ho0)) | ((with_reducible refine gate_dst (N := 28) rfl ?_); refine nen_err t236 (b := (t236 != 0)) ?_ rfl (of_decide_eq_true (by first | (with_reducible assumption) | assumption)))))
        go_ret2
        exact ⟨_, re, by first | exact Kd.R_nil _ _ _ _ _ | exact Kd.N_nil _ _ _ _ _ | exact Kd.V_nil _ _ _ _ _ | exact Kd.Q_nil _ _ _ _ _ | exact Kd.S_nil _ _ _ _ _, bw HB⟩
    · rw [if_neg c6] at H
      exact absurd H (by simp)
  · replace c3 := Bool.eq_false_iff.mpr c3
    subst c3
    have H1 : (some (([] : List Int), 1)) = some (r1, r2) := by rw [if_neg (show ¬ (false = true) by decide)] at H; exact H
    clear H
    have H := H1
    clear H1
    simp only [Option.some.injEq, Prod.mk.injEq] at H
    obtain ⟨rfl, rfl⟩ := H
    go_enter Tryd.func16, Tryd.ntmps16
    go_wp2_with (first | ((with_reducible refine gate_dst (N := 1) rfl ?_); refine bx 1 #[.int .i64 a0_0, .int .u64 a0_1, .string a0_2, .int .i64 a0_3, .int .u64 a0_4, .int .u64 a0_5, .int .u64 a0_6, .int .u64 a0_7, .int .u64 a0_8, .int .u64 a0_9, .int .u64 a0_10] 32 ?_; intro gb227 hg w62 hbox hb; have n0_ := bs HB hb; have n1_ := Aside0.mk (hbox); have n2_ := sz HB hg; have n3_ := sz HB hg; clear HB; have HB := n0_; have BK227 := n1_; have GW227 := n2_; have GE227 := n3_; clear n0_ n1_ n2_ n3_; clear hb hbox hg; obtain ⟨hcz63_0, hcz63_1, hcz63_2, hcz63_3, hcz63_4, hcz63_5, hcz63_6, hcz63_7, hcz63_8, hcz63_9, hcz63_10, hfz63_0, hfz63_1, hfz63_2, hfz63_3, hfz63_4, hfz63_5, hfz63_6, hfz63_7, hfz63_8, hfz63_9, hfz63_10⟩ := bc11 BK227) | (go_at_call 17; (with_reducible refine (record_Valid.calls k a0_0 a0_1 a0_2 a0_3 a0_4 a0_5 a0_6 a0_7 a0_8 a0_9 a0_10 false _ A2.out).mono ?_); rintro e w64 ⟨rfl, hb⟩; have n0_ := bb BK227 hb; have n1_ := bs HB hb; clear BK227; clear HB; have BK227 := n0_; have HB := n1_; clear n0_ n1_; (try clear hb); (try clear hb2); (try clear hk); (try clear hi); have hez65 : w64.cell? ⟨0, 0, none⟩ = some (errW 1) := sent_cell 1 0 (HERR.out.below (bw HB)) (by decide) (by have := Errs.five; omega) rfl))
    repeat (go_quiet (first | ((with_reducible refine gate_dst (N := 1) rfl ?_); refine bx 1 #[.int .i64 a0_0, .int .u64 a0_1, .string a0_2, .int .i64 a0_3, .int .u64 a0_4, .int .u64 a0_5, .int .u64 a0_6, .int .u64 a0_7, .int .u64 a0_8, .int .u64 a0_9, .int .u64 a0_10] 32 ?_; intro gb227 hg w62 hbox hb; have n0_ := bs HB hb; have n1_ := Aside0.mk (hbox); have n2_ := sz HB hg; have n3_ := sz HB hg; clear HB; have HB := n0_; have BK227 := n1_; have GW227 := n2_; have GE227 := n3_; clear n0_ n1_ n2_ n3_; clear hb hbox hg; obtain ⟨hcz63_0, hcz63_1, hcz63_2, hcz63_3, hcz63_4, hcz63_5, hcz63_6, hcz63_7, hcz63_8, hcz63_9, hcz63_10, hfz63_0, hfz63_1, hfz63_2, hfz63_3, hfz63_4, hfz63_5, hfz63_6, hfz63_7, hfz63_8, hfz63_9, hfz63_10⟩ := bc11 BK227) | (go_at_call 17; (with_reducible refine (record_Valid.calls k a0_0 a0_1 a0_2 a0_3 a0_4 a0_5 a0_6 a0_7 a0_8 a0_9 a0_10 false _ A2.out).mono ?_); rintro e w64 ⟨rfl, hb⟩; have n0_ := bb BK227 hb; have n1_ := bs HB hb; clear BK227; clear HB; have BK227 := n0_; have HB := n1_; clear n0_ n1_; (try clear hb); (try clear hb2); (try clear hk); (try clear hi); have hez65 : w64.cell? ⟨0, 0, none⟩ = some (errW 1) := sent_cell 1 0 (HERR.out.below (bw HB)) (by decide) (by have := Errs.five; omega) rfl)); try go_wp2_with (first | ((with_reducible refine gate_dst (N := 1) rfl ?_); refine bx 1 #[.int .i64 a0_0, .int .u64 a0_1, .string a0_2, .int .i64 a0_3, .int .u64 a0_4, .int .u64 a0_5, .int .u64 a0_6, .int .u64 a0_7, .int .u64 a0_8, .int .u64 a0_9, .int .u64 a0_10] 32 ?_; intro gb227 hg w62 hbox hb; have n0_ := bs HB hb; have n1_ := Aside0.mk (hbox); have n2_ := sz HB hg; have n3_ := sz HB hg; clear HB; have HB := n0_; have BK227 := n1_; have GW227 := n2_; have GE227 := n3_; clear n0_ n1_ n2_ n3_; clear hb hbox hg; obtain ⟨hcz63_0, hcz63_1, hcz63_2, hcz63_3, hcz63_4, hcz63_5, hcz63_6, hcz63_7, hcz63_8, hcz63_9, hcz63_10, hfz63_0, hfz63_1, hfz63_2, hfz63_3, hfz63_4, hfz63_5, hfz63_6, hfz63_7, hfz63_8, hfz63_9, hfz63_10⟩ := bc11 BK227) | (go_at_call 17; (with_reducible refine (record_Valid.calls k a0_0 a0_1 a0_2 a0_3 a0_4 a0_5 a0_6 a0_7 a0_8 a0_9 a0_10 false _ A2.out).mono ?_); rintro e w64 ⟨rfl, hb⟩; have n0_ := bb BK227 hb; have n1_ := bs HB hb; clear BK227; clear HB; have BK227 := n0_; have HB := n1_; clear n0_ n1_; (try clear hb); (try clear hb2); (try clear hk); (try clear hi); have hez65 : w64.cell? ⟨0, 0, none⟩ = some (errW 1) := sent_cell 1 0 (HERR.out.below (bw HB)) (by decide) (by have := Errs.five; omega) rfl)))
    go_ret2
    exact ⟨_, re, by first | exact Kd.R_nil _ _ _ _ _ | exact Kd.N_nil _ _ _ _ _ | exact Kd.V_nil _ _ _ _ _ | exact Kd.Q_nil _ _ _ _ _ | exact Kd.S_nil _ _ _ _ _, bw HB⟩

end Go.Proofs.YtkgjepmminmjjaaDoor.E
