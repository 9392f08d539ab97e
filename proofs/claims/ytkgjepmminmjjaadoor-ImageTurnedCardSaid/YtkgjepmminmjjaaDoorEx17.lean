/- Written by the session's own program hyb.py: what functions of the program compute; Lean checks it. -/
import Derived.Lib.SlBytesConst
import Derived.Test.YtkgjepmminmjjaaDoorEx0
import Derived.Test.YtkgjepmminmjjaaDoorEx15
import Derived.Test.YtkgjepmminmjjaaDoorEx16
import Derived.Test.YtkgjepmminmjjaaDoorWErr
namespace Go.Proofs.YtkgjepmminmjjaaDoor.E
open Go.RowKit Go.Proofs.YtkgjepmminmjjaaDoorW.PrintWords Go.Proofs.YtkgjepmminmjjaaDoorW.PrintLast Go.Proofs.YtkgjepmminmjjaaDoorW.PrintMore Go.Proofs.YtkgjepmminmjjaaDoorW.PrintShort
attribute [local go_sem] run_Add64 run_Sub64
attribute [local go_sem] max2_int min2_int max_two min_two max_three min_three max_four min_four   -- for this text's walks alone
set_option linter.unusedVariables false
set_option linter.unusedSimpArgs false

/-! ### image_Encode: function 24 -/
mutual
def image_Encode.l0 : Nat → List (List Int) → List (S79) → Int → Int → Option (List Int × Int)
  | 0, _, _, _, _ => none
  | k + 1, x5, x37, x38, x39 => if x39 < x38 then (if 0 ≤ x39 then (if x39 < (x37.length : Int) then ((pack_PutText.f ([] : List Int) ((rd_T79 x37 x39).f0)).bind fun bt245 => (if 0 ≤ bt245.2 then (if bt245.2 = 0 then (if bt245.1.length < 140737488355328 then ((some (bt245.1 ++ [((rd_T79 x37 x39).f1.f0) % 256] : List Int)).bind fun y249 => (if ((rd_T79 x37 x39).f1.f0) = 2 then (image_Encode.j1 k x5 y249 (([(rd_T79 x37 x39).f1.f3, (rd_T79 x37 x39).f1.f4, (rd_T79 x37 x39).f2.f1, (rd_T79 x37 x39).f2.f2] : List Int)) x37 x38 x39) else (image_Encode.j1 k x5 y249 (([(rd_T79 x37 x39).f1.f1, (rd_T79 x37 x39).f1.f2, (rd_T79 x37 x39).f2.f0] : List Int)) x37 x38 x39))) else (none)) else (some (([] : List Int), bt245.2))) else (none))) else (none)) else (none)) else (image_Encode.l2 k ([] : List Int) x5 (x5.length : Int) 0)
def image_Encode.j1 : Nat → List (List Int) → List Int → List Int → List (S79) → Int → Int → Option (List Int × Int)
  | 0, _, _, _, _, _, _ => none
  | k + 1, x5, x8, x10, x37, x38, x39 => image_Encode.l1 k x5 x8 x37 x38 x39 x10 (x10.length : Int) 0
def image_Encode.l1 : Nat → List (List Int) → List Int → List (S79) → Int → Int → List Int → Int → Int → Option (List Int × Int)
  | 0, _, _, _, _, _, _, _, _ => none
  | k + 1, x5, x8, x37, x38, x39, x86, x87, x88 => if x88 < x87 then (if 0 ≤ x88 then (if x88 < (x86.length : Int) then ((pack_PutU64.f x8 (rd x86 x88)).bind fun t259 => (image_Encode.l1 k x5 t259 x37 x38 x39 x86 x87 (wrap64 (x88 + 1)))) else (none)) else (none)) else (if x5.length < 5864062014805 then (image_Encode.l0 k (x5 ++ [x8]) x37 x38 (wrap64 (x39 + 1))) else (none))
def image_Encode.l2 : Nat → List Int → List (List Int) → Int → Int → Option (List Int × Int)
  | 0, _, _, _, _ => none
  | k + 1, x4, x101, x102, x103 => if x103 < x102 then (if 0 ≤ x103 then (if x103 < (x101.length : Int) then (if x4.length + (rd_L7 x101 x103).length < 140737488355328 then (image_Encode.l2 k (x4 ++ (rd_L7 x101 x103)) x101 x102 (wrap64 (x103 + 1))) else (none)) else (none)) else (none)) else ((crc_Sum.f x4).bind fun t269 => ((pack_PutU32.f x4 t269).bind fun t270 => (some (t270, 0))))
end
def image_Encode.f (k : Nat) (a0_0 : Int) (a0_1 : Int) (l0_2 : List (S79)) : Option (List Int × Int) := (state_Valid.f a0_0 a0_1 l0_2).bind fun t230 => (if t230 = true then ((pack_PutU64.f ([84, 73, 48, 49] : List Int) a0_0).bind fun t231 => ((pack_PutU64.f t231 a0_1).bind fun t234 => ((pack_PutU32.f t234 (((l0_2.length : Int)) % 4294967296)).bind fun t237 => (image_Encode.l0 k (([t237] : List (List Int))) l0_2 (l0_2.length : Int) 0)))) else (some (([] : List Int), 1)))
theorem image_Encode.gate_ (w9 : World) (a : Int) {W : World} {R : Ending → World → Prop} (h : Calls Tryd.prog 35 #[.slice (some ⟨w9.heap.size, 0, none⟩) 4 4, .int .u64 a] W R) : Calls Tryd.prog 35 #[.slice (some ⟨w9.heap.size, 0, none⟩) 4 4, .int .u64 a] W R := h
theorem image_Encode.read_ (W : World) : Kd.C (Kd.int .u8) (W.alloc (.cells #[.int .u8 84, .int .u8 73, .int .u8 48, .int .u8 49] 5 (4, 5))) (some ⟨W.heap.size, 0, none⟩) ([84, 73, 48, 49] : List Int).length [84, 73, 48, 49] := by
  refine ⟨rfl, by decide, fun _ => ⟨_, rfl, fun j p hj => ?_⟩⟩
  have hc := fun i => World.cell?_alloc_mark W #[.int .u8 84, .int .u8 73, .int .u8 48, .int .u8 49] 5 (4, 5) i
  have key : ∀ (i : Nat) (x : Int), (#[Value.int .u8 84, .int .u8 73, .int .u8 48, .int .u8 49] : Array Value)[i]? = some (.int .u8 x) → ∃ c, c.length = 1 ∧ (Kd.int .u8).K (W.alloc (.cells #[.int .u8 84, .int .u8 73, .int .u8 48, .int .u8 49] 5 (4, 5))) x c ∧ ∀ (q : Nat) u, c[q]? = some u → (W.alloc (.cells #[.int .u8 84, .int .u8 73, .int .u8 48, .int .u8 49] 5 (4, 5))).cell? ((⟨W.heap.size, 0, none⟩ : Addr).add (i * 1 + q)) = some u := by
    intro i x hx
    refine ⟨[.int .u8 x], rfl, rfl, fun q u hu => ?_⟩
    cases q with
    | zero =>
      simp only [List.getElem?_cons_zero, Option.some.injEq] at hu
      subst hu
      have e : (⟨W.heap.size, 0, none⟩ : Addr).add (i * 1 + 0) = ⟨W.heap.size, i, none⟩ := by unfold Addr.add; split <;> simp_all
      rw [e]
      exact (hc i).trans hx
    | succ q => cases hu
  rcases j with _ | _ | _ | _ | j
  · obtain rfl := Option.some.inj hj; exact key 0 _ rfl
  · obtain rfl := Option.some.inj hj; exact key 1 _ rfl
  · obtain rfl := Option.some.inj hj; exact key 2 _ rfl
  · obtain rfl := Option.some.inj hj; exact key 3 _ rfl
  · simp at hj
set_option maxHeartbeats 8000000 in
set_option maxRecDepth 100000 in
theorem image_Encode.calls (k : Nat) [Errs] (a0_0 : Int) (a0_1 : Int) (A0_2 : Option Addr) (c0_2 : Nat) (l0_2 : List (S79)) (r1 : List Int) (r2 : Int) (w : World) (hE : Sent w) (hr0_2 : Kd.C k79 w A0_2 l0_2.length l0_2) (hc0_2 : l0_2.length ≤ c0_2) (h : image_Encode.f k a0_0 a0_1 l0_2 = some (r1, r2)) :
    Calls Tryd.prog 24 #[.agg #[.int .u64 a0_0, .int .u64 a0_1, .slice A0_2 l0_2.length c0_2]] w fun e w' => ∃ v0_ : Value, e = .returned (.tuple #[v0_, errW r2]) ∧ Kd.R (Kd.int .u8) 5 w' w.heap.size (fun _ => True) v0_ r1 ∧ Below w.heap.size w w' := by
  have hu51 := Tryd.underlying51
  have hu79 := Tryd.underlying79
  have hu37 := Tryd.underlying37
  have HR0_2 := Aside0.mk hr0_2
  have HC0_2 := Aside0.mk hc0_2
  clear hr0_2 hc0_2
  have HERR := Aside0.mk hE
  clear hE
  have HB := Aside0.mk (Below.refl w.heap.size w)
  have H : ((state_Valid.f a0_0 a0_1 l0_2).bind fun t230 => (if t230 = true then ((pack_PutU64.f ([84, 73, 48, 49] : List Int) a0_0).bind fun t231 => ((pack_PutU64.f t231 a0_1).bind fun t234 => ((pack_PutU32.f t234 (((l0_2.length : Int)) % 4294967296)).bind fun t237 => (image_Encode.l0 k (([t237] : List (List Int))) l0_2 (l0_2.length : Int) 0)))) else (some (([] : List Int), 1)))) = some (r1, r2) := h
  clear h
  replace H := Option.bind_eq_some_iff.mp H
  obtain ⟨t230, A20, H⟩ := H
  replace H : (if t230 = true then ((pack_PutU64.f ([84, 73, 48, 49] : List Int) a0_0).bind fun t231 => ((pack_PutU64.f t231 a0_1).bind fun t234 => ((pack_PutU32.f t234 (((l0_2.length : Int)) % 4294967296)).bind fun t237 => (image_Encode.l0 k (([t237] : List (List Int))) l0_2 (l0_2.length : Int) 0)))) else (some (([] : List Int), 1))) = some (r1, r2) := H
  have A2 := Aside0.mk A20
  clear A20
  by_cases c3 : t230 = true
  · subst c3
    have H1 : ((pack_PutU64.f ([84, 73, 48, 49] : List Int) a0_0).bind fun t231 => ((pack_PutU64.f t231 a0_1).bind fun t234 => ((pack_PutU32.f t234 (((l0_2.length : Int)) % 4294967296)).bind fun t237 => (image_Encode.l0 k (([t237] : List (List Int))) l0_2 (l0_2.length : Int) 0)))) = some (r1, r2) := by rw [if_pos rfl] at H; exact H
    clear H
    have H := H1
    clear H1
    replace H := Option.bind_eq_some_iff.mp H
    obtain ⟨t231, A40, H⟩ := H
    replace H : ((pack_PutU64.f t231 a0_1).bind fun t234 => ((pack_PutU32.f t234 (((l0_2.length : Int)) % 4294967296)).bind fun t237 => (image_Encode.l0 k (([t237] : List (List Int))) l0_2 (l0_2.length : Int) 0))) = some (r1, r2) := H
    have A4 := Aside0.mk A40
    clear A40
    replace H := Option.bind_eq_some_iff.mp H
    obtain ⟨t234, A50, H⟩ := H
    replace H : ((pack_PutU32.f t234 (((l0_2.length : Int)) % 4294967296)).bind fun t237 => (image_Encode.l0 k (([t237] : List (List Int))) l0_2 (l0_2.length : Int) 0)) = some (r1, r2) := H
    have A5 := Aside0.mk A50
    clear A50
    replace H := Option.bind_eq_some_iff.mp H
    obtain ⟨t237, A60, H⟩ := H
    replace H : (image_Encode.l0 k (([t237] : List (List Int))) l0_2 (l0_2.length : Int) 0) = some (r1, r2) := H
    have A6 := Aside0.mk A60
    clear A60
    obtain ⟨y240, hy240⟩ : ∃ y_ : List (List Int), y_ = (([t237] : List (List Int))) := ⟨_, rfl⟩
    replace H : (image_Encode.l0 k y240 l0_2 (l0_2.length : Int) 0) = some (r1, r2) := by first | (rw [hy240]; with_reducible exact H) | (have H2_ := (Option.bind_some _ _).symm.trans H; rw [hy240]; with_reducible exact H2_) | (have H2_ := (Option.bind_some _ _).symm.trans H; with_reducible exact H2_) | with_reducible exact H | (rw [hy240]; exact H) | exact H
    have Ny240 := Aside0.mk hy240
    clear hy240
    have H' := Aside0.mk H
    clear H
    go_enter Tryd.func24, Tryd.ntmps24
    go_wp2_with (first | ((with_reducible refine gate_dst (N := 1) rfl ?_); refine bx 1 #[.int .u64 a0_0, .int .u64 a0_1, .slice A0_2 l0_2.length c0_2] 51 ?_; intro gb229 hg w7 hbox hb; have n0_ := bs HB hb; have n1_ := Aside0.mk (hbox); have n2_ := sz HB hg; have n3_ := sz HB hg; clear HB; have HB := n0_; have BK229 := n1_; have GW229 := n2_; have GE229 := n3_; clear n0_ n1_ n2_ n3_; clear hb hbox hg; obtain ⟨hcz8_0, hcz8_1, hcz8_2, hfz8_0, hfz8_1, hfz8_2⟩ := bc3 BK229) | (go_at_call 26; (with_reducible refine (state_Valid.calls a0_0 a0_1 _ _ l0_2 true _ ?side1 ?side2 A2.out).mono ?_); (case side1 => exact co (Kd.C_below HR0_2.out HB.out)); (case side2 => exact HC0_2.out); rintro e w9 ⟨rfl, hb⟩; have hcv_ : (convert 33 33 (.slice (some ⟨w9.heap.size, 0, none⟩) 4 4)).run Tryd.prog (w9.alloc (.cells #[.int .u8 84, .int .u8 73, .int .u8 48, .int .u8 49] 5)) = .ok (.slice (some ⟨w9.heap.size, 0, none⟩) 4 4) (w9.alloc (.cells #[.int .u8 84, .int .u8 73, .int .u8 48, .int .u8 49] 5 (4, 5))) := Go.Lib.run_convert_bytes_const w9 33 5 _ 4 4 Tryd.underlying33 Tryd.underlying5; have n0_ := bb BK229 hb; have n1_ := bs HB hb; clear BK229; clear HB; have BK229 := n0_; have HB := n1_; clear n0_ n1_; (try clear hb); (try clear hb2); (try clear hk); (try clear hi); obtain ⟨hcz10_0, hcz10_1, hcz10_2, hfz10_0, hfz10_1, hfz10_2⟩ := bc3 BK229; obtain ⟨hcy_0, hcy_1, hcy_2, hfy_0, hfy_1, hfy_2⟩ := bc3 (Aside0.mk (blk_alloc BK229.out (.cells #[.int .u8 84, .int .u8 73, .int .u8 48, .int .u8 49] 5 (4, 5))))) | (go_at_call 35; (with_reducible refine image_Encode.gate_ w9 a0_0 ?_); (refine (pack_PutU64.calls _ _ ([84, 73, 48, 49] : List Int) a0_0 t231 _ ?side1 ?side2 A4.out).mono ?_); (case side1 => exact image_Encode.read_ w9); (case side2 => exact Nat.le_refl _); clear hcv_ hcy_0 hcy_1 hcy_2 hfy_0 hfy_1 hfy_2; rintro e w11 ⟨v232, rfl, ho0, hb⟩; have n0_ := Aside0.mk (Kd.R_lower ho0 (below_size (bw HB))); have n1_ := bb BK229 hb; have n2_ := bs HB hb; clear BK229; clear HB; have HO233 := n0_; have BK229 := n1_; have HB := n2_; clear n0_ n1_ n2_; (try clear hb); (try clear hb2); (try clear hk); (try clear hi); (try clear ho0); obtain ⟨hcz12_0, hcz12_1, hcz12_2, hfz12_0, hfz12_1, hfz12_2⟩ := bc3 BK229; obtain ⟨Ao13, co13, eo13⟩ := Kd.R_slice HO233.out; subst eo13) | (go_at_call 35; (with_reducible refine (pack_PutU64.calls _ _ t231 a0_1 t234 _ ?side1 ?side2 A5.out).mono ?_); (case side1 => exact co (Kd.R_reads' HO233.out).2.2); (case side2 => exact (Kd.R_reads' HO233.out).2.1); rintro e w14 ⟨v235, rfl, ho0, hb⟩; have n0_ := Aside0.mk (Kd.R_elder' (ro HO233) (Kd.R_base ho0) hb); have n1_ := Aside0.mk (Kd.R_lower (Kd.R_new' ho0 (Kd.R_lt (ro HO233))) (below_size (bw HB))); have n2_ := bb BK229 hb; have n3_ := bs HB hb; clear HO233; clear BK229; clear HB; have HO233 := n0_; have HO236 := n1_; have BK229 := n2_; have HB := n3_; clear n0_ n1_ n2_ n3_; (try clear hb); (try clear hb2); (try clear hk); (try clear hi); (try clear ho0); obtain ⟨hcz15_0, hcz15_1, hcz15_2, hfz15_0, hfz15_1, hfz15_2⟩ := bc3 BK229; obtain ⟨Ao16, co16, eo16⟩ := Kd.R_slice HO236.out; subst eo16) | (go_at_call 46; (with_reducible refine (pack_PutU32.calls _ _ t234 (((l0_2.length : Int)) % 4294967296) t237 _ ?side1 ?side2 A6.out).mono ?_); (case side1 => exact co (Kd.R_reads' HO236.out).2.2); (case side2 => exact (Kd.R_reads' HO236.out).2.1); rintro e w17 ⟨v238, rfl, ho0, hb⟩; have n0_ := Aside0.mk (Kd.R_elder' (ro HO233) (Kd.R_base ho0) hb); have n1_ := Aside0.mk (Kd.R_elder' (ro HO236) (Kd.R_base ho0) hb); have n2_ := Aside0.mk (Kd.R_lower (Kd.R_new' (Kd.R_new' ho0 (Kd.R_lt (ro HO233))) (Kd.R_lt (ro HO236))) (below_size (bw HB))); have n3_ := bb BK229 hb; have n4_ := bs HB hb; clear HO233; clear HO236; clear BK229; clear HB; have HO233 := n0_; have HO236 := n1_; have HO239 := n2_; have BK229 := n3_; have HB := n4_; clear n0_ n1_ n2_ n3_ n4_; (try clear hb); (try clear hb2); (try clear hk); (try clear hi); (try clear ho0); obtain ⟨Ao18, co18, eo18⟩ := Kd.R_slice HO239.out; subst eo18) | ((with_reducible refine gate_dst (N := 35) rfl ?_); refine Kd.N_lit (Kd.slice 5 (Kd.int .u8)) _ 33 ?hg (N' := 35) ?hd (xs := ([t237] : List (List Int))) (inner := [.slice Ao18 t237.length co18]) (ok := (fun k_ => some k_ ≠ (.slice Ao13 t231.length co13 : Value).ownBlock ∧ some k_ ≠ (.slice Ao16 t234.length co16 : Value).ownBlock ∧ k_ ≠ gb229)) (okp := (fun k_ => some k_ ≠ (.slice Ao13 t231.length co13 : Value).ownBlock ∧ some k_ ≠ (.slice Ao16 t234.length co16 : Value).ownBlock ∧ k_ ≠ gb229)) ?hr ?hp (fun _ hk => hk) ((show ∀ k_, w17.heap.size ≤ k_ → (fun k_ => some k_ ≠ (.slice Ao13 t231.length co13 : Value).ownBlock ∧ some k_ ≠ (.slice Ao16 t234.length co16 : Value).ownBlock ∧ k_ ≠ gb229) k_ from fun k_ hk => ⟨Kd.fresh' (Kd.R_lt (ro HO233)) k_ hk, Kd.fresh' (Kd.R_lt (ro HO236)) k_ hk, Kd.freshB (g := gb229) (o := .cells #[.int .u64 a0_0, .int .u64 a0_1, .slice A0_2 l0_2.length c0_2] 51 (0, 0)) (bk BK229) k_ hk⟩) _ (Nat.le_refl _)) (Below.refl _ _) (Nat.le_refl _) (by simp) ?_; (case hd => rfl); (case hg => rfl); (case hr => first | (go_simp; done) | (go_simp; rfl)); (case hp => exact (Reps.one (show Kd.FK (Kd.slice 5 (Kd.int .u8)) _ _ t237 [.slice Ao18 t237.length co18] from (Kd.FK_slice_mk (Kd.R_reads' (Kd.R_mono (ok' := (fun k_ => some k_ ≠ (.slice Ao13 t231.length co13 : Value).ownBlock ∧ some k_ ≠ (.slice Ao16 t234.length co16 : Value).ownBlock ∧ k_ ≠ gb229)) (Kd.R_types (HO239.out) BK229.out (by decide)) (fun k_ hk => ⟨hk.1.1.2, ⟨hk.1.2, hk.2⟩⟩))).2.1 (Kd.R_F (Kd.R_mono (ok' := (fun k_ => some k_ ≠ (.slice Ao13 t231.length co13 : Value).ownBlock ∧ some k_ ≠ (.slice Ao16 t234.length co16 : Value).ownBlock ∧ k_ ≠ gb229)) (Kd.R_types (HO239.out) BK229.out (by decide)) (fun k_ hk => ⟨hk.1.1.2, ⟨hk.1.2, hk.2⟩⟩))))) (Reps.none _ _))); intro v241 w19 ho20 hb hg_ hnew_; clear hg_ hnew_; (first | rw [← Ny240.out] at ho20 | (simp only [Int.reduceToNat] at ho20; rw [← Ny240.out] at ho20)); have n0_ := Aside0.mk (Kd.R_below (ro HO233) hb); have n1_ := Aside0.mk (Kd.R_below (ro HO236) hb); have n2_ := Aside0.mk (Kd.N_lower ho20 (below_size (bw HB))); have n3_ := bb BK229 hb; have n4_ := bs HB hb; clear HO233; clear HO236; clear BK229; clear HB; clear HO239; have HO233 := n0_; have HO236 := n1_; have HO242 := n2_; have BK229 := n3_; have HB := n4_; clear n0_ n1_ n2_ n3_ n4_; clear hb ho20; obtain ⟨hcz21_0, hcz21_1, hcz21_2, hfz21_0, hfz21_1, hfz21_2⟩ := bc3 BK229))
    repeat (go_quiet (first | ((with_reducible refine gate_dst (N := 1) rfl ?_); refine bx 1 #[.int .u64 a0_0, .int .u64 a0_1, .slice A0_2 l0_2.length c0_2] 51 ?_; intro gb229 hg w7 hbox hb; have n0_ := bs HB hb; have n1_ := Aside0.mk (hbox); have n2_ := sz HB hg; have n3_ := sz HB hg; clear HB; have HB := n0_; have BK229 := n1_; have GW229 := n2_; have GE229 := n3_; clear n0_ n1_ n2_ n3_; clear hb hbox hg; obtain ⟨hcz8_0, hcz8_1, hcz8_2, hfz8_0, hfz8_1, hfz8_2⟩ := bc3 BK229) | (go_at_call 26; (with_reducible refine (state_Valid.calls a0_0 a0_1 _ _ l0_2 true _ ?side1 ?side2 A2.out).mono ?_); (case side1 => exact co (Kd.C_below HR0_2.out HB.out)); (case side2 => exact HC0_2.out); rintro e w9 ⟨rfl, hb⟩; have hcv_ : (convert 33 33 (.slice (some ⟨w9.heap.size, 0, none⟩) 4 4)).run Tryd.prog (w9.alloc (.cells #[.int .u8 84, .int .u8 73, .int .u8 48, .int .u8 49] 5)) = .ok (.slice (some ⟨w9.heap.size, 0, none⟩) 4 4) (w9.alloc (.cells #[.int .u8 84, .int .u8 73, .int .u8 48, .int .u8 49] 5 (4, 5))) := Go.Lib.run_convert_bytes_const w9 33 5 _ 4 4 Tryd.underlying33 Tryd.underlying5; have n0_ := bb BK229 hb; have n1_ := bs HB hb; clear BK229; clear HB; have BK229 := n0_; have HB := n1_; clear n0_ n1_; (try clear hb); (try clear hb2); (try clear hk); (try clear hi); obtain ⟨hcz10_0, hcz10_1, hcz10_2, hfz10_0, hfz10_1, hfz10_2⟩ := bc3 BK229; obtain ⟨hcy_0, hcy_1, hcy_2, hfy_0, hfy_1, hfy_2⟩ := bc3 (Aside0.mk (blk_alloc BK229.out (.cells #[.int .u8 84, .int .u8 73, .int .u8 48, .int .u8 49] 5 (4, 5))))) | (go_at_call 35; (with_reducible refine image_Encode.gate_ w9 a0_0 ?_); (refine (pack_PutU64.calls _ _ ([84, 73, 48, 49] : List Int) a0_0 t231 _ ?side1 ?side2 A4.out).mono ?_); (case side1 => exact image_Encode.read_ w9); (case side2 => exact Nat.le_refl _); clear hcv_ hcy_0 hcy_1 hcy_2 hfy_0 hfy_1 hfy_2; rintro e w11 ⟨v232, rfl, ho0, hb⟩; have n0_ := Aside0.mk (Kd.R_lower ho0 (below_size (bw HB))); have n1_ := bb BK229 hb; have n2_ := bs HB hb; clear BK229; clear HB; have HO233 := n0_; have BK229 := n1_; have HB := n2_; clear n0_ n1_ n2_; (try clear hb); (try clear hb2); (try clear hk); (try clear hi); (try clear ho0); obtain ⟨hcz12_0, hcz12_1, hcz12_2, hfz12_0, hfz12_1, hfz12_2⟩ := bc3 BK229; obtain ⟨Ao13, co13, eo13⟩ := Kd.R_slice HO233.out; subst eo13) | (go_at_call 35; (with_reducible refine (pack_PutU64.calls _ _ t231 a0_1 t234 _ ?side1 ?side2 A5.out).mono ?_); (case side1 => exact co (Kd.R_reads' HO233.out).2.2); (case side2 => exact (Kd.R_reads' HO233.out).2.1); rintro e w14 ⟨v235, rfl, ho0, hb⟩; have n0_ := Aside0.mk (Kd.R_elder' (ro HO233) (Kd.R_base ho0) hb); have n1_ := Aside0.mk (Kd.R_lower (Kd.R_new' ho0 (Kd.R_lt (ro HO233))) (below_size (bw HB))); have n2_ := bb BK229 hb; have n3_ := bs HB hb; clear HO233; clear BK229; clear HB; have HO233 := n0_; have HO236 := n1_; have BK229 := n2_; have HB := n3_; clear n0_ n1_ n2_ n3_; (try clear hb); (try clear hb2); (try clear hk); (try clear hi); (try clear ho0); obtain ⟨hcz15_0, hcz15_1, hcz15_2, hfz15_0, hfz15_1, hfz15_2⟩ := bc3 BK229; obtain ⟨Ao16, co16, eo16⟩ := Kd.R_slice HO236.out; subst eo16) | (go_at_call 46; (with_reducible refine (pack_PutU32.calls _ _ t234 (((l0_2.length : Int)) % 4294967296) t237 _ ?side1 ?side2 A6.out).mono ?_); (case side1 => exact co (Kd.R_reads' HO236.out).2.2); (case side2 => exact (Kd.R_reads' HO236.out).2.1); rintro e w17 ⟨v238, rfl, ho0, hb⟩; have n0_ := Aside0.mk (Kd.R_elder' (ro HO233) (Kd.R_base ho0) hb); have n1_ := Aside0.mk (Kd.R_elder' (ro HO236) (Kd.R_base ho0) hb); have n2_ := Aside0.mk (Kd.R_lower (Kd.R_new' (Kd.R_new' ho0 (Kd.R_lt (ro HO233))) (Kd.R_lt (ro HO236))) (below_size (bw HB))); have n3_ := bb BK229 hb; have n4_ := bs HB hb; clear HO233; clear HO236; clear BK229; clear HB; have HO233 := n0_; have HO236 := n1_; have HO239 := n2_; have BK229 := n3_; have HB := n4_; clear n0_ n1_ n2_ n3_ n4_; (try clear hb); (try clear hb2); (try clear hk); (try clear hi); (try clear ho0); obtain ⟨Ao18, co18, eo18⟩ := Kd.R_slice HO239.out; subst eo18) | ((with_reducible refine gate_dst (N := 35) rfl ?_); refine Kd.N_lit (Kd.slice 5 (Kd.int .u8)) _ 33 ?hg (N' := 35) ?hd (xs := ([t237] : List (List Int))) (inner := [.slice Ao18 t237.length co18]) (ok := (fun k_ => some k_ ≠ (.slice Ao13 t231.length co13 : Value).ownBlock ∧ some k_ ≠ (.slice Ao16 t234.length co16 : Value).ownBlock ∧ k_ ≠ gb229)) (okp := (fun k_ => some k_ ≠ (.slice Ao13 t231.length co13 : Value).ownBlock ∧ some k_ ≠ (.slice Ao16 t234.length co16 : Value).ownBlock ∧ k_ ≠ gb229)) ?hr ?hp (fun _ hk => hk) ((show ∀ k_, w17.heap.size ≤ k_ → (fun k_ => some k_ ≠ (.slice Ao13 t231.length co13 : Value).ownBlock ∧ some k_ ≠ (.slice Ao16 t234.length co16 : Value).ownBlock ∧ k_ ≠ gb229) k_ from fun k_ hk => ⟨Kd.fresh' (Kd.R_lt (ro HO233)) k_ hk, Kd.fresh' (Kd.R_lt (ro HO236)) k_ hk, Kd.freshB (g := gb229) (o := .cells #[.int .u64 a0_0, .int .u64 a0_1, .slice A0_2 l0_2.length c0_2] 51 (0, 0)) (bk BK229) k_ hk⟩) _ (Nat.le_refl _)) (Below.refl _ _) (Nat.le_refl _) (by simp) ?_; (case hd => rfl); (case hg => rfl); (case hr => first | (go_simp; done) | (go_simp; rfl)); (case hp => exact (Reps.one (show Kd.FK (Kd.slice 5 (Kd.int .u8)) _ _ t237 [.slice Ao18 t237.length co18] from (Kd.FK_slice_mk (Kd.R_reads' (Kd.R_mono (ok' := (fun k_ => some k_ ≠ (.slice Ao13 t231.length co13 : Value).ownBlock ∧ some k_ ≠ (.slice Ao16 t234.length co16 : Value).ownBlock ∧ k_ ≠ gb229)) (Kd.R_types (HO239.out) BK229.out (by decide)) (fun k_ hk => ⟨hk.1.1.2, ⟨hk.1.2, hk.2⟩⟩))).2.1 (Kd.R_F (Kd.R_mono (ok' := (fun k_ => some k_ ≠ (.slice Ao13 t231.length co13 : Value).ownBlock ∧ some k_ ≠ (.slice Ao16 t234.length co16 : Value).ownBlock ∧ k_ ≠ gb229)) (Kd.R_types (HO239.out) BK229.out (by decide)) (fun k_ hk => ⟨hk.1.1.2, ⟨hk.1.2, hk.2⟩⟩))))) (Reps.none _ _))); intro v241 w19 ho20 hb hg_ hnew_; clear hg_ hnew_; (first | rw [← Ny240.out] at ho20 | (simp only [Int.reduceToNat] at ho20; rw [← Ny240.out] at ho20)); have n0_ := Aside0.mk (Kd.R_below (ro HO233) hb); have n1_ := Aside0.mk (Kd.R_below (ro HO236) hb); have n2_ := Aside0.mk (Kd.N_lower ho20 (below_size (bw HB))); have n3_ := bb BK229 hb; have n4_ := bs HB hb; clear HO233; clear HO236; clear BK229; clear HB; clear HO239; have HO233 := n0_; have HO236 := n1_; have HO242 := n2_; have BK229 := n3_; have HB := n4_; clear n0_ n1_ n2_ n3_ n4_; clear hb ho20; obtain ⟨hcz21_0, hcz21_1, hcz21_2, hfz21_0, hfz21_1, hfz21_2⟩ := bc3 BK229)); try go_wp2_with (first | ((with_reducible refine gate_dst (N := 1) rfl ?_); refine bx 1 #[.int .u64 a0_0, .int .u64 a0_1, .slice A0_2 l0_2.length c0_2] 51 ?_; intro gb229 hg w7 hbox hb; have n0_ := bs HB hb; have n1_ := Aside0.mk (hbox); have n2_ := sz HB hg; have n3_ := sz HB hg; clear HB; have HB := n0_; have BK229 := n1_; have GW229 := n2_; have GE229 := n3_; clear n0_ n1_ n2_ n3_; clear hb hbox hg; obtain ⟨hcz8_0, hcz8_1, hcz8_2, hfz8_0, hfz8_1, hfz8_2⟩ := bc3 BK229) | (go_at_call 26; (with_reducible refine (state_Valid.calls a0_0 a0_1 _ _ l0_2 true _ ?side1 ?side2 A2.out).mono ?_); (case side1 => exact co (Kd.C_below HR0_2.out HB.out)); (case side2 => exact HC0_2.out); rintro e w9 ⟨rfl, hb⟩; have hcv_ : (convert 33 33 (.slice (some ⟨w9.heap.size, 0, none⟩) 4 4)).run Tryd.prog (w9.alloc (.cells #[.int .u8 84, .int .u8 73, .int .u8 48, .int .u8 49] 5)) = .ok (.slice (some ⟨w9.heap.size, 0, none⟩) 4 4) (w9.alloc (.cells #[.int .u8 84, .int .u8 73, .int .u8 48, .int .u8 49] 5 (4, 5))) := Go.Lib.run_convert_bytes_const w9 33 5 _ 4 4 Tryd.underlying33 Tryd.underlying5; have n0_ := bb BK229 hb; have n1_ := bs HB hb; clear BK229; clear HB; have BK229 := n0_; have HB := n1_; clear n0_ n1_; (try clear hb); (try clear hb2); (try clear hk); (try clear hi); obtain ⟨hcz10_0, hcz10_1, hcz10_2, hfz10_0, hfz10_1, hfz10_2⟩ := bc3 BK229; obtain ⟨hcy_0, hcy_1, hcy_2, hfy_0, hfy_1, hfy_2⟩ := bc3 (Aside0.mk (blk_alloc BK229.out (.cells #[.int .u8 84, .int .u8 73, .int .u8 48, .int .u8 49] 5 (4, 5))))) | (go_at_call 35; (with_reducible refine image_Encode.gate_ w9 a0_0 ?_); (refine (pack_PutU64.calls _ _ ([84, 73, 48, 49] : List Int) a0_0 t231 _ ?side1 ?side2 A4.out).mono ?_); (case side1 => exact image_Encode.read_ w9); (case side2 => exact Nat.le_refl _); clear hcv_ hcy_0 hcy_1 hcy_2 hfy_0 hfy_1 hfy_2; rintro e w11 ⟨v232, rfl, ho0, hb⟩; have n0_ := Aside0.mk (Kd.R_lower ho0 (below_size (bw HB))); have n1_ := bb BK229 hb; have n2_ := bs HB hb; clear BK229; clear HB; have HO233 := n0_; have BK229 := n1_; have HB := n2_; clear n0_ n1_ n2_; (try clear hb); (try clear hb2); (try clear hk); (try clear hi); (try clear ho0); obtain ⟨hcz12_0, hcz12_1, hcz12_2, hfz12_0, hfz12_1, hfz12_2⟩ := bc3 BK229; obtain ⟨Ao13, co13, eo13⟩ := Kd.R_slice HO233.out; subst eo13) | (go_at_call 35; (with_reducible refine (pack_PutU64.calls _ _ t231 a0_1 t234 _ ?side1 ?side2 A5.out).mono ?_); (case side1 => exact co (Kd.R_reads' HO233.out).2.2); (case side2 => exact (Kd.R_reads' HO233.out).2.1); rintro e w14 ⟨v235, rfl, ho0, hb⟩; have n0_ := Aside0.mk (Kd.R_elder' (ro HO233) (Kd.R_base ho0) hb); have n1_ := Aside0.mk (Kd.R_lower (Kd.R_new' ho0 (Kd.R_lt (ro HO233))) (below_size (bw HB))); have n2_ := bb BK229 hb; have n3_ := bs HB hb; clear HO233; clear BK229; clear HB; have HO233 := n0_; have HO236 := n1_; have BK229 := n2_; have HB := n3_; clear n0_ n1_ n2_ n3_; (try clear hb); (try clear hb2); (try clear hk); (try clear hi); (try clear ho0); obtain ⟨hcz15_0, hcz15_1, hcz15_2, hfz15_0, hfz15_1, hfz15_2⟩ := bc3 BK229; obtain ⟨Ao16, co16, eo16⟩ := Kd.R_slice HO236.out; subst eo16) | (go_at_call 46; (with_reducible refine (pack_PutU32.calls _ _ t234 (((l0_2.length : Int)) % 4294967296) t237 _ ?side1 ?side2 A6.out).mono ?_); (case side1 => exact co (Kd.R_reads' HO236.out).2.2); (case side2 => exact (Kd.R_reads' HO236.out).2.1); rintro e w17 ⟨v238, rfl, ho0, hb⟩; have n0_ := Aside0.mk (Kd.R_elder' (ro HO233) (Kd.R_base ho0) hb); have n1_ := Aside0.mk (Kd.R_elder' (ro HO236) (Kd.R_base ho0) hb); have n2_ := Aside0.mk (Kd.R_lower (Kd.R_new' (Kd.R_new' ho0 (Kd.R_lt (ro HO233))) (Kd.R_lt (ro HO236))) (below_size (bw HB))); have n3_ := bb BK229 hb; have n4_ := bs HB hb; clear HO233; clear HO236; clear BK229; clear HB; have HO233 := n0_; have HO236 := n1_; have HO239 := n2_; have BK229 := n3_; have HB := n4_; clear n0_ n1_ n2_ n3_ n4_; (try clear hb); (try clear hb2); (try clear hk); (try clear hi); (try clear ho0); obtain ⟨Ao18, co18, eo18⟩ := Kd.R_slice HO239.out; subst eo18) | ((with_reducible refine gate_dst (N := 35) rfl ?_); refine Kd.N_lit (Kd.slice 5 (Kd.int .u8)) _ 33 ?hg (N' := 35) ?hd (xs := ([t237] : List (List Int))) (inner := [.slice Ao18 t237.length co18]) (ok := (fun k_ => some k_ ≠ (.slice Ao13 t231.length co13 : Value).ownBlock ∧ some k_ ≠ (.slice Ao16 t234.length co16 : Value).ownBlock ∧ k_ ≠ gb229)) (okp := (fun k_ => some k_ ≠ (.slice Ao13 t231.length co13 : Value).ownBlock ∧ some k_ ≠ (.slice Ao16 t234.length co16 : Value).ownBlock ∧ k_ ≠ gb229)) ?hr ?hp (fun _ hk => hk) ((show ∀ k_, w17.heap.size ≤ k_ → (fun k_ => some k_ ≠ (.slice Ao13 t231.length co13 : Value).ownBlock ∧ some k_ ≠ (.slice Ao16 t234.length co16 : Value).ownBlock ∧ k_ ≠ gb229) k_ from fun k_ hk => ⟨Kd.fresh' (Kd.R_lt (ro HO233)) k_ hk, Kd.fresh' (Kd.R_lt (ro HO236)) k_ hk, Kd.freshB (g := gb229) (o := .cells #[.int .u64 a0_0, .int .u64 a0_1, .slice A0_2 l0_2.length c0_2] 51 (0, 0)) (bk BK229) k_ hk⟩) _ (Nat.le_refl _)) (Below.refl _ _) (Nat.le_refl _) (by simp) ?_; (case hd => rfl); (case hg => rfl); (case hr => first | (go_simp; done) | (go_simp; rfl)); (case hp => exact (Reps.one (show Kd.FK (Kd.slice 5 (Kd.int .u8)) _ _ t237 [.slice Ao18 t237.length co18] from (Kd.FK_slice_mk (Kd.R_reads' (Kd.R_mono (ok' := (fun k_ => some k_ ≠ (.slice Ao13 t231.length co13 : Value).ownBlock ∧ some k_ ≠ (.slice Ao16 t234.length co16 : Value).ownBlock ∧ k_ ≠ gb229)) (Kd.R_types (HO239.out) BK229.out (by decide)) (fun k_ hk => ⟨hk.1.1.2, ⟨hk.1.2, hk.2⟩⟩))).2.1 (Kd.R_F (Kd.R_mono (ok' := (fun k_ => some k_ ≠ (.slice Ao13 t231.length co13 : Value).ownBlock ∧ some k_ ≠ (.slice Ao16 t234.length co16 : Value).ownBlock ∧ k_ ≠ gb229)) (Kd.R_types (HO239.out) BK229.out (by decide)) (fun k_ hk => ⟨hk.1.1.2, ⟨hk.1.2, hk.2⟩⟩))))) (Reps.none _ _))); intro v241 w19 ho20 hb hg_ hnew_; clear hg_ hnew_; (first | rw [← Ny240.out] at ho20 | (simp only [Int.reduceToNat] at ho20; rw [← Ny240.out] at ho20)); have n0_ := Aside0.mk (Kd.R_below (ro HO233) hb); have n1_ := Aside0.mk (Kd.R_below (ro HO236) hb); have n2_ := Aside0.mk (Kd.N_lower ho20 (below_size (bw HB))); have n3_ := bb BK229 hb; have n4_ := bs HB hb; clear HO233; clear HO236; clear BK229; clear HB; clear HO239; have HO233 := n0_; have HO236 := n1_; have HO242 := n2_; have BK229 := n3_; have HB := n4_; clear n0_ n1_ n2_ n3_ n4_; clear hb ho20; obtain ⟨hcz21_0, hcz21_1, hcz21_2, hfz21_0, hfz21_1, hfz21_2⟩ := bc3 BK229)))
    go_loopg [5, 39] k (fun kq v5 v39 w' => ∃ (x5_1 : List (List Int)) (x39_1 : Int), v39 = .int .i64 x39_1 ∧ Aside0 (image_Encode.l0 kq x5_1 l0_2 (l0_2.length : Int) x39_1 = some (r1, r2)) ∧ Aside0 (kq ≤ k) ∧ Aside0 (Kd.N (Kd.slice 5 (Kd.int .u8)) 33 w' w.heap.size (fun k_ => k_ ≠ gb229) v5 x5_1) ∧ Aside0 (w'.heap[gb229]? = some (.cells #[.int .u64 a0_0, .int .u64 a0_1, (.slice A0_2 l0_2.length c0_2)] 51 (0, 0))) ∧ Aside0 (Below w.heap.size w w'))
    case atStart => exact ⟨(y240), (0), rs, H', ⟨Nat.le_refl _⟩, ⟨by (with_reducible repeat (first | apply Kd.N_alloc | apply Kd.N_drewN | apply Kd.N_drew)); exact Kd.N_mono HO242.out (fun _ hk => hk.2.2)⟩, ⟨bk BK229⟩, ⟨bw HB⟩⟩
    case round =>
      clear H'
      try clear c2
      try clear p2
      try clear c3
      try clear hcz10_0
      try clear hcz10_1
      try clear hcz10_2
      try clear hcz12_0
      try clear hcz12_1
      try clear hcz12_2
      try clear hcz15_0
      try clear hcz15_1
      try clear hcz15_2
      try clear hcz21_0
      try clear hcz21_1
      try clear hcz21_2
      try clear hcz8_0
      try clear hcz8_1
      try clear hcz8_2
      try clear hfz10_0
      try clear hfz10_1
      try clear hfz10_2
      try clear hfz12_0
      try clear hfz12_1
      try clear hfz12_2
      try clear hfz15_0
      try clear hfz15_1
      try clear hfz15_2
      try clear hfz21_0
      try clear hfz21_1
      try clear hfz21_2
      try clear hfz8_0
      try clear hfz8_1
      try clear hfz8_2
      obtain ⟨x5_1, x39_1, rfl, HA, HK1, HO_5, BK229, HB⟩ := hrel
      cases gk with
      | zero => exact absurd HA.out (by simp [image_Encode.l0])
      | succ k1 =>
        have H := HA.out
        clear HA
        simp only [image_Encode.l0] at H
        by_cases c22 : x39_1 < (l0_2.length : Int)
        · rw [if_pos c22] at H
          have c22b0 : decide (x39_1 < (l0_2.length : Int)) = true := decide_eq_true c22
          clear c22
          by_cases c23 : 0 ≤ x39_1
          · rw [if_pos c23] at H
            have c23b0 : decide (0 ≤ x39_1) = true := decide_eq_true c23
            clear c23
            by_cases c24 : x39_1 < (l0_2.length : Int)
            · rw [if_pos c24] at H
              have c24b0 : decide (x39_1 < (l0_2.length : Int)) = true := decide_eq_true c24
              clear c24
              replace H := Option.bind_eq_some_iff.mp H
              obtain ⟨⟨t245, t246⟩, A250, H⟩ := H
              replace H : (if 0 ≤ t246 then (if t246 = 0 then (if t245.length < 140737488355328 then ((some (t245 ++ [((rd_T79 l0_2 x39_1).f1.f0) % 256] : List Int)).bind fun y249 => (if ((rd_T79 l0_2 x39_1).f1.f0) = 2 then (image_Encode.j1 k1 x5_1 y249 (([(rd_T79 l0_2 x39_1).f1.f3, (rd_T79 l0_2 x39_1).f1.f4, (rd_T79 l0_2 x39_1).f2.f1, (rd_T79 l0_2 x39_1).f2.f2] : List Int)) l0_2 (l0_2.length : Int) x39_1) else (image_Encode.j1 k1 x5_1 y249 (([(rd_T79 l0_2 x39_1).f1.f1, (rd_T79 l0_2 x39_1).f1.f2, (rd_T79 l0_2 x39_1).f2.f0] : List Int)) l0_2 (l0_2.length : Int) x39_1))) else (none)) else (some (([] : List Int), t246))) else (none)) = some (r1, r2) := H
              have A25 := Aside0.mk A250
              clear A250
              by_cases c26 : 0 ≤ t246
              · rw [if_pos c26] at H
                have c26b0 := eq_true c26
                have c26b1 : decide (0 ≤ t246) = true := decide_eq_true c26
                clear c26
                by_cases c27 : t246 = 0
                · rw [if_pos c27] at H
                  have c27b0 : (t246 == 0) = true := beq_iff_eq.mpr c27
                  have c27b1 : (t246 != 0) = false := bne_eq_false_iff_eq.mpr c27
                  clear c27
                  by_cases c28 : t245.length < 140737488355328
                  · rw [if_pos c28] at H
                    have LMc28 := Aside0.mk c28
                    clear c28
                    obtain ⟨y249, hy249⟩ : ∃ y_ : List Int, y_ = (t245 ++ [((rd_T79 l0_2 x39_1).f1.f0) % 256]) := ⟨_, rfl⟩
                    replace H : (if ((rd_T79 l0_2 x39_1).f1.f0) = 2 then (image_Encode.j1 k1 x5_1 y249 (([(rd_T79 l0_2 x39_1).f1.f3, (rd_T79 l0_2 x39_1).f1.f4, (rd_T79 l0_2 x39_1).f2.f1, (rd_T79 l0_2 x39_1).f2.f2] : List Int)) l0_2 (l0_2.length : Int) x39_1) else (image_Encode.j1 k1 x5_1 y249 (([(rd_T79 l0_2 x39_1).f1.f1, (rd_T79 l0_2 x39_1).f1.f2, (rd_T79 l0_2 x39_1).f2.f0] : List Int)) l0_2 (l0_2.length : Int) x39_1)) = some (r1, r2) := by first | (rw [hy249]; with_reducible exact H) | (have H2_ := (Option.bind_some _ _).symm.trans H; rw [hy249]; with_reducible exact H2_) | (have H2_ := (Option.bind_some _ _).symm.trans H; with_reducible exact H2_) | with_reducible exact H | (rw [hy249]; exact H) | exact H
                    have Ny249 := Aside0.mk hy249
                    clear hy249
                    obtain ⟨y252, hy252⟩ : ∃ y_ : List Int, y_ = (([(rd_T79 l0_2 x39_1).f1.f1, (rd_T79 l0_2 x39_1).f1.f2, (rd_T79 l0_2 x39_1).f2.f0] : List Int)) := ⟨_, rfl⟩
                    replace H : (if ((rd_T79 l0_2 x39_1).f1.f0) = 2 then (image_Encode.j1 k1 x5_1 y249 (([(rd_T79 l0_2 x39_1).f1.f3, (rd_T79 l0_2 x39_1).f1.f4, (rd_T79 l0_2 x39_1).f2.f1, (rd_T79 l0_2 x39_1).f2.f2] : List Int)) l0_2 (l0_2.length : Int) x39_1) else (image_Encode.j1 k1 x5_1 y249 y252 l0_2 (l0_2.length : Int) x39_1)) = some (r1, r2) := by first | (rw [hy252]; with_reducible exact H) | (have H2_ := (Option.bind_some _ _).symm.trans H; rw [hy252]; with_reducible exact H2_) | (have H2_ := (Option.bind_some _ _).symm.trans H; with_reducible exact H2_) | with_reducible exact H | (rw [hy252]; exact H) | exact H
                    have Ny252 := Aside0.mk hy252
                    clear hy252
                    have HC29 := Aside0.mk H
                    clear H
                    have p243 : 0 ≤ (x39_1 : Int) := of_decide_eq_true (by first | (with_reducible assumption) | assumption)
                    have q243 : x39_1 < (l0_2.length : Int) := of_decide_eq_true (by first | (with_reducible assumption) | assumption)
                    obtain ⟨ad243, e243, hx243_0, hx243_1, hx243_2, hx243_3, hx243_4, hx243_5, hx243_6, hx243_7, hx243_8⟩ := at_T79 HR0_2.out x39_1 p243 q243
                    cases e243
                    replace hx243_0 := (HB.out.cell (World.block_lt_of_cell? w _ hx243_0)).trans hx243_0
                    replace hx243_1 := (HB.out.cell (World.block_lt_of_cell? w _ hx243_1)).trans hx243_1
                    replace hx243_2 := (HB.out.cell (World.block_lt_of_cell? w _ hx243_2)).trans hx243_2
                    replace hx243_3 := (HB.out.cell (World.block_lt_of_cell? w _ hx243_3)).trans hx243_3
                    replace hx243_4 := (HB.out.cell (World.block_lt_of_cell? w _ hx243_4)).trans hx243_4
                    replace hx243_5 := (HB.out.cell (World.block_lt_of_cell? w _ hx243_5)).trans hx243_5
                    replace hx243_6 := (HB.out.cell (World.block_lt_of_cell? w _ hx243_6)).trans hx243_6
                    replace hx243_7 := (HB.out.cell (World.block_lt_of_cell? w _ hx243_7)).trans hx243_7
                    replace hx243_8 := (HB.out.cell (World.block_lt_of_cell? w _ hx243_8)).trans hx243_8
                    replace p243 := eq_true p243
                    replace q243 := eq_true q243
                    go_upto_if 72 with (first | ((with_reducible refine gate_dst (N := 7) rfl ?_); refine bx 7 #[.string (⟨#[]⟩ : ByteArray), .int .i64 0, .int .u64 0, .int .u64 0, .int .u64 0, .int .u64 0, .int .u64 0, .int .u64 0, .int .u64 0] 79 ?_; intro gb244 hg w30 hbox hb; have n0_ := Aside0.mk (Kd.N_below (Kd.N_elderB (no HO_5) gb244 (Nat.le_of_eq hg.symm)) hb); have n1_ := bb BK229 hb; have n2_ := bs HB hb; have n3_ := Aside0.mk (hbox); have n4_ := sz HB hg; have n5_ := sz HB hg; have n6_ := nl BK229 hg; have n7_ := nr BK229 hg; clear HO_5; clear BK229; clear HB; have HO_5 := n0_; have BK229 := n1_; have HB := n2_; have BK244 := n3_; have GW244 := n4_; have GE244 := n5_; have NB229_244 := n6_; have NB244_229 := n7_; clear n0_ n1_ n2_ n3_ n4_ n5_ n6_ n7_; clear hb hbox hg; have hnb31 := NB244_229.out; have hnc31 := NB229_244.out; have hcz32_0 : w30.cell? ⟨gb244, 0, none⟩ = some (.string (⟨#[]⟩ : ByteArray)) := (blk_cell BK244.out 0).trans rfl; have hcz32_1 : w30.cell? ⟨gb244, 1, none⟩ = some (.int .i64 0) := (blk_cell BK244.out 1).trans rfl; have hcz32_2 : w30.cell? ⟨gb244, 2, none⟩ = some (.int .u64 0) := (blk_cell BK244.out 2).trans rfl; have hcz32_3 : w30.cell? ⟨gb244, 3, none⟩ = some (.int .u64 0) := (blk_cell BK244.out 3).trans rfl; have hcz32_4 : w30.cell? ⟨gb244, 4, none⟩ = some (.int .u64 0) := (blk_cell BK244.out 4).trans rfl; have hcz32_5 : w30.cell? ⟨gb244, 5, none⟩ = some (.int .u64 0) := (blk_cell BK244.out 5).trans rfl; have hcz32_6 : w30.cell? ⟨gb244, 6, none⟩ = some (.int .u64 0) := (blk_cell BK244.out 6).trans rfl; have hcz32_7 : w30.cell? ⟨gb244, 7, none⟩ = some (.int .u64 0) := (blk_cell BK244.out 7).trans rfl; have hcz32_8 : w30.cell? ⟨gb244, 8, none⟩ = some (.int .u64 0) := (blk_cell BK244.out 8).trans rfl; have hfz32_0 := blk_frozen BK244.out 0; have hfz32_1 := blk_frozen BK244.out 1; have hfz32_2 := blk_frozen BK244.out 2; have hfz32_3 := blk_frozen BK244.out 3; have hfz32_4 := blk_frozen BK244.out 4; have hfz32_5 := blk_frozen BK244.out 5; have hfz32_6 := blk_frozen BK244.out 6; have hfz32_7 := blk_frozen BK244.out 7; have hfz32_8 := blk_frozen BK244.out 8) | (go_at_call 36; (refine (pack_PutText.calls _ _ ([] : List Int) ((rd_T79 l0_2 x39_1).f0) t245 t246 _ ?side3 ?side1 ?side2 A25.out).mono ?_); (case side1 => exact Kd.C_nil _ _); (case side2 => exact Nat.le_refl _); (case side3 => exact (HERR.out.below (bw HB))); rintro e w33 ⟨v247, rfl, ho0, hb⟩; have n0_ := Aside0.mk (Kd.N_elder' (by (with_reducible repeat (first | apply Kd.N_alloc | apply Kd.N_drewN | apply Kd.N_drew)); exact (Kd.N_mono (Kd.N_far (p := ⟨gb244, 8, none⟩) (Kd.N_far (p := ⟨gb244, 7, none⟩) (Kd.N_far (p := ⟨gb244, 6, none⟩) (Kd.N_far (p := ⟨gb244, 5, none⟩) (Kd.N_far (p := ⟨gb244, 4, none⟩) (Kd.N_far (p := ⟨gb244, 3, none⟩) (Kd.N_far (p := ⟨gb244, 2, none⟩) (Kd.N_far (p := ⟨gb244, 1, none⟩) (Kd.N_far (p := ⟨gb244, 0, none⟩) (Kd.N_mono HO_5.out (fun k_ hk => (⟨hk, hk.2⟩ : _ ∧ k_ ≠ gb244))) (fun _ hk => hk.2) (.string ((rd_T79 l0_2 x39_1).f0))) (fun _ hk => hk.2) (.int .i64 ((rd_T79 l0_2 x39_1).f1.f0))) (fun _ hk => hk.2) (.int .u64 ((rd_T79 l0_2 x39_1).f1.f1))) (fun _ hk => hk.2) (.int .u64 ((rd_T79 l0_2 x39_1).f1.f2))) (fun _ hk => hk.2) (.int .u64 ((rd_T79 l0_2 x39_1).f1.f3))) (fun _ hk => hk.2) (.int .u64 ((rd_T79 l0_2 x39_1).f1.f4))) (fun _ hk => hk.2) (.int .u64 ((rd_T79 l0_2 x39_1).f2.f0))) (fun _ hk => hk.2) (.int .u64 ((rd_T79 l0_2 x39_1).f2.f1))) (fun _ hk => hk.2) (.int .u64 ((rd_T79 l0_2 x39_1).f2.f2))) (fun _ h_ => h_.1))) (Kd.R_base ho0) hb); have n1_ := Aside0.mk (Kd.R_lower ho0 (below_size (bw HB))); have n2_ := bb BK229 hb; have n3_ := Aside0.mk (blk_below (g := gb244) (o := .cells #[.string ((rd_T79 l0_2 x39_1).f0), .int .i64 ((rd_T79 l0_2 x39_1).f1.f0), .int .u64 ((rd_T79 l0_2 x39_1).f1.f1), .int .u64 ((rd_T79 l0_2 x39_1).f1.f2), .int .u64 ((rd_T79 l0_2 x39_1).f1.f3), .int .u64 ((rd_T79 l0_2 x39_1).f1.f4), .int .u64 ((rd_T79 l0_2 x39_1).f2.f0), .int .u64 ((rd_T79 l0_2 x39_1).f2.f1), .int .u64 ((rd_T79 l0_2 x39_1).f2.f2)] 79 (0, 0)) (by (with_reducible repeat (first | refine blk_drewN ?_ _ | refine blk_drew ?_ | refine blk_alloc ?_ _)); refine blk_put (cs := #[.string ((rd_T79 l0_2 x39_1).f0), .int .i64 ((rd_T79 l0_2 x39_1).f1.f0), .int .u64 ((rd_T79 l0_2 x39_1).f1.f1), .int .u64 ((rd_T79 l0_2 x39_1).f1.f2), .int .u64 ((rd_T79 l0_2 x39_1).f1.f3), .int .u64 ((rd_T79 l0_2 x39_1).f1.f4), .int .u64 ((rd_T79 l0_2 x39_1).f2.f0), .int .u64 ((rd_T79 l0_2 x39_1).f2.f1), .int .u64 0]) ?_ 8 _ rfl; (with_reducible repeat (first | refine blk_drewN ?_ _ | refine blk_drew ?_ | refine blk_alloc ?_ _)); refine blk_put (cs := #[.string ((rd_T79 l0_2 x39_1).f0), .int .i64 ((rd_T79 l0_2 x39_1).f1.f0), .int .u64 ((rd_T79 l0_2 x39_1).f1.f1), .int .u64 ((rd_T79 l0_2 x39_1).f1.f2), .int .u64 ((rd_T79 l0_2 x39_1).f1.f3), .int .u64 ((rd_T79 l0_2 x39_1).f1.f4), .int .u64 ((rd_T79 l0_2 x39_1).f2.f0), .int .u64 0, .int .u64 0]) ?_ 7 _ rfl; (with_reducible repeat (first | refine blk_drewN ?_ _ | refine blk_drew ?_ | refine blk_alloc ?_ _)); refine blk_put (cs := #[.string ((rd_T79 l0_2 x39_1).f0), .int .i64 ((rd_T79 l0_2 x39_1).f1.f0), .int .u64 ((rd_T79 l0_2 x39_1).f1.f1), .int .u64 ((rd_T79 l0_2 x39_1).f1.f2), .int .u64 ((rd_T79 l0_2 x39_1).f1.f3), .int .u64 ((rd_T79 l0_2 x39_1).f1.f4), .int .u64 0, .int .u64 0, .int .u64 0]) ?_ 6 _ rfl; (with_reducible repeat (first | refine blk_drewN ?_ _ | refine blk_drew ?_ | refine blk_alloc ?_ _)); refine blk_put (cs := #[.string ((rd_T79 l0_2 x39_1).f0), .int .i64 ((rd_T79 l0_2 x39_1).f1.f0), .int .u64 ((rd_T79 l0_2 x39_1).f1.f1), .int .u64 ((rd_T79 l0_2 x39_1).f1.f2), .int .u64 ((rd_T79 l0_2 x39_1).f1.f3), .int .u64 0, .int .u64 0, .int .u64 0, .int .u64 0]) ?_ 5 _ rfl; (with_reducible repeat (first | refine blk_drewN ?_ _ | refine blk_drew ?_ | refine blk_alloc ?_ _)); refine blk_put (cs := #[.string ((rd_T79 l0_2 x39_1).f0), .int .i64 ((rd_T79 l0_2 x39_1).f1.f0), .int .u64 ((rd_T79 l0_2 x39_1).f1.f1), .int .u64 ((rd_T79 l0_2 x39_1).f1.f2), .int .u64 0, .int .u64 0, .int .u64 0, .int .u64 0, .int .u64 0]) ?_ 4 _ rfl; (with_reducible repeat (first | refine blk_drewN ?_ _ | refine blk_drew ?_ | refine blk_alloc ?_ _)); refine blk_put (cs := #[.string ((rd_T79 l0_2 x39_1).f0), .int .i64 ((rd_T79 l0_2 x39_1).f1.f0), .int .u64 ((rd_T79 l0_2 x39_1).f1.f1), .int .u64 0, .int .u64 0, .int .u64 0, .int .u64 0, .int .u64 0, .int .u64 0]) ?_ 3 _ rfl; (with_reducible repeat (first | refine blk_drewN ?_ _ | refine blk_drew ?_ | refine blk_alloc ?_ _)); refine blk_put (cs := #[.string ((rd_T79 l0_2 x39_1).f0), .int .i64 ((rd_T79 l0_2 x39_1).f1.f0), .int .u64 0, .int .u64 0, .int .u64 0, .int .u64 0, .int .u64 0, .int .u64 0, .int .u64 0]) ?_ 2 _ rfl; (with_reducible repeat (first | refine blk_drewN ?_ _ | refine blk_drew ?_ | refine blk_alloc ?_ _)); refine blk_put (cs := #[.string ((rd_T79 l0_2 x39_1).f0), .int .i64 0, .int .u64 0, .int .u64 0, .int .u64 0, .int .u64 0, .int .u64 0, .int .u64 0, .int .u64 0]) ?_ 1 _ rfl; (with_reducible repeat (first | refine blk_drewN ?_ _ | refine blk_drew ?_ | refine blk_alloc ?_ _)); refine blk_put (cs := #[.string (⟨#[]⟩ : ByteArray), .int .i64 0, .int .u64 0, .int .u64 0, .int .u64 0, .int .u64 0, .int .u64 0, .int .u64 0, .int .u64 0]) ?_ 0 _ rfl; (with_reducible repeat (first | refine blk_drewN ?_ _ | refine blk_drew ?_ | refine blk_alloc ?_ _)); exact BK244.out) hb); have n4_ := bs HB hb; clear HO_5; clear BK229; clear BK244; clear HB; have HO_5 := n0_; have HO248 := n1_; have BK229 := n2_; have BK244 := n3_; have HB := n4_; clear n0_ n1_ n2_ n3_ n4_; (try clear hb); (try clear hb2); (try clear hk); (try clear hi); (try clear ho0); have hcz34_0 : w33.cell? ⟨gb244, 0, none⟩ = some (.string ((rd_T79 l0_2 x39_1).f0)) := (blk_cell BK244.out 0).trans rfl; have hcz34_1 : w33.cell? ⟨gb244, 1, none⟩ = some (.int .i64 ((rd_T79 l0_2 x39_1).f1.f0)) := (blk_cell BK244.out 1).trans rfl; have hcz34_2 : w33.cell? ⟨gb244, 2, none⟩ = some (.int .u64 ((rd_T79 l0_2 x39_1).f1.f1)) := (blk_cell BK244.out 2).trans rfl; have hcz34_3 : w33.cell? ⟨gb244, 3, none⟩ = some (.int .u64 ((rd_T79 l0_2 x39_1).f1.f2)) := (blk_cell BK244.out 3).trans rfl; have hcz34_4 : w33.cell? ⟨gb244, 4, none⟩ = some (.int .u64 ((rd_T79 l0_2 x39_1).f1.f3)) := (blk_cell BK244.out 4).trans rfl; have hcz34_5 : w33.cell? ⟨gb244, 5, none⟩ = some (.int .u64 ((rd_T79 l0_2 x39_1).f1.f4)) := (blk_cell BK244.out 5).trans rfl; have hcz34_6 : w33.cell? ⟨gb244, 6, none⟩ = some (.int .u64 ((rd_T79 l0_2 x39_1).f2.f0)) := (blk_cell BK244.out 6).trans rfl; have hcz34_7 : w33.cell? ⟨gb244, 7, none⟩ = some (.int .u64 ((rd_T79 l0_2 x39_1).f2.f1)) := (blk_cell BK244.out 7).trans rfl; have hcz34_8 : w33.cell? ⟨gb244, 8, none⟩ = some (.int .u64 ((rd_T79 l0_2 x39_1).f2.f2)) := (blk_cell BK244.out 8).trans rfl; have hfz34_0 := blk_frozen BK244.out 0; have hfz34_1 := blk_frozen BK244.out 1; have hfz34_2 := blk_frozen BK244.out 2; have hfz34_3 := blk_frozen BK244.out 3; have hfz34_4 := blk_frozen BK244.out 4; have hfz34_5 := blk_frozen BK244.out 5; have hfz34_6 := blk_frozen BK244.out 6; have hfz34_7 := blk_frozen BK244.out 7; have hfz34_8 := blk_frozen BK244.out 8) | ((with_reducible refine gate_dst (N := 50) rfl ?_); refine nen_err t246 (b := (t246 != 0)) ?_ rfl (of_decide_eq_true (by first | (with_reducible assumption) | assumption))) | ((with_reducible refine gate_builtin (b := .append) (xs := #[.tmp 52, .tmp 57]) rfl ?_); at_builtin; refine Kd.R_append (Kd.int .u8) (w0 := w) w.heap.size rfl (.tmp 52) (.tmp 57) 33 5 (.int .u8 0) 1 rfl Tryd.underlying33 info5 rfl (by decide) (by omega) v247 t245 (((rd_T79 l0_2 x39_1).f1.f0) % 256) [.int .u8 (((rd_T79 l0_2 x39_1).f1.f0) % 256)] (fun _ => True) (fun _ => False) rfl rfl ?aP (fun _ hk => hk.elim) ?aF ?aO ?aB ?aS ?aL ?_; (case aP => exact rfl); (case aB => exact (bw HB)); (case aF => exact (fun _ _ => trivial)); (case aO => exact (ro HO248)); (case aS => exact (below_size (bw HB))); (case aL => have := LMc28.out; omega); intro v250 w35 ho hb hg hat; rw [← Ny249.out] at ho; have n0_ := Aside0.mk (Kd.N_afterv (ok := (fun k_ => k_ ≠ gb229 ∧ k_ ≠ gb244)) (no HO_5) hg hat); have n1_ := Aside0.mk (blk_grown (g := gb229) (o := .cells #[.int .u64 a0_0, .int .u64 a0_1, .slice (some ad243) l0_2.length c0_2] 51 (0, 0)) (bk BK229) hg (Kd.R_ne HO248.out BK229.out (by decide))); have n2_ := Aside0.mk (blk_grown (g := gb244) (o := .cells #[.string ((rd_T79 l0_2 x39_1).f0), .int .i64 ((rd_T79 l0_2 x39_1).f1.f0), .int .u64 ((rd_T79 l0_2 x39_1).f1.f1), .int .u64 ((rd_T79 l0_2 x39_1).f1.f2), .int .u64 ((rd_T79 l0_2 x39_1).f1.f3), .int .u64 ((rd_T79 l0_2 x39_1).f1.f4), .int .u64 ((rd_T79 l0_2 x39_1).f2.f0), .int .u64 ((rd_T79 l0_2 x39_1).f2.f1), .int .u64 ((rd_T79 l0_2 x39_1).f2.f2)] 79 (0, 0)) (bk BK244) hg (Kd.R_ne HO248.out BK244.out (by decide))); have n3_ := Aside0.mk (hb); have n4_ := Aside0.mk (ho); clear HO_5; clear BK229; clear BK244; clear HB; clear HO248; have HO_5 := n0_; have BK229 := n1_; have BK244 := n2_; have HB := n3_; have HO251 := n4_; clear n0_ n1_ n2_ n3_ n4_; clear ho hb hg hat; have hcz36_0 : w35.cell? ⟨gb244, 0, none⟩ = some (.string ((rd_T79 l0_2 x39_1).f0)) := (blk_cell BK244.out 0).trans rfl; have hcz36_1 : w35.cell? ⟨gb244, 1, none⟩ = some (.int .i64 ((rd_T79 l0_2 x39_1).f1.f0)) := (blk_cell BK244.out 1).trans rfl; have hcz36_2 : w35.cell? ⟨gb244, 2, none⟩ = some (.int .u64 ((rd_T79 l0_2 x39_1).f1.f1)) := (blk_cell BK244.out 2).trans rfl; have hcz36_3 : w35.cell? ⟨gb244, 3, none⟩ = some (.int .u64 ((rd_T79 l0_2 x39_1).f1.f2)) := (blk_cell BK244.out 3).trans rfl; have hcz36_4 : w35.cell? ⟨gb244, 4, none⟩ = some (.int .u64 ((rd_T79 l0_2 x39_1).f1.f3)) := (blk_cell BK244.out 4).trans rfl; have hcz36_5 : w35.cell? ⟨gb244, 5, none⟩ = some (.int .u64 ((rd_T79 l0_2 x39_1).f1.f4)) := (blk_cell BK244.out 5).trans rfl; have hcz36_6 : w35.cell? ⟨gb244, 6, none⟩ = some (.int .u64 ((rd_T79 l0_2 x39_1).f2.f0)) := (blk_cell BK244.out 6).trans rfl; have hcz36_7 : w35.cell? ⟨gb244, 7, none⟩ = some (.int .u64 ((rd_T79 l0_2 x39_1).f2.f1)) := (blk_cell BK244.out 7).trans rfl; have hcz36_8 : w35.cell? ⟨gb244, 8, none⟩ = some (.int .u64 ((rd_T79 l0_2 x39_1).f2.f2)) := (blk_cell BK244.out 8).trans rfl; have hfz36_0 := blk_frozen BK244.out 0; have hfz36_1 := blk_frozen BK244.out 1; have hfz36_2 := blk_frozen BK244.out 2; have hfz36_3 := blk_frozen BK244.out 3; have hfz36_4 := blk_frozen BK244.out 4; have hfz36_5 := blk_frozen BK244.out 5; have hfz36_6 := blk_frozen BK244.out 6; have hfz36_7 := blk_frozen BK244.out 7; have hfz36_8 := blk_frozen BK244.out 8) | ((with_reducible refine gate_dst (N := 68) rfl ?_); refine Kd.R_lit (Kd.int .u64) _ 26 ?hg (N := 68) ?hd (xs := ([(rd_T79 l0_2 x39_1).f1.f1, (rd_T79 l0_2 x39_1).f1.f2, (rd_T79 l0_2 x39_1).f2.f0] : List Int)) (inner := [.int .u64 ((rd_T79 l0_2 x39_1).f1.f1), .int .u64 ((rd_T79 l0_2 x39_1).f1.f2), .int .u64 ((rd_T79 l0_2 x39_1).f2.f0)]) (ok := fun _ => True) (okp := fun _ => True) ?hr ?hp (fun _ hk => hk) trivial (Below.refl _ _) (Nat.le_refl _) (by simp) ?_; (case hd => rfl); (case hg => rfl); (case hr => first | (go_simp; done) | (go_simp; rfl)); (case hp => exact (Reps.one (show Kd.M (Kd.int .u64) _ _ _ ((rd_T79 l0_2 x39_1).f1.f1) [.int .u64 ((rd_T79 l0_2 x39_1).f1.f1)] from rfl) (Reps.one (show Kd.M (Kd.int .u64) _ _ _ ((rd_T79 l0_2 x39_1).f1.f2) [.int .u64 ((rd_T79 l0_2 x39_1).f1.f2)] from rfl) (Reps.one (show Kd.M (Kd.int .u64) _ _ _ ((rd_T79 l0_2 x39_1).f2.f0) [.int .u64 ((rd_T79 l0_2 x39_1).f2.f0)] from rfl) (Reps.none _ _))))); intro v253 w37 ho38 hb hg_ hnew_; clear hg_ hnew_; (first | rw [← Ny252.out] at ho38 | (simp only [Int.reduceToNat] at ho38; rw [← Ny252.out] at ho38)); have n0_ := Aside0.mk (Kd.N_elder' (no HO_5) (Kd.R_base ho38) hb); have n1_ := Aside0.mk (Kd.R_below (ro HO251) hb); have n2_ := Aside0.mk (Kd.R_lower ho38 (below_size (bw HB))); have n3_ := bb BK229 hb; have n4_ := bb BK244 hb; have n5_ := bs HB hb; clear HO_5; clear HO251; clear BK229; clear BK244; clear HB; have HO_5 := n0_; have HO251 := n1_; have HO254 := n2_; have BK229 := n3_; have BK244 := n4_; have HB := n5_; clear n0_ n1_ n2_ n3_ n4_ n5_; clear hb ho38; have hcz39_0 : w37.cell? ⟨gb244, 0, none⟩ = some (.string ((rd_T79 l0_2 x39_1).f0)) := (blk_cell BK244.out 0).trans rfl; have hcz39_1 : w37.cell? ⟨gb244, 1, none⟩ = some (.int .i64 ((rd_T79 l0_2 x39_1).f1.f0)) := (blk_cell BK244.out 1).trans rfl; have hcz39_2 : w37.cell? ⟨gb244, 2, none⟩ = some (.int .u64 ((rd_T79 l0_2 x39_1).f1.f1)) := (blk_cell BK244.out 2).trans rfl; have hcz39_3 : w37.cell? ⟨gb244, 3, none⟩ = some (.int .u64 ((rd_T79 l0_2 x39_1).f1.f2)) := (blk_cell BK244.out 3).trans rfl; have hcz39_4 : w37.cell? ⟨gb244, 4, none⟩ = some (.int .u64 ((rd_T79 l0_2 x39_1).f1.f3)) := (blk_cell BK244.out 4).trans rfl; have hcz39_5 : w37.cell? ⟨gb244, 5, none⟩ = some (.int .u64 ((rd_T79 l0_2 x39_1).f1.f4)) := (blk_cell BK244.out 5).trans rfl; have hcz39_6 : w37.cell? ⟨gb244, 6, none⟩ = some (.int .u64 ((rd_T79 l0_2 x39_1).f2.f0)) := (blk_cell BK244.out 6).trans rfl; have hcz39_7 : w37.cell? ⟨gb244, 7, none⟩ = some (.int .u64 ((rd_T79 l0_2 x39_1).f2.f1)) := (blk_cell BK244.out 7).trans rfl; have hcz39_8 : w37.cell? ⟨gb244, 8, none⟩ = some (.int .u64 ((rd_T79 l0_2 x39_1).f2.f2)) := (blk_cell BK244.out 8).trans rfl; have hfz39_0 := blk_frozen BK244.out 0; have hfz39_1 := blk_frozen BK244.out 1; have hfz39_2 := blk_frozen BK244.out 2; have hfz39_3 := blk_frozen BK244.out 3; have hfz39_4 := blk_frozen BK244.out 4; have hfz39_5 := blk_frozen BK244.out 5; have hfz39_6 := blk_frozen BK244.out 6; have hfz39_7 := blk_frozen BK244.out 7; have hfz39_8 := blk_frozen BK244.out 8))
                    repeat (go_quiet (first | ((with_reducible refine gate_dst (N := 7) rfl ?_); refine bx 7 #[.string (⟨#[]⟩ : ByteArray), .int .i64 0, .int .u64 0, .int .u64 0, .int .u64 0, .int .u64 0, .int .u64 0, .int .u64 0, .int .u64 0] 79 ?_; intro gb244 hg w30 hbox hb; have n0_ := Aside0.mk (Kd.N_below (Kd.N_elderB (no HO_5) gb244 (Nat.le_of_eq hg.symm)) hb); have n1_ := bb BK229 hb; have n2_ := bs HB hb; have n3_ := Aside0.mk (hbox); have n4_ := sz HB hg; have n5_ := sz HB hg; have n6_ := nl BK229 hg; have n7_ := nr BK229 hg; clear HO_5; clear BK229; clear HB; have HO_5 := n0_; have BK229 := n1_; have HB := n2_; have BK244 := n3_; have GW244 := n4_; have GE244 := n5_; have NB229_244 := n6_; have NB244_229 := n7_; clear n0_ n1_ n2_ n3_ n4_ n5_ n6_ n7_; clear hb hbox hg; have hnb31 := NB244_229.out; have hnc31 := NB229_244.out; have hcz32_0 : w30.cell? ⟨gb244, 0, none⟩ = some (.string (⟨#[]⟩ : ByteArray)) := (blk_cell BK244.out 0).trans rfl; have hcz32_1 : w30.cell? ⟨gb244, 1, none⟩ = some (.int .i64 0) := (blk_cell BK244.out 1).trans rfl; have hcz32_2 : w30.cell? ⟨gb244, 2, none⟩ = some (.int .u64 0) := (blk_cell BK244.out 2).trans rfl; have hcz32_3 : w30.cell? ⟨gb244, 3, none⟩ = some (.int .u64 0) := (blk_cell BK244.out 3).trans rfl; have hcz32_4 : w30.cell? ⟨gb244, 4, none⟩ = some (.int .u64 0) := (blk_cell BK244.out 4).trans rfl; have hcz32_5 : w30.cell? ⟨gb244, 5, none⟩ = some (.int .u64 0) := (blk_cell BK244.out 5).trans rfl; have hcz32_6 : w30.cell? ⟨gb244, 6, none⟩ = some (.int .u64 0) := (blk_cell BK244.out 6).trans rfl; have hcz32_7 : w30.cell? ⟨gb244, 7, none⟩ = some (.int .u64 0) := (blk_cell BK244.out 7).trans rfl; have hcz32_8 : w30.cell? ⟨gb244, 8, none⟩ = some (.int .u64 0) := (blk_cell BK244.out 8).trans rfl; have hfz32_0 := blk_frozen BK244.out 0; have hfz32_1 := blk_frozen BK244.out 1; have hfz32_2 := blk_frozen BK244.out 2; have hfz32_3 := blk_frozen BK244.out 3; have hfz32_4 := blk_frozen BK244.out 4; have hfz32_5 := blk_frozen BK244.out 5; have hfz32_6 := blk_frozen BK244.out 6; have hfz32_7 := blk_frozen BK244.out 7; have hfz32_8 := blk_frozen BK244.out 8) | (go_at_call 36; (refine (pack_PutText.calls _ _ ([] : List Int) ((rd_T79 l0_2 x39_1).f0) t245 t246 _ ?side3 ?side1 ?side2 A25.out).mono ?_); (case side1 => exact Kd.C_nil _ _); (case side2 => exact Nat.le_refl _); (case side3 => exact (HERR.out.below (bw HB))); rintro e w33 ⟨v247, rfl, ho0, hb⟩; have n0_ := Aside0.mk (Kd.N_elder' (by (with_reducible repeat (first | apply Kd.N_alloc | apply Kd.N_drewN | apply Kd.N_drew)); exact (Kd.N_mono (Kd.N_far (p := ⟨gb244, 8, none⟩) (Kd.N_far (p := ⟨gb244, 7, none⟩) (Kd.N_far (p := ⟨gb244, 6, none⟩) (Kd.N_far (p := ⟨gb244, 5, none⟩) (Kd.N_far (p := ⟨gb244, 4, none⟩) (Kd.N_far (p := ⟨gb244, 3, none⟩) (Kd.N_far (p := ⟨gb244, 2, none⟩) (Kd.N_far (p := ⟨gb244, 1, none⟩) (Kd.N_far (p := ⟨gb244, 0, none⟩) (Kd.N_mono HO_5.out (fun k_ hk => (⟨hk, hk.2⟩ : _ ∧ k_ ≠ gb244))) (fun _ hk => hk.2) (.string ((rd_T79 l0_2 x39_1).f0))) (fun _ hk => hk.2) (.int .i64 ((rd_T79 l0_2 x39_1).f1.f0))) (fun _ hk => hk.2) (.int .u64 ((rd_T79 l0_2 x39_1).f1.f1))) (fun _ hk => hk.2) (.int .u64 ((rd_T79 l0_2 x39_1).f1.f2))) (fun _ hk => hk.2) (.int .u64 ((rd_T79 l0_2 x39_1).f1.f3))) (fun _ hk => hk.2) (.int .u64 ((rd_T79 l0_2 x39_1).f1.f4))) (fun _ hk => hk.2) (.int .u64 ((rd_T79 l0_2 x39_1).f2.f0))) (fun _ hk => hk.2) (.int .u64 ((rd_T79 l0_2 x39_1).f2.f1))) (fun _ hk => hk.2) (.int .u64 ((rd_T79 l0_2 x39_1).f2.f2))) (fun _ h_ => h_.1))) (Kd.R_base ho0) hb); have n1_ := Aside0.mk (Kd.R_lower ho0 (below_size (bw HB))); have n2_ := bb BK229 hb; have n3_ := Aside0.mk (blk_below (g := gb244) (o := .cells #[.string ((rd_T79 l0_2 x39_1).f0), .int .i64 ((rd_T79 l0_2 x39_1).f1.f0), .int .u64 ((rd_T79 l0_2 x39_1).f1.f1), .int .u64 ((rd_T79 l0_2 x39_1).f1.f2), .int .u64 ((rd_T79 l0_2 x39_1).f1.f3), .int .u64 ((rd_T79 l0_2 x39_1).f1.f4), .int .u64 ((rd_T79 l0_2 x39_1).f2.f0), .int .u64 ((rd_T79 l0_2 x39_1).f2.f1), .int .u64 ((rd_T79 l0_2 x39_1).f2.f2)] 79 (0, 0)) (by (with_reducible repeat (first | refine blk_drewN ?_ _ | refine blk_drew ?_ | refine blk_alloc ?_ _)); refine blk_put (cs := #[.string ((rd_T79 l0_2 x39_1).f0), .int .i64 ((rd_T79 l0_2 x39_1).f1.f0), .int .u64 ((rd_T79 l0_2 x39_1).f1.f1), .int .u64 ((rd_T79 l0_2 x39_1).f1.f2), .int .u64 ((rd_T79 l0_2 x39_1).f1.f3), .int .u64 ((rd_T79 l0_2 x39_1).f1.f4), .int .u64 ((rd_T79 l0_2 x39_1).f2.f0), .int .u64 ((rd_T79 l0_2 x39_1).f2.f1), .int .u64 0]) ?_ 8 _ rfl; (with_reducible repeat (first | refine blk_drewN ?_ _ | refine blk_drew ?_ | refine blk_alloc ?_ _)); refine blk_put (cs := #[.string ((rd_T79 l0_2 x39_1).f0), .int .i64 ((rd_T79 l0_2 x39_1).f1.f0), .int .u64 ((rd_T79 l0_2 x39_1).f1.f1), .int .u64 ((rd_T79 l0_2 x39_1).f1.f2), .int .u64 ((rd_T79 l0_2 x39_1).f1.f3), .int .u64 ((rd_T79 l0_2 x39_1).f1.f4), .int .u64 ((rd_T79 l0_2 x39_1).f2.f0), .int .u64 0, .int .u64 0]) ?_ 7 _ rfl; (with_reducible repeat (first | refine blk_drewN ?_ _ | refine blk_drew ?_ | refine blk_alloc ?_ _)); refine blk_put (cs := #[.string ((rd_T79 l0_2 x39_1).f0), .int .i64 ((rd_T79 l0_2 x39_1).f1.f0), .int .u64 ((rd_T79 l0_2 x39_1).f1.f1), .int .u64 ((rd_T79 l0_2 x39_1).f1.f2), .int .u64 ((rd_T79 l0_2 x39_1).f1.f3), .int .u64 ((rd_T79 l0_2 x39_1).f1.f4), .int .u64 0, .int .u64 0, .int .u64 0]) ?_ 6 _ rfl; (with_reducible repeat (first | refine blk_drewN ?_ _ | refine blk_drew ?_ | refine blk_alloc ?_ _)); refine blk_put (cs := #[.string ((rd_T79 l0_2 x39_1).f0), .int .i64 ((rd_T79 l0_2 x39_1).f1.f0), .int .u64 ((rd_T79 l0_2 x39_1).f1.f1), .int .u64 ((rd_T79 l0_2 x39_1).f1.f2), .int .u64 ((rd_T79 l0_2 x39_1).f1.f3), .int .u64 0, .int .u64 0, .int .u64 0, .int .u64 0]) ?_ 5 _ rfl; (with_reducible repeat (first | refine blk_drewN ?_ _ | refine blk_drew ?_ | refine blk_alloc ?_ _)); refine blk_put (cs := #[.string ((rd_T79 l0_2 x39_1).f0), .int .i64 ((rd_T79 l0_2 x39_1).f1.f0), .int .u64 ((rd_T79 l0_2 x39_1).f1.f1), .int .u64 ((rd_T79 l0_2 x39_1).f1.f2), .int .u64 0, .int .u64 0, .int .u64 0, .int .u64 0, .int .u64 0]) ?_ 4 _ rfl; (with_reducible repeat (first | refine blk_drewN ?_ _ | refine blk_drew ?_ | refine blk_alloc ?_ _)); refine blk_put (cs := #[.string ((rd_T79 l0_2 x39_1).f0), .int .i64 ((rd_T79 l0_2 x39_1).f1.f0), .int .u64 ((rd_T79 l0_2 x39_1).f1.f1), .int .u64 0, .int .u64 0, .int .u64 0, .int .u64 0, .int .u64 0, .int .u64 0]) ?_ 3 _ rfl; (with_reducible repeat (first | refine blk_drewN ?_ _ | refine blk_drew ?_ | refine blk_alloc ?_ _)); refine blk_put (cs := #[.string ((rd_T79 l0_2 x39_1).f0), .int .i64 ((rd_T79 l0_2 x39_1).f1.f0), .int .u64 0, .int .u64 0, .int .u64 0, .int .u64 0, .int .u64 0, .int .u64 0, .int .u64 0]) ?_ 2 _ rfl; (with_reducible repeat (first | refine blk_drewN ?_ _ | refine blk_drew ?_ | refine blk_alloc ?_ _)); refine blk_put (cs := #[.string ((rd_T79 l0_2 x39_1).f0), .int .i64 0, .int .u64 0, .int .u64 0, .int .u64 0, .int .u64 0, .int .u64 0, .int .u64 0, .int .u64 0]) ?_ 1 _ rfl; (with_reducible repeat (first | refine blk_drewN ?_ _ | refine blk_drew ?_ | refine blk_alloc ?_ _)); refine blk_put (cs := #[.string (⟨#[]⟩ : ByteArray), .int .i64 0, .int .u64 0, .int .u64 0, .int .u64 0, .int .u64 0, .int .u64 0, .int .u64 0, .int .u64 0]) ?_ 0 _ rfl; (with_reducible repeat (first | refine blk_drewN ?_ _ | refine blk_drew ?_ | refine blk_alloc ?_ _)); exact BK244.out) hb); have n4_ := bs HB hb; clear HO_5; clear BK229; clear BK244; clear HB; have HO_5 := n0_; have HO248 := n1_; have BK229 := n2_; have BK244 := n3_; have HB := n4_; clear n0_ n1_ n2_ n3_ n4_; (try clear hb); (try clear hb2); (try clear hk); (try clear hi); (try clear ho0); have hcz34_0 : w33.cell? ⟨gb244, 0, none⟩ = some (.string ((rd_T79 l0_2 x39_1).f0)) := (blk_cell BK244.out 0).trans rfl; have hcz34_1 : w33.cell? ⟨gb244, 1, none⟩ = some (.int .i64 ((rd_T79 l0_2 x39_1).f1.f0)) := (blk_cell BK244.out 1).trans rfl; have hcz34_2 : w33.cell? ⟨gb244, 2, none⟩ = some (.int .u64 ((rd_T79 l0_2 x39_1).f1.f1)) := (blk_cell BK244.out 2).trans rfl; have hcz34_3 : w33.cell? ⟨gb244, 3, none⟩ = some (.int .u64 ((rd_T79 l0_2 x39_1).f1.f2)) := (blk_cell BK244.out 3).trans rfl; have hcz34_4 : w33.cell? ⟨gb244, 4, none⟩ = some (.int .u64 ((rd_T79 l0_2 x39_1).f1.f3)) := (blk_cell BK244.out 4).trans rfl; have hcz34_5 : w33.cell? ⟨gb244, 5, none⟩ = some (.int .u64 ((rd_T79 l0_2 x39_1).f1.f4)) := (blk_cell BK244.out 5).trans rfl; have hcz34_6 : w33.cell? ⟨gb244, 6, none⟩ = some (.int .u64 ((rd_T79 l0_2 x39_1).f2.f0)) := (blk_cell BK244.out 6).trans rfl; have hcz34_7 : w33.cell? ⟨gb244, 7, none⟩ = some (.int .u64 ((rd_T79 l0_2 x39_1).f2.f1)) := (blk_cell BK244.out 7).trans rfl; have hcz34_8 : w33.cell? ⟨gb244, 8, none⟩ = some (.int .u64 ((rd_T79 l0_2 x39_1).f2.f2)) := (blk_cell BK244.out 8).trans rfl; have hfz34_0 := blk_frozen BK244.out 0; have hfz34_1 := blk_frozen BK244.out 1; have hfz34_2 := blk_frozen BK244.out 2; have hfz34_3 := blk_frozen BK244.out 3; have hfz34_4 := blk_frozen BK244.out 4; have hfz34_5 := blk_frozen BK244.out 5; have hfz34_6 := blk_frozen BK244.out 6; have hfz34_7 := blk_frozen BK244.out 7; have hfz34_8 := blk_frozen BK244.out 8) | ((with_reducible refine gate_dst (N := 50) rfl ?_); refine nen_err t246 (b := (t246 != 0)) ?_ rfl (of_decide_eq_true (by first | (with_reducible assumption) | assumption))) | ((with_reducible refine gate_builtin (b := .append) (xs := #[.tmp 52, .tmp 57]) rfl ?_); at_builtin; refine Kd.R_append (Kd.int .u8) (w0 := w) w.heap.size rfl (.tmp 52) (.tmp 57) 33 5 (.int .u8 0) 1 rfl Tryd.underlying33 info5 rfl (by decide) (by omega) v247 t245 (((rd_T79 l0_2 x39_1).f1.f0) % 256) [.int .u8 (((rd_T79 l0_2 x39_1).f1.f0) % 256)] (fun _ => True) (fun _ => False) rfl rfl ?aP (fun _ hk => hk.elim) ?aF ?aO ?aB ?aS ?aL ?_; (case aP => exact rfl); (case aB => exact (bw HB)); (case aF => exact (fun _ _ => trivial)); (case aO => exact (ro HO248)); (case aS => exact (below_size (bw HB))); (case aL => have := LMc28.out; omega); intro v250 w35 ho hb hg hat; rw [← Ny249.out] at ho; have n0_ := Aside0.mk (Kd.N_afterv (ok := (fun k_ => k_ ≠ gb229 ∧ k_ ≠ gb244)) (no HO_5) hg hat); have n1_ := Aside0.mk (blk_grown (g := gb229) (o := .cells #[.int .u64 a0_0, .int .u64 a0_1, .slice (some ad243) l0_2.length c0_2] 51 (0, 0)) (bk BK229) hg (Kd.R_ne HO248.out BK229.out (by decide))); have n2_ := Aside0.mk (blk_grown (g := gb244) (o := .cells #[.string ((rd_T79 l0_2 x39_1).f0), .int .i64 ((rd_T79 l0_2 x39_1).f1.f0), .int .u64 ((rd_T79 l0_2 x39_1).f1.f1), .int .u64 ((rd_T79 l0_2 x39_1).f1.f2), .int .u64 ((rd_T79 l0_2 x39_1).f1.f3), .int .u64 ((rd_T79 l0_2 x39_1).f1.f4), .int .u64 ((rd_T79 l0_2 x39_1).f2.f0), .int .u64 ((rd_T79 l0_2 x39_1).f2.f1), .int .u64 ((rd_T79 l0_2 x39_1).f2.f2)] 79 (0, 0)) (bk BK244) hg (Kd.R_ne HO248.out BK244.out (by decide))); have n3_ := Aside0.mk (hb); have n4_ := Aside0.mk (ho); clear HO_5; clear BK229; clear BK244; clear HB; clear HO248; have HO_5 := n0_; have BK229 := n1_; have BK244 := n2_; have HB := n3_; have HO251 := n4_; clear n0_ n1_ n2_ n3_ n4_; clear ho hb hg hat; have hcz36_0 : w35.cell? ⟨gb244, 0, none⟩ = some (.string ((rd_T79 l0_2 x39_1).f0)) := (blk_cell BK244.out 0).trans rfl; have hcz36_1 : w35.cell? ⟨gb244, 1, none⟩ = some (.int .i64 ((rd_T79 l0_2 x39_1).f1.f0)) := (blk_cell BK244.out 1).trans rfl; have hcz36_2 : w35.cell? ⟨gb244, 2, none⟩ = some (.int .u64 ((rd_T79 l0_2 x39_1).f1.f1)) := (blk_cell BK244.out 2).trans rfl; have hcz36_3 : w35.cell? ⟨gb244, 3, none⟩ = some (.int .u64 ((rd_T79 l0_2 x39_1).f1.f2)) := (blk_cell BK244.out 3).trans rfl; have hcz36_4 : w35.cell? ⟨gb244, 4, none⟩ = some (.int .u64 ((rd_T79 l0_2 x39_1).f1.f3)) := (blk_cell BK244.out 4).trans rfl; have hcz36_5 : w35.cell? ⟨gb244, 5, none⟩ = some (.int .u64 ((rd_T79 l0_2 x39_1).f1.f4)) := (blk_cell BK244.out 5).trans rfl; have hcz36_6 : w35.cell? ⟨gb244, 6, none⟩ = some (.int .u64 ((rd_T79 l0_2 x39_1).f2.f0)) := (blk_cell BK244.out 6).trans rfl; have hcz36_7 : w35.cell? ⟨gb244, 7, none⟩ = some (.int .u64 ((rd_T79 l0_2 x39_1).f2.f1)) := (blk_cell BK244.out 7).trans rfl; have hcz36_8 : w35.cell? ⟨gb244, 8, none⟩ = some (.int .u64 ((rd_T79 l0_2 x39_1).f2.f2)) := (blk_cell BK244.out 8).trans rfl; have hfz36_0 := blk_frozen BK244.out 0; have hfz36_1 := blk_frozen BK244.out 1; have hfz36_2 := blk_frozen BK244.out 2; have hfz36_3 := blk_frozen BK244.out 3; have hfz36_4 := blk_frozen BK244.out 4; have hfz36_5 := blk_frozen BK244.out 5; have hfz36_6 := blk_frozen BK244.out 6; have hfz36_7 := blk_frozen BK244.out 7; have hfz36_8 := blk_frozen BK244.out 8) | ((with_reducible refine gate_dst (N := 68) rfl ?_); refine Kd.R_lit (Kd.int .u64) _ 26 ?hg (N := 68) ?hd (xs := ([(rd_T79 l0_2 x39_1).f1.f1, (rd_T79 l0_2 x39_1).f1.f2, (rd_T79 l0_2 x39_1).f2.f0] : List Int)) (inner := [.int .u64 ((rd_T79 l0_2 x39_1).f1.f1), .int .u64 ((rd_T79 l0_2 x39_1).f1.f2), .int .u64 ((rd_T79 l0_2 x39_1).f2.f0)]) (ok := fun _ => True) (okp := fun _ => True) ?hr ?hp (fun _ hk => hk) trivial (Below.refl _ _) (Nat.le_refl _) (by simp) ?_; (case hd => rfl); (case hg => rfl); (case hr => first | (go_simp; done) | (go_simp; rfl)); (case hp => exact (Reps.one (show Kd.M (Kd.int .u64) _ _ _ ((rd_T79 l0_2 x39_1).f1.f1) [.int .u64 ((rd_T79 l0_2 x39_1).f1.f1)] from rfl) (Reps.one (show Kd.M (Kd.int .u64) _ _ _ ((rd_T79 l0_2 x39_1).f1.f2) [.int .u64 ((rd_T79 l0_2 x39_1).f1.f2)] from rfl) (Reps.one (show Kd.M (Kd.int .u64) _ _ _ ((rd_T79 l0_2 x39_1).f2.f0) [.int .u64 ((rd_T79 l0_2 x39_1).f2.f0)] from rfl) (Reps.none _ _))))); intro v253 w37 ho38 hb hg_ hnew_; clear hg_ hnew_; (first | rw [← Ny252.out] at ho38 | (simp only [Int.reduceToNat] at ho38; rw [← Ny252.out] at ho38)); have n0_ := Aside0.mk (Kd.N_elder' (no HO_5) (Kd.R_base ho38) hb); have n1_ := Aside0.mk (Kd.R_below (ro HO251) hb); have n2_ := Aside0.mk (Kd.R_lower ho38 (below_size (bw HB))); have n3_ := bb BK229 hb; have n4_ := bb BK244 hb; have n5_ := bs HB hb; clear HO_5; clear HO251; clear BK229; clear BK244; clear HB; have HO_5 := n0_; have HO251 := n1_; have HO254 := n2_; have BK229 := n3_; have BK244 := n4_; have HB := n5_; clear n0_ n1_ n2_ n3_ n4_ n5_; clear hb ho38; have hcz39_0 : w37.cell? ⟨gb244, 0, none⟩ = some (.string ((rd_T79 l0_2 x39_1).f0)) := (blk_cell BK244.out 0).trans rfl; have hcz39_1 : w37.cell? ⟨gb244, 1, none⟩ = some (.int .i64 ((rd_T79 l0_2 x39_1).f1.f0)) := (blk_cell BK244.out 1).trans rfl; have hcz39_2 : w37.cell? ⟨gb244, 2, none⟩ = some (.int .u64 ((rd_T79 l0_2 x39_1).f1.f1)) := (blk_cell BK244.out 2).trans rfl; have hcz39_3 : w37.cell? ⟨gb244, 3, none⟩ = some (.int .u64 ((rd_T79 l0_2 x39_1).f1.f2)) := (blk_cell BK244.out 3).trans rfl; have hcz39_4 : w37.cell? ⟨gb244, 4, none⟩ = some (.int .u64 ((rd_T79 l0_2 x39_1).f1.f3)) := (blk_cell BK244.out 4).trans rfl; have hcz39_5 : w37.cell? ⟨gb244, 5, none⟩ = some (.int .u64 ((rd_T79 l0_2 x39_1).f1.f4)) := (blk_cell BK244.out 5).trans rfl; have hcz39_6 : w37.cell? ⟨gb244, 6, none⟩ = some (.int .u64 ((rd_T79 l0_2 x39_1).f2.f0)) := (blk_cell BK244.out 6).trans rfl; have hcz39_7 : w37.cell? ⟨gb244, 7, none⟩ = some (.int .u64 ((rd_T79 l0_2 x39_1).f2.f1)) := (blk_cell BK244.out 7).trans rfl; have hcz39_8 : w37.cell? ⟨gb244, 8, none⟩ = some (.int .u64 ((rd_T79 l0_2 x39_1).f2.f2)) := (blk_cell BK244.out 8).trans rfl; have hfz39_0 := blk_frozen BK244.out 0; have hfz39_1 := blk_frozen BK244.out 1; have hfz39_2 := blk_frozen BK244.out 2; have hfz39_3 := blk_frozen BK244.out 3; have hfz39_4 := blk_frozen BK244.out 4; have hfz39_5 := blk_frozen BK244.out 5; have hfz39_6 := blk_frozen BK244.out 6; have hfz39_7 := blk_frozen BK244.out 7; have hfz39_8 := blk_frozen BK244.out 8)); go_upto_if 72 with (first | ((with_reducible refine gate_dst (N := 7) rfl ?_); refine bx 7 #[.string (⟨#[]⟩ : ByteArray), .int .i64 0, .int .u64 0, .int .u64 0, .int .u64 0, .int .u64 0, .int .u64 0, .int .u64 0, .int .u64 0] 79 ?_; intro gb244 hg w30 hbox hb; have n0_ := Aside0.mk (Kd.N_below (Kd.N_elderB (no HO_5) gb244 (Nat.le_of_eq hg.symm)) hb); have n1_ := bb BK229 hb; have n2_ := bs HB hb; have n3_ := Aside0.mk (hbox); have n4_ := sz HB hg; have n5_ := sz HB hg; have n6_ := nl BK229 hg; have n7_ := nr BK229 hg; clear HO_5; clear BK229; clear HB; have HO_5 := n0_; have BK229 := n1_; have HB := n2_; have BK244 := n3_; have GW244 := n4_; have GE244 := n5_; have NB229_244 := n6_; have NB244_229 := n7_; clear n0_ n1_ n2_ n3_ n4_ n5_ n6_ n7_; clear hb hbox hg; have hnb31 := NB244_229.out; have hnc31 := NB229_244.out; have hcz32_0 : w30.cell? ⟨gb244, 0, none⟩ = some (.string (⟨#[]⟩ : ByteArray)) := (blk_cell BK244.out 0).trans rfl; have hcz32_1 : w30.cell? ⟨gb244, 1, none⟩ = some (.int .i64 0) := (blk_cell BK244.out 1).trans rfl; have hcz32_2 : w30.cell? ⟨gb244, 2, none⟩ = some (.int .u64 0) := (blk_cell BK244.out 2).trans rfl; have hcz32_3 : w30.cell? ⟨gb244, 3, none⟩ = some (.int .u64 0) := (blk_cell BK244.out 3).trans rfl; have hcz32_4 : w30.cell? ⟨gb244, 4, none⟩ = some (.int .u64 0) := (blk_cell BK244.out 4).trans rfl; have hcz32_5 : w30.cell? ⟨gb244, 5, none⟩ = some (.int .u64 0) := (blk_cell BK244.out 5).trans rfl; have hcz32_6 : w30.cell? ⟨gb244, 6, none⟩ = some (.int .u64 0) := (blk_cell BK244.out 6).trans rfl; have hcz32_7 : w30.cell? ⟨gb244, 7, none⟩ = some (.int .u64 0) := (blk_cell BK244.out 7).trans rfl; have hcz32_8 : w30.cell? ⟨gb244, 8, none⟩ = some (.int .u64 0) := (blk_cell BK244.out 8).trans rfl; have hfz32_0 := blk_frozen BK244.out 0; have hfz32_1 := blk_frozen BK244.out 1; have hfz32_2 := blk_frozen BK244.out 2; have hfz32_3 := blk_frozen BK244.out 3; have hfz32_4 := blk_frozen BK244.out 4; have hfz32_5 := blk_frozen BK244.out 5; have hfz32_6 := blk_frozen BK244.out 6; have hfz32_7 := blk_frozen BK244.out 7; have hfz32_8 := blk_frozen BK244.out 8) | (go_at_call 36; (refine (pack_PutText.calls _ _ ([] : List Int) ((rd_T79 l0_2 x39_1).f0) t245 t246 _ ?side3 ?side1 ?side2 A25.out).mono ?_); (case side1 => exact Kd.C_nil _ _); (case side2 => exact Nat.le_refl _); (case side3 => exact (HERR.out.below (bw HB))); rintro e w33 ⟨v247, rfl, ho0, hb⟩; have n0_ := Aside0.mk (Kd.N_elder' (by (with_reducible repeat (first | apply Kd.N_alloc | apply Kd.N_drewN | apply Kd.N_drew)); exact (Kd.N_mono (Kd.N_far (p := ⟨gb244, 8, none⟩) (Kd.N_far (p := ⟨gb244, 7, none⟩) (Kd.N_far (p := ⟨gb244, 6, none⟩) (Kd.N_far (p := ⟨gb244, 5, none⟩) (Kd.N_far (p := ⟨gb244, 4, none⟩) (Kd.N_far (p := ⟨gb244, 3, none⟩) (Kd.N_far (p := ⟨gb244, 2, none⟩) (Kd.N_far (p := ⟨gb244, 1, none⟩) (Kd.N_far (p := ⟨gb244, 0, none⟩) (Kd.N_mono HO_5.out (fun k_ hk => (⟨hk, hk.2⟩ : _ ∧ k_ ≠ gb244))) (fun _ hk => hk.2) (.string ((rd_T79 l0_2 x39_1).f0))) (fun _ hk => hk.2) (.int .i64 ((rd_T79 l0_2 x39_1).f1.f0))) (fun _ hk => hk.2) (.int .u64 ((rd_T79 l0_2 x39_1).f1.f1))) (fun _ hk => hk.2) (.int .u64 ((rd_T79 l0_2 x39_1).f1.f2))) (fun _ hk => hk.2) (.int .u64 ((rd_T79 l0_2 x39_1).f1.f3))) (fun _ hk => hk.2) (.int .u64 ((rd_T79 l0_2 x39_1).f1.f4))) (fun _ hk => hk.2) (.int .u64 ((rd_T79 l0_2 x39_1).f2.f0))) (fun _ hk => hk.2) (.int .u64 ((rd_T79 l0_2 x39_1).f2.f1))) (fun _ hk => hk.2) (.int .u64 ((rd_T79 l0_2 x39_1).f2.f2))) (fun _ h_ => h_.1))) (Kd.R_base ho0) hb); have n1_ := Aside0.mk (Kd.R_lower ho0 (below_size (bw HB))); have n2_ := bb BK229 hb; have n3_ := Aside0.mk (blk_below (g := gb244) (o := .cells #[.string ((rd_T79 l0_2 x39_1).f0), .int .i64 ((rd_T79 l0_2 x39_1).f1.f0), .int .u64 ((rd_T79 l0_2 x39_1).f1.f1), .int .u64 ((rd_T79 l0_2 x39_1).f1.f2), .int .u64 ((rd_T79 l0_2 x39_1).f1.f3), .int .u64 ((rd_T79 l0_2 x39_1).f1.f4), .int .u64 ((rd_T79 l0_2 x39_1).f2.f0), .int .u64 ((rd_T79 l0_2 x39_1).f2.f1), .int .u64 ((rd_T79 l0_2 x39_1).f2.f2)] 79 (0, 0)) (by (with_reducible repeat (first | refine blk_drewN ?_ _ | refine blk_drew ?_ | refine blk_alloc ?_ _)); refine blk_put (cs := #[.string ((rd_T79 l0_2 x39_1).f0), .int .i64 ((rd_T79 l0_2 x39_1).f1.f0), .int .u64 ((rd_T79 l0_2 x39_1).f1.f1), .int .u64 ((rd_T79 l0_2 x39_1).f1.f2), .int .u64 ((rd_T79 l0_2 x39_1).f1.f3), .int .u64 ((rd_T79 l0_2 x39_1).f1.f4), .int .u64 ((rd_T79 l0_2 x39_1).f2.f0), .int .u64 ((rd_T79 l0_2 x39_1).f2.f1), .int .u64 0]) ?_ 8 _ rfl; (with_reducible repeat (first | refine blk_drewN ?_ _ | refine blk_drew ?_ | refine blk_alloc ?_ _)); refine blk_put (cs := #[.string ((rd_T79 l0_2 x39_1).f0), .int .i64 ((rd_T79 l0_2 x39_1).f1.f0), .int .u64 ((rd_T79 l0_2 x39_1).f1.f1), .int .u64 ((rd_T79 l0_2 x39_1).f1.f2), .int .u64 ((rd_T79 l0_2 x39_1).f1.f3), .int .u64 ((rd_T79 l0_2 x39_1).f1.f4), .int .u64 ((rd_T79 l0_2 x39_1).f2.f0), .int .u64 0, .int .u64 0]) ?_ 7 _ rfl; (with_reducible repeat (first | refine blk_drewN ?_ _ | refine blk_drew ?_ | refine blk_alloc ?_ _)); refine blk_put (cs := #[.string ((rd_T79 l0_2 x39_1).f0), .int .i64 ((rd_T79 l0_2 x39_1).f1.f0), .int .u64 ((rd_T79 l0_2 x39_1).f1.f1), .int .u64 ((rd_T79 l0_2 x39_1).f1.f2), .int .u64 ((rd_T79 l0_2 x39_1).f1.f3), .int .u64 ((rd_T79 l0_2 x39_1).f1.f4), .int .u64 0, .int .u64 0, .int .u64 0]) ?_ 6 _ rfl; (with_reducible repeat (first | refine blk_drewN ?_ _ | refine blk_drew ?_ | refine blk_alloc ?_ _)); refine blk_put (cs := #[.string ((rd_T79 l0_2 x39_1).f0), .int .i64 ((rd_T79 l0_2 x39_1).f1.f0), .int .u64 ((rd_T79 l0_2 x39_1).f1.f1), .int .u64 ((rd_T79 l0_2 x39_1).f1.f2), .int .u64 ((rd_T79 l0_2 x39_1).f1.f3), .int .u64 0, .int .u64 0, .int .u64 0, .int .u64 0]) ?_ 5 _ rfl; (with_reducible repeat (first | refine blk_drewN ?_ _ | refine blk_drew ?_ | refine blk_alloc ?_ _)); refine blk_put (cs := #[.string ((rd_T79 l0_2 x39_1).f0), .int .i64 ((rd_T79 l0_2 x39_1).f1.f0), .int .u64 ((rd_T79 l0_2 x39_1).f1.f1), .int .u64 ((rd_T79 l0_2 x39_1).f1.f2), .int .u64 0, .int .u64 0, .int .u64 0, .int .u64 0, .int .u64 0]) ?_ 4 _ rfl; (with_reducible repeat (first | refine blk_drewN ?_ _ | refine blk_drew ?_ | refine blk_alloc ?_ _)); refine blk_put (cs := #[.string ((rd_T79 l0_2 x39_1).f0), .int .i64 ((rd_T79 l0_2 x39_1).f1.f0), .int .u64 ((rd_T79 l0_2 x39_1).f1.f1), .int .u64 0, .int .u64 0, .int .u64 0, .int .u64 0, .int .u64 0, .int .u64 0]) ?_ 3 _ rfl; (with_reducible repeat (first | refine blk_drewN ?_ _ | refine blk_drew ?_ | refine blk_alloc ?_ _)); refine blk_put (cs := #[.string ((rd_T79 l0_2 x39_1).f0), .int .i64 ((rd_T79 l0_2 x39_1).f1.f0), .int .u64 0, .int .u64 0, .int .u64 0, .int .u64 0, .int .u64 0, .int .u64 0, .int .u64 0]) ?_ 2 _ rfl; (with_reducible repeat (first | refine blk_drewN ?_ _ | refine blk_drew ?_ | refine blk_alloc ?_ _)); refine blk_put (cs := #[.string ((rd_T79 l0_2 x39_1).f0), .int .i64 0, .int .u64 0, .int .u64 0, .int .u64 0, .int .u64 0, .int .u64 0, .int .u64 0, .int .u64 0]) ?_ 1 _ rfl; (with_reducible repeat (first | refine blk_drewN ?_ _ | refine blk_drew ?_ | refine blk_alloc ?_ _)); refine blk_put (cs := #[.string (⟨#[]⟩ : ByteArray), .int .i64 0, .int .u64 0, .int .u64 0, .int .u64 0, .int .u64 0, .int .u64 0, .int .u64 0, .int .u64 0]) ?_ 0 _ rfl; (with_reducible repeat (first | refine blk_drewN ?_ _ | refine blk_drew ?_ | refine blk_alloc ?_ _)); exact BK244.out) hb); have n4_ := bs HB hb; clear HO_5; clear BK229; clear BK244; clear HB; have HO_5 := n0_; have HO248 := n1_; have BK229 := n2_; have BK244 := n3_; have HB := n4_; clear n0_ n1_ n2_ n3_ n4_; (try clear hb); (try clear hb2); (try clear hk); (try clear hi); (try clear ho0); have hcz34_0 : w33.cell? ⟨gb244, 0, none⟩ = some (.string ((rd_T79 l0_2 x39_1).f0)) := (blk_cell BK244.out 0).trans rfl; have hcz34_1 : w33.cell? ⟨gb244, 1, none⟩ = some (.int .i64 ((rd_T79 l0_2 x39_1).f1.f0)) := (blk_cell BK244.out 1).trans rfl; have hcz34_2 : w33.cell? ⟨gb244, 2, none⟩ = some (.int .u64 ((rd_T79 l0_2 x39_1).f1.f1)) := (blk_cell BK244.out 2).trans rfl; have hcz34_3 : w33.cell? ⟨gb244, 3, none⟩ = some (.int .u64 ((rd_T79 l0_2 x39_1).f1.f2)) := (blk_cell BK244.out 3).trans rfl; have hcz34_4 : w33.cell? ⟨gb244, 4, none⟩ = some (.int .u64 ((rd_T79 l0_2 x39_1).f1.f3)) := (blk_cell BK244.out 4).trans rfl; have hcz34_5 : w33.cell? ⟨gb244, 5, none⟩ = some (.int .u64 ((rd_T79 l0_2 x39_1).f1.f4)) := (blk_cell BK244.out 5).trans rfl; have hcz34_6 : w33.cell? ⟨gb244, 6, none⟩ = some (.int .u64 ((rd_T79 l0_2 x39_1).f2.f0)) := (blk_cell BK244.out 6).trans rfl; have hcz34_7 : w33.cell? ⟨gb244, 7, none⟩ = some (.int .u64 ((rd_T79 l0_2 x39_1).f2.f1)) := (blk_cell BK244.out 7).trans rfl; have hcz34_8 : w33.cell? ⟨gb244, 8, none⟩ = some (.int .u64 ((rd_T79 l0_2 x39_1).f2.f2)) := (blk_cell BK244.out 8).trans rfl; have hfz34_0 := blk_frozen BK244.out 0; have hfz34_1 := blk_frozen BK244.out 1; have hfz34_2 := blk_frozen BK244.out 2; have hfz34_3 := blk_frozen BK244.out 3; have hfz34_4 := blk_frozen BK244.out 4; have hfz34_5 := blk_frozen BK244.out 5; have hfz34_6 := blk_frozen BK244.out 6; have hfz34_7 := blk_frozen BK244.out 7; have hfz34_8 := blk_frozen BK244.out 8) | ((with_reducible refine gate_dst (N := 50) rfl ?_); refine nen_err t246 (b := (t246 != 0)) ?_ rfl (of_decide_eq_true (by first | (with_reducible assumption) | assumption))) | ((with_reducible refine gate_builtin (b := .append) (xs := #[.tmp 52, .tmp 57]) rfl ?_); at_builtin; refine Kd.R_append (Kd.int .u8) (w0 := w) w.heap.size rfl (.tmp 52) (.tmp 57) 33 5 (.int .u8 0) 1 rfl Tryd.underlying33 info5 rfl (by decide) (by omega) v247 t245 (((rd_T79 l0_2 x39_1).f1.f0) % 256) [.int .u8 (((rd_T79 l0_2 x39_1).f1.f0) % 256)] (fun _ => True) (fun _ => False) rfl rfl ?aP (fun _ hk => hk.elim) ?aF ?aO ?aB ?aS ?aL ?_; (case aP => exact rfl); (case aB => exact (bw HB)); (case aF => exact (fun _ _ => trivial)); (case aO => exact (ro HO248)); (case aS => exact (below_size (bw HB))); (case aL => have := LMc28.out; omega); intro v250 w35 ho hb hg hat; rw [← Ny249.out] at ho; have n0_ := Aside0.mk (Kd.N_afterv (ok := (fun k_ => k_ ≠ gb229 ∧ k_ ≠ gb244)) (no HO_5) hg hat); have n1_ := Aside0.mk (blk_grown (g := gb229) (o := .cells #[.int .u64 a0_0, .int .u64 a0_1, .slice (some ad243) l0_2.length c0_2] 51 (0, 0)) (bk BK229) hg (Kd.R_ne HO248.out BK229.out (by decide))); have n2_ := Aside0.mk (blk_grown (g := gb244) (o := .cells #[.string ((rd_T79 l0_2 x39_1).f0), .int .i64 ((rd_T79 l0_2 x39_1).f1.f0), .int .u64 ((rd_T79 l0_2 x39_1).f1.f1), .int .u64 ((rd_T79 l0_2 x39_1).f1.f2), .int .u64 ((rd_T79 l0_2 x39_1).f1.f3), .int .u64 ((rd_T79 l0_2 x39_1).f1.f4), .int .u64 ((rd_T79 l0_2 x39_1).f2.f0), .int .u64 ((rd_T79 l0_2 x39_1).f2.f1), .int .u64 ((rd_T79 l0_2 x39_1).f2.f2)] 79 (0, 0)) (bk BK244) hg (Kd.R_ne HO248.out BK244.out (by decide))); have n3_ := Aside0.mk (hb); have n4_ := Aside0.mk (ho); clear HO_5; clear BK229; clear BK244; clear HB; clear HO248; have HO_5 := n0_; have BK229 := n1_; have BK244 := n2_; have HB := n3_; have HO251 := n4_; clear n0_ n1_ n2_ n3_ n4_; clear ho hb hg hat; have hcz36_0 : w35.cell? ⟨gb244, 0, none⟩ = some (.string ((rd_T79 l0_2 x39_1).f0)) := (blk_cell BK244.out 0).trans rfl; have hcz36_1 : w35.cell? ⟨gb244, 1, none⟩ = some (.int .i64 ((rd_T79 l0_2 x39_1).f1.f0)) := (blk_cell BK244.out 1).trans rfl; have hcz36_2 : w35.cell? ⟨gb244, 2, none⟩ = some (.int .u64 ((rd_T79 l0_2 x39_1).f1.f1)) := (blk_cell BK244.out 2).trans rfl; have hcz36_3 : w35.cell? ⟨gb244, 3, none⟩ = some (.int .u64 ((rd_T79 l0_2 x39_1).f1.f2)) := (blk_cell BK244.out 3).trans rfl; have hcz36_4 : w35.cell? ⟨gb244, 4, none⟩ = some (.int .u64 ((rd_T79 l0_2 x39_1).f1.f3)) := (blk_cell BK244.out 4).trans rfl; have hcz36_5 : w35.cell? ⟨gb244, 5, none⟩ = some (.int .u64 ((rd_T79 l0_2 x39_1).f1.f4)) := (blk_cell BK244.out 5).trans rfl; have hcz36_6 : w35.cell? ⟨gb244, 6, none⟩ = some (.int .u64 ((rd_T79 l0_2 x39_1).f2.f0)) := (blk_cell BK244.out 6).trans rfl; have hcz36_7 : w35.cell? ⟨gb244, 7, none⟩ = some (.int .u64 ((rd_T79 l0_2 x39_1).f2.f1)) := (blk_cell BK244.out 7).trans rfl; have hcz36_8 : w35.cell? ⟨gb244, 8, none⟩ = some (.int .u64 ((rd_T79 l0_2 x39_1).f2.f2)) := (blk_cell BK244.out 8).trans rfl; have hfz36_0 := blk_frozen BK244.out 0; have hfz36_1 := blk_frozen BK244.out 1; have hfz36_2 := blk_frozen BK244.out 2; have hfz36_3 := blk_frozen BK244.out 3; have hfz36_4 := blk_frozen BK244.out 4; have hfz36_5 := blk_frozen BK244.out 5; have hfz36_6 := blk_frozen BK244.out 6; have hfz36_7 := blk_frozen BK244.out 7; have hfz36_8 := blk_frozen BK244.out 8) | ((with_reducible refine gate_dst (N := 68) rfl ?_); refine Kd.R_lit (Kd.int .u64) _ 26 ?hg (N := 68) ?hd (xs := ([(rd_T79 l0_2 x39_1).f1.f1, (rd_T79 l0_2 x39_1).f1.f2, (rd_T79 l0_2 x39_1).f2.f0] : List Int)) (inner := [.int .u64 ((rd_T79 l0_2 x39_1).f1.f1), .int .u64 ((rd_T79 l0_2 x39_1).f1.f2), .int .u64 ((rd_T79 l0_2 x39_1).f2.f0)]) (ok := fun _ => True) (okp := fun _ => True) ?hr ?hp (fun _ hk => hk) trivial (Below.refl _ _) (Nat.le_refl _) (by simp) ?_; (case hd => rfl); (case hg => rfl); (case hr => first | (go_simp; done) | (go_simp; rfl)); (case hp => exact (Reps.one (show Kd.M (Kd.int .u64) _ _ _ ((rd_T79 l0_2 x39_1).f1.f1) [.int .u64 ((rd_T79 l0_2 x39_1).f1.f1)] from rfl) (Reps.one (show Kd.M (Kd.int .u64) _ _ _ ((rd_T79 l0_2 x39_1).f1.f2) [.int .u64 ((rd_T79 l0_2 x39_1).f1.f2)] from rfl) (Reps.one (show Kd.M (Kd.int .u64) _ _ _ ((rd_T79 l0_2 x39_1).f2.f0) [.int .u64 ((rd_T79 l0_2 x39_1).f2.f0)] from rfl) (Reps.none _ _))))); intro v253 w37 ho38 hb hg_ hnew_; clear hg_ hnew_; (first | rw [← Ny252.out] at ho38 | (simp only [Int.reduceToNat] at ho38; rw [← Ny252.out] at ho38)); have n0_ := Aside0.mk (Kd.N_elder' (no HO_5) (Kd.R_base ho38) hb); have n1_ := Aside0.mk (Kd.R_below (ro HO251) hb); have n2_ := Aside0.mk (Kd.R_lower ho38 (below_size (bw HB))); have n3_ := bb BK229 hb; have n4_ := bb BK244 hb; have n5_ := bs HB hb; clear HO_5; clear HO251; clear BK229; clear BK244; clear HB; have HO_5 := n0_; have HO251 := n1_; have HO254 := n2_; have BK229 := n3_; have BK244 := n4_; have HB := n5_; clear n0_ n1_ n2_ n3_ n4_ n5_; clear hb ho38; have hcz39_0 : w37.cell? ⟨gb244, 0, none⟩ = some (.string ((rd_T79 l0_2 x39_1).f0)) := (blk_cell BK244.out 0).trans rfl; have hcz39_1 : w37.cell? ⟨gb244, 1, none⟩ = some (.int .i64 ((rd_T79 l0_2 x39_1).f1.f0)) := (blk_cell BK244.out 1).trans rfl; have hcz39_2 : w37.cell? ⟨gb244, 2, none⟩ = some (.int .u64 ((rd_T79 l0_2 x39_1).f1.f1)) := (blk_cell BK244.out 2).trans rfl; have hcz39_3 : w37.cell? ⟨gb244, 3, none⟩ = some (.int .u64 ((rd_T79 l0_2 x39_1).f1.f2)) := (blk_cell BK244.out 3).trans rfl; have hcz39_4 : w37.cell? ⟨gb244, 4, none⟩ = some (.int .u64 ((rd_T79 l0_2 x39_1).f1.f3)) := (blk_cell BK244.out 4).trans rfl; have hcz39_5 : w37.cell? ⟨gb244, 5, none⟩ = some (.int .u64 ((rd_T79 l0_2 x39_1).f1.f4)) := (blk_cell BK244.out 5).trans rfl; have hcz39_6 : w37.cell? ⟨gb244, 6, none⟩ = some (.int .u64 ((rd_T79 l0_2 x39_1).f2.f0)) := (blk_cell BK244.out 6).trans rfl; have hcz39_7 : w37.cell? ⟨gb244, 7, none⟩ = some (.int .u64 ((rd_T79 l0_2 x39_1).f2.f1)) := (blk_cell BK244.out 7).trans rfl; have hcz39_8 : w37.cell? ⟨gb244, 8, none⟩ = some (.int .u64 ((rd_T79 l0_2 x39_1).f2.f2)) := (blk_cell BK244.out 8).trans rfl; have hfz39_0 := blk_frozen BK244.out 0; have hfz39_1 := blk_frozen BK244.out 1; have hfz39_2 := blk_frozen BK244.out 2; have hfz39_3 := blk_frozen BK244.out 3; have hfz39_4 := blk_frozen BK244.out 4; have hfz39_5 := blk_frozen BK244.out 5; have hfz39_6 := blk_frozen BK244.out 6; have hfz39_7 := blk_frozen BK244.out 7; have hfz39_8 := blk_frozen BK244.out 8)))
                    (try simp only [Act.put, List.setIfInBounds_toArray, List.set_cons_zero, List.set_cons_succ])
                    go_cut [10] (fun v10 wc => ∃ (kq : Nat) (x10_28 : List Int), Aside0 (image_Encode.j1 kq x5_1 y249 x10_28 l0_2 (l0_2.length : Int) x39_1 = some (r1, r2)) ∧ Aside0 (kq ≤ k1) ∧ Aside0 (Kd.N (Kd.slice 5 (Kd.int .u8)) 33 wc w.heap.size (fun k_ => some k_ ≠ (v250 : Value).ownBlock ∧ some k_ ≠ (v10 : Value).ownBlock ∧ k_ ≠ gb229 ∧ k_ ≠ gb244) u5 x5_1) ∧ Aside0 (Kd.R (Kd.int .u8) 5 wc w.heap.size (fun _ => True) v250 y249) ∧ Aside0 (Kd.R (Kd.int .u64) 26 wc w.heap.size (fun _ => True) v10 x10_28) ∧ Aside0 (wc.heap[gb229]? = some (.cells #[.int .u64 a0_0, .int .u64 a0_1, (.slice (some ad243) l0_2.length c0_2)] 51 (0, 0))) ∧ Aside0 (wc.heap[gb244]? = some (.cells #[.string ((rd_T79 l0_2 x39_1).f0), .int .i64 ((rd_T79 l0_2 x39_1).f1.f0), .int .u64 ((rd_T79 l0_2 x39_1).f1.f1), .int .u64 ((rd_T79 l0_2 x39_1).f1.f2), .int .u64 ((rd_T79 l0_2 x39_1).f1.f3), .int .u64 ((rd_T79 l0_2 x39_1).f1.f4), .int .u64 ((rd_T79 l0_2 x39_1).f2.f0), .int .u64 ((rd_T79 l0_2 x39_1).f2.f1), .int .u64 ((rd_T79 l0_2 x39_1).f2.f2)] 79 (0, 0))) ∧ Aside0 (Below w.heap.size w wc))
                    case first =>
                      have H := HC29.out
                      clear HC29
                      by_cases c40 : ((rd_T79 l0_2 x39_1).f1.f0) = 2
                      · rw [if_pos c40] at H
                        have c40b0 : (((rd_T79 l0_2 x39_1).f1.f0) == 2) = true := beq_iff_eq.mpr c40
                        have c40b1 : (((rd_T79 l0_2 x39_1).f1.f0) != 2) = false := bne_eq_false_iff_eq.mpr c40
                        clear c40
                        (first | rw [c40b0] | (simp only [i64_w, i32_w]; rw [c40b0]) | skip)
                        obtain ⟨y255, hy255⟩ : ∃ y_ : List Int, y_ = (([(rd_T79 l0_2 x39_1).f1.f3, (rd_T79 l0_2 x39_1).f1.f4, (rd_T79 l0_2 x39_1).f2.f1, (rd_T79 l0_2 x39_1).f2.f2] : List Int)) := ⟨_, rfl⟩
                        replace H : (image_Encode.j1 k1 x5_1 y249 y255 l0_2 (l0_2.length : Int) x39_1) = some (r1, r2) := by first | (rw [hy255]; with_reducible exact H) | (have H2_ := (Option.bind_some _ _).symm.trans H; rw [hy255]; with_reducible exact H2_) | (have H2_ := (Option.bind_some _ _).symm.trans H; with_reducible exact H2_) | with_reducible exact H | (rw [hy255]; exact H) | exact H
                        have Ny255 := Aside0.mk hy255
                        clear hy255
                        have H' := Aside0.mk H
                        clear H
                        have hnb41 := NB244_229.out
                        have hnc41 := NB229_244.out
                        have hcz42_0 : w37.cell? ⟨gb244, 0, none⟩ = some (.string ((rd_T79 l0_2 x39_1).f0)) := (blk_cell BK244.out 0).trans rfl
                        have hcz42_1 : w37.cell? ⟨gb244, 1, none⟩ = some (.int .i64 ((rd_T79 l0_2 x39_1).f1.f0)) := (blk_cell BK244.out 1).trans rfl
                        have hcz42_2 : w37.cell? ⟨gb244, 2, none⟩ = some (.int .u64 ((rd_T79 l0_2 x39_1).f1.f1)) := (blk_cell BK244.out 2).trans rfl
                        have hcz42_3 : w37.cell? ⟨gb244, 3, none⟩ = some (.int .u64 ((rd_T79 l0_2 x39_1).f1.f2)) := (blk_cell BK244.out 3).trans rfl
                        have hcz42_4 : w37.cell? ⟨gb244, 4, none⟩ = some (.int .u64 ((rd_T79 l0_2 x39_1).f1.f3)) := (blk_cell BK244.out 4).trans rfl
                        have hcz42_5 : w37.cell? ⟨gb244, 5, none⟩ = some (.int .u64 ((rd_T79 l0_2 x39_1).f1.f4)) := (blk_cell BK244.out 5).trans rfl
                        have hcz42_6 : w37.cell? ⟨gb244, 6, none⟩ = some (.int .u64 ((rd_T79 l0_2 x39_1).f2.f0)) := (blk_cell BK244.out 6).trans rfl
                        have hcz42_7 : w37.cell? ⟨gb244, 7, none⟩ = some (.int .u64 ((rd_T79 l0_2 x39_1).f2.f1)) := (blk_cell BK244.out 7).trans rfl
                        have hcz42_8 : w37.cell? ⟨gb244, 8, none⟩ = some (.int .u64 ((rd_T79 l0_2 x39_1).f2.f2)) := (blk_cell BK244.out 8).trans rfl
                        have hfz42_0 := blk_frozen BK244.out 0
                        have hfz42_1 := blk_frozen BK244.out 1
                        have hfz42_2 := blk_frozen BK244.out 2
                        have hfz42_3 := blk_frozen BK244.out 3
                        have hfz42_4 := blk_frozen BK244.out 4
                        have hfz42_5 := blk_frozen BK244.out 5
                        have hfz42_6 := blk_frozen BK244.out 6
                        have hfz42_7 := blk_frozen BK244.out 7
                        have hfz42_8 := blk_frozen BK244.out 8
                        go_wp2_with (first | ((with_reducible refine gate_dst (N := 85) rfl ?_); refine Kd.R_lit (Kd.int .u64) _ 26 ?hg (N := 85) ?hd (xs := ([(rd_T79 l0_2 x39_1).f1.f3, (rd_T79 l0_2 x39_1).f1.f4, (rd_T79 l0_2 x39_1).f2.f1, (rd_T79 l0_2 x39_1).f2.f2] : List Int)) (inner := [.int .u64 ((rd_T79 l0_2 x39_1).f1.f3), .int .u64 ((rd_T79 l0_2 x39_1).f1.f4), .int .u64 ((rd_T79 l0_2 x39_1).f2.f1), .int .u64 ((rd_T79 l0_2 x39_1).f2.f2)]) (ok := fun _ => True) (okp := fun _ => True) ?hr ?hp (fun _ hk => hk) trivial (Below.refl _ _) (Nat.le_refl _) (by simp) ?_; (case hd => rfl); (case hg => rfl); (case hr => first | (go_simp; done) | (go_simp; rfl)); (case hp => exact (Reps.one (show Kd.M (Kd.int .u64) _ _ _ ((rd_T79 l0_2 x39_1).f1.f3) [.int .u64 ((rd_T79 l0_2 x39_1).f1.f3)] from rfl) (Reps.one (show Kd.M (Kd.int .u64) _ _ _ ((rd_T79 l0_2 x39_1).f1.f4) [.int .u64 ((rd_T79 l0_2 x39_1).f1.f4)] from rfl) (Reps.one (show Kd.M (Kd.int .u64) _ _ _ ((rd_T79 l0_2 x39_1).f2.f1) [.int .u64 ((rd_T79 l0_2 x39_1).f2.f1)] from rfl) (Reps.one (show Kd.M (Kd.int .u64) _ _ _ ((rd_T79 l0_2 x39_1).f2.f2) [.int .u64 ((rd_T79 l0_2 x39_1).f2.f2)] from rfl) (Reps.none _ _)))))); intro v256 w43 ho44 hb hg_ hnew_; clear hg_ hnew_; (first | rw [← Ny255.out] at ho44 | (simp only [Int.reduceToNat] at ho44; rw [← Ny255.out] at ho44)); have n0_ := Aside0.mk (Kd.N_elder' (no HO_5) (Kd.R_base ho44) hb); have n1_ := Aside0.mk (Kd.R_below (ro HO251) hb); have n2_ := Aside0.mk (Kd.R_elder' (ro HO254) (Kd.R_base ho44) hb); have n3_ := Aside0.mk (Kd.R_lower (Kd.R_new' ho44 (Kd.R_lt (ro HO254))) (below_size (bw HB))); have n4_ := bb BK229 hb; have n5_ := bb BK244 hb; have n6_ := bs HB hb; clear HO_5; clear HO251; clear HO254; clear BK229; clear BK244; clear HB; have HO_5 := n0_; have HO251 := n1_; have HO254 := n2_; have HO257 := n3_; have BK229 := n4_; have BK244 := n5_; have HB := n6_; clear n0_ n1_ n2_ n3_ n4_ n5_ n6_; clear hb ho44))
                        repeat (go_quiet (first | ((with_reducible refine gate_dst (N := 85) rfl ?_); refine Kd.R_lit (Kd.int .u64) _ 26 ?hg (N := 85) ?hd (xs := ([(rd_T79 l0_2 x39_1).f1.f3, (rd_T79 l0_2 x39_1).f1.f4, (rd_T79 l0_2 x39_1).f2.f1, (rd_T79 l0_2 x39_1).f2.f2] : List Int)) (inner := [.int .u64 ((rd_T79 l0_2 x39_1).f1.f3), .int .u64 ((rd_T79 l0_2 x39_1).f1.f4), .int .u64 ((rd_T79 l0_2 x39_1).f2.f1), .int .u64 ((rd_T79 l0_2 x39_1).f2.f2)]) (ok := fun _ => True) (okp := fun _ => True) ?hr ?hp (fun _ hk => hk) trivial (Below.refl _ _) (Nat.le_refl _) (by simp) ?_; (case hd => rfl); (case hg => rfl); (case hr => first | (go_simp; done) | (go_simp; rfl)); (case hp => exact (Reps.one (show Kd.M (Kd.int .u64) _ _ _ ((rd_T79 l0_2 x39_1).f1.f3) [.int .u64 ((rd_T79 l0_2 x39_1).f1.f3)] from rfl) (Reps.one (show Kd.M (Kd.int .u64) _ _ _ ((rd_T79 l0_2 x39_1).f1.f4) [.int .u64 ((rd_T79 l0_2 x39_1).f1.f4)] from rfl) (Reps.one (show Kd.M (Kd.int .u64) _ _ _ ((rd_T79 l0_2 x39_1).f2.f1) [.int .u64 ((rd_T79 l0_2 x39_1).f2.f1)] from rfl) (Reps.one (show Kd.M (Kd.int .u64) _ _ _ ((rd_T79 l0_2 x39_1).f2.f2) [.int .u64 ((rd_T79 l0_2 x39_1).f2.f2)] from rfl) (Reps.none _ _)))))); intro v256 w43 ho44 hb hg_ hnew_; clear hg_ hnew_; (first | rw [← Ny255.out] at ho44 | (simp only [Int.reduceToNat] at ho44; rw [← Ny255.out] at ho44)); have n0_ := Aside0.mk (Kd.N_elder' (no HO_5) (Kd.R_base ho44) hb); have n1_ := Aside0.mk (Kd.R_below (ro HO251) hb); have n2_ := Aside0.mk (Kd.R_elder' (ro HO254) (Kd.R_base ho44) hb); have n3_ := Aside0.mk (Kd.R_lower (Kd.R_new' ho44 (Kd.R_lt (ro HO254))) (below_size (bw HB))); have n4_ := bb BK229 hb; have n5_ := bb BK244 hb; have n6_ := bs HB hb; clear HO_5; clear HO251; clear HO254; clear BK229; clear BK244; clear HB; have HO_5 := n0_; have HO251 := n1_; have HO254 := n2_; have HO257 := n3_; have BK229 := n4_; have BK244 := n5_; have HB := n6_; clear n0_ n1_ n2_ n3_ n4_ n5_ n6_; clear hb ho44)); try go_wp2_with (first | ((with_reducible refine gate_dst (N := 85) rfl ?_); refine Kd.R_lit (Kd.int .u64) _ 26 ?hg (N := 85) ?hd (xs := ([(rd_T79 l0_2 x39_1).f1.f3, (rd_T79 l0_2 x39_1).f1.f4, (rd_T79 l0_2 x39_1).f2.f1, (rd_T79 l0_2 x39_1).f2.f2] : List Int)) (inner := [.int .u64 ((rd_T79 l0_2 x39_1).f1.f3), .int .u64 ((rd_T79 l0_2 x39_1).f1.f4), .int .u64 ((rd_T79 l0_2 x39_1).f2.f1), .int .u64 ((rd_T79 l0_2 x39_1).f2.f2)]) (ok := fun _ => True) (okp := fun _ => True) ?hr ?hp (fun _ hk => hk) trivial (Below.refl _ _) (Nat.le_refl _) (by simp) ?_; (case hd => rfl); (case hg => rfl); (case hr => first | (go_simp; done) | (go_simp; rfl)); (case hp => exact (Reps.one (show Kd.M (Kd.int .u64) _ _ _ ((rd_T79 l0_2 x39_1).f1.f3) [.int .u64 ((rd_T79 l0_2 x39_1).f1.f3)] from rfl) (Reps.one (show Kd.M (Kd.int .u64) _ _ _ ((rd_T79 l0_2 x39_1).f1.f4) [.int .u64 ((rd_T79 l0_2 x39_1).f1.f4)] from rfl) (Reps.one (show Kd.M (Kd.int .u64) _ _ _ ((rd_T79 l0_2 x39_1).f2.f1) [.int .u64 ((rd_T79 l0_2 x39_1).f2.f1)] from rfl) (Reps.one (show Kd.M (Kd.int .u64) _ _ _ ((rd_T79 l0_2 x39_1).f2.f2) [.int .u64 ((rd_T79 l0_2 x39_1).f2.f2)] from rfl) (Reps.none _ _)))))); intro v256 w43 ho44 hb hg_ hnew_; clear hg_ hnew_; (first | rw [← Ny255.out] at ho44 | (simp only [Int.reduceToNat] at ho44; rw [← Ny255.out] at ho44)); have n0_ := Aside0.mk (Kd.N_elder' (no HO_5) (Kd.R_base ho44) hb); have n1_ := Aside0.mk (Kd.R_below (ro HO251) hb); have n2_ := Aside0.mk (Kd.R_elder' (ro HO254) (Kd.R_base ho44) hb); have n3_ := Aside0.mk (Kd.R_lower (Kd.R_new' ho44 (Kd.R_lt (ro HO254))) (below_size (bw HB))); have n4_ := bb BK229 hb; have n5_ := bb BK244 hb; have n6_ := bs HB hb; clear HO_5; clear HO251; clear HO254; clear BK229; clear BK244; clear HB; have HO_5 := n0_; have HO251 := n1_; have HO254 := n2_; have HO257 := n3_; have BK229 := n4_; have BK244 := n5_; have HB := n6_; clear n0_ n1_ n2_ n3_ n4_ n5_ n6_; clear hb ho44)))
                        go_meet
                        case rel => exact ⟨_, (y255), H', ⟨by have := HK1.out; first | omega | exact Nat.le_refl _⟩, ⟨by (with_reducible repeat (first | apply Kd.N_alloc | apply Kd.N_drewN | apply Kd.N_drew)); exact Kd.N_mono HO_5.out (fun _ hk => ⟨hk.1.1.2, ⟨hk.2, ⟨hk.1.1.1.1, hk.1.1.1.2⟩⟩⟩)⟩, ⟨ro HO251⟩, ⟨by (with_reducible repeat (first | apply Kd.R_alloc | apply Kd.R_drewN | apply Kd.R_drew)); exact Kd.R_mono HO257.out (fun _ hk => trivial)⟩, ⟨bk BK229⟩, ⟨bk BK244⟩, ⟨bw HB⟩⟩
                      · rw [if_neg c40] at H
                        have c40b0 : (((rd_T79 l0_2 x39_1).f1.f0) == 2) = false := beq_eq_false_iff_ne.mpr c40
                        have c40b1 : (((rd_T79 l0_2 x39_1).f1.f0) != 2) = true := bne_iff_ne.mpr c40
                        (first | rw [c40b0] | (simp only [i64_w, i32_w]; rw [c40b0]) | skip)
                        have H' := Aside0.mk H
                        clear H
                        go_wp2
                        repeat (go_quiet (fail); try go_wp2)
                        go_meet
                        case rel => exact ⟨_, (y252), H', ⟨by have := HK1.out; first | omega | exact Nat.le_refl _⟩, ⟨by (with_reducible repeat (first | apply Kd.N_alloc | apply Kd.N_drewN | apply Kd.N_drew)); exact Kd.N_mono HO_5.out (fun _ hk => ⟨hk.1.2, ⟨hk.2, ⟨hk.1.1.1, hk.1.1.2⟩⟩⟩)⟩, ⟨ro HO251⟩, ⟨ro HO254⟩, ⟨bk BK229⟩, ⟨bk BK244⟩, ⟨bw HB⟩⟩
                    case rest =>
                      clear HC29
                      try clear c2
                      try clear p2
                      try clear q2
                      try clear hx2
                      try clear c3
                      try clear c4
                      try clear c22
                      try clear c22b0
                      try clear c23
                      try clear c23b0
                      try clear c24
                      try clear c24b0
                      try clear p24
                      try clear q24
                      try clear hx24
                      try clear c26
                      try clear c26b0
                      try clear c26b1
                      try clear c27
                      try clear c27b0
                      try clear c27b1
                      try clear c28
                      try clear c31
                      try clear c40
                      try clear c40b0
                      try clear c40b1
                      try clear c41
                      try clear hcz10_0
                      try clear hcz10_1
                      try clear hcz10_2
                      try clear hcz12_0
                      try clear hcz12_1
                      try clear hcz12_2
                      try clear hcz15_0
                      try clear hcz15_1
                      try clear hcz15_2
                      try clear hcz21_0
                      try clear hcz21_1
                      try clear hcz21_2
                      try clear hcz32_0
                      try clear hcz32_1
                      try clear hcz32_2
                      try clear hcz32_3
                      try clear hcz32_4
                      try clear hcz32_5
                      try clear hcz32_6
                      try clear hcz32_7
                      try clear hcz32_8
                      try clear hcz34_0
                      try clear hcz34_1
                      try clear hcz34_2
                      try clear hcz34_3
                      try clear hcz34_4
                      try clear hcz34_5
                      try clear hcz34_6
                      try clear hcz34_7
                      try clear hcz34_8
                      try clear hcz36_0
                      try clear hcz36_1
                      try clear hcz36_2
                      try clear hcz36_3
                      try clear hcz36_4
                      try clear hcz36_5
                      try clear hcz36_6
                      try clear hcz36_7
                      try clear hcz36_8
                      try clear hcz39_0
                      try clear hcz39_1
                      try clear hcz39_2
                      try clear hcz39_3
                      try clear hcz39_4
                      try clear hcz39_5
                      try clear hcz39_6
                      try clear hcz39_7
                      try clear hcz39_8
                      try clear hcz42_0
                      try clear hcz42_1
                      try clear hcz42_2
                      try clear hcz42_3
                      try clear hcz42_4
                      try clear hcz42_5
                      try clear hcz42_6
                      try clear hcz42_7
                      try clear hcz42_8
                      try clear hcz8_0
                      try clear hcz8_1
                      try clear hcz8_2
                      try clear hfz10_0
                      try clear hfz10_1
                      try clear hfz10_2
                      try clear hfz12_0
                      try clear hfz12_1
                      try clear hfz12_2
                      try clear hfz15_0
                      try clear hfz15_1
                      try clear hfz15_2
                      try clear hfz21_0
                      try clear hfz21_1
                      try clear hfz21_2
                      try clear hfz32_0
                      try clear hfz32_1
                      try clear hfz32_2
                      try clear hfz32_3
                      try clear hfz32_4
                      try clear hfz32_5
                      try clear hfz32_6
                      try clear hfz32_7
                      try clear hfz32_8
                      try clear hfz34_0
                      try clear hfz34_1
                      try clear hfz34_2
                      try clear hfz34_3
                      try clear hfz34_4
                      try clear hfz34_5
                      try clear hfz34_6
                      try clear hfz34_7
                      try clear hfz34_8
                      try clear hfz36_0
                      try clear hfz36_1
                      try clear hfz36_2
                      try clear hfz36_3
                      try clear hfz36_4
                      try clear hfz36_5
                      try clear hfz36_6
                      try clear hfz36_7
                      try clear hfz36_8
                      try clear hfz39_0
                      try clear hfz39_1
                      try clear hfz39_2
                      try clear hfz39_3
                      try clear hfz39_4
                      try clear hfz39_5
                      try clear hfz39_6
                      try clear hfz39_7
                      try clear hfz39_8
                      try clear hfz42_0
                      try clear hfz42_1
                      try clear hfz42_2
                      try clear hfz42_3
                      try clear hfz42_4
                      try clear hfz42_5
                      try clear hfz42_6
                      try clear hfz42_7
                      try clear hfz42_8
                      try clear hfz8_0
                      try clear hfz8_1
                      try clear hfz8_2
                      try clear hx243_0
                      try clear hx243_1
                      try clear hx243_2
                      try clear hx243_3
                      try clear hx243_4
                      try clear hx243_5
                      try clear hx243_6
                      try clear hx243_7
                      try clear hx243_8
                      try clear p2
                      try clear p243
                      try clear q243
                      obtain ⟨kq, x10_28, HA, HJ28, HO_5, HO_8, HO_10, BK229, BK244, HB⟩ := hcut
                      cases kq with
                      | zero => exact absurd HA.out (by simp [image_Encode.j1])
                      | succ kj28 =>
                        have H := HA.out
                        clear HA
                        simp only [image_Encode.j1] at H
                        have H' := Aside0.mk H
                        clear H
                        obtain ⟨Ao45, co45, eo45⟩ := Kd.R_slice HO_10.out
                        subst eo45
                        go_wp2
                        repeat (go_quiet (fail); try go_wp2)
                        go_loopg [8, 88] kj28 (fun kq v8 v88 w' => ∃ (x8_3 : List Int) (x88_3 : Int), v88 = .int .i64 x88_3 ∧ Aside0 (image_Encode.l1 kq x5_1 x8_3 l0_2 (l0_2.length : Int) x39_1 x10_28 (x10_28.length : Int) x88_3 = some (r1, r2)) ∧ Aside0 (kq ≤ kj28) ∧ Aside0 (Kd.N (Kd.slice 5 (Kd.int .u8)) 33 w' w.heap.size (fun k_ => some k_ ≠ (v8 : Value).ownBlock ∧ some k_ ≠ ((.slice Ao45 x10_28.length co45) : Value).ownBlock ∧ k_ ≠ gb229 ∧ k_ ≠ gb244) u5 x5_1) ∧ Aside0 (Kd.R (Kd.int .u8) 5 w' w.heap.size (fun _ => True) v8 x8_3) ∧ Aside0 (Kd.R (Kd.int .u64) 26 w' w.heap.size (fun _ => True) (.slice Ao45 x10_28.length co45) x10_28) ∧ Aside0 (w'.heap[gb229]? = some (.cells #[.int .u64 a0_0, .int .u64 a0_1, (.slice (some ad243) l0_2.length c0_2)] 51 (0, 0))) ∧ Aside0 (w'.heap[gb244]? = some (.cells #[.string ((rd_T79 l0_2 x39_1).f0), .int .i64 ((rd_T79 l0_2 x39_1).f1.f0), .int .u64 ((rd_T79 l0_2 x39_1).f1.f1), .int .u64 ((rd_T79 l0_2 x39_1).f1.f2), .int .u64 ((rd_T79 l0_2 x39_1).f1.f3), .int .u64 ((rd_T79 l0_2 x39_1).f1.f4), .int .u64 ((rd_T79 l0_2 x39_1).f2.f0), .int .u64 ((rd_T79 l0_2 x39_1).f2.f1), .int .u64 ((rd_T79 l0_2 x39_1).f2.f2)] 79 (0, 0))) ∧ Aside0 (Below w.heap.size w w'))
                        case atStart => exact ⟨(y249), (0), rs, H', ⟨Nat.le_refl _⟩, ⟨no HO_5⟩, ⟨ro HO_8⟩, ⟨ro HO_10⟩, ⟨bk BK229⟩, ⟨bk BK244⟩, ⟨bw HB⟩⟩
                        case round =>
                          clear H'
                          try clear c2
                          try clear p2
                          try clear q2
                          try clear hx2
                          try clear c3
                          try clear c4
                          try clear c22
                          try clear c22b0
                          try clear c23
                          try clear c23b0
                          try clear c24
                          try clear c24b0
                          try clear p24
                          try clear q24
                          try clear hx24
                          try clear c26
                          try clear c26b0
                          try clear c26b1
                          try clear c27
                          try clear c27b0
                          try clear c27b1
                          try clear c28
                          try clear c31
                          try clear c40
                          try clear c40b0
                          try clear c40b1
                          try clear c41
                          try clear hcz10_0
                          try clear hcz10_1
                          try clear hcz10_2
                          try clear hcz12_0
                          try clear hcz12_1
                          try clear hcz12_2
                          try clear hcz15_0
                          try clear hcz15_1
                          try clear hcz15_2
                          try clear hcz21_0
                          try clear hcz21_1
                          try clear hcz21_2
                          try clear hcz32_0
                          try clear hcz32_1
                          try clear hcz32_2
                          try clear hcz32_3
                          try clear hcz32_4
                          try clear hcz32_5
                          try clear hcz32_6
                          try clear hcz32_7
                          try clear hcz32_8
                          try clear hcz34_0
                          try clear hcz34_1
                          try clear hcz34_2
                          try clear hcz34_3
                          try clear hcz34_4
                          try clear hcz34_5
                          try clear hcz34_6
                          try clear hcz34_7
                          try clear hcz34_8
                          try clear hcz36_0
                          try clear hcz36_1
                          try clear hcz36_2
                          try clear hcz36_3
                          try clear hcz36_4
                          try clear hcz36_5
                          try clear hcz36_6
                          try clear hcz36_7
                          try clear hcz36_8
                          try clear hcz39_0
                          try clear hcz39_1
                          try clear hcz39_2
                          try clear hcz39_3
                          try clear hcz39_4
                          try clear hcz39_5
                          try clear hcz39_6
                          try clear hcz39_7
                          try clear hcz39_8
                          try clear hcz42_0
                          try clear hcz42_1
                          try clear hcz42_2
                          try clear hcz42_3
                          try clear hcz42_4
                          try clear hcz42_5
                          try clear hcz42_6
                          try clear hcz42_7
                          try clear hcz42_8
                          try clear hcz8_0
                          try clear hcz8_1
                          try clear hcz8_2
                          try clear hfz10_0
                          try clear hfz10_1
                          try clear hfz10_2
                          try clear hfz12_0
                          try clear hfz12_1
                          try clear hfz12_2
                          try clear hfz15_0
                          try clear hfz15_1
                          try clear hfz15_2
                          try clear hfz21_0
                          try clear hfz21_1
                          try clear hfz21_2
                          try clear hfz32_0
                          try clear hfz32_1
                          try clear hfz32_2
                          try clear hfz32_3
                          try clear hfz32_4
                          try clear hfz32_5
                          try clear hfz32_6
                          try clear hfz32_7
                          try clear hfz32_8
                          try clear hfz34_0
                          try clear hfz34_1
                          try clear hfz34_2
                          try clear hfz34_3
                          try clear hfz34_4
                          try clear hfz34_5
                          try clear hfz34_6
                          try clear hfz34_7
                          try clear hfz34_8
                          try clear hfz36_0
                          try clear hfz36_1
                          try clear hfz36_2
                          try clear hfz36_3
                          try clear hfz36_4
                          try clear hfz36_5
                          try clear hfz36_6
                          try clear hfz36_7
                          try clear hfz36_8
                          try clear hfz39_0
                          try clear hfz39_1
                          try clear hfz39_2
                          try clear hfz39_3
                          try clear hfz39_4
                          try clear hfz39_5
                          try clear hfz39_6
                          try clear hfz39_7
                          try clear hfz39_8
                          try clear hfz42_0
                          try clear hfz42_1
                          try clear hfz42_2
                          try clear hfz42_3
                          try clear hfz42_4
                          try clear hfz42_5
                          try clear hfz42_6
                          try clear hfz42_7
                          try clear hfz42_8
                          try clear hfz8_0
                          try clear hfz8_1
                          try clear hfz8_2
                          try clear hx243_0
                          try clear hx243_1
                          try clear hx243_2
                          try clear hx243_3
                          try clear hx243_4
                          try clear hx243_5
                          try clear hx243_6
                          try clear hx243_7
                          try clear hx243_8
                          try clear p2
                          try clear p24
                          try clear p243
                          try clear q2
                          try clear q24
                          try clear q243
                          obtain ⟨x8_3, x88_3, rfl, HA, HK3, HO_5, HO_8, HO_86, BK229, BK244, HB⟩ := hrel
                          cases gk with
                          | zero => exact absurd HA.out (by simp [image_Encode.l1])
                          | succ k3 =>
                            have H := HA.out
                            clear HA
                            simp only [image_Encode.l1] at H
                            by_cases c46 : x88_3 < (x10_28.length : Int)
                            · rw [if_pos c46] at H
                              have c46b0 : decide (x88_3 < (x10_28.length : Int)) = true := decide_eq_true c46
                              clear c46
                              by_cases c47 : 0 ≤ x88_3
                              · rw [if_pos c47] at H
                                have c47b0 : decide (0 ≤ x88_3) = true := decide_eq_true c47
                                clear c47
                                by_cases c48 : x88_3 < (x10_28.length : Int)
                                · rw [if_pos c48] at H
                                  have c48b0 : decide (x88_3 < (x10_28.length : Int)) = true := decide_eq_true c48
                                  clear c48
                                  replace H := Option.bind_eq_some_iff.mp H
                                  obtain ⟨t259, A490, H⟩ := H
                                  replace H : (image_Encode.l1 k3 x5_1 t259 l0_2 (l0_2.length : Int) x39_1 x10_28 (x10_28.length : Int) (wrap64 (x88_3 + 1))) = some (r1, r2) := H
                                  have A49 := Aside0.mk A490
                                  clear A490
                                  have H' := Aside0.mk H
                                  clear H
                                  have p258 : 0 ≤ (x88_3 : Int) := of_decide_eq_true (by first | (with_reducible assumption) | assumption)
                                  have q258 : x88_3 < (x10_28.length : Int) := of_decide_eq_true (by first | (with_reducible assumption) | assumption)
                                  obtain ⟨ad258, e258, hx258_0⟩ := Kd.at_int (Kd.R_reads' HO_86.out).2.2 x88_3 p258 q258
                                  cases e258
                                  replace p258 := eq_true p258
                                  replace q258 := eq_true q258
                                  obtain ⟨Ao50, co50, eo50⟩ := Kd.R_slice HO_8.out
                                  subst eo50
                                  go_wp2_with (first | (go_at_call 35; (with_reducible refine (pack_PutU64.calls _ _ x8_3 (rd x10_28 x88_3) t259 _ ?side1 ?side2 A49.out).mono ?_); (case side1 => exact co (Kd.R_reads' HO_8.out).2.2); (case side2 => exact (Kd.R_reads' HO_8.out).2.1); rintro e w51 ⟨v260, rfl, ho0, hb⟩; have n0_ := Aside0.mk (Kd.N_elder' (no HO_5) (Kd.R_base ho0) hb); have n1_ := Aside0.mk (Kd.R_elder' (ro HO_8) (Kd.R_base ho0) hb); have n2_ := Aside0.mk (Kd.R_below (ro HO_86) hb); have n3_ := Aside0.mk (Kd.R_lower (Kd.R_new' ho0 (Kd.R_lt (ro HO_8))) (below_size (bw HB))); have n4_ := bb BK229 hb; have n5_ := bb BK244 hb; have n6_ := bs HB hb; clear HO_5; clear HO_8; clear HO_86; clear BK229; clear BK244; clear HB; have HO_5 := n0_; have HO_8 := n1_; have HO_86 := n2_; have HO261 := n3_; have BK229 := n4_; have BK244 := n5_; have HB := n6_; clear n0_ n1_ n2_ n3_ n4_ n5_ n6_; (try clear hb); (try clear hb2); (try clear hk); (try clear hi); (try clear ho0)))
                                  repeat (go_quiet (first | (go_at_call 35; (with_reducible refine (pack_PutU64.calls _ _ x8_3 (rd x10_28 x88_3) t259 _ ?side1 ?side2 A49.out).mono ?_); (case side1 => exact co (Kd.R_reads' HO_8.out).2.2); (case side2 => exact (Kd.R_reads' HO_8.out).2.1); rintro e w51 ⟨v260, rfl, ho0, hb⟩; have n0_ := Aside0.mk (Kd.N_elder' (no HO_5) (Kd.R_base ho0) hb); have n1_ := Aside0.mk (Kd.R_elder' (ro HO_8) (Kd.R_base ho0) hb); have n2_ := Aside0.mk (Kd.R_below (ro HO_86) hb); have n3_ := Aside0.mk (Kd.R_lower (Kd.R_new' ho0 (Kd.R_lt (ro HO_8))) (below_size (bw HB))); have n4_ := bb BK229 hb; have n5_ := bb BK244 hb; have n6_ := bs HB hb; clear HO_5; clear HO_8; clear HO_86; clear BK229; clear BK244; clear HB; have HO_5 := n0_; have HO_8 := n1_; have HO_86 := n2_; have HO261 := n3_; have BK229 := n4_; have BK244 := n5_; have HB := n6_; clear n0_ n1_ n2_ n3_ n4_ n5_ n6_; (try clear hb); (try clear hb2); (try clear hk); (try clear hi); (try clear ho0))); try go_wp2_with (first | (go_at_call 35; (with_reducible refine (pack_PutU64.calls _ _ x8_3 (rd x10_28 x88_3) t259 _ ?side1 ?side2 A49.out).mono ?_); (case side1 => exact co (Kd.R_reads' HO_8.out).2.2); (case side2 => exact (Kd.R_reads' HO_8.out).2.1); rintro e w51 ⟨v260, rfl, ho0, hb⟩; have n0_ := Aside0.mk (Kd.N_elder' (no HO_5) (Kd.R_base ho0) hb); have n1_ := Aside0.mk (Kd.R_elder' (ro HO_8) (Kd.R_base ho0) hb); have n2_ := Aside0.mk (Kd.R_below (ro HO_86) hb); have n3_ := Aside0.mk (Kd.R_lower (Kd.R_new' ho0 (Kd.R_lt (ro HO_8))) (below_size (bw HB))); have n4_ := bb BK229 hb; have n5_ := bb BK244 hb; have n6_ := bs HB hb; clear HO_5; clear HO_8; clear HO_86; clear BK229; clear BK244; clear HB; have HO_5 := n0_; have HO_8 := n1_; have HO_86 := n2_; have HO261 := n3_; have BK229 := n4_; have BK244 := n5_; have HB := n6_; clear n0_ n1_ n2_ n3_ n4_ n5_ n6_; (try clear hb); (try clear hb2); (try clear hk); (try clear hi); (try clear ho0))))
                                  go_roundg k3
                                  case measure => have := HK1.out; have := HJ28.out; have := HK3.out; omega
                                  case rel => exact ⟨(t259), (wrap64 (x88_3 + 1)), rs, H', ⟨by have := HK1.out; have := HJ28.out; have := HK3.out; omega⟩, ⟨by (with_reducible repeat (first | apply Kd.N_alloc | apply Kd.N_drewN | apply Kd.N_drew)); exact Kd.N_mono HO_5.out (fun _ hk => ⟨hk.2, ⟨hk.1.2.1, ⟨hk.1.2.2.1, hk.1.2.2.2⟩⟩⟩)⟩, ⟨by (with_reducible repeat (first | apply Kd.R_alloc | apply Kd.R_drewN | apply Kd.R_drew)); exact Kd.R_mono HO261.out (fun _ hk => trivial)⟩, ⟨ro HO_86⟩, ⟨bk BK229⟩, ⟨bk BK244⟩, ⟨bw HB⟩⟩
                                · rw [if_neg c48] at H
                                  exact absurd H (by simp)
                              · rw [if_neg c47] at H
                                exact absurd H (by simp)
                            · rw [if_neg c46] at H
                              have c46b0 : decide (x88_3 < (x10_28.length : Int)) = false := decide_eq_false c46
                              clear c46
                              by_cases c52 : x5_1.length < 5864062014805
                              · rw [if_pos c52] at H
                                have LMc52 := Aside0.mk c52
                                clear c52
                                obtain ⟨y262, hy262⟩ : ∃ y_ : List (List Int), y_ = (x5_1 ++ [x8_3]) := ⟨_, rfl⟩
                                replace H : (image_Encode.l0 k3 y262 l0_2 (l0_2.length : Int) (wrap64 (x39_1 + 1))) = some (r1, r2) := by first | (rw [hy262]; with_reducible exact H) | (have H2_ := (Option.bind_some _ _).symm.trans H; rw [hy262]; with_reducible exact H2_) | (have H2_ := (Option.bind_some _ _).symm.trans H; with_reducible exact H2_) | with_reducible exact H | (rw [hy262]; exact H) | exact H
                                have Ny262 := Aside0.mk hy262
                                clear hy262
                                have H' := Aside0.mk H
                                clear H
                                obtain ⟨Ao54, co54, eo54⟩ := Kd.R_slice HO_8.out
                                subst eo54
                                go_wp2_with (first | ((with_reducible refine gate_builtin (b := .append) (xs := #[.tmp 96, .tmp 98]) rfl ?_); at_builtin; refine Kd.N_append (Kd.slice 5 (Kd.int .u8)) (w0 := w) w.heap.size rfl (.tmp 96) (.tmp 98) 85 33 (.slice none 0 0) 24 rfl Tryd.underlying85 info33 rfl (by decide) (by omega) u5 x5_1 x8_3 [.slice Ao54 x8_3.length co54] (fun k_ => some k_ ≠ (.slice Ao45 x10_28.length co45 : Value).ownBlock ∧ k_ ≠ gb229 ∧ k_ ≠ gb244) (fun k_ => ((fun k_ => some k_ ≠ (.slice Ao45 x10_28.length co45 : Value).ownBlock ∧ k_ ≠ gb229 ∧ k_ ≠ gb244)) k_ ∧ some k_ ≠ (u5 : Value).ownBlock) rfl rfl ?aP (fun _ hk => hk) ?aF ?aO ?aB ?aS ?aL ?_; (case aP => exact (Kd.FK_slice_mk (Kd.R_reads' (Kd.R_mono (ok' := (fun k_ => ((fun k_ => some k_ ≠ (.slice Ao45 x10_28.length co45 : Value).ownBlock ∧ k_ ≠ gb229 ∧ k_ ≠ gb244)) k_ ∧ some k_ ≠ (u5 : Value).ownBlock)) (Kd.R_types (Kd.R_types (Kd.R_apart' (Kd.R_apart' (HO_8.out) (Kd.R_typed HO_86.out) (by decide)) (Kd.N_typed HO_5.out) (by decide)) BK229.out (by decide)) BK244.out (by decide)) (fun k_ hk => ⟨⟨hk.1.1.1.2, ⟨hk.1.2, hk.2⟩⟩, hk.1.1.2⟩))).2.1 (Kd.R_F (Kd.R_mono (ok' := (fun k_ => ((fun k_ => some k_ ≠ (.slice Ao45 x10_28.length co45 : Value).ownBlock ∧ k_ ≠ gb229 ∧ k_ ≠ gb244)) k_ ∧ some k_ ≠ (u5 : Value).ownBlock)) (Kd.R_types (Kd.R_types (Kd.R_apart' (Kd.R_apart' (HO_8.out) (Kd.R_typed HO_86.out) (by decide)) (Kd.N_typed HO_5.out) (by decide)) BK229.out (by decide)) BK244.out (by decide)) (fun k_ hk => ⟨⟨hk.1.1.1.2, ⟨hk.1.2, hk.2⟩⟩, hk.1.1.2⟩))))); (case aB => exact (bw HB)); (case aF => exact (fun k_ hk => ⟨Kd.fresh' (Kd.R_lt (ro HO_86)) k_ hk, Kd.freshB (g := gb229) (o := .cells #[.int .u64 a0_0, .int .u64 a0_1, .slice (some ad243) l0_2.length c0_2] 51 (0, 0)) (bk BK229) k_ hk, Kd.freshB (g := gb244) (o := .cells #[.string ((rd_T79 l0_2 x39_1).f0), .int .i64 ((rd_T79 l0_2 x39_1).f1.f0), .int .u64 ((rd_T79 l0_2 x39_1).f1.f1), .int .u64 ((rd_T79 l0_2 x39_1).f1.f2), .int .u64 ((rd_T79 l0_2 x39_1).f1.f3), .int .u64 ((rd_T79 l0_2 x39_1).f1.f4), .int .u64 ((rd_T79 l0_2 x39_1).f2.f0), .int .u64 ((rd_T79 l0_2 x39_1).f2.f1), .int .u64 ((rd_T79 l0_2 x39_1).f2.f2)] 79 (0, 0)) (bk BK244) k_ hk⟩)); (case aO => exact (by (with_reducible repeat (first | apply Kd.N_alloc | apply Kd.N_drewN | apply Kd.N_drew)); exact Kd.N_mono HO_5.out (fun _ hk => ⟨hk.2.1, ⟨hk.2.2.1, hk.2.2.2⟩⟩))); (case aS => exact (below_size (bw HB))); (case aL => have := LMc52.out; omega); intro v263 w53 ho hb hg hat; rw [← Ny262.out] at ho; have n0_ := Aside0.mk (Kd.R_over' (ro HO_86) (Kd.N_typed (no HO_5)) (by decide) hg); have n1_ := Aside0.mk (blk_grown (g := gb229) (o := .cells #[.int .u64 a0_0, .int .u64 a0_1, .slice (some ad243) l0_2.length c0_2] 51 (0, 0)) (bk BK229) hg (Kd.N_ne HO_5.out BK229.out (by decide))); have n2_ := Aside0.mk (blk_grown (g := gb244) (o := .cells #[.string ((rd_T79 l0_2 x39_1).f0), .int .i64 ((rd_T79 l0_2 x39_1).f1.f0), .int .u64 ((rd_T79 l0_2 x39_1).f1.f1), .int .u64 ((rd_T79 l0_2 x39_1).f1.f2), .int .u64 ((rd_T79 l0_2 x39_1).f1.f3), .int .u64 ((rd_T79 l0_2 x39_1).f1.f4), .int .u64 ((rd_T79 l0_2 x39_1).f2.f0), .int .u64 ((rd_T79 l0_2 x39_1).f2.f1), .int .u64 ((rd_T79 l0_2 x39_1).f2.f2)] 79 (0, 0)) (bk BK244) hg (Kd.N_ne HO_5.out BK244.out (by decide))); have n3_ := Aside0.mk (hb); have n4_ := Aside0.mk (ho); clear HO_86; clear BK229; clear BK244; clear HB; clear HO_5; clear HO_8; have HO_86 := n0_; have BK229 := n1_; have BK244 := n2_; have HB := n3_; have HO264 := n4_; clear n0_ n1_ n2_ n3_ n4_; clear ho hb hg hat))
                                repeat (go_quiet (first | ((with_reducible refine gate_builtin (b := .append) (xs := #[.tmp 96, .tmp 98]) rfl ?_); at_builtin; refine Kd.N_append (Kd.slice 5 (Kd.int .u8)) (w0 := w) w.heap.size rfl (.tmp 96) (.tmp 98) 85 33 (.slice none 0 0) 24 rfl Tryd.underlying85 info33 rfl (by decide) (by omega) u5 x5_1 x8_3 [.slice Ao54 x8_3.length co54] (fun k_ => some k_ ≠ (.slice Ao45 x10_28.length co45 : Value).ownBlock ∧ k_ ≠ gb229 ∧ k_ ≠ gb244) (fun k_ => ((fun k_ => some k_ ≠ (.slice Ao45 x10_28.length co45 : Value).ownBlock ∧ k_ ≠ gb229 ∧ k_ ≠ gb244)) k_ ∧ some k_ ≠ (u5 : Value).ownBlock) rfl rfl ?aP (fun _ hk => hk) ?aF ?aO ?aB ?aS ?aL ?_; (case aP => exact (Kd.FK_slice_mk (Kd.R_reads' (Kd.R_mono (ok' := (fun k_ => ((fun k_ => some k_ ≠ (.slice Ao45 x10_28.length co45 : Value).ownBlock ∧ k_ ≠ gb229 ∧ k_ ≠ gb244)) k_ ∧ some k_ ≠ (u5 : Value).ownBlock)) (Kd.R_types (Kd.R_types (Kd.R_apart' (Kd.R_apart' (HO_8.out) (Kd.R_typed HO_86.out) (by decide)) (Kd.N_typed HO_5.out) (by decide)) BK229.out (by decide)) BK244.out (by decide)) (fun k_ hk => ⟨⟨hk.1.1.1.2, ⟨hk.1.2, hk.2⟩⟩, hk.1.1.2⟩))).2.1 (Kd.R_F (Kd.R_mono (ok' := (fun k_ => ((fun k_ => some k_ ≠ (.slice Ao45 x10_28.length co45 : Value).ownBlock ∧ k_ ≠ gb229 ∧ k_ ≠ gb244)) k_ ∧ some k_ ≠ (u5 : Value).ownBlock)) (Kd.R_types (Kd.R_types (Kd.R_apart' (Kd.R_apart' (HO_8.out) (Kd.R_typed HO_86.out) (by decide)) (Kd.N_typed HO_5.out) (by decide)) BK229.out (by decide)) BK244.out (by decide)) (fun k_ hk => ⟨⟨hk.1.1.1.2, ⟨hk.1.2, hk.2⟩⟩, hk.1.1.2⟩))))); (case aB => exact (bw HB)); (case aF => exact (fun k_ hk => ⟨Kd.fresh' (Kd.R_lt (ro HO_86)) k_ hk, Kd.freshB (g := gb229) (o := .cells #[.int .u64 a0_0, .int .u64 a0_1, .slice (some ad243) l0_2.length c0_2] 51 (0, 0)) (bk BK229) k_ hk, Kd.freshB (g := gb244) (o := .cells #[.string ((rd_T79 l0_2 x39_1).f0), .int .i64 ((rd_T79 l0_2 x39_1).f1.f0), .int .u64 ((rd_T79 l0_2 x39_1).f1.f1), .int .u64 ((rd_T79 l0_2 x39_1).f1.f2), .int .u64 ((rd_T79 l0_2 x39_1).f1.f3), .int .u64 ((rd_T79 l0_2 x39_1).f1.f4), .int .u64 ((rd_T79 l0_2 x39_1).f2.f0), .int .u64 ((rd_T79 l0_2 x39_1).f2.f1), .int .u64 ((rd_T79 l0_2 x39_1).f2.f2)] 79 (0, 0)) (bk BK244) k_ hk⟩)); (case aO => exact (by (with_reducible repeat (first | apply Kd.N_alloc | apply Kd.N_drewN | apply Kd.N_drew)); exact Kd.N_mono HO_5.out (fun _ hk => ⟨hk.2.1, ⟨hk.2.2.1, hk.2.2.2⟩⟩))); (case aS => exact (below_size (bw HB))); (case aL => have := LMc52.out; omega); intro v263 w53 ho hb hg hat; rw [← Ny262.out] at ho; have n0_ := Aside0.mk (Kd.R_over' (ro HO_86) (Kd.N_typed (no HO_5)) (by decide) hg); have n1_ := Aside0.mk (blk_grown (g := gb229) (o := .cells #[.int .u64 a0_0, .int .u64 a0_1, .slice (some ad243) l0_2.length c0_2] 51 (0, 0)) (bk BK229) hg (Kd.N_ne HO_5.out BK229.out (by decide))); have n2_ := Aside0.mk (blk_grown (g := gb244) (o := .cells #[.string ((rd_T79 l0_2 x39_1).f0), .int .i64 ((rd_T79 l0_2 x39_1).f1.f0), .int .u64 ((rd_T79 l0_2 x39_1).f1.f1), .int .u64 ((rd_T79 l0_2 x39_1).f1.f2), .int .u64 ((rd_T79 l0_2 x39_1).f1.f3), .int .u64 ((rd_T79 l0_2 x39_1).f1.f4), .int .u64 ((rd_T79 l0_2 x39_1).f2.f0), .int .u64 ((rd_T79 l0_2 x39_1).f2.f1), .int .u64 ((rd_T79 l0_2 x39_1).f2.f2)] 79 (0, 0)) (bk BK244) hg (Kd.N_ne HO_5.out BK244.out (by decide))); have n3_ := Aside0.mk (hb); have n4_ := Aside0.mk (ho); clear HO_86; clear BK229; clear BK244; clear HB; clear HO_5; clear HO_8; have HO_86 := n0_; have BK229 := n1_; have BK244 := n2_; have HB := n3_; have HO264 := n4_; clear n0_ n1_ n2_ n3_ n4_; clear ho hb hg hat)); try go_wp2_with (first | ((with_reducible refine gate_builtin (b := .append) (xs := #[.tmp 96, .tmp 98]) rfl ?_); at_builtin; refine Kd.N_append (Kd.slice 5 (Kd.int .u8)) (w0 := w) w.heap.size rfl (.tmp 96) (.tmp 98) 85 33 (.slice none 0 0) 24 rfl Tryd.underlying85 info33 rfl (by decide) (by omega) u5 x5_1 x8_3 [.slice Ao54 x8_3.length co54] (fun k_ => some k_ ≠ (.slice Ao45 x10_28.length co45 : Value).ownBlock ∧ k_ ≠ gb229 ∧ k_ ≠ gb244) (fun k_ => ((fun k_ => some k_ ≠ (.slice Ao45 x10_28.length co45 : Value).ownBlock ∧ k_ ≠ gb229 ∧ k_ ≠ gb244)) k_ ∧ some k_ ≠ (u5 : Value).ownBlock) rfl rfl ?aP (fun _ hk => hk) ?aF ?aO ?aB ?aS ?aL ?_; (case aP => exact (Kd.FK_slice_mk (Kd.R_reads' (Kd.R_mono (ok' := (fun k_ => ((fun k_ => some k_ ≠ (.slice Ao45 x10_28.length co45 : Value).ownBlock ∧ k_ ≠ gb229 ∧ k_ ≠ gb244)) k_ ∧ some k_ ≠ (u5 : Value).ownBlock)) (Kd.R_types (Kd.R_types (Kd.R_apart' (Kd.R_apart' (HO_8.out) (Kd.R_typed HO_86.out) (by decide)) (Kd.N_typed HO_5.out) (by decide)) BK229.out (by decide)) BK244.out (by decide)) (fun k_ hk => ⟨⟨hk.1.1.1.2, ⟨hk.1.2, hk.2⟩⟩, hk.1.1.2⟩))).2.1 (Kd.R_F (Kd.R_mono (ok' := (fun k_ => ((fun k_ => some k_ ≠ (.slice Ao45 x10_28.length co45 : Value).ownBlock ∧ k_ ≠ gb229 ∧ k_ ≠ gb244)) k_ ∧ some k_ ≠ (u5 : Value).ownBlock)) (Kd.R_types (Kd.R_types (Kd.R_apart' (Kd.R_apart' (HO_8.out) (Kd.R_typed HO_86.out) (by decide)) (Kd.N_typed HO_5.out) (by decide)) BK229.out (by decide)) BK244.out (by decide)) (fun k_ hk => ⟨⟨hk.1.1.1.2, ⟨hk.1.2, hk.2⟩⟩, hk.1.1.2⟩))))); (case aB => exact (bw HB)); (case aF => exact (fun k_ hk => ⟨Kd.fresh' (Kd.R_lt (ro HO_86)) k_ hk, Kd.freshB (g := gb229) (o := .cells #[.int .u64 a0_0, .int .u64 a0_1, .slice (some ad243) l0_2.length c0_2] 51 (0, 0)) (bk BK229) k_ hk, Kd.freshB (g := gb244) (o := .cells #[.string ((rd_T79 l0_2 x39_1).f0), .int .i64 ((rd_T79 l0_2 x39_1).f1.f0), .int .u64 ((rd_T79 l0_2 x39_1).f1.f1), .int .u64 ((rd_T79 l0_2 x39_1).f1.f2), .int .u64 ((rd_T79 l0_2 x39_1).f1.f3), .int .u64 ((rd_T79 l0_2 x39_1).f1.f4), .int .u64 ((rd_T79 l0_2 x39_1).f2.f0), .int .u64 ((rd_T79 l0_2 x39_1).f2.f1), .int .u64 ((rd_T79 l0_2 x39_1).f2.f2)] 79 (0, 0)) (bk BK244) k_ hk⟩)); (case aO => exact (by (with_reducible repeat (first | apply Kd.N_alloc | apply Kd.N_drewN | apply Kd.N_drew)); exact Kd.N_mono HO_5.out (fun _ hk => ⟨hk.2.1, ⟨hk.2.2.1, hk.2.2.2⟩⟩))); (case aS => exact (below_size (bw HB))); (case aL => have := LMc52.out; omega); intro v263 w53 ho hb hg hat; rw [← Ny262.out] at ho; have n0_ := Aside0.mk (Kd.R_over' (ro HO_86) (Kd.N_typed (no HO_5)) (by decide) hg); have n1_ := Aside0.mk (blk_grown (g := gb229) (o := .cells #[.int .u64 a0_0, .int .u64 a0_1, .slice (some ad243) l0_2.length c0_2] 51 (0, 0)) (bk BK229) hg (Kd.N_ne HO_5.out BK229.out (by decide))); have n2_ := Aside0.mk (blk_grown (g := gb244) (o := .cells #[.string ((rd_T79 l0_2 x39_1).f0), .int .i64 ((rd_T79 l0_2 x39_1).f1.f0), .int .u64 ((rd_T79 l0_2 x39_1).f1.f1), .int .u64 ((rd_T79 l0_2 x39_1).f1.f2), .int .u64 ((rd_T79 l0_2 x39_1).f1.f3), .int .u64 ((rd_T79 l0_2 x39_1).f1.f4), .int .u64 ((rd_T79 l0_2 x39_1).f2.f0), .int .u64 ((rd_T79 l0_2 x39_1).f2.f1), .int .u64 ((rd_T79 l0_2 x39_1).f2.f2)] 79 (0, 0)) (bk BK244) hg (Kd.N_ne HO_5.out BK244.out (by decide))); have n3_ := Aside0.mk (hb); have n4_ := Aside0.mk (ho); clear HO_86; clear BK229; clear BK244; clear HB; clear HO_5; clear HO_8; have HO_86 := n0_; have BK229 := n1_; have BK244 := n2_; have HB := n3_; have HO264 := n4_; clear n0_ n1_ n2_ n3_ n4_; clear ho hb hg hat)))
                                go_roundg k3
                                case measure => have := HK1.out; have := HJ28.out; have := HK3.out; omega
                                case rel => exact ⟨(y262), (wrap64 (x39_1 + 1)), rs, H', ⟨by have := HK1.out; have := HJ28.out; have := HK3.out; omega⟩, ⟨by (with_reducible repeat (first | apply Kd.N_alloc | apply Kd.N_drewN | apply Kd.N_drew)); exact Kd.N_mono HO264.out (fun _ hk => hk.2.1)⟩, ⟨bk BK229⟩, ⟨bw HB⟩⟩
                              · rw [if_neg c52] at H
                                exact absurd H (by simp)
                  · rw [if_neg c28] at H
                    exact absurd H (by simp)
                · rw [if_neg c27] at H
                  have c27b0 : (t246 == 0) = false := beq_eq_false_iff_ne.mpr c27
                  have c27b1 : (t246 != 0) = true := bne_iff_ne.mpr c27
                  simp only [Option.some.injEq, Prod.mk.injEq] at H
                  obtain ⟨rfl, rfl⟩ := H
                  have p243 : 0 ≤ (x39_1 : Int) := of_decide_eq_true (by first | (with_reducible assumption) | assumption)
                  have q243 : x39_1 < (l0_2.length : Int) := of_decide_eq_true (by first | (with_reducible assumption) | assumption)
                  obtain ⟨ad243, e243, hx243_0, hx243_1, hx243_2, hx243_3, hx243_4, hx243_5, hx243_6, hx243_7, hx243_8⟩ := at_T79 HR0_2.out x39_1 p243 q243
                  cases e243
                  replace hx243_0 := (HB.out.cell (World.block_lt_of_cell? w _ hx243_0)).trans hx243_0
                  replace hx243_1 := (HB.out.cell (World.block_lt_of_cell? w _ hx243_1)).trans hx243_1
                  replace hx243_2 := (HB.out.cell (World.block_lt_of_cell? w _ hx243_2)).trans hx243_2
                  replace hx243_3 := (HB.out.cell (World.block_lt_of_cell? w _ hx243_3)).trans hx243_3
                  replace hx243_4 := (HB.out.cell (World.block_lt_of_cell? w _ hx243_4)).trans hx243_4
                  replace hx243_5 := (HB.out.cell (World.block_lt_of_cell? w _ hx243_5)).trans hx243_5
                  replace hx243_6 := (HB.out.cell (World.block_lt_of_cell? w _ hx243_6)).trans hx243_6
                  replace hx243_7 := (HB.out.cell (World.block_lt_of_cell? w _ hx243_7)).trans hx243_7
                  replace hx243_8 := (HB.out.cell (World.block_lt_of_cell? w _ hx243_8)).trans hx243_8
                  replace p243 := eq_true p243
                  replace q243 := eq_true q243
                  go_wp2_with (first | ((with_reducible refine gate_dst (N := 7) rfl ?_); refine bx 7 #[.string (⟨#[]⟩ : ByteArray), .int .i64 0, .int .u64 0, .int .u64 0, .int .u64 0, .int .u64 0, .int .u64 0, .int .u64 0, .int .u64 0] 79 ?_; intro gb244 hg w55 hbox hb; have n0_ := Aside0.mk (Kd.N_below (Kd.N_elderB (no HO_5) gb244 (Nat.le_of_eq hg.symm)) hb); have n1_ := bb BK229 hb; have n2_ := bs HB hb; have n3_ := Aside0.mk (hbox); have n4_ := sz HB hg; have n5_ := sz HB hg; have n6_ := nl BK229 hg; have n7_ := nr BK229 hg; clear HO_5; clear BK229; clear HB; have HO_5 := n0_; have BK229 := n1_; have HB := n2_; have BK244 := n3_; have GW244 := n4_; have GE244 := n5_; have NB229_244 := n6_; have NB244_229 := n7_; clear n0_ n1_ n2_ n3_ n4_ n5_ n6_ n7_; clear hb hbox hg; have hnb56 := NB244_229.out; have hnc56 := NB229_244.out; have hcz57_0 : w55.cell? ⟨gb244, 0, none⟩ = some (.string (⟨#[]⟩ : ByteArray)) := (blk_cell BK244.out 0).trans rfl; have hcz57_1 : w55.cell? ⟨gb244, 1, none⟩ = some (.int .i64 0) := (blk_cell BK244.out 1).trans rfl; have hcz57_2 : w55.cell? ⟨gb244, 2, none⟩ = some (.int .u64 0) := (blk_cell BK244.out 2).trans rfl; have hcz57_3 : w55.cell? ⟨gb244, 3, none⟩ = some (.int .u64 0) := (blk_cell BK244.out 3).trans rfl; have hcz57_4 : w55.cell? ⟨gb244, 4, none⟩ = some (.int .u64 0) := (blk_cell BK244.out 4).trans rfl; have hcz57_5 : w55.cell? ⟨gb244, 5, none⟩ = some (.int .u64 0) := (blk_cell BK244.out 5).trans rfl; have hcz57_6 : w55.cell? ⟨gb244, 6, none⟩ = some (.int .u64 0) := (blk_cell BK244.out 6).trans rfl; have hcz57_7 : w55.cell? ⟨gb244, 7, none⟩ = some (.int .u64 0) := (blk_cell BK244.out 7).trans rfl; have hcz57_8 : w55.cell? ⟨gb244, 8, none⟩ = some (.int .u64 0) := (blk_cell BK244.out 8).trans rfl; have hfz57_0 := blk_frozen BK244.out 0; have hfz57_1 := blk_frozen BK244.out 1; have hfz57_2 := blk_frozen BK244.out 2; have hfz57_3 := blk_frozen BK244.out 3; have hfz57_4 := blk_frozen BK244.out 4; have hfz57_5 := blk_frozen BK244.out 5; have hfz57_6 := blk_frozen BK244.out 6; have hfz57_7 := blk_frozen BK244.out 7; have hfz57_8 := blk_frozen BK244.out 8) | (go_at_call 36; (refine (pack_PutText.calls _ _ ([] : List Int) ((rd_T79 l0_2 x39_1).f0) t245 t246 _ ?side3 ?side1 ?side2 A25.out).mono ?_); (case side1 => exact Kd.C_nil _ _); (case side2 => exact Nat.le_refl _); (case side3 => exact (HERR.out.below (bw HB))); rintro e w58 ⟨v247, rfl, ho0, hb⟩; have n0_ := Aside0.mk (Kd.N_elder' (by (with_reducible repeat (first | apply Kd.N_alloc | apply Kd.N_drewN | apply Kd.N_drew)); exact (Kd.N_mono (Kd.N_far (p := ⟨gb244, 8, none⟩) (Kd.N_far (p := ⟨gb244, 7, none⟩) (Kd.N_far (p := ⟨gb244, 6, none⟩) (Kd.N_far (p := ⟨gb244, 5, none⟩) (Kd.N_far (p := ⟨gb244, 4, none⟩) (Kd.N_far (p := ⟨gb244, 3, none⟩) (Kd.N_far (p := ⟨gb244, 2, none⟩) (Kd.N_far (p := ⟨gb244, 1, none⟩) (Kd.N_far (p := ⟨gb244, 0, none⟩) (Kd.N_mono HO_5.out (fun k_ hk => (⟨hk, hk.2⟩ : _ ∧ k_ ≠ gb244))) (fun _ hk => hk.2) (.string ((rd_T79 l0_2 x39_1).f0))) (fun _ hk => hk.2) (.int .i64 ((rd_T79 l0_2 x39_1).f1.f0))) (fun _ hk => hk.2) (.int .u64 ((rd_T79 l0_2 x39_1).f1.f1))) (fun _ hk => hk.2) (.int .u64 ((rd_T79 l0_2 x39_1).f1.f2))) (fun _ hk => hk.2) (.int .u64 ((rd_T79 l0_2 x39_1).f1.f3))) (fun _ hk => hk.2) (.int .u64 ((rd_T79 l0_2 x39_1).f1.f4))) (fun _ hk => hk.2) (.int .u64 ((rd_T79 l0_2 x39_1).f2.f0))) (fun _ hk => hk.2) (.int .u64 ((rd_T79 l0_2 x39_1).f2.f1))) (fun _ hk => hk.2) (.int .u64 ((rd_T79 l0_2 x39_1).f2.f2))) (fun _ h_ => h_.1))) (Kd.R_base ho0) hb); have n1_ := Aside0.mk (Kd.R_lower ho0 (below_size (bw HB))); have n2_ := bb BK229 hb; have n3_ := Aside0.mk (blk_below (g := gb244) (o := .cells #[.string ((rd_T79 l0_2 x39_1).f0), .int .i64 ((rd_T79 l0_2 x39_1).f1.f0), .int .u64 ((rd_T79 l0_2 x39_1).f1.f1), .int .u64 ((rd_T79 l0_2 x39_1).f1.f2), .int .u64 ((rd_T79 l0_2 x39_1).f1.f3), .int .u64 ((rd_T79 l0_2 x39_1).f1.f4), .int .u64 ((rd_T79 l0_2 x39_1).f2.f0), .int .u64 ((rd_T79 l0_2 x39_1).f2.f1), .int .u64 ((rd_T79 l0_2 x39_1).f2.f2)] 79 (0, 0)) (by (with_reducible repeat (first | refine blk_drewN ?_ _ | refine blk_drew ?_ | refine blk_alloc ?_ _)); refine blk_put (cs := #[.string ((rd_T79 l0_2 x39_1).f0), .int .i64 ((rd_T79 l0_2 x39_1).f1.f0), .int .u64 ((rd_T79 l0_2 x39_1).f1.f1), .int .u64 ((rd_T79 l0_2 x39_1).f1.f2), .int .u64 ((rd_T79 l0_2 x39_1).f1.f3), .int .u64 ((rd_T79 l0_2 x39_1).f1.f4), .int .u64 ((rd_T79 l0_2 x39_1).f2.f0), .int .u64 ((rd_T79 l0_2 x39_1).f2.f1), .int .u64 0]) ?_ 8 _ rfl; (with_reducible repeat (first | refine blk_drewN ?_ _ | refine blk_drew ?_ | refine blk_alloc ?_ _)); refine blk_put (cs := #[.string ((rd_T79 l0_2 x39_1).f0), .int .i64 ((rd_T79 l0_2 x39_1).f1.f0), .int .u64 ((rd_T79 l0_2 x39_1).f1.f1), .int .u64 ((rd_T79 l0_2 x39_1).f1.f2), .int .u64 ((rd_T79 l0_2 x39_1).f1.f3), .int .u64 ((rd_T79 l0_2 x39_1).f1.f4), .int .u64 ((rd_T79 l0_2 x39_1).f2.f0), .int .u64 0, .int .u64 0]) ?_ 7 _ rfl; (with_reducible repeat (first | refine blk_drewN ?_ _ | refine blk_drew ?_ | refine blk_alloc ?_ _)); refine blk_put (cs := #[.string ((rd_T79 l0_2 x39_1).f0), .int .i64 ((rd_T79 l0_2 x39_1).f1.f0), .int .u64 ((rd_T79 l0_2 x39_1).f1.f1), .int .u64 ((rd_T79 l0_2 x39_1).f1.f2), .int .u64 ((rd_T79 l0_2 x39_1).f1.f3), .int .u64 ((rd_T79 l0_2 x39_1).f1.f4), .int .u64 0, .int .u64 0, .int .u64 0]) ?_ 6 _ rfl; (with_reducible repeat (first | refine blk_drewN ?_ _ | refine blk_drew ?_ | refine blk_alloc ?_ _)); refine blk_put (cs := #[.string ((rd_T79 l0_2 x39_1).f0), .int .i64 ((rd_T79 l0_2 x39_1).f1.f0), .int .u64 ((rd_T79 l0_2 x39_1).f1.f1), .int .u64 ((rd_T79 l0_2 x39_1).f1.f2), .int .u64 ((rd_T79 l0_2 x39_1).f1.f3), .int .u64 0, .int .u64 0, .int .u64 0, .int .u64 0]) ?_ 5 _ rfl; (with_reducible repeat (first | refine blk_drewN ?_ _ | refine blk_drew ?_ | refine blk_alloc ?_ _)); refine blk_put (cs := #[.string ((rd_T79 l0_2 x39_1).f0), .int .i64 ((rd_T79 l0_2 x39_1).f1.f0), .int .u64 ((rd_T79 l0_2 x39_1).f1.f1), .int .u64 ((rd_T79 l0_2 x39_1).f1.f2), .int .u64 0, .int .u64 0, .int .u64 0, .int .u64 0, .int .u64 0]) ?_ 4 _ rfl; (with_reducible repeat (first | refine blk_drewN ?_ _ | refine blk_drew ?_ | refine blk_alloc ?_ _)); refine blk_put (cs := #[.string ((rd_T79 l0_2 x39_1).f0), .int .i64 ((rd_T79 l0_2 x39_1).f1.f0), .int .u64 ((rd_T79 l0_2 x39_1).f1.f1), .int .u64 0, .int .u64 0, .int .u64 0, .int .u64 0, .int .u64 0, .int .u64 0]) ?_ 3 _ rfl; (with_reducible repeat (first | refine blk_drewN ?_ _ | refine blk_drew ?_ | refine blk_alloc ?_ _)); refine blk_put (cs := #[.string ((rd_T79 l0_2 x39_1).f0), .int .i64 ((rd_T79 l0_2 x39_1).f1.f0), .int .u64 0, .int .u64 0, .int .u64 0, .int .u64 0, .int .u64 0, .int .u64 0, .int .u64 0]) ?_ 2 _ rfl; (with_reducible repeat (first | refine blk_drewN ?_ _ | refine blk_drew ?_ | refine blk_alloc ?_ _)); refine blk_put (cs := #[.string ((rd_T79 l0_2 x39_1).f0), .int .i64 0, .int .u64 0, .int .u64 0, .int .u64 0, .int .u64 0, .int .u64 0, .int .u64 0, .int .u64 0]) ?_ 1 _ rfl; (with_reducible repeat (first | refine blk_drewN ?_ _ | refine blk_drew ?_ | refine blk_alloc ?_ _)); refine blk_put (cs := #[.string (⟨#[]⟩ : ByteArray), .int .i64 0, .int .u64 0, .int .u64 0, .int .u64 0, .int .u64 0, .int .u64 0, .int .u64 0, .int .u64 0]) ?_ 0 _ rfl; (with_reducible repeat (first | refine blk_drewN ?_ _ | refine blk_drew ?_ | refine blk_alloc ?_ _)); exact BK244.out) hb); have n4_ := bs HB hb; clear HO_5; clear BK229; clear BK244; clear HB; have HO_5 := n0_; have HO248 := n1_; have BK229 := n2_; have BK244 := n3_; have HB := n4_; clear n0_ n1_ n2_ n3_ n4_; (try clear hb); (try clear hb2); (try clear hk); (try clear hi); (try clear ho0)) | ((with_reducible refine gate_dst (N := 50) rfl ?_); refine nen_err t246 (b := (t246 != 0)) ?_ rfl (of_decide_eq_true (by first | (with_reducible assumption) | assumption))))
                  repeat (go_quiet (first | ((with_reducible refine gate_dst (N := 7) rfl ?_); refine bx 7 #[.string (⟨#[]⟩ : ByteArray), .int .i64 0, .int .u64 0, .int .u64 0, .int .u64 0, .int .u64 0, .int .u64 0, .int .u64 0, .int .u64 0] 79 ?_; intro gb244 hg w55 hbox hb; have n0_ := Aside0.mk (Kd.N_below (Kd.N_elderB (no HO_5) gb244 (Nat.le_of_eq hg.symm)) hb); have n1_ := bb BK229 hb; have n2_ := bs HB hb; have n3_ := Aside0.mk (hbox); have n4_ := sz HB hg; have n5_ := sz HB hg; have n6_ := nl BK229 hg; have n7_ := nr BK229 hg; clear HO_5; clear BK229; clear HB; have HO_5 := n0_; have BK229 := n1_; have HB := n2_; have BK244 := n3_; have GW244 := n4_; have GE244 := n5_; have NB229_244 := n6_; have NB244_229 := n7_; clear n0_ n1_ n2_ n3_ n4_ n5_ n6_ n7_; clear hb hbox hg; have hnb56 := NB244_229.out; have hnc56 := NB229_244.out; have hcz57_0 : w55.cell? ⟨gb244, 0, none⟩ = some (.string (⟨#[]⟩ : ByteArray)) := (blk_cell BK244.out 0).trans rfl; have hcz57_1 : w55.cell? ⟨gb244, 1, none⟩ = some (.int .i64 0) := (blk_cell BK244.out 1).trans rfl; have hcz57_2 : w55.cell? ⟨gb244, 2, none⟩ = some (.int .u64 0) := (blk_cell BK244.out 2).trans rfl; have hcz57_3 : w55.cell? ⟨gb244, 3, none⟩ = some (.int .u64 0) := (blk_cell BK244.out 3).trans rfl; have hcz57_4 : w55.cell? ⟨gb244, 4, none⟩ = some (.int .u64 0) := (blk_cell BK244.out 4).trans rfl; have hcz57_5 : w55.cell? ⟨gb244, 5, none⟩ = some (.int .u64 0) := (blk_cell BK244.out 5).trans rfl; have hcz57_6 : w55.cell? ⟨gb244, 6, none⟩ = some (.int .u64 0) := (blk_cell BK244.out 6).trans rfl; have hcz57_7 : w55.cell? ⟨gb244, 7, none⟩ = some (.int .u64 0) := (blk_cell BK244.out 7).trans rfl; have hcz57_8 : w55.cell? ⟨gb244, 8, none⟩ = some (.int .u64 0) := (blk_cell BK244.out 8).trans rfl; have hfz57_0 := blk_frozen BK244.out 0; have hfz57_1 := blk_frozen BK244.out 1; have hfz57_2 := blk_frozen BK244.out 2; have hfz57_3 := blk_frozen BK244.out 3; have hfz57_4 := blk_frozen BK244.out 4; have hfz57_5 := blk_frozen BK244.out 5; have hfz57_6 := blk_frozen BK244.out 6; have hfz57_7 := blk_frozen BK244.out 7; have hfz57_8 := blk_frozen BK244.out 8) | (go_at_call 36; (refine (pack_PutText.calls _ _ ([] : List Int) ((rd_T79 l0_2 x39_1).f0) t245 t246 _ ?side3 ?side1 ?side2 A25.out).mono ?_); (case side1 => exact Kd.C_nil _ _); (case side2 => exact Nat.le_refl _); (case side3 => exact (HERR.out.below (bw HB))); rintro e w58 ⟨v247, rfl, ho0, hb⟩; have n0_ := Aside0.mk (Kd.N_elder' (by (with_reducible repeat (first | apply Kd.N_alloc | apply Kd.N_drewN | apply Kd.N_drew)); exact (Kd.N_mono (Kd.N_far (p := ⟨gb244, 8, none⟩) (Kd.N_far (p := ⟨gb244, 7, none⟩) (Kd.N_far (p := ⟨gb244, 6, none⟩) (Kd.N_far (p := ⟨gb244, 5, none⟩) (Kd.N_far (p := ⟨gb244, 4, none⟩) (Kd.N_far (p := ⟨gb244, 3, none⟩) (Kd.N_far (p := ⟨gb244, 2, none⟩) (Kd.N_far (p := ⟨gb244, 1, none⟩) (Kd.N_far (p := ⟨gb244, 0, none⟩) (Kd.N_mono HO_5.out (fun k_ hk => (⟨hk, hk.2⟩ : _ ∧ k_ ≠ gb244))) (fun _ hk => hk.2) (.string ((rd_T79 l0_2 x39_1).f0))) (fun _ hk => hk.2) (.int .i64 ((rd_T79 l0_2 x39_1).f1.f0))) (fun _ hk => hk.2) (.int .u64 ((rd_T79 l0_2 x39_1).f1.f1))) (fun _ hk => hk.2) (.int .u64 ((rd_T79 l0_2 x39_1).f1.f2))) (fun _ hk => hk.2) (.int .u64 ((rd_T79 l0_2 x39_1).f1.f3))) (fun _ hk => hk.2) (.int .u64 ((rd_T79 l0_2 x39_1).f1.f4))) (fun _ hk => hk.2) (.int .u64 ((rd_T79 l0_2 x39_1).f2.f0))) (fun _ hk => hk.2) (.int .u64 ((rd_T79 l0_2 x39_1).f2.f1))) (fun _ hk => hk.2) (.int .u64 ((rd_T79 l0_2 x39_1).f2.f2))) (fun _ h_ => h_.1))) (Kd.R_base ho0) hb); have n1_ := Aside0.mk (Kd.R_lower ho0 (below_size (bw HB))); have n2_ := bb BK229 hb; have n3_ := Aside0.mk (blk_below (g := gb244) (o := .cells #[.string ((rd_T79 l0_2 x39_1).f0), .int .i64 ((rd_T79 l0_2 x39_1).f1.f0), .int .u64 ((rd_T79 l0_2 x39_1).f1.f1), .int .u64 ((rd_T79 l0_2 x39_1).f1.f2), .int .u64 ((rd_T79 l0_2 x39_1).f1.f3), .int .u64 ((rd_T79 l0_2 x39_1).f1.f4), .int .u64 ((rd_T79 l0_2 x39_1).f2.f0), .int .u64 ((rd_T79 l0_2 x39_1).f2.f1), .int .u64 ((rd_T79 l0_2 x39_1).f2.f2)] 79 (0, 0)) (by (with_reducible repeat (first | refine blk_drewN ?_ _ | refine blk_drew ?_ | refine blk_alloc ?_ _)); refine blk_put (cs := #[.string ((rd_T79 l0_2 x39_1).f0), .int .i64 ((rd_T79 l0_2 x39_1).f1.f0), .int .u64 ((rd_T79 l0_2 x39_1).f1.f1), .int .u64 ((rd_T79 l0_2 x39_1).f1.f2), .int .u64 ((rd_T79 l0_2 x39_1).f1.f3), .int .u64 ((rd_T79 l0_2 x39_1).f1.f4), .int .u64 ((rd_T79 l0_2 x39_1).f2.f0), .int .u64 ((rd_T79 l0_2 x39_1).f2.f1), .int .u64 0]) ?_ 8 _ rfl; (with_reducible repeat (first | refine blk_drewN ?_ _ | refine blk_drew ?_ | refine blk_alloc ?_ _)); refine blk_put (cs := #[.string ((rd_T79 l0_2 x39_1).f0), .int .i64 ((rd_T79 l0_2 x39_1).f1.f0), .int .u64 ((rd_T79 l0_2 x39_1).f1.f1), .int .u64 ((rd_T79 l0_2 x39_1).f1.f2), .int .u64 ((rd_T79 l0_2 x39_1).f1.f3), .int .u64 ((rd_T79 l0_2 x39_1).f1.f4), .int .u64 ((rd_T79 l0_2 x39_1).f2.f0), .int .u64 0, .int .u64 0]) ?_ 7 _ rfl; (with_reducible repeat (first | refine blk_drewN ?_ _ | refine blk_drew ?_ | refine blk_alloc ?_ _)); refine blk_put (cs := #[.string ((rd_T79 l0_2 x39_1).f0), .int .i64 ((rd_T79 l0_2 x39_1).f1.f0), .int .u64 ((rd_T79 l0_2 x39_1).f1.f1), .int .u64 ((rd_T79 l0_2 x39_1).f1.f2), .int .u64 ((rd_T79 l0_2 x39_1).f1.f3), .int .u64 ((rd_T79 l0_2 x39_1).f1.f4), .int .u64 0, .int .u64 0, .int .u64 0]) ?_ 6 _ rfl; (with_reducible repeat (first | refine blk_drewN ?_ _ | refine blk_drew ?_ | refine blk_alloc ?_ _)); refine blk_put (cs := #[.string ((rd_T79 l0_2 x39_1).f0), .int .i64 ((rd_T79 l0_2 x39_1).f1.f0), .int .u64 ((rd_T79 l0_2 x39_1).f1.f1), .int .u64 ((rd_T79 l0_2 x39_1).f1.f2), .int .u64 ((rd_T79 l0_2 x39_1).f1.f3), .int .u64 0, .int .u64 0, .int .u64 0, .int .u64 0]) ?_ 5 _ rfl; (with_reducible repeat (first | refine blk_drewN ?_ _ | refine blk_drew ?_ | refine blk_alloc ?_ _)); refine blk_put (cs := #[.string ((rd_T79 l0_2 x39_1).f0), .int .i64 ((rd_T79 l0_2 x39_1).f1.f0), .int .u64 ((rd_T79 l0_2 x39_1).f1.f1), .int .u64 ((rd_T79 l0_2 x39_1).f1.f2), .int .u64 0, .int .u64 0, .int .u64 0, .int .u64 0, .int .u64 0]) ?_ 4 _ rfl; (with_reducible repeat (first | refine blk_drewN ?_ _ | refine blk_drew ?_ | refine blk_alloc ?_ _)); refine blk_put (cs := #[.string ((rd_T79 l0_2 x39_1).f0), .int .i64 ((rd_T79 l0_2 x39_1).f1.f0), .int .u64 ((rd_T79 l0_2 x39_1).f1.f1), .int .u64 0, .int .u64 0, .int .u64 0, .int .u64 0, .int .u64 0, .int .u64 0]) ?_ 3 _ rfl; (with_reducible repeat (first | refine blk_drewN ?_ _ | refine blk_drew ?_ | refine blk_alloc ?_ _)); refine blk_put (cs := #[.string ((rd_T79 l0_2 x39_1).f0), .int .i64 ((rd_T79 l0_2 x39_1).f1.f0), .int .u64 0, .int .u64 0, .int .u64 0, .int .u64 0, .int .u64 0, .int .u64 0, .int .u64 0]) ?_ 2 _ rfl; (with_reducible repeat (first | refine blk_drewN ?_ _ | refine blk_drew ?_ | refine blk_alloc ?_ _)); refine blk_put (cs := #[.string ((rd_T79 l0_2 x39_1).f0), .int .i64 0, .int .u64 0, .int .u64 0, .int .u64 0, .int .u64 0, .int .u64 0, .int .u64 0, .int .u64 0]) ?_ 1 _ rfl; (with_reducible repeat (first | refine blk_drewN ?_ _ | refine blk_drew ?_ | refine blk_alloc ?_ _)); refine blk_put (cs := #[.string (⟨#[]⟩ : ByteArray), .int .i64 0, .int .u64 0, .int .u64 0, .int .u64 0, .int .u64 0, .int .u64 0, .int .u64 0, .int .u64 0]) ?_ 0 _ rfl; (with_reducible repeat (first | refine blk_drewN ?_ _ | refine blk_drew ?_ | refine blk_alloc ?_ _)); exact BK244.out) hb); have n4_ := bs HB hb; clear HO_5; clear BK229; clear BK244; clear HB; have HO_5 := n0_; have HO248 := n1_; have BK229 := n2_; have BK244 := n3_; have HB := n4_; clear n0_ n1_ n2_ n3_ n4_; (try clear hb); (try clear hb2); (try clear hk); (try clear hi); (try clear ho0)) | ((with_reducible refine gate_dst (N := 50) rfl ?_); refine nen_err t246 (b := (t246 != 0)) ?_ rfl (of_decide_eq_true (by first | (with_reducible assumption) | assumption)))); try go_wp2_with (first | ((with_reducible refine gate_dst (N := 7) rfl ?_); refine bx 7 #[.string (⟨#[]⟩ : ByteArray), .int .i64 0, .int .u64 0, .int .u64 0, .int .u64 0, .int .u64 0, .int .u64 0, .int .u64 0, .int .u64 0] 79 ?_; intro gb244 hg w55 hbox hb; have n0_ := Aside0.mk (Kd.N_below (Kd.N_elderB (no HO_5) gb244 (Nat.le_of_eq hg.symm)) hb); have n1_ := bb BK229 hb; have n2_ := bs HB hb; have n3_ := Aside0.mk (hbox); have n4_ := sz HB hg; have n5_ := sz HB hg; have n6_ := nl BK229 hg; have n7_ := nr BK229 hg; clear HO_5; clear BK229; clear HB; have HO_5 := n0_; have BK229 := n1_; have HB := n2_; have BK244 := n3_; have GW244 := n4_; have GE244 := n5_; have NB229_244 := n6_; have NB244_229 := n7_; clear n0_ n1_ n2_ n3_ n4_ n5_ n6_ n7_; clear hb hbox hg; have hnb56 := NB244_229.out; have hnc56 := NB229_244.out; have hcz57_0 : w55.cell? ⟨gb244, 0, none⟩ = some (.string (⟨#[]⟩ : ByteArray)) := (blk_cell BK244.out 0).trans rfl; have hcz57_1 : w55.cell? ⟨gb244, 1, none⟩ = some (.int .i64 0) := (blk_cell BK244.out 1).trans rfl; have hcz57_2 : w55.cell? ⟨gb244, 2, none⟩ = some (.int .u64 0) := (blk_cell BK244.out 2).trans rfl; have hcz57_3 : w55.cell? ⟨gb244, 3, none⟩ = some (.int .u64 0) := (blk_cell BK244.out 3).trans rfl; have hcz57_4 : w55.cell? ⟨gb244, 4, none⟩ = some (.int .u64 0) := (blk_cell BK244.out 4).trans rfl; have hcz57_5 : w55.cell? ⟨gb244, 5, none⟩ = some (.int .u64 0) := (blk_cell BK244.out 5).trans rfl; have hcz57_6 : w55.cell? ⟨gb244, 6, none⟩ = some (.int .u64 0) := (blk_cell BK244.out 6).trans rfl; have hcz57_7 : w55.cell? ⟨gb244, 7, none⟩ = some (.int .u64 0) := (blk_cell BK244.out 7).trans rfl; have hcz57_8 : w55.cell? ⟨gb244, 8, none⟩ = some (.int .u64 0) := (blk_cell BK244.out 8).trans rfl; have hfz57_0 := blk_frozen BK244.out 0; have hfz57_1 := blk_frozen BK244.out 1; have hfz57_2 := blk_frozen BK244.out 2; have hfz57_3 := blk_frozen BK244.out 3; have hfz57_4 := blk_frozen BK244.out 4; have hfz57_5 := blk_frozen BK244.out 5; have hfz57_6 := blk_frozen BK244.out 6; have hfz57_7 := blk_frozen BK244.out 7; have hfz57_8 := blk_frozen BK244.out 8) | (go_at_call 36; (refine (pack_PutText.calls _ _ ([] : List Int) ((rd_T79 l0_2 x39_1).f0) t245 t246 _ ?side3 ?side1 ?side2 A25.out).mono ?_); (case side1 => exact Kd.C_nil _ _); (case side2 => exact Nat.le_refl _); (case side3 => exact (HERR.out.below (bw HB))); rintro e w58 ⟨v247, rfl, ho0, hb⟩; have n0_ := Aside0.mk (Kd.N_elder' (by (with_reducible repeat (first | apply Kd.N_alloc | apply Kd.N_drewN | apply Kd.N_drew)); exact (Kd.N_mono (Kd.N_far (p := ⟨gb244, 8, none⟩) (Kd.N_far (p := ⟨gb244, 7, none⟩) (Kd.N_far (p := ⟨gb244, 6, none⟩) (Kd.N_far (p := ⟨gb244, 5, none⟩) (Kd.N_far (p := ⟨gb244, 4, none⟩) (Kd.N_far (p := ⟨gb244, 3, none⟩) (Kd.N_far (p := ⟨gb244, 2, none⟩) (Kd.N_far (p := ⟨gb244, 1, none⟩) (Kd.N_far (p := ⟨gb244, 0, none⟩) (Kd.N_mono HO_5.out (fun k_ hk => (⟨hk, hk.2⟩ : _ ∧ k_ ≠ gb244))) (fun _ hk => hk.2) (.string ((rd_T79 l0_2 x39_1).f0))) (fun _ hk => hk.2) (.int .i64 ((rd_T79 l0_2 x39_1).f1.f0))) (fun _ hk => hk.2) (.int .u64 ((rd_T79 l0_2 x39_1).f1.f1))) (fun _ hk => hk.2) (.int .u64 ((rd_T79 l0_2 x39_1).f1.f2))) (fun _ hk => hk.2) (.int .u64 ((rd_T79 l0_2 x39_1).f1.f3))) (fun _ hk => hk.2) (.int .u64 ((rd_T79 l0_2 x39_1).f1.f4))) (fun _ hk => hk.2) (.int .u64 ((rd_T79 l0_2 x39_1).f2.f0))) (fun _ hk => hk.2) (.int .u64 ((rd_T79 l0_2 x39_1).f2.f1))) (fun _ hk => hk.2) (.int .u64 ((rd_T79 l0_2 x39_1).f2.f2))) (fun _ h_ => h_.1))) (Kd.R_base ho0) hb); have n1_ := Aside0.mk (Kd.R_lower ho0 (below_size (bw HB))); have n2_ := bb BK229 hb; have n3_ := Aside0.mk (blk_below (g := gb244) (o := .cells #[.string ((rd_T79 l0_2 x39_1).f0), .int .i64 ((rd_T79 l0_2 x39_1).f1.f0), .int .u64 ((rd_T79 l0_2 x39_1).f1.f1), .int .u64 ((rd_T79 l0_2 x39_1).f1.f2), .int .u64 ((rd_T79 l0_2 x39_1).f1.f3), .int .u64 ((rd_T79 l0_2 x39_1).f1.f4), .int .u64 ((rd_T79 l0_2 x39_1).f2.f0), .int .u64 ((rd_T79 l0_2 x39_1).f2.f1), .int .u64 ((rd_T79 l0_2 x39_1).f2.f2)] 79 (0, 0)) (by (with_reducible repeat (first | refine blk_drewN ?_ _ | refine blk_drew ?_ | refine blk_alloc ?_ _)); refine blk_put (cs := #[.string ((rd_T79 l0_2 x39_1).f0), .int .i64 ((rd_T79 l0_2 x39_1).f1.f0), .int .u64 ((rd_T79 l0_2 x39_1).f1.f1), .int .u64 ((rd_T79 l0_2 x39_1).f1.f2), .int .u64 ((rd_T79 l0_2 x39_1).f1.f3), .int .u64 ((rd_T79 l0_2 x39_1).f1.f4), .int .u64 ((rd_T79 l0_2 x39_1).f2.f0), .int .u64 ((rd_T79 l0_2 x39_1).f2.f1), .int .u64 0]) ?_ 8 _ rfl; (with_reducible repeat (first | refine blk_drewN ?_ _ | refine blk_drew ?_ | refine blk_alloc ?_ _)); refine blk_put (cs := #[.string ((rd_T79 l0_2 x39_1).f0), .int .i64 ((rd_T79 l0_2 x39_1).f1.f0), .int .u64 ((rd_T79 l0_2 x39_1).f1.f1), .int .u64 ((rd_T79 l0_2 x39_1).f1.f2), .int .u64 ((rd_T79 l0_2 x39_1).f1.f3), .int .u64 ((rd_T79 l0_2 x39_1).f1.f4), .int .u64 ((rd_T79 l0_2 x39_1).f2.f0), .int .u64 0, .int .u64 0]) ?_ 7 _ rfl; (with_reducible repeat (first | refine blk_drewN ?_ _ | refine blk_drew ?_ | refine blk_alloc ?_ _)); refine blk_put (cs := #[.string ((rd_T79 l0_2 x39_1).f0), .int .i64 ((rd_T79 l0_2 x39_1).f1.f0), .int .u64 ((rd_T79 l0_2 x39_1).f1.f1), .int .u64 ((rd_T79 l0_2 x39_1).f1.f2), .int .u64 ((rd_T79 l0_2 x39_1).f1.f3), .int .u64 ((rd_T79 l0_2 x39_1).f1.f4), .int .u64 0, .int .u64 0, .int .u64 0]) ?_ 6 _ rfl; (with_reducible repeat (first | refine blk_drewN ?_ _ | refine blk_drew ?_ | refine blk_alloc ?_ _)); refine blk_put (cs := #[.string ((rd_T79 l0_2 x39_1).f0), .int .i64 ((rd_T79 l0_2 x39_1).f1.f0), .int .u64 ((rd_T79 l0_2 x39_1).f1.f1), .int .u64 ((rd_T79 l0_2 x39_1).f1.f2), .int .u64 ((rd_T79 l0_2 x39_1).f1.f3), .int .u64 0, .int .u64 0, .int .u64 0, .int .u64 0]) ?_ 5 _ rfl; (with_reducible repeat (first | refine blk_drewN ?_ _ | refine blk_drew ?_ | refine blk_alloc ?_ _)); refine blk_put (cs := #[.string ((rd_T79 l0_2 x39_1).f0), .int .i64 ((rd_T79 l0_2 x39_1).f1.f0), .int .u64 ((rd_T79 l0_2 x39_1).f1.f1), .int .u64 ((rd_T79 l0_2 x39_1).f1.f2), .int .u64 0, .int .u64 0, .int .u64 0, .int .u64 0, .int .u64 0]) ?_ 4 _ rfl; (with_reducible repeat (first | refine blk_drewN ?_ _ | refine blk_drew ?_ | refine blk_alloc ?_ _)); refine blk_put (cs := #[.string ((rd_T79 l0_2 x39_1).f0), .int .i64 ((rd_T79 l0_2 x39_1).f1.f0), .int .u64 ((rd_T79 l0_2 x39_1).f1.f1), .int .u64 0, .int .u64 0, .int .u64 0, .int .u64 0, .int .u64 0, .int .u64 0]) ?_ 3 _ rfl; (with_reducible repeat (first | refine blk_drewN ?_ _ | refine blk_drew ?_ | refine blk_alloc ?_ _)); refine blk_put (cs := #[.string ((rd_T79 l0_2 x39_1).f0), .int .i64 ((rd_T79 l0_2 x39_1).f1.f0), .int .u64 0, .int .u64 0, .int .u64 0, .int .u64 0, .int .u64 0, .int .u64 0, .int .u64 0]) ?_ 2 _ rfl; (with_reducible repeat (first | refine blk_drewN ?_ _ | refine blk_drew ?_ | refine blk_alloc ?_ _)); refine blk_put (cs := #[.string ((rd_T79 l0_2 x39_1).f0), .int .i64 0, .int .u64 0, .int .u64 0, .int .u64 0, .int .u64 0, .int .u64 0, .int .u64 0, .int .u64 0]) ?_ 1 _ rfl; (with_reducible repeat (first | refine blk_drewN ?_ _ | refine blk_drew ?_ | refine blk_alloc ?_ _)); refine blk_put (cs := #[.string (⟨#[]⟩ : ByteArray), .int .i64 0, .int .u64 0, .int .u64 0, .int .u64 0, .int .u64 0, .int .u64 0, .int .u64 0, .int .u64 0]) ?_ 0 _ rfl; (with_reducible repeat (first | refine blk_drewN ?_ _ | refine blk_drew ?_ | refine blk_alloc ?_ _)); exact BK244.out) hb); have n4_ := bs HB hb; clear HO_5; clear BK229; clear BK244; clear HB; have HO_5 := n0_; have HO248 := n1_; have BK229 := n2_; have BK244 := n3_; have HB := n4_; clear n0_ n1_ n2_ n3_ n4_; (try clear hb); (try clear hb2); (try clear hk); (try clear hi); (try clear ho0)) | ((with_reducible refine gate_dst (N := 50) rfl ?_); refine nen_err t246 (b := (t246 != 0)) ?_ rfl (of_decide_eq_true (by first | (with_reducible assumption) | assumption)))))
                  go_ret2
                  exact ⟨_, re, by first | exact Kd.R_nil _ _ _ _ _ | exact Kd.N_nil _ _ _ _ _ | exact Kd.V_nil _ _ _ _ _ | exact Kd.Q_nil _ _ _ _ _ | exact Kd.S_nil _ _ _ _ _, bw HB⟩
              · rw [if_neg c26] at H
                exact absurd H (by simp)
            · rw [if_neg c24] at H
              exact absurd H (by simp)
          · rw [if_neg c23] at H
            exact absurd H (by simp)
        · rw [if_neg c22] at H
          have c22b0 : decide (x39_1 < (l0_2.length : Int)) = false := decide_eq_false c22
          clear c22
          have H' := Aside0.mk H
          clear H
          obtain ⟨Ao59, co59, eo59⟩ := Kd.N_slice HO_5.out
          subst eo59
          go_wp2
          repeat (go_quiet (fail); try go_wp2)
          go_loopg [4, 103] k1 (fun kq v4 v103 w' => ∃ (x4_2 : List Int) (x103_2 : Int), v103 = .int .i64 x103_2 ∧ Aside0 (image_Encode.l2 kq x4_2 x5_1 (x5_1.length : Int) x103_2 = some (r1, r2)) ∧ Aside0 (kq ≤ k1) ∧ Aside0 (Kd.R (Kd.int .u8) 5 w' w.heap.size (fun _ => True) v4 x4_2) ∧ Aside0 (Kd.N (Kd.slice 5 (Kd.int .u8)) 33 w' w.heap.size (fun k_ => some k_ ≠ (v4 : Value).ownBlock ∧ k_ ≠ gb229) (.slice Ao59 x5_1.length co59) x5_1) ∧ Aside0 (w'.heap[gb229]? = some (.cells #[.int .u64 a0_0, .int .u64 a0_1, (.slice A0_2 l0_2.length c0_2)] 51 (0, 0))) ∧ Aside0 (Below w.heap.size w w'))
          case atStart => exact ⟨(([] : List Int)), (0), rs, H', ⟨Nat.le_refl _⟩, ⟨by first | exact Kd.R_nil _ _ _ _ _ | exact Kd.N_nil _ _ _ _ _ | exact Kd.V_nil _ _ _ _ _ | exact Kd.Q_nil _ _ _ _ _ | exact Kd.S_nil _ _ _ _ _⟩, ⟨by (with_reducible repeat (first | apply Kd.N_alloc | apply Kd.N_drewN | apply Kd.N_drew)); exact Kd.N_mono HO_5.out (fun _ hk => ⟨(by simp [Value.ownBlock]), hk⟩)⟩, ⟨bk BK229⟩, ⟨bw HB⟩⟩
          case round =>
            clear H'
            try clear c2
            try clear p2
            try clear q2
            try clear hx2
            try clear c3
            try clear c4
            try clear c5
            try clear p6
            try clear c22
            try clear c22b0
            try clear c23
            try clear c23b0
            try clear c24
            try clear c24b0
            try clear p24
            try clear q24
            try clear hx24
            try clear p25
            try clear q25
            try clear hx25
            try clear c26
            try clear c26b0
            try clear c26b1
            try clear c27
            try clear c27b0
            try clear c27b1
            try clear c28
            try clear c31
            try clear c40
            try clear c40b0
            try clear c40b1
            try clear c41
            try clear c46
            try clear c46b0
            try clear c47
            try clear c47b0
            try clear c48
            try clear c48b0
            try clear c52
            try clear c56
            try clear hcz10_0
            try clear hcz10_1
            try clear hcz10_2
            try clear hcz12_0
            try clear hcz12_1
            try clear hcz12_2
            try clear hcz15_0
            try clear hcz15_1
            try clear hcz15_2
            try clear hcz21_0
            try clear hcz21_1
            try clear hcz21_2
            try clear hcz32_0
            try clear hcz32_1
            try clear hcz32_2
            try clear hcz32_3
            try clear hcz32_4
            try clear hcz32_5
            try clear hcz32_6
            try clear hcz32_7
            try clear hcz32_8
            try clear hcz34_0
            try clear hcz34_1
            try clear hcz34_2
            try clear hcz34_3
            try clear hcz34_4
            try clear hcz34_5
            try clear hcz34_6
            try clear hcz34_7
            try clear hcz34_8
            try clear hcz36_0
            try clear hcz36_1
            try clear hcz36_2
            try clear hcz36_3
            try clear hcz36_4
            try clear hcz36_5
            try clear hcz36_6
            try clear hcz36_7
            try clear hcz36_8
            try clear hcz39_0
            try clear hcz39_1
            try clear hcz39_2
            try clear hcz39_3
            try clear hcz39_4
            try clear hcz39_5
            try clear hcz39_6
            try clear hcz39_7
            try clear hcz39_8
            try clear hcz42_0
            try clear hcz42_1
            try clear hcz42_2
            try clear hcz42_3
            try clear hcz42_4
            try clear hcz42_5
            try clear hcz42_6
            try clear hcz42_7
            try clear hcz42_8
            try clear hcz57_0
            try clear hcz57_1
            try clear hcz57_2
            try clear hcz57_3
            try clear hcz57_4
            try clear hcz57_5
            try clear hcz57_6
            try clear hcz57_7
            try clear hcz57_8
            try clear hcz8_0
            try clear hcz8_1
            try clear hcz8_2
            try clear hfz10_0
            try clear hfz10_1
            try clear hfz10_2
            try clear hfz12_0
            try clear hfz12_1
            try clear hfz12_2
            try clear hfz15_0
            try clear hfz15_1
            try clear hfz15_2
            try clear hfz21_0
            try clear hfz21_1
            try clear hfz21_2
            try clear hfz32_0
            try clear hfz32_1
            try clear hfz32_2
            try clear hfz32_3
            try clear hfz32_4
            try clear hfz32_5
            try clear hfz32_6
            try clear hfz32_7
            try clear hfz32_8
            try clear hfz34_0
            try clear hfz34_1
            try clear hfz34_2
            try clear hfz34_3
            try clear hfz34_4
            try clear hfz34_5
            try clear hfz34_6
            try clear hfz34_7
            try clear hfz34_8
            try clear hfz36_0
            try clear hfz36_1
            try clear hfz36_2
            try clear hfz36_3
            try clear hfz36_4
            try clear hfz36_5
            try clear hfz36_6
            try clear hfz36_7
            try clear hfz36_8
            try clear hfz39_0
            try clear hfz39_1
            try clear hfz39_2
            try clear hfz39_3
            try clear hfz39_4
            try clear hfz39_5
            try clear hfz39_6
            try clear hfz39_7
            try clear hfz39_8
            try clear hfz42_0
            try clear hfz42_1
            try clear hfz42_2
            try clear hfz42_3
            try clear hfz42_4
            try clear hfz42_5
            try clear hfz42_6
            try clear hfz42_7
            try clear hfz42_8
            try clear hfz57_0
            try clear hfz57_1
            try clear hfz57_2
            try clear hfz57_3
            try clear hfz57_4
            try clear hfz57_5
            try clear hfz57_6
            try clear hfz57_7
            try clear hfz57_8
            try clear hfz8_0
            try clear hfz8_1
            try clear hfz8_2
            try clear hx243_0
            try clear hx243_1
            try clear hx243_2
            try clear hx243_3
            try clear hx243_4
            try clear hx243_5
            try clear hx243_6
            try clear hx243_7
            try clear hx243_8
            try clear hx258_0
            try clear p2
            try clear p24
            try clear p243
            try clear p258
            try clear q2
            try clear q24
            try clear q243
            try clear q258
            obtain ⟨x4_2, x103_2, rfl, HA, HK2, HO_4, HO_101, BK229, HB⟩ := hrel
            cases gk with
            | zero => exact absurd HA.out (by simp [image_Encode.l2])
            | succ k2 =>
              have H := HA.out
              clear HA
              simp only [image_Encode.l2] at H
              by_cases c60 : x103_2 < (x5_1.length : Int)
              · rw [if_pos c60] at H
                have c60b0 : decide (x103_2 < (x5_1.length : Int)) = true := decide_eq_true c60
                clear c60
                by_cases c61 : 0 ≤ x103_2
                · rw [if_pos c61] at H
                  have c61b0 : decide (0 ≤ x103_2) = true := decide_eq_true c61
                  clear c61
                  by_cases c62 : x103_2 < (x5_1.length : Int)
                  · rw [if_pos c62] at H
                    have c62b0 : decide (x103_2 < (x5_1.length : Int)) = true := decide_eq_true c62
                    clear c62
                    by_cases c63 : x4_2.length + (rd_L7 x5_1 x103_2).length < 140737488355328
                    · rw [if_pos c63] at H
                      have LMc63 := Aside0.mk c63
                      clear c63
                      obtain ⟨y266, hy266⟩ : ∃ y_ : List Int, y_ = (x4_2 ++ (rd_L7 x5_1 x103_2)) := ⟨_, rfl⟩
                      replace H : (image_Encode.l2 k2 y266 x5_1 (x5_1.length : Int) (wrap64 (x103_2 + 1))) = some (r1, r2) := by first | (rw [hy266]; with_reducible exact H) | (have H2_ := (Option.bind_some _ _).symm.trans H; rw [hy266]; with_reducible exact H2_) | (have H2_ := (Option.bind_some _ _).symm.trans H; with_reducible exact H2_) | with_reducible exact H | (rw [hy266]; exact H) | exact H
                      have Ny266 := Aside0.mk hy266
                      clear hy266
                      have H' := Aside0.mk H
                      clear H
                      have p265 : 0 ≤ (x103_2 : Int) := of_decide_eq_true (by first | (with_reducible assumption) | assumption)
                      have q265 : x103_2 < (x5_1.length : Int) := of_decide_eq_true (by first | (with_reducible assumption) | assumption)
                      obtain ⟨ad265, A265_0, c265_0, e265, hx265_0, hl265_0, hi265_0⟩ := at_L7 (Kd.N_reads' HO_101.out).2.2 x103_2 p265 q265
                      cases e265
                      obtain ⟨ce265, hce265, hMe265, hcc265⟩ := Kd.N_get HO_101.out [] x103_2 p265 (by first | exact q265 | exact of_decide_eq_true (by first | (with_reducible assumption) | assumption) | (have e_ := (Kd.N_reads' HO_101.out).1; omega))
                      obtain ⟨ua265_0, uc265_0, rfl, ul265_0, ge265_0⟩ := Kd.FK_slice_open hMe265
                      have hv265_0 := hcc265 0 _ rfl
                      rw [Nat.add_zero, show ((Kd.slice 5 (Kd.int .u8))).sz = 1 from rfl, Nat.mul_one] at hv265_0
                      replace hv265_0 := Option.some.inj (hv265_0.symm.trans hx265_0)
                      injection hv265_0 with hva_ hvn_ hvc_
                      rw [hva_] at ge265_0
                      rw [hvc_] at ul265_0
                      have HL265_0 := Aside0.mk (show Kd.V (Kd.int .u8) 5 _ w.heap.size _ _ (rd_L7 x5_1 x103_2) from Kd.V_mk ul265_0 ge265_0)
                      clear hva_ hvn_ hvc_ ge265_0 ul265_0
                      clear hcc265 hce265
                      have HR265_0 := Aside0.mk hi265_0
                      have HC265_0 := Aside0.mk hl265_0
                      clear hi265_0 hl265_0
                      replace p265 := eq_true p265
                      replace q265 := eq_true q265
                      go_wp2_with (first | ((with_reducible refine gate_builtin (b := .append) (xs := #[.tmp 107, .tmp 108]) rfl ?_); at_builtin; refine Kd.R_append_rows (Kd.int .u8) (w0 := w) w.heap.size rfl (.tmp 107) (.tmp 108) 33 5 (.int .u8 0) 1 rfl Tryd.underlying33 info5 rfl (by decide) (by omega) u4 x4_2 (rd_L7 x5_1 x103_2) _ _ _ (fun _ => True) (fun _ => False) rfl rfl ?aO ?aR (fun _ _ h => h) (fun _ h => h.elim) ?aF ?aB ?aS ?aL ?_; (case aR => repeat (first | exact (by repeat (first | (with_reducible exact HR265_0.out) | (with_reducible refine Kd.C_alloc ?_ _) | (with_reducible refine Kd.C_drewN ?_ _) | (with_reducible refine Kd.C_drew ?_) | exact HR265_0.out)) | (with_reducible refine Kd.C_alloc ?_ _) | (with_reducible refine Kd.C_drewN ?_ _) | (with_reducible refine Kd.C_drew ?_))); (case aB => exact (bw HB)); (case aF => exact (fun _ _ => trivial)); (case aO => exact (ro HO_4)); (case aS => exact (below_size (bw HB))); (case aL => have := LMc63.out; omega); intro v267 w64 ho hb hg hat; rw [← Ny266.out] at ho; have n0_ := Aside0.mk (Kd.N_afterv (ok := (fun k_ => k_ ≠ gb229)) (by (with_reducible repeat (first | apply Kd.N_alloc | apply Kd.N_drewN | apply Kd.N_drew)); exact Kd.N_mono HO_101.out (fun _ hk => ⟨hk.2, hk.1⟩)) hg hat); have n1_ := Aside0.mk (blk_grown (g := gb229) (o := .cells #[.int .u64 a0_0, .int .u64 a0_1, .slice A0_2 l0_2.length c0_2] 51 (0, 0)) (bk BK229) hg (Kd.R_ne HO_4.out BK229.out (by decide))); have n2_ := Aside0.mk (Kd.V_afterv (ok := (fun k_ => some k_ ≠ (.slice (some ad265) x5_1.length co59 : Value).ownBlock ∧ k_ ≠ gb229)) (by (with_reducible repeat (first | apply Kd.V_alloc | apply Kd.V_drewN | apply Kd.V_drew)); exact Kd.V_mono HL265_0.out (fun _ hk => ⟨⟨hk.2, hk.1.2⟩, hk.1.1⟩)) hg hat); have n3_ := Aside0.mk (hb); have n4_ := Aside0.mk (ho); clear HO_101; clear BK229; clear HL265_0; clear HB; clear HO_4; have HO_101 := n0_; have BK229 := n1_; have HL265_0 := n2_; have HB := n3_; have HO268 := n4_; clear n0_ n1_ n2_ n3_ n4_; clear ho hb hg hat))
                      repeat (go_quiet (first | ((with_reducible refine gate_builtin (b := .append) (xs := #[.tmp 107, .tmp 108]) rfl ?_); at_builtin; refine Kd.R_append_rows (Kd.int .u8) (w0 := w) w.heap.size rfl (.tmp 107) (.tmp 108) 33 5 (.int .u8 0) 1 rfl Tryd.underlying33 info5 rfl (by decide) (by omega) u4 x4_2 (rd_L7 x5_1 x103_2) _ _ _ (fun _ => True) (fun _ => False) rfl rfl ?aO ?aR (fun _ _ h => h) (fun _ h => h.elim) ?aF ?aB ?aS ?aL ?_; (case aR => repeat (first | exact (by repeat (first | (with_reducible exact HR265_0.out) | (with_reducible refine Kd.C_alloc ?_ _) | (with_reducible refine Kd.C_drewN ?_ _) | (with_reducible refine Kd.C_drew ?_) | exact HR265_0.out)) | (with_reducible refine Kd.C_alloc ?_ _) | (with_reducible refine Kd.C_drewN ?_ _) | (with_reducible refine Kd.C_drew ?_))); (case aB => exact (bw HB)); (case aF => exact (fun _ _ => trivial)); (case aO => exact (ro HO_4)); (case aS => exact (below_size (bw HB))); (case aL => have := LMc63.out; omega); intro v267 w64 ho hb hg hat; rw [← Ny266.out] at ho; have n0_ := Aside0.mk (Kd.N_afterv (ok := (fun k_ => k_ ≠ gb229)) (by (with_reducible repeat (first | apply Kd.N_alloc | apply Kd.N_drewN | apply Kd.N_drew)); exact Kd.N_mono HO_101.out (fun _ hk => ⟨hk.2, hk.1⟩)) hg hat); have n1_ := Aside0.mk (blk_grown (g := gb229) (o := .cells #[.int .u64 a0_0, .int .u64 a0_1, .slice A0_2 l0_2.length c0_2] 51 (0, 0)) (bk BK229) hg (Kd.R_ne HO_4.out BK229.out (by decide))); have n2_ := Aside0.mk (Kd.V_afterv (ok := (fun k_ => some k_ ≠ (.slice (some ad265) x5_1.length co59 : Value).ownBlock ∧ k_ ≠ gb229)) (by (with_reducible repeat (first | apply Kd.V_alloc | apply Kd.V_drewN | apply Kd.V_drew)); exact Kd.V_mono HL265_0.out (fun _ hk => ⟨⟨hk.2, hk.1.2⟩, hk.1.1⟩)) hg hat); have n3_ := Aside0.mk (hb); have n4_ := Aside0.mk (ho); clear HO_101; clear BK229; clear HL265_0; clear HB; clear HO_4; have HO_101 := n0_; have BK229 := n1_; have HL265_0 := n2_; have HB := n3_; have HO268 := n4_; clear n0_ n1_ n2_ n3_ n4_; clear ho hb hg hat)); try go_wp2_with (first | ((with_reducible refine gate_builtin (b := .append) (xs := #[.tmp 107, .tmp 108]) rfl ?_); at_builtin; refine Kd.R_append_rows (Kd.int .u8) (w0 := w) w.heap.size rfl (.tmp 107) (.tmp 108) 33 5 (.int .u8 0) 1 rfl Tryd.underlying33 info5 rfl (by decide) (by omega) u4 x4_2 (rd_L7 x5_1 x103_2) _ _ _ (fun _ => True) (fun _ => False) rfl rfl ?aO ?aR (fun _ _ h => h) (fun _ h => h.elim) ?aF ?aB ?aS ?aL ?_; (case aR => repeat (first | exact (by repeat (first | (with_reducible exact HR265_0.out) | (with_reducible refine Kd.C_alloc ?_ _) | (with_reducible refine Kd.C_drewN ?_ _) | (with_reducible refine Kd.C_drew ?_) | exact HR265_0.out)) | (with_reducible refine Kd.C_alloc ?_ _) | (with_reducible refine Kd.C_drewN ?_ _) | (with_reducible refine Kd.C_drew ?_))); (case aB => exact (bw HB)); (case aF => exact (fun _ _ => trivial)); (case aO => exact (ro HO_4)); (case aS => exact (below_size (bw HB))); (case aL => have := LMc63.out; omega); intro v267 w64 ho hb hg hat; rw [← Ny266.out] at ho; have n0_ := Aside0.mk (Kd.N_afterv (ok := (fun k_ => k_ ≠ gb229)) (by (with_reducible repeat (first | apply Kd.N_alloc | apply Kd.N_drewN | apply Kd.N_drew)); exact Kd.N_mono HO_101.out (fun _ hk => ⟨hk.2, hk.1⟩)) hg hat); have n1_ := Aside0.mk (blk_grown (g := gb229) (o := .cells #[.int .u64 a0_0, .int .u64 a0_1, .slice A0_2 l0_2.length c0_2] 51 (0, 0)) (bk BK229) hg (Kd.R_ne HO_4.out BK229.out (by decide))); have n2_ := Aside0.mk (Kd.V_afterv (ok := (fun k_ => some k_ ≠ (.slice (some ad265) x5_1.length co59 : Value).ownBlock ∧ k_ ≠ gb229)) (by (with_reducible repeat (first | apply Kd.V_alloc | apply Kd.V_drewN | apply Kd.V_drew)); exact Kd.V_mono HL265_0.out (fun _ hk => ⟨⟨hk.2, hk.1.2⟩, hk.1.1⟩)) hg hat); have n3_ := Aside0.mk (hb); have n4_ := Aside0.mk (ho); clear HO_101; clear BK229; clear HL265_0; clear HB; clear HO_4; have HO_101 := n0_; have BK229 := n1_; have HL265_0 := n2_; have HB := n3_; have HO268 := n4_; clear n0_ n1_ n2_ n3_ n4_; clear ho hb hg hat)))
                      go_roundg k2
                      case measure => have := HK1.out; have := HK2.out; omega
                      case rel => exact ⟨(y266), (wrap64 (x103_2 + 1)), rs, H', ⟨by have := HK1.out; have := HK2.out; omega⟩, ⟨ro HO268⟩, ⟨by (with_reducible repeat (first | apply Kd.N_alloc | apply Kd.N_drewN | apply Kd.N_drew)); exact Kd.N_mono HO_101.out (fun _ hk => ⟨hk.2, hk.1⟩)⟩, ⟨bk BK229⟩, ⟨bw HB⟩⟩
                    · rw [if_neg c63] at H
                      exact absurd H (by simp)
                  · rw [if_neg c62] at H
                    exact absurd H (by simp)
                · rw [if_neg c61] at H
                  exact absurd H (by simp)
              · rw [if_neg c60] at H
                have c60b0 : decide (x103_2 < (x5_1.length : Int)) = false := decide_eq_false c60
                clear c60
                replace H := Option.bind_eq_some_iff.mp H
                obtain ⟨t269, A650, H⟩ := H
                replace H : ((pack_PutU32.f x4_2 t269).bind fun t270 => (some (t270, 0))) = some (r1, r2) := H
                have A65 := Aside0.mk A650
                clear A650
                replace H := Option.bind_eq_some_iff.mp H
                obtain ⟨t270, A660, H⟩ := H
                replace H : (some (t270, 0)) = some (r1, r2) := H
                have A66 := Aside0.mk A660
                clear A660
                simp only [Option.some.injEq, Prod.mk.injEq] at H
                obtain ⟨rfl, rfl⟩ := H
                obtain ⟨Ao67, co67, eo67⟩ := Kd.R_slice HO_4.out
                subst eo67
                go_wp2_with (first | (go_at_call 47; (with_reducible refine (crc_Sum.calls _ _ x4_2 t269 _ ?side3 ?side1 ?side2 A65.out).mono ?_); (case side1 => exact co (Kd.R_reads' HO_4.out).2.2); (case side2 => exact (Kd.R_reads' HO_4.out).2.1); (case side3 => exact (HERR.out.below (bw HB))); rintro e w68 ⟨rfl, hb⟩; have n0_ := Aside0.mk (Kd.R_below (ro HO_4) hb); have n1_ := Aside0.mk (Kd.N_below (no HO_101) hb); have n2_ := bb BK229 hb; have n3_ := bs HB hb; clear HO_4; clear HO_101; clear BK229; clear HB; have HO_4 := n0_; have HO_101 := n1_; have BK229 := n2_; have HB := n3_; clear n0_ n1_ n2_ n3_; (try clear hb); (try clear hb2); (try clear hk); (try clear hi)) | (go_at_call 46; (with_reducible refine (pack_PutU32.calls _ _ x4_2 t269 t270 _ ?side1 ?side2 A66.out).mono ?_); (case side1 => exact co (Kd.R_reads' HO_4.out).2.2); (case side2 => exact (Kd.R_reads' HO_4.out).2.1); rintro e w69 ⟨v271, rfl, ho0, hb⟩; have n0_ := Aside0.mk (Kd.R_elder' (ro HO_4) (Kd.R_base ho0) hb); have n1_ := Aside0.mk (Kd.N_elder' (no HO_101) (Kd.R_base ho0) hb); have n2_ := Aside0.mk (Kd.R_lower (Kd.R_new' ho0 (Kd.R_lt (ro HO_4))) (below_size (bw HB))); have n3_ := bb BK229 hb; have n4_ := bs HB hb; clear HO_4; clear HO_101; clear BK229; clear HB; have HO_4 := n0_; have HO_101 := n1_; have HO272 := n2_; have BK229 := n3_; have HB := n4_; clear n0_ n1_ n2_ n3_ n4_; (try clear hb); (try clear hb2); (try clear hk); (try clear hi); (try clear ho0)))
                repeat (go_quiet (first | (go_at_call 47; (with_reducible refine (crc_Sum.calls _ _ x4_2 t269 _ ?side3 ?side1 ?side2 A65.out).mono ?_); (case side1 => exact co (Kd.R_reads' HO_4.out).2.2); (case side2 => exact (Kd.R_reads' HO_4.out).2.1); (case side3 => exact (HERR.out.below (bw HB))); rintro e w68 ⟨rfl, hb⟩; have n0_ := Aside0.mk (Kd.R_below (ro HO_4) hb); have n1_ := Aside0.mk (Kd.N_below (no HO_101) hb); have n2_ := bb BK229 hb; have n3_ := bs HB hb; clear HO_4; clear HO_101; clear BK229; clear HB; have HO_4 := n0_; have HO_101 := n1_; have BK229 := n2_; have HB := n3_; clear n0_ n1_ n2_ n3_; (try clear hb); (try clear hb2); (try clear hk); (try clear hi)) | (go_at_call 46; (with_reducible refine (pack_PutU32.calls _ _ x4_2 t269 t270 _ ?side1 ?side2 A66.out).mono ?_); (case side1 => exact co (Kd.R_reads' HO_4.out).2.2); (case side2 => exact (Kd.R_reads' HO_4.out).2.1); rintro e w69 ⟨v271, rfl, ho0, hb⟩; have n0_ := Aside0.mk (Kd.R_elder' (ro HO_4) (Kd.R_base ho0) hb); have n1_ := Aside0.mk (Kd.N_elder' (no HO_101) (Kd.R_base ho0) hb); have n2_ := Aside0.mk (Kd.R_lower (Kd.R_new' ho0 (Kd.R_lt (ro HO_4))) (below_size (bw HB))); have n3_ := bb BK229 hb; have n4_ := bs HB hb; clear HO_4; clear HO_101; clear BK229; clear HB; have HO_4 := n0_; have HO_101 := n1_; have HO272 := n2_; have BK229 := n3_; have HB := n4_; clear n0_ n1_ n2_ n3_ n4_; (try clear hb); (try clear hb2); (try clear hk); (try clear hi); (try clear ho0))); try go_wp2_with (first | (go_at_call 47; (with_reducible refine (crc_Sum.calls _ _ x4_2 t269 _ ?side3 ?side1 ?side2 A65.out).mono ?_); (case side1 => exact co (Kd.R_reads' HO_4.out).2.2); (case side2 => exact (Kd.R_reads' HO_4.out).2.1); (case side3 => exact (HERR.out.below (bw HB))); rintro e w68 ⟨rfl, hb⟩; have n0_ := Aside0.mk (Kd.R_below (ro HO_4) hb); have n1_ := Aside0.mk (Kd.N_below (no HO_101) hb); have n2_ := bb BK229 hb; have n3_ := bs HB hb; clear HO_4; clear HO_101; clear BK229; clear HB; have HO_4 := n0_; have HO_101 := n1_; have BK229 := n2_; have HB := n3_; clear n0_ n1_ n2_ n3_; (try clear hb); (try clear hb2); (try clear hk); (try clear hi)) | (go_at_call 46; (with_reducible refine (pack_PutU32.calls _ _ x4_2 t269 t270 _ ?side1 ?side2 A66.out).mono ?_); (case side1 => exact co (Kd.R_reads' HO_4.out).2.2); (case side2 => exact (Kd.R_reads' HO_4.out).2.1); rintro e w69 ⟨v271, rfl, ho0, hb⟩; have n0_ := Aside0.mk (Kd.R_elder' (ro HO_4) (Kd.R_base ho0) hb); have n1_ := Aside0.mk (Kd.N_elder' (no HO_101) (Kd.R_base ho0) hb); have n2_ := Aside0.mk (Kd.R_lower (Kd.R_new' ho0 (Kd.R_lt (ro HO_4))) (below_size (bw HB))); have n3_ := bb BK229 hb; have n4_ := bs HB hb; clear HO_4; clear HO_101; clear BK229; clear HB; have HO_4 := n0_; have HO_101 := n1_; have HO272 := n2_; have BK229 := n3_; have HB := n4_; clear n0_ n1_ n2_ n3_ n4_; (try clear hb); (try clear hb2); (try clear hk); (try clear hi); (try clear ho0))))
                go_ret2
                exact ⟨_, re, by (with_reducible repeat (first | apply Kd.R_alloc | apply Kd.R_drewN | apply Kd.R_drew)); exact Kd.R_mono HO272.out (fun _ hk => trivial), bw HB⟩
  · replace c3 := Bool.eq_false_iff.mpr c3
    subst c3
    have H1 : (some (([] : List Int), 1)) = some (r1, r2) := by rw [if_neg (show ¬ (false = true) by decide)] at H; exact H
    clear H
    have H := H1
    clear H1
    simp only [Option.some.injEq, Prod.mk.injEq] at H
    obtain ⟨rfl, rfl⟩ := H
    go_enter Tryd.func24, Tryd.ntmps24
    go_wp2_with (first | ((with_reducible refine gate_dst (N := 1) rfl ?_); refine bx 1 #[.int .u64 a0_0, .int .u64 a0_1, .slice A0_2 l0_2.length c0_2] 51 ?_; intro gb229 hg w70 hbox hb; have n0_ := bs HB hb; have n1_ := Aside0.mk (hbox); have n2_ := sz HB hg; have n3_ := sz HB hg; clear HB; have HB := n0_; have BK229 := n1_; have GW229 := n2_; have GE229 := n3_; clear n0_ n1_ n2_ n3_; clear hb hbox hg; obtain ⟨hcz71_0, hcz71_1, hcz71_2, hfz71_0, hfz71_1, hfz71_2⟩ := bc3 BK229) | (go_at_call 26; (with_reducible refine (state_Valid.calls a0_0 a0_1 _ _ l0_2 false _ ?side1 ?side2 A2.out).mono ?_); (case side1 => exact co (Kd.C_below HR0_2.out HB.out)); (case side2 => exact HC0_2.out); rintro e w72 ⟨rfl, hb⟩; have n0_ := bb BK229 hb; have n1_ := bs HB hb; clear BK229; clear HB; have BK229 := n0_; have HB := n1_; clear n0_ n1_; (try clear hb); (try clear hb2); (try clear hk); (try clear hi); have hez73 : w72.cell? ⟨0, 0, none⟩ = some (errW 1) := sent_cell 1 0 (HERR.out.below (bw HB)) (by decide) (by have := Errs.five; omega) rfl))
    repeat (go_quiet (first | ((with_reducible refine gate_dst (N := 1) rfl ?_); refine bx 1 #[.int .u64 a0_0, .int .u64 a0_1, .slice A0_2 l0_2.length c0_2] 51 ?_; intro gb229 hg w70 hbox hb; have n0_ := bs HB hb; have n1_ := Aside0.mk (hbox); have n2_ := sz HB hg; have n3_ := sz HB hg; clear HB; have HB := n0_; have BK229 := n1_; have GW229 := n2_; have GE229 := n3_; clear n0_ n1_ n2_ n3_; clear hb hbox hg; obtain ⟨hcz71_0, hcz71_1, hcz71_2, hfz71_0, hfz71_1, hfz71_2⟩ := bc3 BK229) | (go_at_call 26; (with_reducible refine (state_Valid.calls a0_0 a0_1 _ _ l0_2 false _ ?side1 ?side2 A2.out).mono ?_); (case side1 => exact co (Kd.C_below HR0_2.out HB.out)); (case side2 => exact HC0_2.out); rintro e w72 ⟨rfl, hb⟩; have n0_ := bb BK229 hb; have n1_ := bs HB hb; clear BK229; clear HB; have BK229 := n0_; have HB := n1_; clear n0_ n1_; (try clear hb); (try clear hb2); (try clear hk); (try clear hi); have hez73 : w72.cell? ⟨0, 0, none⟩ = some (errW 1) := sent_cell 1 0 (HERR.out.below (bw HB)) (by decide) (by have := Errs.five; omega) rfl)); try go_wp2_with (first | ((with_reducible refine gate_dst (N := 1) rfl ?_); refine bx 1 #[.int .u64 a0_0, .int .u64 a0_1, .slice A0_2 l0_2.length c0_2] 51 ?_; intro gb229 hg w70 hbox hb; have n0_ := bs HB hb; have n1_ := Aside0.mk (hbox); have n2_ := sz HB hg; have n3_ := sz HB hg; clear HB; have HB := n0_; have BK229 := n1_; have GW229 := n2_; have GE229 := n3_; clear n0_ n1_ n2_ n3_; clear hb hbox hg; obtain ⟨hcz71_0, hcz71_1, hcz71_2, hfz71_0, hfz71_1, hfz71_2⟩ := bc3 BK229) | (go_at_call 26; (with_reducible refine (state_Valid.calls a0_0 a0_1 _ _ l0_2 false _ ?side1 ?side2 A2.out).mono ?_); (case side1 => exact co (Kd.C_below HR0_2.out HB.out)); (case side2 => exact HC0_2.out); rintro e w72 ⟨rfl, hb⟩; have n0_ := bb BK229 hb; have n1_ := bs HB hb; clear BK229; clear HB; have BK229 := n0_; have HB := n1_; clear n0_ n1_; (try clear hb); (try clear hb2); (try clear hk); (try clear hi); have hez73 : w72.cell? ⟨0, 0, none⟩ = some (errW 1) := sent_cell 1 0 (HERR.out.below (bw HB)) (by decide) (by have := Errs.five; omega) rfl)))
    go_ret2
    exact ⟨_, re, by first | exact Kd.R_nil _ _ _ _ _ | exact Kd.N_nil _ _ _ _ _ | exact Kd.V_nil _ _ _ _ _ | exact Kd.Q_nil _ _ _ _ _ | exact Kd.S_nil _ _ _ _ _, bw HB⟩

end Go.Proofs.YtkgjepmminmjjaaDoor.E
