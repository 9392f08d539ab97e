/- Written by the session's own program hyb.py: what functions of the program compute; Lean checks it. -/
import Derived.Test.YtnhngjhodcikiaaDoorFx0
import Derived.Test.YtnhngjhodcikiaaDoorFx16
import Derived.Test.YtnhngjhodcikiaaDoorFx18
import Derived.Test.YtnhngjhodcikiaaDoorFx21
import Derived.Test.YtnhngjhodcikiaaDoorFx26
import Derived.Test.YtnhngjhodcikiaaDoorWErr
namespace Go.Proofs.YtnhngjhodcikiaaDoor.F
open Go.RowKit Go.Proofs.YtnhngjhodcikiaaDoorW.PrintWords Go.Proofs.YtnhngjhodcikiaaDoorW.PrintLast Go.Proofs.YtnhngjhodcikiaaDoorW.PrintMore Go.Proofs.YtnhngjhodcikiaaDoorW.PrintShort
attribute [local go_sem] run_Add64 run_Sub64
attribute [local go_sem] max2_int min2_int max_two min_two max_three min_three max_four min_four   -- for this text's walks alone
set_option linter.unusedVariables false
set_option linter.unusedSimpArgs false

/-! ### state_Apply: function 16 -/
set_option maxHeartbeats 8000000 in
set_option maxRecDepth 100000 in
theorem state_Apply.bad (k : Nat) [Errs] (a0 a1 : Int) (A : Option Addr) (c : Nat) (l : List S56) (n : Int) (r0 r1 : Int) (r2 : ByteArray) (r3 r4 r5 r6 r7 r8 r9 r10 : Int) (w : World) (hE : Sent w) (hr : Kd.C k56 w A l.length l) (hc : l.length ≤ c) (hv : state_Valid.f a0 a1 l = some false) :
    Calls Tryd.prog 16 #[.agg #[.int .u64 a0, .int .u64 a1, .slice A l.length c], .int .u64 n, .agg #[.int .i64 r0, .int .u64 r1, .string r2, .int .i64 r3, .int .u64 r4, .int .u64 r5, .int .u64 r6, .int .u64 r7, .int .u64 r8, .int .u64 r9, .int .u64 r10]] w fun e w' => e = .returned (.tuple #[.agg #[.int .u64 0, .int .u64 0, .slice none 0 0], errW 1]) ∧ Below w.heap.size w w' := by
  have hu27 := Tryd.underlying27
  have hu39 := Tryd.underlying39
  have hu25 := Tryd.underlying25
  have HE := Aside0.mk hE
  have HC := Aside0.mk hr
  have HL := Aside0.mk hc
  have HB := Aside0.mk (Below.refl w.heap.size w)
  have HV := Aside0.mk hv
  clear hE hr hc hv
  go_enter Tryd.func16, Tryd.ntmps16
  go_wp2_with (first | ((with_reducible refine gate_dst (N := 3) rfl ?_); refine bx 3 #[.int .u64 a0, .int .u64 a1, .slice A l.length c] 27 ?_; intro g3 hg W_g3 hbox hb; have Bg3 := Aside0.mk hbox; have Gg3 := sz HB hg; have n0_ := bs HB hb; clear HB; have HB := n0_; clear n0_; clear hb hbox hg) | ((with_reducible refine gate_dst (N := 5) rfl ?_); refine bx 5 #[.int .i64 r0, .int .u64 r1, .string r2, .int .i64 r3, .int .u64 r4, .int .u64 r5, .int .u64 r6, .int .u64 r7, .int .u64 r8, .int .u64 r9, .int .u64 r10] 39 ?_; intro g5 hg W_g5 hbox hb; have Bg5 := Aside0.mk hbox; have Gg5 := sz HB hg; have NBg3_g5 := nl Bg3 hg; have MBg3_g5 := nr Bg3 hg; have n0_ := bb Bg3 hb; have n1_ := bs HB hb; clear Bg3 HB; have Bg3 := n0_; have HB := n1_; clear n0_ n1_; clear hb hbox hg) | ((with_reducible refine gate_dst (N := 6) rfl ?_); refine bx 6 #[.int .u64 0, .int .u64 0, .slice none 0 0] 27 ?_; intro g6 hg W_g6 hbox hb; have Bg6 := Aside0.mk hbox; have Gg6 := sz HB hg; have NBg3_g6 := nl Bg3 hg; have NBg5_g6 := nl Bg5 hg; have MBg3_g6 := nr Bg3 hg; have MBg5_g6 := nr Bg5 hg; have n0_ := bb Bg3 hb; have n1_ := bb Bg5 hb; have n2_ := bs HB hb; clear Bg3 Bg5 HB; have Bg3 := n0_; have Bg5 := n1_; have HB := n2_; clear n0_ n1_ n2_; clear hb hbox hg; obtain ⟨p0, p1, p2, p3, p4, p5⟩ := bc3 Bg3; have nn1 := NBg3_g6.out; have nn2 := MBg3_g6.out) | ((with_reducible refine gate_callee (f := 10) rfl ?_); refine gm (some 11) Tryd.func10 #[.agg #[.int .u64 a0, .int .u64 a1, .slice A l.length c]] (state_Valid.calls a0 a1 _ _ l false _ (Kd.C_below HC.out (bw HB)) HL.out HV.out) ?_; clear p0 p1 p2 p3 p4 p5; intro W_v hb; have n0_ := bb Bg3 hb; have n1_ := bb Bg5 hb; have n2_ := bb Bg6 hb; have n3_ := bs HB hb; clear Bg3 Bg5 Bg6 HB; have Bg3 := n0_; have Bg5 := n1_; have Bg6 := n2_; have HB := n3_; clear n0_ n1_ n2_ n3_; obtain ⟨p0, p1, p2, p3, p4, p5⟩ := bc3 Bg3; obtain ⟨s0, s1, s2, s3, s4, s5, s6, s7, s8, s9, s10, s11, s12, s13, s14, s15, s16, s17, s18, s19, s20, s21⟩ := bc11 Bg5; obtain ⟨q0, q1, q2, q3, q4, q5⟩ := bc3 Bg6; clear hb))
  clear p0 p1 p2 p3 p4 p5; clear s0 s1 s2 s3 s4 s5 s6 s7 s8 s9 s10 s11 s12 s13 s14 s15 s16 s17 s18 s19 s20 s21; clear nn1 nn2
  have e0_ := sent_cell 1 0 (HE.out.below (bw HB))
  have z0_ := World.block_lt_of_cell? _ _ (sent_cell 1 0 HE.out)
  have z1_ : g6 ≠ 0 := by have := Gg6.out; simp only at z0_; omega
  have z2_ : (0 : Nat) ≠ g6 := Ne.symm z1_
  clear z0_
  go_region
  clear e0_ z1_ z2_ q0 q1 q2 q3 q4 q5
  go_wp2
  refine bodyPost_ret (results_ct rfl _ _ g6 27 #[.int .u64 0, .int .u64 0, .slice none 0 0] (0, 0) _ rfl (blk_drew (blk_put (blk_put (blk_put Bg6.out 0 _ rfl) 1 _ rfl) 2 _ rfl)) Tryd.underlying27 rfl (by kernel_rfl)) rfl ?_
  exact ⟨re, bw HB⟩

set_option maxHeartbeats 8000000 in
set_option maxRecDepth 100000 in
theorem state_Apply.fault (k : Nat) [Errs] (a0 a1 : Int) (A : Option Addr) (c : Nat) (l : List S56) (n : Int) (r0 r1 : Int) (r2 : ByteArray) (r3 r4 r5 r6 r7 r8 r9 r10 : Int) (w : World) (hE : Sent w) (hr : Kd.C k56 w A l.length l) (hc : l.length ≤ c) (hv : state_Valid.f a0 a1 l = some true) (hl8 : l.length * 80 ≤ 140737488355328) (x1 x2 x3 : Int) (x4 : List S56) (hx : state_step.f k a0 a1 l n r0 r1 r2 r3 r4 r5 r6 r7 r8 r9 r10 = some (x1, x2, x3, x4)) (h0 : 0 ≤ x1) (h1 : ¬ x1 = 0) :
    Calls Tryd.prog 16 #[.agg #[.int .u64 a0, .int .u64 a1, .slice A l.length c], .int .u64 n, .agg #[.int .i64 r0, .int .u64 r1, .string r2, .int .i64 r3, .int .u64 r4, .int .u64 r5, .int .u64 r6, .int .u64 r7, .int .u64 r8, .int .u64 r9, .int .u64 r10]] w fun e w' => e = .returned (.tuple #[.agg #[.int .u64 0, .int .u64 0, .slice none 0 0], errW x1]) ∧ Below w.heap.size w w' := by
  have hu27 := Tryd.underlying27
  have hu39 := Tryd.underlying39
  have hu25 := Tryd.underlying25
  have HE := Aside0.mk hE
  have HC := Aside0.mk hr
  have HL := Aside0.mk hc
  have HB := Aside0.mk (Below.refl w.heap.size w)
  have HV := Aside0.mk hv
  clear hE hr hc hv
  have HX := Aside0.mk hx
  have HL8 := Aside0.mk hl8
  have X0 := Aside0.mk h0
  have X1 := Aside0.mk h1
  clear hx hl8 h0 h1
  go_enter Tryd.func16, Tryd.ntmps16
  go_wp2_with (first | ((with_reducible refine gate_dst (N := 3) rfl ?_); refine bx 3 #[.int .u64 a0, .int .u64 a1, .slice A l.length c] 27 ?_; intro g3 hg W_g3 hbox hb; have Bg3 := Aside0.mk hbox; have Gg3 := sz HB hg; have n0_ := bs HB hb; clear HB; have HB := n0_; clear n0_; clear hb hbox hg) | ((with_reducible refine gate_dst (N := 5) rfl ?_); refine bx 5 #[.int .i64 r0, .int .u64 r1, .string r2, .int .i64 r3, .int .u64 r4, .int .u64 r5, .int .u64 r6, .int .u64 r7, .int .u64 r8, .int .u64 r9, .int .u64 r10] 39 ?_; intro g5 hg W_g5 hbox hb; have Bg5 := Aside0.mk hbox; have Gg5 := sz HB hg; have NBg3_g5 := nl Bg3 hg; have MBg3_g5 := nr Bg3 hg; have n0_ := bb Bg3 hb; have n1_ := bs HB hb; clear Bg3 HB; have Bg3 := n0_; have HB := n1_; clear n0_ n1_; clear hb hbox hg) | ((with_reducible refine gate_dst (N := 6) rfl ?_); refine bx 6 #[.int .u64 0, .int .u64 0, .slice none 0 0] 27 ?_; intro g6 hg W_g6 hbox hb; have Bg6 := Aside0.mk hbox; have Gg6 := sz HB hg; have NBg3_g6 := nl Bg3 hg; have NBg5_g6 := nl Bg5 hg; have MBg3_g6 := nr Bg3 hg; have MBg5_g6 := nr Bg5 hg; have n0_ := bb Bg3 hb; have n1_ := bb Bg5 hb; have n2_ := bs HB hb; clear Bg3 Bg5 HB; have Bg3 := n0_; have Bg5 := n1_; have HB := n2_; clear n0_ n1_ n2_; clear hb hbox hg; obtain ⟨p0, p1, p2, p3, p4, p5⟩ := bc3 Bg3; have nn1 := NBg3_g6.out; have nn2 := MBg3_g6.out) | ((with_reducible refine gate_callee (f := 10) rfl ?_); refine gm (some 11) Tryd.func10 #[.agg #[.int .u64 a0, .int .u64 a1, .slice A l.length c]] (state_Valid.calls a0 a1 _ _ l true _ (Kd.C_below HC.out (bw HB)) HL.out HV.out) ?_; clear p0 p1 p2 p3 p4 p5; intro W_v hb; have n0_ := bb Bg3 hb; have n1_ := bb Bg5 hb; have n2_ := bb Bg6 hb; have n3_ := bs HB hb; clear Bg3 Bg5 Bg6 HB; have Bg3 := n0_; have Bg5 := n1_; have Bg6 := n2_; have HB := n3_; clear n0_ n1_ n2_ n3_; obtain ⟨p0, p1, p2, p3, p4, p5⟩ := bc3 Bg3; obtain ⟨s0, s1, s2, s3, s4, s5, s6, s7, s8, s9, s10, s11, s12, s13, s14, s15, s16, s17, s18, s19, s20, s21⟩ := bc11 Bg5; obtain ⟨q0, q1, q2, q3, q4, q5⟩ := bc3 Bg6; clear hb))
  refine (state_copied.calls a0 a1 A c l _ (Kd.C_below HC.out (bw HB)) HL8.out).mono ?_
  rintro e W_c ⟨A2, c2, rfl, ho, hb⟩
  have HO := Aside0.mk (Kd.R_lower ho (below_size (bw HB)))
  clear nn1 nn2 p0 p1 p2 p3 p4 p5 q0 q1 q2 q3 q4 q5 s0 s1 s2 s3 s4 s5 s6 s7 s8 s9 s10 s11 s12 s13 s14 s15 s16 s17 s18 s19 s20 s21
  have n0_ := bb Bg3 hb
  have n1_ := bb Bg5 hb
  have n2_ := bb Bg6 hb
  have n3_ := bs HB hb
  clear Bg3 Bg5 Bg6 HB
  have Bg3 := n0_
  have Bg5 := n1_
  have Bg6 := n2_
  have HB := n3_
  clear n0_ n1_ n2_ n3_
  clear hb ho
  go_wp2_with (first | ((with_reducible refine gate_dst (N := 8) rfl ?_); refine bx 8 #[.int .u64 0, .int .u64 0, .slice none 0 0] 27 ?_; intro g8 hg W_g8 hbox hb; have Bg8 := Aside0.mk hbox; have Gg8 := sz HB hg; have NBg3_g8 := nl Bg3 hg; have NBg5_g8 := nl Bg5 hg; have NBg6_g8 := nl Bg6 hg; have MBg3_g8 := nr Bg3 hg; have MBg5_g8 := nr Bg5 hg; have MBg6_g8 := nr Bg6 hg; have n0_ := bb Bg3 hb; have n1_ := bb Bg5 hb; have n2_ := bb Bg6 hb; have n3_ := Aside0.mk (Kd.R_below (ro HO) hb); have n4_ := bs HB hb; clear Bg3 Bg5 Bg6 HO HB; have Bg3 := n0_; have Bg5 := n1_; have Bg6 := n2_; have HO := n3_; have HB := n4_; clear n0_ n1_ n2_ n3_ n4_; clear hb hbox hg; obtain ⟨q0, q1, q2, q3, q4, q5⟩ := bc3 Bg8; obtain ⟨s0, s1, s2, s3, s4, s5, s6, s7, s8, s9, s10, s11, s12, s13, s14, s15, s16, s17, s18, s19, s20, s21⟩ := bc11 Bg5; have nn1 := NBg5_g8.out; have nn2 := MBg5_g8.out))
  clear nn1 nn2 q0 q1 q2 q3 q4 q5 s0 s1 s2 s3 s4 s5 s6 s7 s8 s9 s10 s11 s12 s13 s14 s15 s16 s17 s18 s19 s20 s21
  have n0_ : Aside0 ((((W_g8.setCell ⟨g8, 0, none⟩ (.int .u64 a0)).setCell ⟨g8, 1, none⟩ (.int .u64 a1)).setCell ⟨g8, 2, none⟩ (.slice A2 l.length c2)).heap[g8]? = some (.cells #[.int .u64 a0, .int .u64 a1, .slice A2 l.length c2] 27 (0, 0))) := ⟨blk_put (blk_put (blk_put Bg8.out 0 _ rfl) 1 _ rfl) 2 _ rfl⟩
  have n1_ : Aside0 ((((W_g8.setCell ⟨g8, 0, none⟩ (.int .u64 a0)).setCell ⟨g8, 1, none⟩ (.int .u64 a1)).setCell ⟨g8, 2, none⟩ (.slice A2 l.length c2)).heap[g6]? = some (.cells #[.int .u64 0, .int .u64 0, .slice none 0 0] 27 (0, 0))) := ⟨blk_far (blk_far (blk_far Bg6.out NBg6_g8.out _) NBg6_g8.out _) NBg6_g8.out _⟩
  have h0_ := Kd.R_types HO.out Bg8.out (by decide)
  have n2_ : Aside0 (Kd.R k56 56 (((W_g8.setCell ⟨g8, 0, none⟩ (.int .u64 a0)).setCell ⟨g8, 1, none⟩ (.int .u64 a1)).setCell ⟨g8, 2, none⟩ (.slice A2 l.length c2)) w.heap.size (fun _ => True) (.slice A2 l.length c2) l) := ⟨Kd.R_mono (Kd.R_far (p := ⟨g8, 2, none⟩) (Kd.R_far (p := ⟨g8, 1, none⟩) (Kd.R_far (p := ⟨g8, 0, none⟩) h0_ (fun _ hk => hk.2) _) (fun _ hk => hk.2) _) (fun _ hk => hk.2) _) (fun _ _ => trivial)⟩
  have n3_ : Aside0 (Below w.heap.size w (((W_g8.setCell ⟨g8, 0, none⟩ (.int .u64 a0)).setCell ⟨g8, 1, none⟩ (.int .u64 a1)).setCell ⟨g8, 2, none⟩ (.slice A2 l.length c2))) := ⟨bw HB⟩
  clear h0_
  generalize (((W_g8.setCell ⟨g8, 0, none⟩ (.int .u64 a0)).setCell ⟨g8, 1, none⟩ (.int .u64 a1)).setCell ⟨g8, 2, none⟩ (.slice A2 l.length c2)) = W_9 at n0_ n1_ n2_ n3_ ⊢
  clear Bg8 Bg6 HO HB Bg3 Bg5
  have Bg8 := n0_; have Bg6 := n1_; have HO := n2_; have HB := n3_
  clear n0_ n1_ n2_ n3_
  refine (state_step.calls k w W_9 HE.out g8 a0 a1 A2 c2 l n r0 r1 r2 r3 r4 r5 r6 r7 r8 r9 r10 x1 x2 x3 x4 HB.out Gg8.out Bg8.out HO.out g6 _ _ Bg6.out (by decide) NBg6_g8.out HX.out).mono ?_
  rintro e W_s ⟨v, rfl, hbs, ho, hq, hb⟩
  clear Bg8 Bg6 HO HB
  have Bg8 := Aside0.mk hbs; have HO := Aside0.mk ho; have Bg6 := Aside0.mk hq; have HB := Aside0.mk hb
  clear hbs ho hq hb
  obtain ⟨A3, c3, e3⟩ := Kd.R_slice HO.out
  subst e3
  obtain ⟨q0, q1, q2, q3, q4, q5⟩ := bc3 Bg6
  obtain ⟨p0, p1, p2, p3, p4, p5⟩ := bc3 Bg8
  go_wp2_with (first | ((with_reducible refine gate_dst (N := 21) rfl ?_); refine nen_err x1 true ?_ (by simpa using X1.out) X0.out rfl rfl rfl))
  refine bodyPost_ret (results_ct rfl _ _ g6 27 #[.int .u64 0, .int .u64 0, .slice none 0 0] (0, 0) _ rfl (blk_put (blk_put (blk_put Bg6.out 0 _ rfl) 1 _ rfl) 2 _ rfl) Tryd.underlying27 rfl (by kernel_rfl)) rfl ?_
  exact ⟨rfl, bw HB⟩

set_option maxHeartbeats 8000000 in
set_option maxRecDepth 100000 in
theorem state_Apply.done (k : Nat) [Errs] (a0 a1 : Int) (A : Option Addr) (c : Nat) (l : List S56) (n : Int) (r0 r1 : Int) (r2 : ByteArray) (r3 r4 r5 r6 r7 r8 r9 r10 : Int) (w : World) (hE : Sent w) (hr : Kd.C k56 w A l.length l) (hc : l.length ≤ c) (hv : state_Valid.f a0 a1 l = some true) (hl8 : l.length * 80 ≤ 140737488355328) (x1 x2 x3 : Int) (x4 : List S56) (hx : state_step.f k a0 a1 l n r0 r1 r2 r3 r4 r5 r6 r7 r8 r9 r10 = some (x1, x2, x3, x4)) (h0 : 0 ≤ x1) (h1 : x1 = 0) :
    Calls Tryd.prog 16 #[.agg #[.int .u64 a0, .int .u64 a1, .slice A l.length c], .int .u64 n, .agg #[.int .i64 r0, .int .u64 r1, .string r2, .int .i64 r3, .int .u64 r4, .int .u64 r5, .int .u64 r6, .int .u64 r7, .int .u64 r8, .int .u64 r9, .int .u64 r10]] w fun e w' => ∃ v, e = .returned (.tuple #[.agg #[.int .u64 x2, .int .u64 x3, v], errW 0]) ∧ Kd.R k56 56 w' w.heap.size (fun _ => True) v x4 ∧ Below w.heap.size w w' := by
  have hu27 := Tryd.underlying27
  have hu39 := Tryd.underlying39
  have hu25 := Tryd.underlying25
  have HE := Aside0.mk hE
  have HC := Aside0.mk hr
  have HL := Aside0.mk hc
  have HB := Aside0.mk (Below.refl w.heap.size w)
  have HV := Aside0.mk hv
  clear hE hr hc hv
  have HX := Aside0.mk hx
  have HL8 := Aside0.mk hl8
  have X0 := Aside0.mk h0
  have X1 := Aside0.mk h1
  clear hx hl8 h0 h1
  go_enter Tryd.func16, Tryd.ntmps16
  go_wp2_with (first | ((with_reducible refine gate_dst (N := 3) rfl ?_); refine bx 3 #[.int .u64 a0, .int .u64 a1, .slice A l.length c] 27 ?_; intro g3 hg W_g3 hbox hb; have Bg3 := Aside0.mk hbox; have Gg3 := sz HB hg; have n0_ := bs HB hb; clear HB; have HB := n0_; clear n0_; clear hb hbox hg) | ((with_reducible refine gate_dst (N := 5) rfl ?_); refine bx 5 #[.int .i64 r0, .int .u64 r1, .string r2, .int .i64 r3, .int .u64 r4, .int .u64 r5, .int .u64 r6, .int .u64 r7, .int .u64 r8, .int .u64 r9, .int .u64 r10] 39 ?_; intro g5 hg W_g5 hbox hb; have Bg5 := Aside0.mk hbox; have Gg5 := sz HB hg; have NBg3_g5 := nl Bg3 hg; have MBg3_g5 := nr Bg3 hg; have n0_ := bb Bg3 hb; have n1_ := bs HB hb; clear Bg3 HB; have Bg3 := n0_; have HB := n1_; clear n0_ n1_; clear hb hbox hg) | ((with_reducible refine gate_dst (N := 6) rfl ?_); refine bx 6 #[.int .u64 0, .int .u64 0, .slice none 0 0] 27 ?_; intro g6 hg W_g6 hbox hb; have Bg6 := Aside0.mk hbox; have Gg6 := sz HB hg; have NBg3_g6 := nl Bg3 hg; have NBg5_g6 := nl Bg5 hg; have MBg3_g6 := nr Bg3 hg; have MBg5_g6 := nr Bg5 hg; have n0_ := bb Bg3 hb; have n1_ := bb Bg5 hb; have n2_ := bs HB hb; clear Bg3 Bg5 HB; have Bg3 := n0_; have Bg5 := n1_; have HB := n2_; clear n0_ n1_ n2_; clear hb hbox hg; obtain ⟨p0, p1, p2, p3, p4, p5⟩ := bc3 Bg3; have nn1 := NBg3_g6.out; have nn2 := MBg3_g6.out) | ((with_reducible refine gate_callee (f := 10) rfl ?_); refine gm (some 11) Tryd.func10 #[.agg #[.int .u64 a0, .int .u64 a1, .slice A l.length c]] (state_Valid.calls a0 a1 _ _ l true _ (Kd.C_below HC.out (bw HB)) HL.out HV.out) ?_; clear p0 p1 p2 p3 p4 p5; intro W_v hb; have n0_ := bb Bg3 hb; have n1_ := bb Bg5 hb; have n2_ := bb Bg6 hb; have n3_ := bs HB hb; clear Bg3 Bg5 Bg6 HB; have Bg3 := n0_; have Bg5 := n1_; have Bg6 := n2_; have HB := n3_; clear n0_ n1_ n2_ n3_; obtain ⟨p0, p1, p2, p3, p4, p5⟩ := bc3 Bg3; obtain ⟨s0, s1, s2, s3, s4, s5, s6, s7, s8, s9, s10, s11, s12, s13, s14, s15, s16, s17, s18, s19, s20, s21⟩ := bc11 Bg5; obtain ⟨q0, q1, q2, q3, q4, q5⟩ := bc3 Bg6; clear hb))
  refine (state_copied.calls a0 a1 A c l _ (Kd.C_below HC.out (bw HB)) HL8.out).mono ?_
  rintro e W_c ⟨A2, c2, rfl, ho, hb⟩
  have HO := Aside0.mk (Kd.R_lower ho (below_size (bw HB)))
  clear nn1 nn2 p0 p1 p2 p3 p4 p5 q0 q1 q2 q3 q4 q5 s0 s1 s2 s3 s4 s5 s6 s7 s8 s9 s10 s11 s12 s13 s14 s15 s16 s17 s18 s19 s20 s21
  have n0_ := bb Bg3 hb
  have n1_ := bb Bg5 hb
  have n2_ := bb Bg6 hb
  have n3_ := bs HB hb
  clear Bg3 Bg5 Bg6 HB
  have Bg3 := n0_
  have Bg5 := n1_
  have Bg6 := n2_
  have HB := n3_
  clear n0_ n1_ n2_ n3_
  clear hb ho
  go_wp2_with (first | ((with_reducible refine gate_dst (N := 8) rfl ?_); refine bx 8 #[.int .u64 0, .int .u64 0, .slice none 0 0] 27 ?_; intro g8 hg W_g8 hbox hb; have Bg8 := Aside0.mk hbox; have Gg8 := sz HB hg; have NBg3_g8 := nl Bg3 hg; have NBg5_g8 := nl Bg5 hg; have NBg6_g8 := nl Bg6 hg; have MBg3_g8 := nr Bg3 hg; have MBg5_g8 := nr Bg5 hg; have MBg6_g8 := nr Bg6 hg; have n0_ := bb Bg3 hb; have n1_ := bb Bg5 hb; have n2_ := bb Bg6 hb; have n3_ := Aside0.mk (Kd.R_below (ro HO) hb); have n4_ := bs HB hb; clear Bg3 Bg5 Bg6 HO HB; have Bg3 := n0_; have Bg5 := n1_; have Bg6 := n2_; have HO := n3_; have HB := n4_; clear n0_ n1_ n2_ n3_ n4_; clear hb hbox hg; obtain ⟨q0, q1, q2, q3, q4, q5⟩ := bc3 Bg8; obtain ⟨s0, s1, s2, s3, s4, s5, s6, s7, s8, s9, s10, s11, s12, s13, s14, s15, s16, s17, s18, s19, s20, s21⟩ := bc11 Bg5; have nn1 := NBg5_g8.out; have nn2 := MBg5_g8.out))
  clear nn1 nn2 q0 q1 q2 q3 q4 q5 s0 s1 s2 s3 s4 s5 s6 s7 s8 s9 s10 s11 s12 s13 s14 s15 s16 s17 s18 s19 s20 s21
  have n0_ : Aside0 ((((W_g8.setCell ⟨g8, 0, none⟩ (.int .u64 a0)).setCell ⟨g8, 1, none⟩ (.int .u64 a1)).setCell ⟨g8, 2, none⟩ (.slice A2 l.length c2)).heap[g8]? = some (.cells #[.int .u64 a0, .int .u64 a1, .slice A2 l.length c2] 27 (0, 0))) := ⟨blk_put (blk_put (blk_put Bg8.out 0 _ rfl) 1 _ rfl) 2 _ rfl⟩
  have n1_ : Aside0 ((((W_g8.setCell ⟨g8, 0, none⟩ (.int .u64 a0)).setCell ⟨g8, 1, none⟩ (.int .u64 a1)).setCell ⟨g8, 2, none⟩ (.slice A2 l.length c2)).heap[g6]? = some (.cells #[.int .u64 0, .int .u64 0, .slice none 0 0] 27 (0, 0))) := ⟨blk_far (blk_far (blk_far Bg6.out NBg6_g8.out _) NBg6_g8.out _) NBg6_g8.out _⟩
  have h0_ := Kd.R_types HO.out Bg8.out (by decide)
  have n2_ : Aside0 (Kd.R k56 56 (((W_g8.setCell ⟨g8, 0, none⟩ (.int .u64 a0)).setCell ⟨g8, 1, none⟩ (.int .u64 a1)).setCell ⟨g8, 2, none⟩ (.slice A2 l.length c2)) w.heap.size (fun _ => True) (.slice A2 l.length c2) l) := ⟨Kd.R_mono (Kd.R_far (p := ⟨g8, 2, none⟩) (Kd.R_far (p := ⟨g8, 1, none⟩) (Kd.R_far (p := ⟨g8, 0, none⟩) h0_ (fun _ hk => hk.2) _) (fun _ hk => hk.2) _) (fun _ hk => hk.2) _) (fun _ _ => trivial)⟩
  have n3_ : Aside0 (Below w.heap.size w (((W_g8.setCell ⟨g8, 0, none⟩ (.int .u64 a0)).setCell ⟨g8, 1, none⟩ (.int .u64 a1)).setCell ⟨g8, 2, none⟩ (.slice A2 l.length c2))) := ⟨bw HB⟩
  clear h0_
  generalize (((W_g8.setCell ⟨g8, 0, none⟩ (.int .u64 a0)).setCell ⟨g8, 1, none⟩ (.int .u64 a1)).setCell ⟨g8, 2, none⟩ (.slice A2 l.length c2)) = W_9 at n0_ n1_ n2_ n3_ ⊢
  clear Bg8 Bg6 HO HB Bg3 Bg5
  have Bg8 := n0_; have Bg6 := n1_; have HO := n2_; have HB := n3_
  clear n0_ n1_ n2_ n3_
  refine (state_step.calls k w W_9 HE.out g8 a0 a1 A2 c2 l n r0 r1 r2 r3 r4 r5 r6 r7 r8 r9 r10 x1 x2 x3 x4 HB.out Gg8.out Bg8.out HO.out g6 _ _ Bg6.out (by decide) NBg6_g8.out HX.out).mono ?_
  rintro e W_s ⟨v, rfl, hbs, ho, hq, hb⟩
  clear Bg8 Bg6 HO HB
  have Bg8 := Aside0.mk hbs; have HO := Aside0.mk ho; have Bg6 := Aside0.mk hq; have HB := Aside0.mk hb
  clear hbs ho hq hb
  obtain ⟨A3, c3, e3⟩ := Kd.R_slice HO.out
  subst e3
  obtain ⟨q0, q1, q2, q3, q4, q5⟩ := bc3 Bg6
  obtain ⟨p0, p1, p2, p3, p4, p5⟩ := bc3 Bg8
  have nn1 := NBg6_g8.out; have nn2 := MBg6_g8.out
  go_wp2_with (first | ((with_reducible refine gate_dst (N := 21) rfl ?_); refine nen_err x1 false ?_ (by simpa using X1.out) X0.out rfl rfl rfl))
  have h0_ := Kd.R_types HO.out Bg6.out (by decide)
  refine bodyPost_ret (results_ct rfl _ _ g6 27 #[.int .u64 x2, .int .u64 x3, .slice A3 x4.length c3] (0, 0) _ rfl (blk_put (blk_put (blk_put Bg6.out 0 _ rfl) 1 _ rfl) 2 _ rfl) Tryd.underlying27 rfl (by kernel_rfl)) rfl ?_
  exact ⟨.slice A3 x4.length c3, re, Kd.R_mono (Kd.R_far (p := ⟨g6, 2, none⟩) (Kd.R_far (p := ⟨g6, 1, none⟩) (Kd.R_far (p := ⟨g6, 0, none⟩) h0_ (fun _ hk => hk.2) _) (fun _ hk => hk.2) _) (fun _ hk => hk.2) _) (fun _ _ => trivial), bw HB⟩
theorem state_step.flt {a : Int} {t : Int × Int × List S56} {x : Int × Int × Int × List S56} (h : some (a, t) = some x) (h1 : 0 ≤ a ∧ a ≤ 3) : 0 ≤ x.1 ∧ x.1 ≤ 3 := by
  injection h with h
  subst h
  exact h1
/-- The faults that a step tells. -/
theorem state_step.fault {k : Nat} {a0 a1 : Int} {l : List S56} {n : Int} {r0 r1 : Int} {r2 : ByteArray} {r3 r4 r5 r6 r7 r8 r9 r10 : Int} {x : Int × Int × Int × List S56} (h : state_step.f k a0 a1 l n r0 r1 r2 r3 r4 r5 r6 r7 r8 r9 r10 = some x) : 0 ≤ x.1 ∧ x.1 ≤ 3 := by
  unfold state_step.f at h
  obtain ⟨b, _, h⟩ := Option.bind_eq_some_iff.mp h
  by_cases c : b = true
  · rw [if_pos c] at h
    by_cases c : n = IntKind.u64.wrap (a0 + 1)
    · rw [if_pos c] at h
      by_cases c : n ≤ 4611686018427387904
      · rw [if_pos c] at h
        by_cases c : state_Find.is_ l r2 = (r0 == 1)
        · rw [if_pos c] at h
          exact state_step.flt h (by decide)
        · rw [if_neg c] at h
          by_cases c : r0 = 1
          · rw [if_pos c] at h
            by_cases c : l.length < 4096
            · rw [if_pos c] at h
              exact state_step.flt h (by decide)
            · rw [if_neg c] at h
              exact state_step.flt h (by decide)
          · rw [if_neg c] at h
            by_cases c : r0 = 2
            · rw [if_pos c] at h
              exact state_step.flt h (by decide)
            · rw [if_neg c] at h
              by_cases c : r0 = 3
              · rw [if_pos c] at h
                obtain ⟨b, _, h⟩ := Option.bind_eq_some_iff.mp h
                by_cases c : b = true
                · rw [if_pos c] at h
                  obtain ⟨b, _, h⟩ := Option.bind_eq_some_iff.mp h
                  by_cases c : b = true
                  · rw [if_pos c] at h
                    exact state_step.flt h (by decide)
                  · rw [if_neg c] at h
                    exact state_step.flt h (by decide)
                · rw [if_neg c] at h
                  exact state_step.flt h (by decide)
              · rw [if_neg c] at h
                exact state_step.flt h (by decide)
      · rw [if_neg c] at h
        exact state_step.flt h (by decide)
    · rw [if_neg c] at h
      exact state_step.flt h (by decide)
  · rw [if_neg c] at h
    exact state_step.flt h (by decide)
theorem state_Valid.le {a0 a1 : Int} {l : List S56} (h : state_Valid.f a0 a1 l = some true) : l.length ≤ 4096 := by
  unfold state_Valid.f at h
  split at h
  · cases h
  · split at h
    · cases h
    · omega
def state_Apply.out (x : Int × Int × Int × List S56) : Int × Int × List S56 × Int := if x.1 = 0 then (x.2.1, x.2.2.1, x.2.2.2, 0) else (0, 0, [], x.1)
def state_Apply.f (k : Nat) (a0 a1 : Int) (l : List S56) (n : Int) (r0 r1 : Int) (r2 : ByteArray) (r3 r4 r5 r6 r7 r8 r9 r10 : Int) : Option (Int × Int × List S56 × Int) :=
  (state_Valid.f a0 a1 l).bind fun b => if b = true then (state_step.f k a0 a1 l n r0 r1 r2 r3 r4 r5 r6 r7 r8 r9 r10).map state_Apply.out else some (0, 0, [], 1)
theorem state_Apply.mono : ∀ a0 a1 l n r0 r1 r2 r3 r4 r5 r6 r7 r8 r9 r10 k, LeO (state_Apply.f k a0 a1 l n r0 r1 r2 r3 r4 r5 r6 r7 r8 r9 r10) (state_Apply.f (k + 1) a0 a1 l n r0 r1 r2 r3 r4 r5 r6 r7 r8 r9 r10) := by
  intro a0 a1 l n r0 r1 r2 r3 r4 r5 r6 r7 r8 r9 r10 k
  exact LeO.bind (LeO.refl _) (fun b => LeO.ite (LeO.map _ (state_step.mono _ _ _ _ _ _ _ _ _ _ _ _ _ _ _ _)) (LeO.refl _))
theorem state_Apply.calls (k : Nat) [Errs] (a0 a1 : Int) (A : Option Addr) (c : Nat) (l : List S56) (n : Int) (r0 r1 : Int) (r2 : ByteArray) (r3 r4 r5 r6 r7 r8 r9 r10 : Int) (x1 x2 : Int) (x3 : List S56) (x4 : Int) (w : World) (hE : Sent w) (hr : Kd.C k56 w A l.length l) (hc : l.length ≤ c) (h : state_Apply.f k a0 a1 l n r0 r1 r2 r3 r4 r5 r6 r7 r8 r9 r10 = some (x1, x2, x3, x4)) :
    Calls Tryd.prog 16 #[.agg #[.int .u64 a0, .int .u64 a1, .slice A l.length c], .int .u64 n, .agg #[.int .i64 r0, .int .u64 r1, .string r2, .int .i64 r3, .int .u64 r4, .int .u64 r5, .int .u64 r6, .int .u64 r7, .int .u64 r8, .int .u64 r9, .int .u64 r10]] w fun e w' => ∃ v : Value, e = .returned (.tuple #[.agg #[.int .u64 x1, .int .u64 x2, v], errW x4]) ∧ Kd.R k56 56 w' w.heap.size (fun _ => True) v x3 ∧ Below w.heap.size w w' := by
  unfold state_Apply.f at h
  obtain ⟨b, hv, h⟩ := Option.bind_eq_some_iff.mp h
  by_cases hb : b = true
  · subst hb
    rw [if_pos rfl] at h
    obtain ⟨⟨y1, y2, y3, y4⟩, hx, h⟩ := Option.map_eq_some_iff.mp h
    have hf := state_step.fault hx
    unfold state_Apply.out at h
    have hl8 : l.length * 80 ≤ 140737488355328 := by have := state_Valid.le hv; omega
    by_cases h0 : y1 = 0
    · rw [if_pos h0] at h
      simp only [Prod.mk.injEq] at h
      obtain ⟨rfl, rfl, rfl, rfl⟩ := h
      exact state_Apply.done k a0 a1 A c l n r0 r1 r2 r3 r4 r5 r6 r7 r8 r9 r10 w hE hr hc hv hl8 _ _ _ _ hx hf.1 h0
    · rw [if_neg h0] at h
      simp only [Prod.mk.injEq] at h
      obtain ⟨rfl, rfl, rfl, rfl⟩ := h
      refine (state_Apply.fault k a0 a1 A c l n r0 r1 r2 r3 r4 r5 r6 r7 r8 r9 r10 w hE hr hc hv hl8 _ _ _ _ hx hf.1 h0).mono ?_
      rintro e w' ⟨rfl, hb⟩
      exact ⟨_, rfl, Kd.R_nil _ _ _ _ _, hb⟩
  · rw [if_neg hb] at h
    simp only [Option.some.injEq, Prod.mk.injEq] at h
    obtain ⟨rfl, rfl, rfl, rfl⟩ := h
    refine (state_Apply.bad k a0 a1 A c l n r0 r1 r2 r3 r4 r5 r6 r7 r8 r9 r10 w hE hr hc (by rw [hv, Bool.eq_false_iff.mpr hb])).mono ?_
    rintro e w' ⟨rfl, hb⟩
    exact ⟨_, rfl, Kd.R_nil _ _ _ _ _, hb⟩

end Go.Proofs.YtnhngjhodcikiaaDoor.F
