/- Written by the session's own program hyb.py: what functions of the program compute; Lean checks it. -/
import Derived.Test.YtnhngjhodcikiaaDoorFx0
import Derived.Test.YtnhngjhodcikiaaDoorFx16
import Derived.Test.YtnhngjhodcikiaaDoorFx21
import Derived.Test.YtnhngjhodcikiaaDoorFx26
import Derived.Test.YtnhngjhodcikiaaDoorFx27
import Derived.Test.YtnhngjhodcikiaaDoorWErr
namespace Go.Proofs.YtnhngjhodcikiaaDoor.F
open Go.RowKit Go.Proofs.YtnhngjhodcikiaaDoorW.PrintWords Go.Proofs.YtnhngjhodcikiaaDoorW.PrintLast Go.Proofs.YtnhngjhodcikiaaDoorW.PrintMore Go.Proofs.YtnhngjhodcikiaaDoorW.PrintShort
attribute [local go_sem] run_Add64 run_Sub64
attribute [local go_sem] max2_int min2_int max_two min_two max_three min_three max_four min_four   -- for this text's walks alone
set_option linter.unusedVariables false
set_option linter.unusedSimpArgs false

/-! ### state_Replay: function 20 -/
/-- The number of a record. -/
def state_Replay.num (f : Int) (i : Nat) : Int := if IntKind.u64.wrap (f + IntKind.u64.wrap (i : Int)) < f then 0 else IntKind.u64.wrap (f + IntKind.u64.wrap (i : Int))
def state_Replay.go (k : Nat) (f : Int) : List S39 → Nat → Int → Int → List S56 → Option (Int × Int × List S56 × Int)
  | [], _, a0, a1, l => some (a0, a1, l, 0)
  | r :: rs, i, a0, a1, l => (state_step.f k a0 a1 l (state_Replay.num f i) r.f0 r.f1 r.f2 r.f3.f0 r.f3.f1 r.f3.f2 r.f3.f3 r.f3.f4 r.f4.f0 r.f4.f1 r.f4.f2).bind fun x => if x.1 = 0 then state_Replay.go k f rs (i + 1) x.2.1 x.2.2.1 x.2.2.2 else some (0, 0, [], x.1)
/-- How many records are held already. -/
def state_Replay.held (a0 f : Int) (n : Nat) : Int := mn (IntKind.u64.wrap (IntKind.u64.wrap (a0 - f) + 1)) (n : Int)
def state_Replay.f (k : Nat) (a0 a1 : Int) (l : List S56) (f : Int) (recs : List S39) : Option (Int × Int × List S56 × Int) :=
  (state_Valid.f a0 a1 l).bind fun b => if b = true then (if f = 0 then some (0, 0, [], 1)
    else if f ≤ a0 then state_Replay.go k (IntKind.u64.wrap (a0 + 1)) (recs.drop (state_Replay.held a0 f recs.length).toNat) 0 a0 a1 l
    else state_Replay.go k f recs 0 a0 a1 l) else some (0, 0, [], 1)
theorem state_Replay.mono_go (k : Nat) (f : Int) : ∀ rs i a0 a1 l, LeO (state_Replay.go k f rs i a0 a1 l) (state_Replay.go (k + 1) f rs i a0 a1 l)
  | [], _, _, _, _ => LeO.refl _
  | r :: rs, i, a0, a1, l => LeO.bind (state_step.mono _ _ _ _ _ _ _ _ _ _ _ _ _ _ _ _) (fun x => LeO.ite (state_Replay.mono_go k f rs _ _ _ _) (LeO.refl _))
theorem state_Replay.mono : ∀ a0 a1 l f recs k, LeO (state_Replay.f k a0 a1 l f recs) (state_Replay.f (k + 1) a0 a1 l f recs) := by
  intro a0 a1 l f recs k
  exact LeO.bind (LeO.refl _) (fun b => LeO.ite (LeO.ite (LeO.refl _) (LeO.ite (state_Replay.mono_go _ _ _ _ _ _ _) (state_Replay.mono_go _ _ _ _ _ _ _))) (LeO.refl _))

theorem state_Replay.put11 {w : World} {g : Nat} {t : TypeId} {a0 a1 a2 a3 a4 a5 a6 a7 a8 a9 a10 : Value} {b0 b1 b2 b3 b4 b5 b6 b7 b8 b9 b10 : Value} (B : w.heap[g]? = some (.cells #[a0, a1, a2, a3, a4, a5, a6, a7, a8, a9, a10] t (0, 0))) : (((((((((((w.setCell ⟨g, 0, none⟩ b0).setCell ⟨g, 1, none⟩ b1).setCell ⟨g, 2, none⟩ b2).setCell ⟨g, 3, none⟩ b3).setCell ⟨g, 4, none⟩ b4).setCell ⟨g, 5, none⟩ b5).setCell ⟨g, 6, none⟩ b6).setCell ⟨g, 7, none⟩ b7).setCell ⟨g, 8, none⟩ b8).setCell ⟨g, 9, none⟩ b9).setCell ⟨g, 10, none⟩ b10).heap[g]? = some (.cells #[b0, b1, b2, b3, b4, b5, b6, b7, b8, b9, b10] t (0, 0)) := by
  have e : (((((((((((#[a0, a1, a2, a3, a4, a5, a6, a7, a8, a9, a10].setIfInBounds 0 b0).setIfInBounds 1 b1).setIfInBounds 2 b2).setIfInBounds 3 b3).setIfInBounds 4 b4).setIfInBounds 5 b5).setIfInBounds 6 b6).setIfInBounds 7 b7).setIfInBounds 8 b8).setIfInBounds 9 b9).setIfInBounds 10 b10) = #[b0, b1, b2, b3, b4, b5, b6, b7, b8, b9, b10] := by simp only [List.setIfInBounds_toArray, List.set_cons_zero, List.set_cons_succ]
  rw [← e]
  exact (blk_set (blk_set (blk_set (blk_set (blk_set (blk_set (blk_set (blk_set (blk_set (blk_set (blk_set B 0 b0) 1 b1) 2 b2) 3 b3) 4 b4) 5 b5) 6 b6) 7 b7) 8 b8) 9 b9) 10 b10)
theorem state_Replay.far11 {w : World} {g g' : Nat} {t : TypeId} {cs : Array Value} {b0 b1 b2 b3 b4 b5 b6 b7 b8 b9 b10 : Value} (B : w.heap[g]? = some (.cells cs t (0, 0))) (h : g ≠ g') : (((((((((((w.setCell ⟨g', 0, none⟩ b0).setCell ⟨g', 1, none⟩ b1).setCell ⟨g', 2, none⟩ b2).setCell ⟨g', 3, none⟩ b3).setCell ⟨g', 4, none⟩ b4).setCell ⟨g', 5, none⟩ b5).setCell ⟨g', 6, none⟩ b6).setCell ⟨g', 7, none⟩ b7).setCell ⟨g', 8, none⟩ b8).setCell ⟨g', 9, none⟩ b9).setCell ⟨g', 10, none⟩ b10).heap[g]? = some (.cells cs t (0, 0)) := (blk_far (blk_far (blk_far (blk_far (blk_far (blk_far (blk_far (blk_far (blk_far (blk_far (blk_far B h _) h _) h _) h _) h _) h _) h _) h _) h _) h _) h _)
theorem state_Replay.R11 {w : World} {g base : Nat} {t : TypeId} {cs : Array Value} {v : Value} {l : List S56} {ok : Nat → Prop} {b0 b1 b2 b3 b4 b5 b6 b7 b8 b9 b10 : Value} (h : Kd.R k56 56 w base ok v l) (B : w.heap[g]? = some (.cells cs t (0, 0))) (ht : ∀ q, q ∈ 56 :: k56.E → q ≠ t) : Kd.R k56 56 (((((((((((w.setCell ⟨g, 0, none⟩ b0).setCell ⟨g, 1, none⟩ b1).setCell ⟨g, 2, none⟩ b2).setCell ⟨g, 3, none⟩ b3).setCell ⟨g, 4, none⟩ b4).setCell ⟨g, 5, none⟩ b5).setCell ⟨g, 6, none⟩ b6).setCell ⟨g, 7, none⟩ b7).setCell ⟨g, 8, none⟩ b8).setCell ⟨g, 9, none⟩ b9).setCell ⟨g, 10, none⟩ b10) base (fun _ => True) v l := Kd.R_mono (Kd.R_far (p := ⟨g, 10, none⟩) (Kd.R_far (p := ⟨g, 9, none⟩) (Kd.R_far (p := ⟨g, 8, none⟩) (Kd.R_far (p := ⟨g, 7, none⟩) (Kd.R_far (p := ⟨g, 6, none⟩) (Kd.R_far (p := ⟨g, 5, none⟩) (Kd.R_far (p := ⟨g, 4, none⟩) (Kd.R_far (p := ⟨g, 3, none⟩) (Kd.R_far (p := ⟨g, 2, none⟩) (Kd.R_far (p := ⟨g, 1, none⟩) (Kd.R_far (p := ⟨g, 0, none⟩) (Kd.R_types h B ht) (fun _ hk => hk.2) _) (fun _ hk => hk.2) _) (fun _ hk => hk.2) _) (fun _ hk => hk.2) _) (fun _ hk => hk.2) _) (fun _ hk => hk.2) _) (fun _ hk => hk.2) _) (fun _ hk => hk.2) _) (fun _ hk => hk.2) _) (fun _ hk => hk.2) _) (fun _ hk => hk.2) _) (fun _ _ => trivial)
theorem state_Replay.cutstep {P : Program} {oi : Oper} {a : Act} {W : World} {v j : Value} {A : Option Addr} {n c : Nat} (t : TypeId) (x y : Operand) {e : TypeId} (hu : P.underlying t = some (.slice e)) (hcut : ∀ W : World, (Instr.slice t (.slice A n c) (some j) none none).run P W = .ok v W) (ho : oi.op = .slice t x (some y) none none) (hx : a.eval x = .slice A n c) (hy : a.eval y = j) : (execOp a.eval oi).run P W = .ok (.value v) W := by
  unfold execOp
  simp only [ho, hx, hy, Option.map_some, Option.map_none, Sem.run_bind, Instr.sliceAt, run_underlying hu, hcut, Result.andThen_ok, Sem.run_pure]

theorem state_Replay.ad {w : World} {A : Option Addr} {l : List S39} {i : Nat} (h : Kd.C k39 w A l.length l) (hi : i < l.length) : ∃ ad, A = some ad := by
  obtain ⟨ad, e, _⟩ := at_T39 h (i : Int) (Int.natCast_nonneg _) (by omega)
  exact ⟨ad, e⟩
theorem state_Replay.el {w : World} {A : Option Addr} {ad : Addr} {l : List S39} {i : Nat} {r : S39} (h : Kd.C k39 w A l.length l) (eA : A = some ad) (hE : l.getD i z39 = r) (hi : i < l.length) : w.cell? (ad.add (i * 11)) = some (.int .i64 r.f0) ∧ w.cell? ⟨(ad.add (i * 11)).block, (ad.add (i * 11)).off + 1, none⟩ = some (.int .u64 r.f1) ∧ w.cell? ⟨(ad.add (i * 11)).block, (ad.add (i * 11)).off + 2, none⟩ = some (.string r.f2) ∧ w.cell? ⟨(ad.add (i * 11)).block, (ad.add (i * 11)).off + 3, none⟩ = some (.int .i64 r.f3.f0) ∧ w.cell? ⟨(ad.add (i * 11)).block, (ad.add (i * 11)).off + 4, none⟩ = some (.int .u64 r.f3.f1) ∧ w.cell? ⟨(ad.add (i * 11)).block, (ad.add (i * 11)).off + 5, none⟩ = some (.int .u64 r.f3.f2) ∧ w.cell? ⟨(ad.add (i * 11)).block, (ad.add (i * 11)).off + 6, none⟩ = some (.int .u64 r.f3.f3) ∧ w.cell? ⟨(ad.add (i * 11)).block, (ad.add (i * 11)).off + 7, none⟩ = some (.int .u64 r.f3.f4) ∧ w.cell? ⟨(ad.add (i * 11)).block, (ad.add (i * 11)).off + 8, none⟩ = some (.int .u64 r.f4.f0) ∧ w.cell? ⟨(ad.add (i * 11)).block, (ad.add (i * 11)).off + 9, none⟩ = some (.int .u64 r.f4.f1) ∧ w.cell? ⟨(ad.add (i * 11)).block, (ad.add (i * 11)).off + 10, none⟩ = some (.int .u64 r.f4.f2) := by
  subst eA
  obtain ⟨ad', e, h0, h1, h2, h3, h4, h5, h6, h7, h8, h9, h10⟩ := at_T39 h (i : Int) (Int.natCast_nonneg _) (by omega)
  cases e
  have e1 : rd_T39 l (i : Int) = r := by rw [← hE]; rfl
  rw [e1] at h0 h1 h2 h3 h4 h5 h6 h7 h8 h9 h10
  exact ⟨h0, h1, h2, h3, h4, h5, h6, h7, h8, h9, h10⟩
theorem state_Replay.drop_ {l : List S39} {i : Nat} {r : S39} (hi : i < l.length) (hr : l.getD i z39 = r) : l.drop i = r :: l.drop (i + 1) := by
  rw [List.drop_eq_getElem_cons hi]
  congr 1
  rw [← hr, List.getD_eq_getElem?_getD, List.getElem?_eq_getElem hi, Option.getD_some]
theorem state_Replay.wr {i n : Nat} (h : i < n) (hn : n ≤ 9223372036854775807) : wrap64 ((i : Int) + 1) = ((i + 1 : Nat) : Int) := by unfold wrap64; omega
theorem state_Replay.mea {i n : Nat} (h : i < n) (hn : n ≤ 9223372036854775807) : n - (intOf (.int .i64 (wrap64 ((i : Int) + 1)))).toNat < n - (intOf (.int .i64 (i : Int))).toNat := by rw [state_Replay.wr h hn]; simp only [intOf]; omega

set_option maxHeartbeats 8000000 in
set_option maxRecDepth 100000 in
theorem state_Replay.bad (k : Nat) [Errs] (a0 a1 : Int) (A : Option Addr) (c : Nat) (l : List S56) (f : Int) (A2 : Option Addr) (c2 : Nat) (recs : List S39) (w : World) (hE : Sent w) (hr : Kd.C k56 w A l.length l) (hc : l.length ≤ c) (hr2 : Kd.C k39 w A2 recs.length recs) (hc2 : recs.length ≤ c2) (hlm : recs.length ≤ 9223372036854775807) (hv : state_Valid.f a0 a1 l = some false) :
    Calls Tryd.prog 20 #[.agg #[.int .u64 a0, .int .u64 a1, .slice A l.length c], .int .u64 f, .slice A2 recs.length c2] w fun e w' => e = .returned (.tuple #[.agg #[.int .u64 0, .int .u64 0, .slice none 0 0], errW 1]) ∧ Below w.heap.size w w' := by
  have hu27 := Tryd.underlying27
  have hu39 := Tryd.underlying39
  have hu25 := Tryd.underlying25
  have hu51 := Tryd.underlying51
  have HE := Aside0.mk hE
  have HC := Aside0.mk hr
  have HL := Aside0.mk hc
  have HR := Aside0.mk hr2
  have HLR := Aside0.mk hc2
  have HLM := Aside0.mk hlm
  have HB := Aside0.mk (Below.refl w.heap.size w)
  have HV := Aside0.mk hv
  clear hE hr hc hr2 hc2 hv hlm
  go_enter Tryd.func20, Tryd.ntmps20
  go_wp2_with (first | ((with_reducible refine gate_dst (N := 3) rfl ?_); refine bx 3 #[.int .u64 a0, .int .u64 a1, .slice A l.length c] 27 ?_; intro g3 hg W_g3 hbox hb; have Bg3 := Aside0.mk hbox; have Gg3 := sz HB hg; have n0_ := bs HB hb; clear HB; have HB := n0_; clear n0_; clear hb hbox hg) | ((with_reducible refine gate_dst (N := 6) rfl ?_); refine bx 6 #[.int .u64 0, .int .u64 0, .slice none 0 0] 27 ?_; intro g6 hg W_g6 hbox hb; have Bg6 := Aside0.mk hbox; have Gg6 := sz HB hg; have NBg3_g6 := nl Bg3 hg; have MBg3_g6 := nr Bg3 hg; have n0_ := bb Bg3 hb; have n1_ := bs HB hb; clear Bg3 HB; have Bg3 := n0_; have HB := n1_; clear n0_ n1_; clear hb hbox hg; obtain ⟨p0, p1, p2, p3, p4, p5⟩ := bc3 Bg3; have nn1 := NBg3_g6.out; have nn2 := MBg3_g6.out) | ((with_reducible refine gate_callee (f := 10) rfl ?_); refine gm (some 15) Tryd.func10 #[.agg #[.int .u64 a0, .int .u64 a1, .slice A l.length c]] (state_Valid.calls a0 a1 _ _ l _ _ (Kd.C_below HC.out (bw HB)) HL.out HV.out) ?_; clear p0 p1 p2 p3 p4 p5; intro W_v hb; have n0_ := bb Bg3 hb; have n1_ := bb Bg6 hb; have n2_ := bs HB hb; clear Bg3 Bg6 HB; have Bg3 := n0_; have Bg6 := n1_; have HB := n2_; clear n0_ n1_ n2_; obtain ⟨p0, p1, p2, p3, p4, p5⟩ := bc3 Bg3; obtain ⟨q0, q1, q2, q3, q4, q5⟩ := bc3 Bg6; clear hb))
  clear p0 p1 p2 p3 p4 p5; clear nn1 nn2
  have e0_ := sent_cell 1 0 (HE.out.below (bw HB))
  have z0_ := World.block_lt_of_cell? _ _ (sent_cell 1 0 HE.out)
  have z1_ : g6 ≠ 0 := by have := Gg6.out; simp only at z0_; omega
  have z2_ : (0 : Nat) ≠ g6 := Ne.symm z1_
  clear z0_
  go_region
  clear e0_ z1_ z2_ q0 q1 q2 q3 q4 q5
  go_wp2
  refine bodyPost_ret (results_ct rfl _ _ g6 27 #[.int .u64 0, .int .u64 0, .slice none 0 0] (0, 0) _ rfl (blk_drew (blk_put (blk_put (blk_put Bg6.out 0 _ rfl) 1 _ rfl) 2 _ rfl)) Tryd.underlying27 rfl (by kernel_rfl)) rfl ?_
  exact ⟨re, bw HB⟩

set_option maxHeartbeats 8000000 in
set_option maxRecDepth 100000 in
theorem state_Replay.zero (k : Nat) [Errs] (a0 a1 : Int) (A : Option Addr) (c : Nat) (l : List S56) (f : Int) (A2 : Option Addr) (c2 : Nat) (recs : List S39) (w : World) (hE : Sent w) (hr : Kd.C k56 w A l.length l) (hc : l.length ≤ c) (hr2 : Kd.C k39 w A2 recs.length recs) (hc2 : recs.length ≤ c2) (hlm : recs.length ≤ 9223372036854775807) (hv : state_Valid.f a0 a1 l = some true) (hf : (f == 0) = true) :
    Calls Tryd.prog 20 #[.agg #[.int .u64 a0, .int .u64 a1, .slice A l.length c], .int .u64 f, .slice A2 recs.length c2] w fun e w' => e = .returned (.tuple #[.agg #[.int .u64 0, .int .u64 0, .slice none 0 0], errW 1]) ∧ Below w.heap.size w w' := by
  have hu27 := Tryd.underlying27
  have hu39 := Tryd.underlying39
  have hu25 := Tryd.underlying25
  have hu51 := Tryd.underlying51
  have HE := Aside0.mk hE
  have HC := Aside0.mk hr
  have HL := Aside0.mk hc
  have HR := Aside0.mk hr2
  have HLR := Aside0.mk hc2
  have HLM := Aside0.mk hlm
  have HB := Aside0.mk (Below.refl w.heap.size w)
  have HV := Aside0.mk hv
  clear hE hr hc hr2 hc2 hv hlm
  go_enter Tryd.func20, Tryd.ntmps20
  go_wp2_with (first | ((with_reducible refine gate_dst (N := 3) rfl ?_); refine bx 3 #[.int .u64 a0, .int .u64 a1, .slice A l.length c] 27 ?_; intro g3 hg W_g3 hbox hb; have Bg3 := Aside0.mk hbox; have Gg3 := sz HB hg; have n0_ := bs HB hb; clear HB; have HB := n0_; clear n0_; clear hb hbox hg) | ((with_reducible refine gate_dst (N := 6) rfl ?_); refine bx 6 #[.int .u64 0, .int .u64 0, .slice none 0 0] 27 ?_; intro g6 hg W_g6 hbox hb; have Bg6 := Aside0.mk hbox; have Gg6 := sz HB hg; have NBg3_g6 := nl Bg3 hg; have MBg3_g6 := nr Bg3 hg; have n0_ := bb Bg3 hb; have n1_ := bs HB hb; clear Bg3 HB; have Bg3 := n0_; have HB := n1_; clear n0_ n1_; clear hb hbox hg; obtain ⟨p0, p1, p2, p3, p4, p5⟩ := bc3 Bg3; have nn1 := NBg3_g6.out; have nn2 := MBg3_g6.out) | ((with_reducible refine gate_callee (f := 10) rfl ?_); refine gm (some 15) Tryd.func10 #[.agg #[.int .u64 a0, .int .u64 a1, .slice A l.length c]] (state_Valid.calls a0 a1 _ _ l _ _ (Kd.C_below HC.out (bw HB)) HL.out HV.out) ?_; clear p0 p1 p2 p3 p4 p5; intro W_v hb; have n0_ := bb Bg3 hb; have n1_ := bb Bg6 hb; have n2_ := bs HB hb; clear Bg3 Bg6 HB; have Bg3 := n0_; have Bg6 := n1_; have HB := n2_; clear n0_ n1_ n2_; obtain ⟨p0, p1, p2, p3, p4, p5⟩ := bc3 Bg3; obtain ⟨q0, q1, q2, q3, q4, q5⟩ := bc3 Bg6; clear hb))
  clear p0 p1 p2 p3 p4 p5; clear nn1 nn2
  have e0_ := sent_cell 1 0 (HE.out.below (bw HB))
  have z0_ := World.block_lt_of_cell? _ _ (sent_cell 1 0 HE.out)
  have z1_ : g6 ≠ 0 := by have := Gg6.out; simp only at z0_; omega
  have z2_ : (0 : Nat) ≠ g6 := Ne.symm z1_
  clear z0_
  go_region
  clear e0_ z1_ z2_ q0 q1 q2 q3 q4 q5
  go_wp2
  refine bodyPost_ret (results_ct rfl _ _ g6 27 #[.int .u64 0, .int .u64 0, .slice none 0 0] (0, 0) _ rfl (blk_drew (blk_put (blk_put (blk_put Bg6.out 0 _ rfl) 1 _ rfl) 2 _ rfl)) Tryd.underlying27 rfl (by kernel_rfl)) rfl ?_
  exact ⟨re, bw HB⟩

set_option maxHeartbeats 8000000 in
set_option maxRecDepth 100000 in
theorem state_Replay.late (k : Nat) [Errs] (a0 a1 : Int) (A : Option Addr) (c : Nat) (l : List S56) (f : Int) (A2 : Option Addr) (c2 : Nat) (recs : List S39) (w : World) (hE : Sent w) (hr : Kd.C k56 w A l.length l) (hc : l.length ≤ c) (hr2 : Kd.C k39 w A2 recs.length recs) (hc2 : recs.length ≤ c2) (hlm : recs.length ≤ 9223372036854775807) (hv : state_Valid.f a0 a1 l = some true) (hf : (f == 0) = false) (hlt : decide (f ≤ a0) = false) (hl8 : l.length * 80 ≤ 140737488355328) (x1 x2 : Int) (x3 : List S56) (x4 : Int) (hx : state_Replay.go k f recs 0 a0 a1 l = some (x1, x2, x3, x4)) :
    Calls Tryd.prog 20 #[.agg #[.int .u64 a0, .int .u64 a1, .slice A l.length c], .int .u64 f, .slice A2 recs.length c2] w fun e w' => ∃ v : Value, e = .returned (.tuple #[.agg #[.int .u64 x1, .int .u64 x2, v], errW x4]) ∧ Kd.R k56 56 w' w.heap.size (fun _ => True) v x3 ∧ Below w.heap.size w w' := by
  have hu27 := Tryd.underlying27
  have hu39 := Tryd.underlying39
  have hu25 := Tryd.underlying25
  have hu51 := Tryd.underlying51
  have HE := Aside0.mk hE
  have HC := Aside0.mk hr
  have HL := Aside0.mk hc
  have HR := Aside0.mk hr2
  have HLR := Aside0.mk hc2
  have HLM := Aside0.mk hlm
  have HB := Aside0.mk (Below.refl w.heap.size w)
  have HV := Aside0.mk hv
  clear hE hr hc hr2 hc2 hv hlm
  have HX := Aside0.mk hx
  have HL8 := Aside0.mk hl8
  clear hx hl8
  go_enter Tryd.func20, Tryd.ntmps20
  go_wp2_with (first | ((with_reducible refine gate_dst (N := 3) rfl ?_); refine bx 3 #[.int .u64 a0, .int .u64 a1, .slice A l.length c] 27 ?_; intro g3 hg W_g3 hbox hb; have Bg3 := Aside0.mk hbox; have Gg3 := sz HB hg; have n0_ := bs HB hb; clear HB; have HB := n0_; clear n0_; clear hb hbox hg) | ((with_reducible refine gate_dst (N := 6) rfl ?_); refine bx 6 #[.int .u64 0, .int .u64 0, .slice none 0 0] 27 ?_; intro g6 hg W_g6 hbox hb; have Bg6 := Aside0.mk hbox; have Gg6 := sz HB hg; have NBg3_g6 := nl Bg3 hg; have MBg3_g6 := nr Bg3 hg; have n0_ := bb Bg3 hb; have n1_ := bs HB hb; clear Bg3 HB; have Bg3 := n0_; have HB := n1_; clear n0_ n1_; clear hb hbox hg; obtain ⟨p0, p1, p2, p3, p4, p5⟩ := bc3 Bg3; have nn1 := NBg3_g6.out; have nn2 := MBg3_g6.out) | ((with_reducible refine gate_callee (f := 10) rfl ?_); refine gm (some 15) Tryd.func10 #[.agg #[.int .u64 a0, .int .u64 a1, .slice A l.length c]] (state_Valid.calls a0 a1 _ _ l _ _ (Kd.C_below HC.out (bw HB)) HL.out HV.out) ?_; clear p0 p1 p2 p3 p4 p5; intro W_v hb; have n0_ := bb Bg3 hb; have n1_ := bb Bg6 hb; have n2_ := bs HB hb; clear Bg3 Bg6 HB; have Bg3 := n0_; have Bg6 := n1_; have HB := n2_; clear n0_ n1_ n2_; obtain ⟨p0, p1, p2, p3, p4, p5⟩ := bc3 Bg3; obtain ⟨q0, q1, q2, q3, q4, q5⟩ := bc3 Bg6; clear hb))
  refine (state_copied.calls a0 a1 A c l _ (Kd.C_below HC.out (bw HB)) HL8.out).mono ?_
  rintro e W_c ⟨A3, c3, rfl, ho, hb⟩
  have HO := Aside0.mk (Kd.R_lower ho (below_size (bw HB)))
  clear nn1 nn2 p0 p1 p2 p3 p4 p5 q0 q1 q2 q3 q4 q5
  have n0_ := bb Bg6 hb
  have n1_ := bs HB hb
  clear Bg6 HB
  have Bg6 := n0_
  have HB := n1_
  clear n0_ n1_
  clear hb ho Bg3
  go_wp2_with (first | ((with_reducible refine gate_dst (N := 9) rfl ?_); refine bx 9 #[.int .u64 0, .int .u64 0, .slice none 0 0] 27 ?_; intro g9 hg W_g9 hbox hb; have Bg9 := Aside0.mk hbox; have Gg9 := sz HB hg; have NBg6_g9 := nl Bg6 hg; have MBg6_g9 := nr Bg6 hg; have n0_ := bb Bg6 hb; have n1_ := Aside0.mk (Kd.R_below (ro HO) hb); have n2_ := bs HB hb; clear Bg6 HO HB; have Bg6 := n0_; have HO := n1_; have HB := n2_; clear n0_ n1_ n2_; clear hb hbox hg; obtain ⟨q0, q1, q2, q3, q4, q5⟩ := bc3 Bg9))
  clear q0 q1 q2 q3 q4 q5
  have n0_ : Aside0 ((((W_g9.setCell ⟨g9, 0, none⟩ (.int .u64 a0)).setCell ⟨g9, 1, none⟩ (.int .u64 a1)).setCell ⟨g9, 2, none⟩ (.slice A3 l.length c3)).heap[g9]? = some (.cells #[.int .u64 a0, .int .u64 a1, .slice A3 l.length c3] 27 (0, 0))) := ⟨blk_put (blk_put (blk_put Bg9.out 0 _ rfl) 1 _ rfl) 2 _ rfl⟩
  have n1_ : Aside0 ((((W_g9.setCell ⟨g9, 0, none⟩ (.int .u64 a0)).setCell ⟨g9, 1, none⟩ (.int .u64 a1)).setCell ⟨g9, 2, none⟩ (.slice A3 l.length c3)).heap[g6]? = some (.cells #[.int .u64 0, .int .u64 0, .slice none 0 0] 27 (0, 0))) := ⟨blk_far (blk_far (blk_far Bg6.out NBg6_g9.out _) NBg6_g9.out _) NBg6_g9.out _⟩
  have h0_ := Kd.R_types HO.out Bg9.out (by decide)
  have n2_ : Aside0 (Kd.R k56 56 (((W_g9.setCell ⟨g9, 0, none⟩ (.int .u64 a0)).setCell ⟨g9, 1, none⟩ (.int .u64 a1)).setCell ⟨g9, 2, none⟩ (.slice A3 l.length c3)) w.heap.size (fun _ => True) (.slice A3 l.length c3) l) := ⟨Kd.R_mono (Kd.R_far (p := ⟨g9, 2, none⟩) (Kd.R_far (p := ⟨g9, 1, none⟩) (Kd.R_far (p := ⟨g9, 0, none⟩) h0_ (fun _ hk => hk.2) _) (fun _ hk => hk.2) _) (fun _ hk => hk.2) _) (fun _ _ => trivial)⟩
  have n3_ : Aside0 (Below w.heap.size w (((W_g9.setCell ⟨g9, 0, none⟩ (.int .u64 a0)).setCell ⟨g9, 1, none⟩ (.int .u64 a1)).setCell ⟨g9, 2, none⟩ (.slice A3 l.length c3))) := ⟨bw HB⟩
  clear h0_
  generalize (((W_g9.setCell ⟨g9, 0, none⟩ (.int .u64 a0)).setCell ⟨g9, 1, none⟩ (.int .u64 a1)).setCell ⟨g9, 2, none⟩ (.slice A3 l.length c3)) = W_10 at n0_ n1_ n2_ n3_ ⊢
  clear Bg9 Bg6 HO HB
  have Bg9 := n0_; have Bg6 := n1_; have HO := n2_; have HB := n3_
  clear n0_ n1_ n2_ n3_
  go_loopw [46] (fun v46 wr => ∃ (i : Nat) (b0 b1 : Int) (m : List S56) (A4 : Option Addr) (c4 : Nat), v46 = .int .i64 i ∧ Aside0 (i ≤ (recs).length) ∧ Aside0 (state_Replay.go k (f) ((recs).drop i) i b0 b1 m = some (x1, x2, x3, x4)) ∧ Aside0 (wr.heap[g9]? = some (.cells #[.int .u64 b0, .int .u64 b1, .slice A4 m.length c4] 27 (0, 0))) ∧ Aside0 (wr.heap[g6]? = some (.cells #[.int .u64 0, .int .u64 0, .slice none 0 0] 27 (0, 0))) ∧ Aside0 (Kd.R k56 56 wr w.heap.size (fun _ => True) (.slice A4 m.length c4) m) ∧ Aside0 (Below w.heap.size w wr)) (fun v46 _ => (recs).length - (intOf v46).toNat)
  case atStart => exact ⟨0, a0, a1, l, A3, c3, rfl, ⟨Nat.zero_le _⟩, ⟨by rw [List.drop_zero]; exact HX.out⟩, Bg9, Bg6, HO, HB⟩
  case round =>
    clear Bg9 Bg6 HO HB
    obtain ⟨i, b0, b1, m, A4, c4, rfl, HI, HG, Bg9, Bg6, HO, HB⟩ := hrel
    have hi := HI.out
    by_cases hlt : i < (recs).length
    · obtain ⟨r, hr_⟩ : ∃ r, (recs).getD i z39 = r := ⟨_, rfl⟩
      have hd_ := state_Replay.drop_ hlt hr_
      have hg := HG.out
      rw [hd_] at hg
      obtain ⟨⟨y1, y2, y3, y4⟩, hy, hg⟩ := Option.bind_eq_some_iff.mp (show (state_step.f k b0 b1 m (state_Replay.num (f) i) r.f0 r.f1 r.f2 r.f3.f0 r.f3.f1 r.f3.f2 r.f3.f3 r.f3.f4 r.f4.f0 r.f4.f1 r.f4.f2).bind _ = _ from hg)
      have HY := Aside0.mk hy; have HG2 := Aside0.mk hg; have HLT := Aside0.mk hlt; have HR_ := Aside0.mk hr_; clear hy hg hd_ hr_
      obtain ⟨ad, eA⟩ := state_Replay.ad HR.out hlt
      have hlt2 : (i : Int) < ((recs).length : Int) := (by omega)
      obtain ⟨e0, e1, e2, e3, e4, e5, e6, e7, e8, e9, e10⟩ := state_Replay.el (Kd.C_below HR.out HB.out) eA HR_.out hlt
      subst eA
      go_upto_region 11 with (first | ((with_reducible refine gate_dst (N := 11) rfl ?_); refine bx 11 #[.int .i64 0, .int .u64 0, .string ⟨#[]⟩, .int .i64 0, .int .u64 0, .int .u64 0, .int .u64 0, .int .u64 0, .int .u64 0, .int .u64 0, .int .u64 0] 39 ?_; intro g11 hg W_g11 hbox hb; have Bg11 := Aside0.mk hbox; have Gg11 := sz HB hg; have NBg9_g11 := nl Bg9 hg; have NBg6_g11 := nl Bg6 hg; have MBg9_g11 := nr Bg9 hg; have MBg6_g11 := nr Bg6 hg; have n0_ := bb Bg9 hb; have n1_ := bb Bg6 hb; have n2_ := Aside0.mk (Kd.R_below (ro HO) hb); have n3_ := bs HB hb; clear Bg9 Bg6 HO HB; have Bg9 := n0_; have Bg6 := n1_; have HO := n2_; have HB := n3_; clear n0_ n1_ n2_ n3_; clear hb hbox hg; obtain ⟨s0, s1, s2, s3, s4, s5, s6, s7, s8, s9, s10, s11, s12, s13, s14, s15, s16, s17, s18, s19, s20, s21⟩ := bc11 Bg11; clear e0 e1 e2 e3 e4 e5 e6 e7 e8 e9 e10))
      clear hlt2 s0 s1 s2 s3 s4 s5 s6 s7 s8 s9 s10 s11 s12 s13 s14 s15 s16 s17 s18 s19 s20 s21
      have n0_ : Aside0 ((((((((((((W_g11.setCell ⟨g11, 0, none⟩ (.int .i64 r.f0)).setCell ⟨g11, 1, none⟩ (.int .u64 r.f1)).setCell ⟨g11, 2, none⟩ (.string r.f2)).setCell ⟨g11, 3, none⟩ (.int .i64 r.f3.f0)).setCell ⟨g11, 4, none⟩ (.int .u64 r.f3.f1)).setCell ⟨g11, 5, none⟩ (.int .u64 r.f3.f2)).setCell ⟨g11, 6, none⟩ (.int .u64 r.f3.f3)).setCell ⟨g11, 7, none⟩ (.int .u64 r.f3.f4)).setCell ⟨g11, 8, none⟩ (.int .u64 r.f4.f0)).setCell ⟨g11, 9, none⟩ (.int .u64 r.f4.f1)).setCell ⟨g11, 10, none⟩ (.int .u64 r.f4.f2)).heap[g9]? = some (.cells #[.int .u64 b0, .int .u64 b1, .slice A4 m.length c4] 27 (0, 0))) := ⟨state_Replay.far11 Bg9.out NBg9_g11.out⟩
      have n1_ : Aside0 ((((((((((((W_g11.setCell ⟨g11, 0, none⟩ (.int .i64 r.f0)).setCell ⟨g11, 1, none⟩ (.int .u64 r.f1)).setCell ⟨g11, 2, none⟩ (.string r.f2)).setCell ⟨g11, 3, none⟩ (.int .i64 r.f3.f0)).setCell ⟨g11, 4, none⟩ (.int .u64 r.f3.f1)).setCell ⟨g11, 5, none⟩ (.int .u64 r.f3.f2)).setCell ⟨g11, 6, none⟩ (.int .u64 r.f3.f3)).setCell ⟨g11, 7, none⟩ (.int .u64 r.f3.f4)).setCell ⟨g11, 8, none⟩ (.int .u64 r.f4.f0)).setCell ⟨g11, 9, none⟩ (.int .u64 r.f4.f1)).setCell ⟨g11, 10, none⟩ (.int .u64 r.f4.f2)).heap[g6]? = some (.cells #[.int .u64 0, .int .u64 0, .slice none 0 0] 27 (0, 0))) := ⟨state_Replay.far11 Bg6.out NBg6_g11.out⟩
      have n2_ : Aside0 (Kd.R k56 56 (((((((((((W_g11.setCell ⟨g11, 0, none⟩ (.int .i64 r.f0)).setCell ⟨g11, 1, none⟩ (.int .u64 r.f1)).setCell ⟨g11, 2, none⟩ (.string r.f2)).setCell ⟨g11, 3, none⟩ (.int .i64 r.f3.f0)).setCell ⟨g11, 4, none⟩ (.int .u64 r.f3.f1)).setCell ⟨g11, 5, none⟩ (.int .u64 r.f3.f2)).setCell ⟨g11, 6, none⟩ (.int .u64 r.f3.f3)).setCell ⟨g11, 7, none⟩ (.int .u64 r.f3.f4)).setCell ⟨g11, 8, none⟩ (.int .u64 r.f4.f0)).setCell ⟨g11, 9, none⟩ (.int .u64 r.f4.f1)).setCell ⟨g11, 10, none⟩ (.int .u64 r.f4.f2)) w.heap.size (fun _ => True) (.slice A4 m.length c4) m) := ⟨state_Replay.R11 HO.out Bg11.out (by decide)⟩
      have n3_ : Aside0 (Below w.heap.size w (((((((((((W_g11.setCell ⟨g11, 0, none⟩ (.int .i64 r.f0)).setCell ⟨g11, 1, none⟩ (.int .u64 r.f1)).setCell ⟨g11, 2, none⟩ (.string r.f2)).setCell ⟨g11, 3, none⟩ (.int .i64 r.f3.f0)).setCell ⟨g11, 4, none⟩ (.int .u64 r.f3.f1)).setCell ⟨g11, 5, none⟩ (.int .u64 r.f3.f2)).setCell ⟨g11, 6, none⟩ (.int .u64 r.f3.f3)).setCell ⟨g11, 7, none⟩ (.int .u64 r.f3.f4)).setCell ⟨g11, 8, none⟩ (.int .u64 r.f4.f0)).setCell ⟨g11, 9, none⟩ (.int .u64 r.f4.f1)).setCell ⟨g11, 10, none⟩ (.int .u64 r.f4.f2))) := ⟨bw HB⟩
      have n4_ : Aside0 ((((((((((((W_g11.setCell ⟨g11, 0, none⟩ (.int .i64 r.f0)).setCell ⟨g11, 1, none⟩ (.int .u64 r.f1)).setCell ⟨g11, 2, none⟩ (.string r.f2)).setCell ⟨g11, 3, none⟩ (.int .i64 r.f3.f0)).setCell ⟨g11, 4, none⟩ (.int .u64 r.f3.f1)).setCell ⟨g11, 5, none⟩ (.int .u64 r.f3.f2)).setCell ⟨g11, 6, none⟩ (.int .u64 r.f3.f3)).setCell ⟨g11, 7, none⟩ (.int .u64 r.f3.f4)).setCell ⟨g11, 8, none⟩ (.int .u64 r.f4.f0)).setCell ⟨g11, 9, none⟩ (.int .u64 r.f4.f1)).setCell ⟨g11, 10, none⟩ (.int .u64 r.f4.f2)).heap[g11]? = some (.cells #[.int .i64 r.f0, .int .u64 r.f1, .string r.f2, .int .i64 r.f3.f0, .int .u64 r.f3.f1, .int .u64 r.f3.f2, .int .u64 r.f3.f3, .int .u64 r.f3.f4, .int .u64 r.f4.f0, .int .u64 r.f4.f1, .int .u64 r.f4.f2] 39 (0, 0))) := ⟨state_Replay.put11 Bg11.out⟩
      generalize (((((((((((W_g11.setCell ⟨g11, 0, none⟩ (.int .i64 r.f0)).setCell ⟨g11, 1, none⟩ (.int .u64 r.f1)).setCell ⟨g11, 2, none⟩ (.string r.f2)).setCell ⟨g11, 3, none⟩ (.int .i64 r.f3.f0)).setCell ⟨g11, 4, none⟩ (.int .u64 r.f3.f1)).setCell ⟨g11, 5, none⟩ (.int .u64 r.f3.f2)).setCell ⟨g11, 6, none⟩ (.int .u64 r.f3.f3)).setCell ⟨g11, 7, none⟩ (.int .u64 r.f3.f4)).setCell ⟨g11, 8, none⟩ (.int .u64 r.f4.f0)).setCell ⟨g11, 9, none⟩ (.int .u64 r.f4.f1)).setCell ⟨g11, 10, none⟩ (.int .u64 r.f4.f2)) = W_12 at n0_ n1_ n2_ n3_ n4_ ⊢
      clear Bg9 Bg6 HO HB Bg11
      have Bg9 := n0_; have Bg6 := n1_; have HO := n2_; have HB := n3_; have Bg11 := n4_
      clear n0_ n1_ n2_ n3_ n4_
      obtain ⟨s0, s1, s2, s3, s4, s5, s6, s7, s8, s9, s10, s11, s12, s13, s14, s15, s16, s17, s18, s19, s20, s21⟩ := bc11 Bg11
      go_upto_region 12 with fail
      have hnm : state_Replay.num (f) i = (if IntKind.u64.wrap (f + IntKind.u64.wrap (i : Int)) < f then 0 else IntKind.u64.wrap (f + IntKind.u64.wrap (i : Int))) := rfl
      generalize IntKind.u64.wrap (f + IntKind.u64.wrap (i : Int)) = N at hnm ⊢
      have HNM := Aside0.mk hnm; clear hnm
      by_cases hn : N < f
      · as_aux_lemma =>
        have hn1 : decide (N < f) = true := decide_eq_true hn
        have hy2 := HY.out
        rw [HNM.out, if_pos hn] at hy2
        have hf_ := state_step.fault hy2
        have HY2 := Aside0.mk hy2; have X0 := Aside0.mk hf_.1; clear hy2 hf_ hn
        go_upto_region 14 with fail
        clear hn1
        go_wp2_with fail
        clear s0 s1 s2 s3 s4 s5 s6 s7 s8 s9 s10 s11 s12 s13 s14 s15 s16 s17 s18 s19 s20 s21
        refine (state_step.calls k w W_12 HE.out g9 b0 b1 A4 c4 m _ r.f0 r.f1 r.f2 r.f3.f0 r.f3.f1 r.f3.f2 r.f3.f3 r.f3.f4 r.f4.f0 r.f4.f1 r.f4.f2 y1 y2 y3 y4 HB.out Gg9.out Bg9.out HO.out g6 _ _ Bg6.out (by decide) NBg6_g9.out HY2.out).mono ?_
        rintro e W_s ⟨v, rfl, hbs, ho, hq, hb⟩
        clear Bg9 Bg6 HO HB Bg11
        have Bg9 := Aside0.mk hbs; have HO := Aside0.mk ho; have Bg6 := Aside0.mk hq; have HB := Aside0.mk hb
        clear hbs ho hq hb
        obtain ⟨A5, c5, e5⟩ := Kd.R_slice HO.out
        subst e5
        by_cases h0 : y1 = 0
        · as_aux_lemma =>
          have hg4 : state_Replay.go k (f) ((recs).drop (i + 1)) (i + 1) y2 y3 y4 = some (x1, x2, x3, x4) := by have h_ := HG2.out; rw [if_pos h0] at h_; exact h_
          have HG4 := Aside0.mk hg4; have H0 := Aside0.mk h0; clear hg4 h0
          go_wp2_with (first | ((with_reducible refine gate_dst (N := 62) rfl ?_); refine nen_err y1 false ?_ (by simpa using H0.out) X0.out rfl rfl rfl))
          go_roundw
          case rel => exact ⟨i + 1, y2, y3, y4, A5, c5, by rw [state_Replay.wr HLT.out HLM.out], ⟨HLT.out⟩, HG4, Bg9, Bg6, HO, HB⟩
          case measure => exact state_Replay.mea HLT.out HLM.out
        · as_aux_lemma =>
          have hx_ : some ((0 : Int), (0 : Int), ([] : List S56), y1) = some (x1, x2, x3, x4) := by have h_ := HG2.out; rw [if_neg h0] at h_; exact h_
          simp only [Option.some.injEq, Prod.mk.injEq] at hx_
          obtain ⟨rfl, rfl, rfl, rfl⟩ := hx_
          have H0 := Aside0.mk h0; clear h0
          obtain ⟨q0, q1, q2, q3, q4, q5⟩ := bc3 Bg6
          go_wp2_with (first | ((with_reducible refine gate_dst (N := 62) rfl ?_); refine nen_err y1 true ?_ (by simpa using H0.out) X0.out rfl rfl rfl))
          refine bodyPost_ret (results_ct rfl _ _ g6 27 #[.int .u64 0, .int .u64 0, .slice none 0 0] (0, 0) _ rfl (blk_put (blk_put (blk_put Bg6.out 0 _ rfl) 1 _ rfl) 2 _ rfl) Tryd.underlying27 rfl (by kernel_rfl)) rfl ?_
          exact ⟨_, rfl, Kd.R_nil _ _ _ _ _, bw HB⟩
      · as_aux_lemma =>
        have hn1 : decide (N < f) = false := decide_eq_false hn
        have hy2 := HY.out
        rw [HNM.out, if_neg hn] at hy2
        have hf_ := state_step.fault hy2
        have HY2 := Aside0.mk hy2; have X0 := Aside0.mk hf_.1; clear hy2 hf_ hn
        go_upto_region 14 with fail
        clear hn1
        go_wp2_with fail
        clear s0 s1 s2 s3 s4 s5 s6 s7 s8 s9 s10 s11 s12 s13 s14 s15 s16 s17 s18 s19 s20 s21
        refine (state_step.calls k w W_12 HE.out g9 b0 b1 A4 c4 m _ r.f0 r.f1 r.f2 r.f3.f0 r.f3.f1 r.f3.f2 r.f3.f3 r.f3.f4 r.f4.f0 r.f4.f1 r.f4.f2 y1 y2 y3 y4 HB.out Gg9.out Bg9.out HO.out g6 _ _ Bg6.out (by decide) NBg6_g9.out HY2.out).mono ?_
        rintro e W_s ⟨v, rfl, hbs, ho, hq, hb⟩
        clear Bg9 Bg6 HO HB Bg11
        have Bg9 := Aside0.mk hbs; have HO := Aside0.mk ho; have Bg6 := Aside0.mk hq; have HB := Aside0.mk hb
        clear hbs ho hq hb
        obtain ⟨A5, c5, e5⟩ := Kd.R_slice HO.out
        subst e5
        by_cases h0 : y1 = 0
        · as_aux_lemma =>
          have hg4 : state_Replay.go k (f) ((recs).drop (i + 1)) (i + 1) y2 y3 y4 = some (x1, x2, x3, x4) := by have h_ := HG2.out; rw [if_pos h0] at h_; exact h_
          have HG4 := Aside0.mk hg4; have H0 := Aside0.mk h0; clear hg4 h0
          go_wp2_with (first | ((with_reducible refine gate_dst (N := 62) rfl ?_); refine nen_err y1 false ?_ (by simpa using H0.out) X0.out rfl rfl rfl))
          go_roundw
          case rel => exact ⟨i + 1, y2, y3, y4, A5, c5, by rw [state_Replay.wr HLT.out HLM.out], ⟨HLT.out⟩, HG4, Bg9, Bg6, HO, HB⟩
          case measure => exact state_Replay.mea HLT.out HLM.out
        · as_aux_lemma =>
          have hx_ : some ((0 : Int), (0 : Int), ([] : List S56), y1) = some (x1, x2, x3, x4) := by have h_ := HG2.out; rw [if_neg h0] at h_; exact h_
          simp only [Option.some.injEq, Prod.mk.injEq] at hx_
          obtain ⟨rfl, rfl, rfl, rfl⟩ := hx_
          have H0 := Aside0.mk h0; clear h0
          obtain ⟨q0, q1, q2, q3, q4, q5⟩ := bc3 Bg6
          go_wp2_with (first | ((with_reducible refine gate_dst (N := 62) rfl ?_); refine nen_err y1 true ?_ (by simpa using H0.out) X0.out rfl rfl rfl))
          refine bodyPost_ret (results_ct rfl _ _ g6 27 #[.int .u64 0, .int .u64 0, .slice none 0 0] (0, 0) _ rfl (blk_put (blk_put (blk_put Bg6.out 0 _ rfl) 1 _ rfl) 2 _ rfl) Tryd.underlying27 rfl (by kernel_rfl)) rfl ?_
          exact ⟨_, rfl, Kd.R_nil _ _ _ _ _, bw HB⟩
    · as_aux_lemma =>
      have he : i = (recs).length := by omega
      have hx_ := HG.out
      rw [he, List.drop_length] at hx_
      simp only [state_Replay.go, Option.some.injEq, Prod.mk.injEq] at hx_
      obtain ⟨rfl, rfl, rfl, rfl⟩ := hx_
      have hlt2 : ¬ (i : Int) < ((recs).length : Int) := (by omega)
      clear he
      obtain ⟨q0, q1, q2, q3, q4, q5⟩ := bc3 Bg6
      obtain ⟨p0, p1, p2, p3, p4, p5⟩ := bc3 Bg9
      have nn1 := NBg6_g9.out; have nn2 := MBg6_g9.out
      go_wp2
      have h0_ := Kd.R_types HO.out Bg6.out (by decide)
      refine bodyPost_ret (results_ct rfl _ _ g6 27 #[.int .u64 b0, .int .u64 b1, .slice A4 m.length c4] (0, 0) _ rfl (blk_put (blk_put (blk_put Bg6.out 0 _ rfl) 1 _ rfl) 2 _ rfl) Tryd.underlying27 rfl (by kernel_rfl)) rfl ?_
      exact ⟨.slice A4 m.length c4, re, Kd.R_mono (Kd.R_far (p := ⟨g6, 2, none⟩) (Kd.R_far (p := ⟨g6, 1, none⟩) (Kd.R_far (p := ⟨g6, 0, none⟩) h0_ (fun _ hk => hk.2) _) (fun _ hk => hk.2) _) (fun _ hk => hk.2) _) (fun _ _ => trivial), bw HB⟩

set_option maxHeartbeats 8000000 in
set_option maxRecDepth 100000 in
theorem state_Replay.early (k : Nat) [Errs] (a0 a1 : Int) (A : Option Addr) (c : Nat) (l : List S56) (f : Int) (A2 : Option Addr) (c2 : Nat) (recs : List S39) (w : World) (hE : Sent w) (hr : Kd.C k56 w A l.length l) (hc : l.length ≤ c) (hr2 : Kd.C k39 w A2 recs.length recs) (hc2 : recs.length ≤ c2) (hlm : recs.length ≤ 9223372036854775807) (hv : state_Valid.f a0 a1 l = some true) (hf : (f == 0) = false) (hlt : decide (f ≤ a0) = true) (hl8 : l.length * 80 ≤ 140737488355328) (H F M : Int) (hH : IntKind.u64.wrap (IntKind.u64.wrap (a0 - f) + 1) = H) (hF : IntKind.u64.wrap (a0 + 1) = F) (hmn : (if (recs.length : Int) < H then (recs.length : Int) else H) = M) (x1 x2 : Int) (x3 : List S56) (x4 : Int) (hx : state_Replay.go k F (recs.drop M.toNat) 0 a0 a1 l = some (x1, x2, x3, x4)) :
    Calls Tryd.prog 20 #[.agg #[.int .u64 a0, .int .u64 a1, .slice A l.length c], .int .u64 f, .slice A2 recs.length c2] w fun e w' => ∃ v : Value, e = .returned (.tuple #[.agg #[.int .u64 x1, .int .u64 x2, v], errW x4]) ∧ Kd.R k56 56 w' w.heap.size (fun _ => True) v x3 ∧ Below w.heap.size w w' := by
  have hu27 := Tryd.underlying27
  have hu39 := Tryd.underlying39
  have hu25 := Tryd.underlying25
  have hu51 := Tryd.underlying51
  have HE := Aside0.mk hE
  have HC := Aside0.mk hr
  have HL := Aside0.mk hc
  have HR := Aside0.mk hr2
  have HLR := Aside0.mk hc2
  have HLM := Aside0.mk hlm
  have HB := Aside0.mk (Below.refl w.heap.size w)
  have HV := Aside0.mk hv
  clear hE hr hc hr2 hc2 hv hlm
  have hH0 : 0 ≤ H := by rw [← hH, IntKind.wrap_u64]; omega
  have hM0 : 0 ≤ M := by rw [← hmn]; split <;> omega
  have hM1 : M ≤ (recs.length : Int) := by rw [← hmn]; split <;> omega
  obtain ⟨i0, hi0, hz0⟩ := Option.map_eq_some_iff.1 (show (Tryd.prog.info? 39).map (·.size) = some 11 by kernel_rfl)
  have hcut := cut_from (P := Tryd.prog) 51 39 .u64 hu51 hi0 11 hz0 A2 recs.length c2 M hM0 hM1
  have hrd := Kd.C_drop HR.out (m := M.toNat) (by omega) HLR.out
  have hlr1 : recs.length - M.toNat ≤ c2 - M.toNat := by have := HLR.out; omega
  obtain ⟨rs, hrs⟩ : ∃ rs, recs.drop M.toNat = rs := ⟨_, rfl⟩
  have hrl : recs.length - M.toNat = rs.length := by rw [← hrs, List.length_drop]
  rw [hrs] at hx hrd
  rw [hrl] at hcut hlr1
  have hlm1 : rs.length ≤ 9223372036854775807 := by have := HLM.out; omega
  have hlw : IntKind.u64.wrap (recs.length : Int) = (recs.length : Int) := by have := HLM.out; rw [IntKind.wrap_u64]; omega
  obtain ⟨A1, hA1⟩ : ∃ A1, (if c2 = M.toNat then A2 else A2.map (·.add (M.toNat * 11))) = A1 := ⟨_, rfl⟩
  obtain ⟨c1, hc1⟩ : ∃ c1, c2 - M.toNat = c1 := ⟨_, rfl⟩
  rw [hA1, hc1] at hcut
  have hrd1 : Kd.C k39 w A1 rs.length rs := by rw [← hA1]; exact hrd
  rw [hc1] at hlr1
  have HX := Aside0.mk hx
  have HL8 := Aside0.mk hl8
  have HR1 := Aside0.mk hrd1
  clear hx hl8 hrd hrd1 hA1 hc1 hrs hrl hi0 hz0 hM0 hM1 hH0 HLR HLM HR
  have HLM := Aside0.mk hlm1
  have HLR := Aside0.mk hlr1
  clear hlm1 hlr1
  go_enter Tryd.func20, Tryd.ntmps20
  go_wp2_with (first | ((with_reducible refine gate_dst (N := 3) rfl ?_); refine bx 3 #[.int .u64 a0, .int .u64 a1, .slice A l.length c] 27 ?_; intro g3 hg W_g3 hbox hb; have Bg3 := Aside0.mk hbox; have Gg3 := sz HB hg; have n0_ := bs HB hb; clear HB; have HB := n0_; clear n0_; clear hb hbox hg) | ((with_reducible refine gate_dst (N := 6) rfl ?_); refine bx 6 #[.int .u64 0, .int .u64 0, .slice none 0 0] 27 ?_; intro g6 hg W_g6 hbox hb; have Bg6 := Aside0.mk hbox; have Gg6 := sz HB hg; have NBg3_g6 := nl Bg3 hg; have MBg3_g6 := nr Bg3 hg; have n0_ := bb Bg3 hb; have n1_ := bs HB hb; clear Bg3 HB; have Bg3 := n0_; have HB := n1_; clear n0_ n1_; clear hb hbox hg; obtain ⟨p0, p1, p2, p3, p4, p5⟩ := bc3 Bg3; have nn1 := NBg3_g6.out; have nn2 := MBg3_g6.out) | ((with_reducible refine gate_callee (f := 10) rfl ?_); refine gm (some 15) Tryd.func10 #[.agg #[.int .u64 a0, .int .u64 a1, .slice A l.length c]] (state_Valid.calls a0 a1 _ _ l _ _ (Kd.C_below HC.out (bw HB)) HL.out HV.out) ?_; clear p0 p1 p2 p3 p4 p5; intro W_v hb; have n0_ := bb Bg3 hb; have n1_ := bb Bg6 hb; have n2_ := bs HB hb; clear Bg3 Bg6 HB; have Bg3 := n0_; have Bg6 := n1_; have HB := n2_; clear n0_ n1_ n2_; obtain ⟨p0, p1, p2, p3, p4, p5⟩ := bc3 Bg3; obtain ⟨q0, q1, q2, q3, q4, q5⟩ := bc3 Bg6; clear hb))
  clear hcut hlw hH hF hmn
  refine (state_copied.calls a0 a1 A c l _ (Kd.C_below HC.out (bw HB)) HL8.out).mono ?_
  rintro e W_c ⟨A3, c3, rfl, ho, hb⟩
  have HO := Aside0.mk (Kd.R_lower ho (below_size (bw HB)))
  clear nn1 nn2 p0 p1 p2 p3 p4 p5 q0 q1 q2 q3 q4 q5
  have n0_ := bb Bg6 hb
  have n1_ := bs HB hb
  clear Bg6 HB
  have Bg6 := n0_
  have HB := n1_
  clear n0_ n1_
  clear hb ho Bg3
  go_wp2_with (first | ((with_reducible refine gate_dst (N := 9) rfl ?_); refine bx 9 #[.int .u64 0, .int .u64 0, .slice none 0 0] 27 ?_; intro g9 hg W_g9 hbox hb; have Bg9 := Aside0.mk hbox; have Gg9 := sz HB hg; have NBg6_g9 := nl Bg6 hg; have MBg6_g9 := nr Bg6 hg; have n0_ := bb Bg6 hb; have n1_ := Aside0.mk (Kd.R_below (ro HO) hb); have n2_ := bs HB hb; clear Bg6 HO HB; have Bg6 := n0_; have HO := n1_; have HB := n2_; clear n0_ n1_ n2_; clear hb hbox hg; obtain ⟨q0, q1, q2, q3, q4, q5⟩ := bc3 Bg9))
  clear q0 q1 q2 q3 q4 q5
  have n0_ : Aside0 ((((W_g9.setCell ⟨g9, 0, none⟩ (.int .u64 a0)).setCell ⟨g9, 1, none⟩ (.int .u64 a1)).setCell ⟨g9, 2, none⟩ (.slice A3 l.length c3)).heap[g9]? = some (.cells #[.int .u64 a0, .int .u64 a1, .slice A3 l.length c3] 27 (0, 0))) := ⟨blk_put (blk_put (blk_put Bg9.out 0 _ rfl) 1 _ rfl) 2 _ rfl⟩
  have n1_ : Aside0 ((((W_g9.setCell ⟨g9, 0, none⟩ (.int .u64 a0)).setCell ⟨g9, 1, none⟩ (.int .u64 a1)).setCell ⟨g9, 2, none⟩ (.slice A3 l.length c3)).heap[g6]? = some (.cells #[.int .u64 0, .int .u64 0, .slice none 0 0] 27 (0, 0))) := ⟨blk_far (blk_far (blk_far Bg6.out NBg6_g9.out _) NBg6_g9.out _) NBg6_g9.out _⟩
  have h0_ := Kd.R_types HO.out Bg9.out (by decide)
  have n2_ : Aside0 (Kd.R k56 56 (((W_g9.setCell ⟨g9, 0, none⟩ (.int .u64 a0)).setCell ⟨g9, 1, none⟩ (.int .u64 a1)).setCell ⟨g9, 2, none⟩ (.slice A3 l.length c3)) w.heap.size (fun _ => True) (.slice A3 l.length c3) l) := ⟨Kd.R_mono (Kd.R_far (p := ⟨g9, 2, none⟩) (Kd.R_far (p := ⟨g9, 1, none⟩) (Kd.R_far (p := ⟨g9, 0, none⟩) h0_ (fun _ hk => hk.2) _) (fun _ hk => hk.2) _) (fun _ hk => hk.2) _) (fun _ _ => trivial)⟩
  have n3_ : Aside0 (Below w.heap.size w (((W_g9.setCell ⟨g9, 0, none⟩ (.int .u64 a0)).setCell ⟨g9, 1, none⟩ (.int .u64 a1)).setCell ⟨g9, 2, none⟩ (.slice A3 l.length c3))) := ⟨bw HB⟩
  clear h0_
  generalize (((W_g9.setCell ⟨g9, 0, none⟩ (.int .u64 a0)).setCell ⟨g9, 1, none⟩ (.int .u64 a1)).setCell ⟨g9, 2, none⟩ (.slice A3 l.length c3)) = W_10 at n0_ n1_ n2_ n3_ ⊢
  clear Bg9 Bg6 HO HB
  have Bg9 := n0_; have Bg6 := n1_; have HO := n2_; have HB := n3_
  clear n0_ n1_ n2_ n3_
  go_loopw [46] (fun v46 wr => ∃ (i : Nat) (b0 b1 : Int) (m : List S56) (A4 : Option Addr) (c4 : Nat), v46 = .int .i64 i ∧ Aside0 (i ≤ (rs).length) ∧ Aside0 (state_Replay.go k (F) ((rs).drop i) i b0 b1 m = some (x1, x2, x3, x4)) ∧ Aside0 (wr.heap[g9]? = some (.cells #[.int .u64 b0, .int .u64 b1, .slice A4 m.length c4] 27 (0, 0))) ∧ Aside0 (wr.heap[g6]? = some (.cells #[.int .u64 0, .int .u64 0, .slice none 0 0] 27 (0, 0))) ∧ Aside0 (Kd.R k56 56 wr w.heap.size (fun _ => True) (.slice A4 m.length c4) m) ∧ Aside0 (Below w.heap.size w wr)) (fun v46 _ => (rs).length - (intOf v46).toNat)
  case atStart => exact ⟨0, a0, a1, l, A3, c3, rfl, ⟨Nat.zero_le _⟩, ⟨by rw [List.drop_zero]; exact HX.out⟩, Bg9, Bg6, HO, HB⟩
  case round =>
    clear Bg9 Bg6 HO HB
    obtain ⟨i, b0, b1, m, A4, c4, rfl, HI, HG, Bg9, Bg6, HO, HB⟩ := hrel
    have hi := HI.out
    by_cases hlt : i < (rs).length
    · obtain ⟨r, hr_⟩ : ∃ r, (rs).getD i z39 = r := ⟨_, rfl⟩
      have hd_ := state_Replay.drop_ hlt hr_
      have hg := HG.out
      rw [hd_] at hg
      obtain ⟨⟨y1, y2, y3, y4⟩, hy, hg⟩ := Option.bind_eq_some_iff.mp (show (state_step.f k b0 b1 m (state_Replay.num (F) i) r.f0 r.f1 r.f2 r.f3.f0 r.f3.f1 r.f3.f2 r.f3.f3 r.f3.f4 r.f4.f0 r.f4.f1 r.f4.f2).bind _ = _ from hg)
      have HY := Aside0.mk hy; have HG2 := Aside0.mk hg; have HLT := Aside0.mk hlt; have HR_ := Aside0.mk hr_; clear hy hg hd_ hr_
      obtain ⟨ad, eA⟩ := state_Replay.ad HR1.out hlt
      have hlt2 : (i : Int) < ((rs).length : Int) := (by omega)
      obtain ⟨e0, e1, e2, e3, e4, e5, e6, e7, e8, e9, e10⟩ := state_Replay.el (Kd.C_below HR1.out HB.out) eA HR_.out hlt
      subst eA
      go_upto_region 11 with (first | ((with_reducible refine gate_dst (N := 11) rfl ?_); refine bx 11 #[.int .i64 0, .int .u64 0, .string ⟨#[]⟩, .int .i64 0, .int .u64 0, .int .u64 0, .int .u64 0, .int .u64 0, .int .u64 0, .int .u64 0, .int .u64 0] 39 ?_; intro g11 hg W_g11 hbox hb; have Bg11 := Aside0.mk hbox; have Gg11 := sz HB hg; have NBg9_g11 := nl Bg9 hg; have NBg6_g11 := nl Bg6 hg; have MBg9_g11 := nr Bg9 hg; have MBg6_g11 := nr Bg6 hg; have n0_ := bb Bg9 hb; have n1_ := bb Bg6 hb; have n2_ := Aside0.mk (Kd.R_below (ro HO) hb); have n3_ := bs HB hb; clear Bg9 Bg6 HO HB; have Bg9 := n0_; have Bg6 := n1_; have HO := n2_; have HB := n3_; clear n0_ n1_ n2_ n3_; clear hb hbox hg; obtain ⟨s0, s1, s2, s3, s4, s5, s6, s7, s8, s9, s10, s11, s12, s13, s14, s15, s16, s17, s18, s19, s20, s21⟩ := bc11 Bg11; clear e0 e1 e2 e3 e4 e5 e6 e7 e8 e9 e10))
      clear hlt2 s0 s1 s2 s3 s4 s5 s6 s7 s8 s9 s10 s11 s12 s13 s14 s15 s16 s17 s18 s19 s20 s21
      have n0_ : Aside0 ((((((((((((W_g11.setCell ⟨g11, 0, none⟩ (.int .i64 r.f0)).setCell ⟨g11, 1, none⟩ (.int .u64 r.f1)).setCell ⟨g11, 2, none⟩ (.string r.f2)).setCell ⟨g11, 3, none⟩ (.int .i64 r.f3.f0)).setCell ⟨g11, 4, none⟩ (.int .u64 r.f3.f1)).setCell ⟨g11, 5, none⟩ (.int .u64 r.f3.f2)).setCell ⟨g11, 6, none⟩ (.int .u64 r.f3.f3)).setCell ⟨g11, 7, none⟩ (.int .u64 r.f3.f4)).setCell ⟨g11, 8, none⟩ (.int .u64 r.f4.f0)).setCell ⟨g11, 9, none⟩ (.int .u64 r.f4.f1)).setCell ⟨g11, 10, none⟩ (.int .u64 r.f4.f2)).heap[g9]? = some (.cells #[.int .u64 b0, .int .u64 b1, .slice A4 m.length c4] 27 (0, 0))) := ⟨state_Replay.far11 Bg9.out NBg9_g11.out⟩
      have n1_ : Aside0 ((((((((((((W_g11.setCell ⟨g11, 0, none⟩ (.int .i64 r.f0)).setCell ⟨g11, 1, none⟩ (.int .u64 r.f1)).setCell ⟨g11, 2, none⟩ (.string r.f2)).setCell ⟨g11, 3, none⟩ (.int .i64 r.f3.f0)).setCell ⟨g11, 4, none⟩ (.int .u64 r.f3.f1)).setCell ⟨g11, 5, none⟩ (.int .u64 r.f3.f2)).setCell ⟨g11, 6, none⟩ (.int .u64 r.f3.f3)).setCell ⟨g11, 7, none⟩ (.int .u64 r.f3.f4)).setCell ⟨g11, 8, none⟩ (.int .u64 r.f4.f0)).setCell ⟨g11, 9, none⟩ (.int .u64 r.f4.f1)).setCell ⟨g11, 10, none⟩ (.int .u64 r.f4.f2)).heap[g6]? = some (.cells #[.int .u64 0, .int .u64 0, .slice none 0 0] 27 (0, 0))) := ⟨state_Replay.far11 Bg6.out NBg6_g11.out⟩
      have n2_ : Aside0 (Kd.R k56 56 (((((((((((W_g11.setCell ⟨g11, 0, none⟩ (.int .i64 r.f0)).setCell ⟨g11, 1, none⟩ (.int .u64 r.f1)).setCell ⟨g11, 2, none⟩ (.string r.f2)).setCell ⟨g11, 3, none⟩ (.int .i64 r.f3.f0)).setCell ⟨g11, 4, none⟩ (.int .u64 r.f3.f1)).setCell ⟨g11, 5, none⟩ (.int .u64 r.f3.f2)).setCell ⟨g11, 6, none⟩ (.int .u64 r.f3.f3)).setCell ⟨g11, 7, none⟩ (.int .u64 r.f3.f4)).setCell ⟨g11, 8, none⟩ (.int .u64 r.f4.f0)).setCell ⟨g11, 9, none⟩ (.int .u64 r.f4.f1)).setCell ⟨g11, 10, none⟩ (.int .u64 r.f4.f2)) w.heap.size (fun _ => True) (.slice A4 m.length c4) m) := ⟨state_Replay.R11 HO.out Bg11.out (by decide)⟩
      have n3_ : Aside0 (Below w.heap.size w (((((((((((W_g11.setCell ⟨g11, 0, none⟩ (.int .i64 r.f0)).setCell ⟨g11, 1, none⟩ (.int .u64 r.f1)).setCell ⟨g11, 2, none⟩ (.string r.f2)).setCell ⟨g11, 3, none⟩ (.int .i64 r.f3.f0)).setCell ⟨g11, 4, none⟩ (.int .u64 r.f3.f1)).setCell ⟨g11, 5, none⟩ (.int .u64 r.f3.f2)).setCell ⟨g11, 6, none⟩ (.int .u64 r.f3.f3)).setCell ⟨g11, 7, none⟩ (.int .u64 r.f3.f4)).setCell ⟨g11, 8, none⟩ (.int .u64 r.f4.f0)).setCell ⟨g11, 9, none⟩ (.int .u64 r.f4.f1)).setCell ⟨g11, 10, none⟩ (.int .u64 r.f4.f2))) := ⟨bw HB⟩
      have n4_ : Aside0 ((((((((((((W_g11.setCell ⟨g11, 0, none⟩ (.int .i64 r.f0)).setCell ⟨g11, 1, none⟩ (.int .u64 r.f1)).setCell ⟨g11, 2, none⟩ (.string r.f2)).setCell ⟨g11, 3, none⟩ (.int .i64 r.f3.f0)).setCell ⟨g11, 4, none⟩ (.int .u64 r.f3.f1)).setCell ⟨g11, 5, none⟩ (.int .u64 r.f3.f2)).setCell ⟨g11, 6, none⟩ (.int .u64 r.f3.f3)).setCell ⟨g11, 7, none⟩ (.int .u64 r.f3.f4)).setCell ⟨g11, 8, none⟩ (.int .u64 r.f4.f0)).setCell ⟨g11, 9, none⟩ (.int .u64 r.f4.f1)).setCell ⟨g11, 10, none⟩ (.int .u64 r.f4.f2)).heap[g11]? = some (.cells #[.int .i64 r.f0, .int .u64 r.f1, .string r.f2, .int .i64 r.f3.f0, .int .u64 r.f3.f1, .int .u64 r.f3.f2, .int .u64 r.f3.f3, .int .u64 r.f3.f4, .int .u64 r.f4.f0, .int .u64 r.f4.f1, .int .u64 r.f4.f2] 39 (0, 0))) := ⟨state_Replay.put11 Bg11.out⟩
      generalize (((((((((((W_g11.setCell ⟨g11, 0, none⟩ (.int .i64 r.f0)).setCell ⟨g11, 1, none⟩ (.int .u64 r.f1)).setCell ⟨g11, 2, none⟩ (.string r.f2)).setCell ⟨g11, 3, none⟩ (.int .i64 r.f3.f0)).setCell ⟨g11, 4, none⟩ (.int .u64 r.f3.f1)).setCell ⟨g11, 5, none⟩ (.int .u64 r.f3.f2)).setCell ⟨g11, 6, none⟩ (.int .u64 r.f3.f3)).setCell ⟨g11, 7, none⟩ (.int .u64 r.f3.f4)).setCell ⟨g11, 8, none⟩ (.int .u64 r.f4.f0)).setCell ⟨g11, 9, none⟩ (.int .u64 r.f4.f1)).setCell ⟨g11, 10, none⟩ (.int .u64 r.f4.f2)) = W_12 at n0_ n1_ n2_ n3_ n4_ ⊢
      clear Bg9 Bg6 HO HB Bg11
      have Bg9 := n0_; have Bg6 := n1_; have HO := n2_; have HB := n3_; have Bg11 := n4_
      clear n0_ n1_ n2_ n3_ n4_
      obtain ⟨s0, s1, s2, s3, s4, s5, s6, s7, s8, s9, s10, s11, s12, s13, s14, s15, s16, s17, s18, s19, s20, s21⟩ := bc11 Bg11
      go_upto_region 12 with fail
      have hnm : state_Replay.num (F) i = (if IntKind.u64.wrap (F + IntKind.u64.wrap (i : Int)) < F then 0 else IntKind.u64.wrap (F + IntKind.u64.wrap (i : Int))) := rfl
      generalize IntKind.u64.wrap (F + IntKind.u64.wrap (i : Int)) = N at hnm ⊢
      have HNM := Aside0.mk hnm; clear hnm
      by_cases hn : N < F
      · as_aux_lemma =>
        have hn1 : decide (N < F) = true := decide_eq_true hn
        have hy2 := HY.out
        rw [HNM.out, if_pos hn] at hy2
        have hf_ := state_step.fault hy2
        have HY2 := Aside0.mk hy2; have X0 := Aside0.mk hf_.1; clear hy2 hf_ hn
        go_upto_region 14 with fail
        clear hn1
        go_wp2_with fail
        clear s0 s1 s2 s3 s4 s5 s6 s7 s8 s9 s10 s11 s12 s13 s14 s15 s16 s17 s18 s19 s20 s21
        refine (state_step.calls k w W_12 HE.out g9 b0 b1 A4 c4 m _ r.f0 r.f1 r.f2 r.f3.f0 r.f3.f1 r.f3.f2 r.f3.f3 r.f3.f4 r.f4.f0 r.f4.f1 r.f4.f2 y1 y2 y3 y4 HB.out Gg9.out Bg9.out HO.out g6 _ _ Bg6.out (by decide) NBg6_g9.out HY2.out).mono ?_
        rintro e W_s ⟨v, rfl, hbs, ho, hq, hb⟩
        clear Bg9 Bg6 HO HB Bg11
        have Bg9 := Aside0.mk hbs; have HO := Aside0.mk ho; have Bg6 := Aside0.mk hq; have HB := Aside0.mk hb
        clear hbs ho hq hb
        obtain ⟨A5, c5, e5⟩ := Kd.R_slice HO.out
        subst e5
        by_cases h0 : y1 = 0
        · as_aux_lemma =>
          have hg4 : state_Replay.go k (F) ((rs).drop (i + 1)) (i + 1) y2 y3 y4 = some (x1, x2, x3, x4) := by have h_ := HG2.out; rw [if_pos h0] at h_; exact h_
          have HG4 := Aside0.mk hg4; have H0 := Aside0.mk h0; clear hg4 h0
          go_wp2_with (first | ((with_reducible refine gate_dst (N := 62) rfl ?_); refine nen_err y1 false ?_ (by simpa using H0.out) X0.out rfl rfl rfl))
          go_roundw
          case rel => exact ⟨i + 1, y2, y3, y4, A5, c5, by rw [state_Replay.wr HLT.out HLM.out], ⟨HLT.out⟩, HG4, Bg9, Bg6, HO, HB⟩
          case measure => exact state_Replay.mea HLT.out HLM.out
        · as_aux_lemma =>
          have hx_ : some ((0 : Int), (0 : Int), ([] : List S56), y1) = some (x1, x2, x3, x4) := by have h_ := HG2.out; rw [if_neg h0] at h_; exact h_
          simp only [Option.some.injEq, Prod.mk.injEq] at hx_
          obtain ⟨rfl, rfl, rfl, rfl⟩ := hx_
          have H0 := Aside0.mk h0; clear h0
          obtain ⟨q0, q1, q2, q3, q4, q5⟩ := bc3 Bg6
          go_wp2_with (first | ((with_reducible refine gate_dst (N := 62) rfl ?_); refine nen_err y1 true ?_ (by simpa using H0.out) X0.out rfl rfl rfl))
          refine bodyPost_ret (results_ct rfl _ _ g6 27 #[.int .u64 0, .int .u64 0, .slice none 0 0] (0, 0) _ rfl (blk_put (blk_put (blk_put Bg6.out 0 _ rfl) 1 _ rfl) 2 _ rfl) Tryd.underlying27 rfl (by kernel_rfl)) rfl ?_
          exact ⟨_, rfl, Kd.R_nil _ _ _ _ _, bw HB⟩
      · as_aux_lemma =>
        have hn1 : decide (N < F) = false := decide_eq_false hn
        have hy2 := HY.out
        rw [HNM.out, if_neg hn] at hy2
        have hf_ := state_step.fault hy2
        have HY2 := Aside0.mk hy2; have X0 := Aside0.mk hf_.1; clear hy2 hf_ hn
        go_upto_region 14 with fail
        clear hn1
        go_wp2_with fail
        clear s0 s1 s2 s3 s4 s5 s6 s7 s8 s9 s10 s11 s12 s13 s14 s15 s16 s17 s18 s19 s20 s21
        refine (state_step.calls k w W_12 HE.out g9 b0 b1 A4 c4 m _ r.f0 r.f1 r.f2 r.f3.f0 r.f3.f1 r.f3.f2 r.f3.f3 r.f3.f4 r.f4.f0 r.f4.f1 r.f4.f2 y1 y2 y3 y4 HB.out Gg9.out Bg9.out HO.out g6 _ _ Bg6.out (by decide) NBg6_g9.out HY2.out).mono ?_
        rintro e W_s ⟨v, rfl, hbs, ho, hq, hb⟩
        clear Bg9 Bg6 HO HB Bg11
        have Bg9 := Aside0.mk hbs; have HO := Aside0.mk ho; have Bg6 := Aside0.mk hq; have HB := Aside0.mk hb
        clear hbs ho hq hb
        obtain ⟨A5, c5, e5⟩ := Kd.R_slice HO.out
        subst e5
        by_cases h0 : y1 = 0
        · as_aux_lemma =>
          have hg4 : state_Replay.go k (F) ((rs).drop (i + 1)) (i + 1) y2 y3 y4 = some (x1, x2, x3, x4) := by have h_ := HG2.out; rw [if_pos h0] at h_; exact h_
          have HG4 := Aside0.mk hg4; have H0 := Aside0.mk h0; clear hg4 h0
          go_wp2_with (first | ((with_reducible refine gate_dst (N := 62) rfl ?_); refine nen_err y1 false ?_ (by simpa using H0.out) X0.out rfl rfl rfl))
          go_roundw
          case rel => exact ⟨i + 1, y2, y3, y4, A5, c5, by rw [state_Replay.wr HLT.out HLM.out], ⟨HLT.out⟩, HG4, Bg9, Bg6, HO, HB⟩
          case measure => exact state_Replay.mea HLT.out HLM.out
        · as_aux_lemma =>
          have hx_ : some ((0 : Int), (0 : Int), ([] : List S56), y1) = some (x1, x2, x3, x4) := by have h_ := HG2.out; rw [if_neg h0] at h_; exact h_
          simp only [Option.some.injEq, Prod.mk.injEq] at hx_
          obtain ⟨rfl, rfl, rfl, rfl⟩ := hx_
          have H0 := Aside0.mk h0; clear h0
          obtain ⟨q0, q1, q2, q3, q4, q5⟩ := bc3 Bg6
          go_wp2_with (first | ((with_reducible refine gate_dst (N := 62) rfl ?_); refine nen_err y1 true ?_ (by simpa using H0.out) X0.out rfl rfl rfl))
          refine bodyPost_ret (results_ct rfl _ _ g6 27 #[.int .u64 0, .int .u64 0, .slice none 0 0] (0, 0) _ rfl (blk_put (blk_put (blk_put Bg6.out 0 _ rfl) 1 _ rfl) 2 _ rfl) Tryd.underlying27 rfl (by kernel_rfl)) rfl ?_
          exact ⟨_, rfl, Kd.R_nil _ _ _ _ _, bw HB⟩
    · as_aux_lemma =>
      have he : i = (rs).length := by omega
      have hx_ := HG.out
      rw [he, List.drop_length] at hx_
      simp only [state_Replay.go, Option.some.injEq, Prod.mk.injEq] at hx_
      obtain ⟨rfl, rfl, rfl, rfl⟩ := hx_
      have hlt2 : ¬ (i : Int) < ((rs).length : Int) := (by omega)
      clear he
      obtain ⟨q0, q1, q2, q3, q4, q5⟩ := bc3 Bg6
      obtain ⟨p0, p1, p2, p3, p4, p5⟩ := bc3 Bg9
      have nn1 := NBg6_g9.out; have nn2 := MBg6_g9.out
      go_wp2
      have h0_ := Kd.R_types HO.out Bg6.out (by decide)
      refine bodyPost_ret (results_ct rfl _ _ g6 27 #[.int .u64 b0, .int .u64 b1, .slice A4 m.length c4] (0, 0) _ rfl (blk_put (blk_put (blk_put Bg6.out 0 _ rfl) 1 _ rfl) 2 _ rfl) Tryd.underlying27 rfl (by kernel_rfl)) rfl ?_
      exact ⟨.slice A4 m.length c4, re, Kd.R_mono (Kd.R_far (p := ⟨g6, 2, none⟩) (Kd.R_far (p := ⟨g6, 1, none⟩) (Kd.R_far (p := ⟨g6, 0, none⟩) h0_ (fun _ hk => hk.2) _) (fun _ hk => hk.2) _) (fun _ hk => hk.2) _) (fun _ _ => trivial), bw HB⟩

theorem state_Replay.calls (k : Nat) [Errs] (a0 a1 : Int) (A : Option Addr) (c : Nat) (l : List S56) (f : Int) (A2 : Option Addr) (c2 : Nat) (recs : List S39) (x1 x2 : Int) (x3 : List S56) (x4 : Int) (w : World) (hE : Sent w) (hr : Kd.C k56 w A l.length l) (hc : l.length ≤ c) (hr2 : Kd.C k39 w A2 recs.length recs) (hc2 : recs.length ≤ c2) (h : state_Replay.f k a0 a1 l f recs = some (x1, x2, x3, x4)) :
    Calls Tryd.prog 20 #[.agg #[.int .u64 a0, .int .u64 a1, .slice A l.length c], .int .u64 f, .slice A2 recs.length c2] w fun e w' => ∃ v : Value, e = .returned (.tuple #[.agg #[.int .u64 x1, .int .u64 x2, v], errW x4]) ∧ Kd.R k56 56 w' w.heap.size (fun _ => True) v x3 ∧ Below w.heap.size w w' := by
  have hlm : recs.length ≤ 9223372036854775807 := hr2.2.1
  unfold state_Replay.f at h
  obtain ⟨b, hv, h⟩ := Option.bind_eq_some_iff.mp h
  by_cases hb : b = true
  · subst hb
    rw [if_pos rfl] at h
    have hl8 : l.length * 80 ≤ 140737488355328 := by have := state_Valid.le hv; omega
    by_cases h0 : f = 0
    · rw [if_pos h0] at h
      simp only [Option.some.injEq, Prod.mk.injEq] at h
      obtain ⟨rfl, rfl, rfl, rfl⟩ := h
      refine (state_Replay.zero k a0 a1 A c l f A2 c2 recs w hE hr hc hr2 hc2 hlm hv (beq_iff_eq.mpr h0)).mono ?_
      rintro e w' ⟨rfl, hb⟩
      exact ⟨_, rfl, Kd.R_nil _ _ _ _ _, hb⟩
    · rw [if_neg h0] at h
      have hf0 : (f == 0) = false := beq_eq_false_iff_ne.mpr h0
      by_cases h1 : f ≤ a0
      · rw [if_pos h1] at h
        exact state_Replay.early k a0 a1 A c l f A2 c2 recs w hE hr hc hr2 hc2 hlm hv hf0 (decide_eq_true h1) hl8 _ _ _ rfl rfl rfl _ _ _ _ h
      · rw [if_neg h1] at h
        exact state_Replay.late k a0 a1 A c l f A2 c2 recs w hE hr hc hr2 hc2 hlm hv hf0 (decide_eq_false h1) hl8 _ _ _ _ h
  · rw [if_neg hb] at h
    simp only [Option.some.injEq, Prod.mk.injEq] at h
    obtain ⟨rfl, rfl, rfl, rfl⟩ := h
    refine (state_Replay.bad k a0 a1 A c l f A2 c2 recs w hE hr hc hr2 hc2 hlm (by rw [hv, Bool.eq_false_iff.mpr hb])).mono ?_
    rintro e w' ⟨rfl, hb⟩
    exact ⟨_, rfl, Kd.R_nil _ _ _ _ _, hb⟩

end Go.Proofs.YtnhngjhodcikiaaDoor.F
