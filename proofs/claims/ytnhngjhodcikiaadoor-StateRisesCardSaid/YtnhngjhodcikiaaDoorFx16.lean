/- Written by the session's own program hyb.py: what functions of the program compute; Lean checks it. -/
import Derived.Test.YtnhngjhodcikiaaDoorFx0
import Derived.Test.YtnhngjhodcikiaaDoorFx14
import Derived.Test.YtnhngjhodcikiaaDoorFx15
import Derived.Laws.Cover1
namespace Go.Proofs.YtnhngjhodcikiaaDoor.F
open Go.RowKit Go.Proofs.YtnhngjhodcikiaaDoorW.PrintWords Go.Proofs.YtnhngjhodcikiaaDoorW.PrintLast Go.Proofs.YtnhngjhodcikiaaDoorW.PrintMore Go.Proofs.YtnhngjhodcikiaaDoorW.PrintShort
attribute [local go_sem] run_Add64 run_Sub64
attribute [local go_sem] max2_int min2_int max_two min_two max_three min_three max_four min_four   -- for this text's walks alone
set_option linter.unusedVariables false
set_option linter.unusedSimpArgs false

/-! ### state_Valid: function 10 -/
-- NEEDSLIB Derived.Laws.Cover1
/-- An entry, by itself and behind the one ahead of it. -/
def state_Valid.ok (l : List S56) (i : Nat) : Option Bool :=
  if (l.getD i z56).f0.size < 1 then some false else if 64 < (l.getD i z56).f0.size then some false
  else if (decide (0 < i) && !(Op.bytesLess (l.getD (i - 1) z56).f0.toList (l.getD i z56).f0.toList)) = true then some false
  else (policy_Valid.f (l.getD i z56).f1.f0 (l.getD i z56).f1.f1 (l.getD i z56).f1.f2 (l.getD i z56).f1.f3 (l.getD i z56).f1.f4).bind fun b => if b = true then policy_Fits.f (l.getD i z56).f1.f0 (l.getD i z56).f1.f1 (l.getD i z56).f1.f2 (l.getD i z56).f1.f3 (l.getD i z56).f1.f4 (l.getD i z56).f2.f0 (l.getD i z56).f2.f1 (l.getD i z56).f2.f2 else some false
def state_Valid.go (l : List S56) : Nat → Nat → Option Bool
  | 0, _ => some true
  | m + 1, i => (state_Valid.ok l i).bind fun b => if b = true then state_Valid.go l m (i + 1) else some false
def state_Valid.f (a0 a1 : Int) (l : List S56) : Option Bool := if 4611686018427387904 < a0 then some false else if 4096 < l.length then some false else state_Valid.go l l.length 0

set_option maxHeartbeats 8000000 in
set_option maxRecDepth 100000 in
theorem state_Valid.big (a0 a1 : Int) (A : Option Addr) (c : Nat) (l : List S56) (w : World) (hr : Kd.C k56 w A l.length l) (hc : l.length ≤ c) (hm : decide (4611686018427387904 < a0) = true) :
    Calls Tryd.prog 10 #[.agg #[.int .u64 a0, .int .u64 a1, .slice A l.length c]] w fun e w' => e = .returned (.bool false) ∧ Below w.heap.size w w' := by
  have hu27 := Tryd.underlying27
  have hu25 := Tryd.underlying25
  have hu56 := Tryd.underlying56
  have hu35 := Tryd.underlying35
  have hu37 := Tryd.underlying37
  have HC := Aside0.mk hr
  have HB := Aside0.mk (Below.refl w.heap.size w)
  clear hr hc
  go_enter Tryd.func10, Tryd.ntmps10
  go_wp2_with (first | ((with_reducible refine gate_dst (N := 1) rfl ?_); refine bx 1 #[.int .u64 a0, .int .u64 a1, .slice A l.length c] 27 ?_; intro g1 hg W_g1 hbox hb; have Bg1 := Aside0.mk hbox; have Gg1 := sz HB hg; have n0_ := bs HB hb; clear HB; have HB := n0_; clear n0_; clear hb hbox hg; obtain ⟨p0, p1, p2, p3, p4, p5⟩ := bc3 Bg1))
  go_ret
  exact ⟨re, bw HB⟩

set_option maxHeartbeats 8000000 in
set_option maxRecDepth 100000 in
theorem state_Valid.long (a0 a1 : Int) (A : Option Addr) (c : Nat) (l : List S56) (w : World) (hr : Kd.C k56 w A l.length l) (hc : l.length ≤ c) (hm : decide (4611686018427387904 < a0) = false) (hl : 4096 < l.length) :
    Calls Tryd.prog 10 #[.agg #[.int .u64 a0, .int .u64 a1, .slice A l.length c]] w fun e w' => e = .returned (.bool false) ∧ Below w.heap.size w w' := by
  have hl1 : decide (4096 < l.length) = true := decide_eq_true hl
  have hl2 : decide (4096 < (l.length : Int)) = true := decide_eq_true (by omega)
  clear hl
  have hu27 := Tryd.underlying27
  have hu25 := Tryd.underlying25
  have hu56 := Tryd.underlying56
  have hu35 := Tryd.underlying35
  have hu37 := Tryd.underlying37
  have HC := Aside0.mk hr
  have HB := Aside0.mk (Below.refl w.heap.size w)
  clear hr hc
  go_enter Tryd.func10, Tryd.ntmps10
  go_wp2_with (first | ((with_reducible refine gate_dst (N := 1) rfl ?_); refine bx 1 #[.int .u64 a0, .int .u64 a1, .slice A l.length c] 27 ?_; intro g1 hg W_g1 hbox hb; have Bg1 := Aside0.mk hbox; have Gg1 := sz HB hg; have n0_ := bs HB hb; clear HB; have HB := n0_; clear n0_; clear hb hbox hg; obtain ⟨p0, p1, p2, p3, p4, p5⟩ := bc3 Bg1))
  go_ret
  exact ⟨re, bw HB⟩

theorem state_Valid.bc9 {w : World} {g : Nat} {t : TypeId} {a0 a1 a2 a3 a4 a5 a6 a7 a8 : Value} (B : Aside0 (w.heap[g]? = some (.cells #[a0, a1, a2, a3, a4, a5, a6, a7, a8] t (0, 0)))) : w.cell? ⟨g, 0, none⟩ = some a0 ∧ w.cell? ⟨g, 1, none⟩ = some a1 ∧ w.cell? ⟨g, 2, none⟩ = some a2 ∧ w.cell? ⟨g, 3, none⟩ = some a3 ∧ w.cell? ⟨g, 4, none⟩ = some a4 ∧ w.cell? ⟨g, 5, none⟩ = some a5 ∧ w.cell? ⟨g, 6, none⟩ = some a6 ∧ w.cell? ⟨g, 7, none⟩ = some a7 ∧ w.cell? ⟨g, 8, none⟩ = some a8 ∧ w.frozen? ⟨g, 0, none⟩ = false ∧ w.frozen? ⟨g, 1, none⟩ = false ∧ w.frozen? ⟨g, 2, none⟩ = false ∧ w.frozen? ⟨g, 3, none⟩ = false ∧ w.frozen? ⟨g, 4, none⟩ = false ∧ w.frozen? ⟨g, 5, none⟩ = false ∧ w.frozen? ⟨g, 6, none⟩ = false ∧ w.frozen? ⟨g, 7, none⟩ = false ∧ w.frozen? ⟨g, 8, none⟩ = false :=
  ⟨(blk_cell B.out 0).trans rfl, (blk_cell B.out 1).trans rfl, (blk_cell B.out 2).trans rfl, (blk_cell B.out 3).trans rfl, (blk_cell B.out 4).trans rfl, (blk_cell B.out 5).trans rfl, (blk_cell B.out 6).trans rfl, (blk_cell B.out 7).trans rfl, (blk_cell B.out 8).trans rfl, blk_frozen B.out 0, blk_frozen B.out 1, blk_frozen B.out 2, blk_frozen B.out 3, blk_frozen B.out 4, blk_frozen B.out 5, blk_frozen B.out 6, blk_frozen B.out 7, blk_frozen B.out 8⟩
theorem state_Valid.wr {i n : Nat} (h : i < n) (hn : n ≤ 4096) : wrap64 ((i : Int) + 1) = ((i + 1 : Nat) : Int) := by unfold wrap64; omega
theorem state_Valid.mea {i n : Nat} (h : i < n) (hn : n ≤ 4096) : n - (intOf (.int .i64 (wrap64 ((i : Int) + 1)))).toNat < n - (intOf (.int .i64 (i : Int))).toNat := by rw [state_Valid.wr h hn]; simp only [intOf]; omega
theorem state_Valid.ad {w : World} {A : Option Addr} {l : List S56} {i : Nat} (h : Kd.C k56 w A l.length l) (hi : i < l.length) : ∃ ad, A = some ad := by
  obtain ⟨ad, e, _⟩ := at_T56 h (i : Int) (Int.natCast_nonneg _) (by omega)
  exact ⟨ad, e⟩
theorem state_Valid.el {w : World} {ad : Addr} {l : List S56} {i : Nat} {E : S56} (h : Kd.C k56 w (some ad) l.length l) (hE : l.getD i z56 = E) (hi : i < l.length) : w.cell? (ad.add (i * 9)) = some (.string E.f0) ∧ w.cell? ⟨(ad.add (i * 9)).block, (ad.add (i * 9)).off + 1, none⟩ = some (.int .i64 E.f1.f0) ∧ w.cell? ⟨(ad.add (i * 9)).block, (ad.add (i * 9)).off + 2, none⟩ = some (.int .u64 E.f1.f1) ∧ w.cell? ⟨(ad.add (i * 9)).block, (ad.add (i * 9)).off + 3, none⟩ = some (.int .u64 E.f1.f2) ∧ w.cell? ⟨(ad.add (i * 9)).block, (ad.add (i * 9)).off + 4, none⟩ = some (.int .u64 E.f1.f3) ∧ w.cell? ⟨(ad.add (i * 9)).block, (ad.add (i * 9)).off + 5, none⟩ = some (.int .u64 E.f1.f4) ∧ w.cell? ⟨(ad.add (i * 9)).block, (ad.add (i * 9)).off + 6, none⟩ = some (.int .u64 E.f2.f0) ∧ w.cell? ⟨(ad.add (i * 9)).block, (ad.add (i * 9)).off + 7, none⟩ = some (.int .u64 E.f2.f1) ∧ w.cell? ⟨(ad.add (i * 9)).block, (ad.add (i * 9)).off + 8, none⟩ = some (.int .u64 E.f2.f2) := by
  obtain ⟨ad', e, h0, h1, h2, h3, h4, h5, h6, h7, h8⟩ := at_T56 h (i : Int) (Int.natCast_nonneg _) (by omega)
  cases e
  have e1 : rd_T56 l (i : Int) = E := by rw [← hE]; rfl
  rw [e1] at h0 h1 h2 h3 h4 h5 h6 h7 h8
  exact ⟨h0, h1, h2, h3, h4, h5, h6, h7, h8⟩

set_option maxHeartbeats 8000000 in
set_option maxRecDepth 100000 in
theorem state_Valid.loop (a0 a1 : Int) (A : Option Addr) (c : Nat) (l : List S56) (w : World) (hr : Kd.C k56 w A l.length l) (hc : l.length ≤ c) (hm : decide (4611686018427387904 < a0) = false) (hl : l.length ≤ 4096) (r : Bool) (h : state_Valid.go l l.length 0 = some r) :
    Calls Tryd.prog 10 #[.agg #[.int .u64 a0, .int .u64 a1, .slice A l.length c]] w fun e w' => e = .returned (.bool r) ∧ Below w.heap.size w w' := by
  have hl1 : decide (4096 < l.length) = false := decide_eq_false (by omega)
  have hl2 : decide (4096 < (l.length : Int)) = false := decide_eq_false (by omega)
  have H0 := Aside0.mk h
  have HL := Aside0.mk hl
  clear h hl
  have hu27 := Tryd.underlying27
  have hu25 := Tryd.underlying25
  have hu56 := Tryd.underlying56
  have hu35 := Tryd.underlying35
  have hu37 := Tryd.underlying37
  have HC := Aside0.mk hr
  have HB := Aside0.mk (Below.refl w.heap.size w)
  clear hr hc
  go_enter Tryd.func10, Tryd.ntmps10
  go_wp2_with (first | ((with_reducible refine gate_dst (N := 1) rfl ?_); refine bx 1 #[.int .u64 a0, .int .u64 a1, .slice A l.length c] 27 ?_; intro g1 hg W_g1 hbox hb; have Bg1 := Aside0.mk hbox; have Gg1 := sz HB hg; have n0_ := bs HB hb; clear HB; have HB := n0_; clear n0_; clear hb hbox hg; obtain ⟨p0, p1, p2, p3, p4, p5⟩ := bc3 Bg1))
  clear hl1 hl2 p0 p1 p2 p3 p4 p5
  go_loopw [17] (fun v17 wr => ∃ i : Nat, v17 = .int .i64 i ∧ Aside0 (i ≤ l.length) ∧ Aside0 (state_Valid.go l (l.length - i) i = some r) ∧ Aside0 (wr.heap[g1]? = some (.cells #[.int .u64 a0, .int .u64 a1, .slice A l.length c] 27 (0, 0))) ∧ Aside0 (Below w.heap.size w wr)) (fun v17 _ => l.length - (intOf v17).toNat)
  case atStart => exact ⟨0, rfl, ⟨Nat.zero_le _⟩, ⟨by simpa using H0.out⟩, Bg1, HB⟩
  case round =>
    obtain ⟨i, rfl, hi, hgo, Bg1, HB⟩ := hrel
    have hi' := hi.out; have hgo' := hgo.out; clear hi hgo
    by_cases hlt : i < l.length
    · obtain ⟨m, hm_⟩ : ∃ m, l.length - i = m + 1 := ⟨l.length - i - 1, by omega⟩
      have HM := Aside0.mk hm_
      rw [hm_] at hgo'; clear hm_
      have hgo2 : (state_Valid.ok l i).bind (fun b => if b = true then state_Valid.go l m (i + 1) else some false) = some r := hgo'
      clear hgo'
      obtain ⟨E, hE⟩ : ∃ E, l.getD i z56 = E := ⟨_, rfl⟩
      obtain ⟨ad, rfl⟩ := state_Valid.ad HC.out hlt
      have HE_ := Aside0.mk hE; have HLT := Aside0.mk hlt; have hlt2 : (i : Int) < (l.length : Int) := (by omega); clear hE; obtain ⟨e0, e1, e2, e3, e4, e5, e6, e7, e8⟩ := state_Valid.el (Kd.C_below HC.out HB.out) HE_.out hlt
      skip
      go_wp2_with (first | ((with_reducible refine gate_dst (N := 4) rfl ?_); refine bx 4 #[.string ⟨#[]⟩, .int .i64 0, .int .u64 0, .int .u64 0, .int .u64 0, .int .u64 0, .int .u64 0, .int .u64 0, .int .u64 0] 56 ?_; intro g4 hg W_g4 hbox hb; have Bg4 := Aside0.mk hbox; have Gg4 := sz HB hg; have NBg1_g4 := nl Bg1 hg; have MBg1_g4 := nr Bg1 hg; have n0_ := bb Bg1 hb; have n1_ := bs HB hb; clear Bg1 HB; have Bg1 := n0_; have HB := n1_; clear n0_ n1_; clear hb hbox hg; have nn1 := NBg1_g4.out; have nn2 := MBg1_g4.out; obtain ⟨z0, z1, z2, z3, z4, z5, z6, z7, z8, z9, z10, z11, z12, z13, z14, z15, z16, z17⟩ := state_Valid.bc9 Bg4; clear e0 e1 e2 e3 e4 e5 e6 e7 e8))
      clear z0 z1 z2 z3 z4 z5 z6 z7 z8 z9 z10 z11 z12 z13 z14 z15 z16 z17 nn1 nn2
      have n0_ : Aside0 ((((((((((W_g4.setCell ⟨g4, 0, none⟩ (.string E.f0)).setCell ⟨g4, 1, none⟩ (.int .i64 E.f1.f0)).setCell ⟨g4, 2, none⟩ (.int .u64 E.f1.f1)).setCell ⟨g4, 3, none⟩ (.int .u64 E.f1.f2)).setCell ⟨g4, 4, none⟩ (.int .u64 E.f1.f3)).setCell ⟨g4, 5, none⟩ (.int .u64 E.f1.f4)).setCell ⟨g4, 6, none⟩ (.int .u64 E.f2.f0)).setCell ⟨g4, 7, none⟩ (.int .u64 E.f2.f1)).setCell ⟨g4, 8, none⟩ (.int .u64 E.f2.f2)).heap[g1]? = some (.cells #[.int .u64 a0, .int .u64 a1, .slice (some ad) l.length c] 27 (0, 0))) := ⟨far9_ Bg1.out NBg1_g4.out⟩
      have n1_ : Aside0 ((((((((((W_g4.setCell ⟨g4, 0, none⟩ (.string E.f0)).setCell ⟨g4, 1, none⟩ (.int .i64 E.f1.f0)).setCell ⟨g4, 2, none⟩ (.int .u64 E.f1.f1)).setCell ⟨g4, 3, none⟩ (.int .u64 E.f1.f2)).setCell ⟨g4, 4, none⟩ (.int .u64 E.f1.f3)).setCell ⟨g4, 5, none⟩ (.int .u64 E.f1.f4)).setCell ⟨g4, 6, none⟩ (.int .u64 E.f2.f0)).setCell ⟨g4, 7, none⟩ (.int .u64 E.f2.f1)).setCell ⟨g4, 8, none⟩ (.int .u64 E.f2.f2)).heap[g4]? = some (.cells #[(.string E.f0), (.int .i64 E.f1.f0), (.int .u64 E.f1.f1), (.int .u64 E.f1.f2), (.int .u64 E.f1.f3), (.int .u64 E.f1.f4), (.int .u64 E.f2.f0), (.int .u64 E.f2.f1), (.int .u64 E.f2.f2)] 56 (0, 0))) := ⟨put9_ Bg4.out⟩
      have n2_ : Aside0 (Below w.heap.size w (((((((((W_g4.setCell ⟨g4, 0, none⟩ (.string E.f0)).setCell ⟨g4, 1, none⟩ (.int .i64 E.f1.f0)).setCell ⟨g4, 2, none⟩ (.int .u64 E.f1.f1)).setCell ⟨g4, 3, none⟩ (.int .u64 E.f1.f2)).setCell ⟨g4, 4, none⟩ (.int .u64 E.f1.f3)).setCell ⟨g4, 5, none⟩ (.int .u64 E.f1.f4)).setCell ⟨g4, 6, none⟩ (.int .u64 E.f2.f0)).setCell ⟨g4, 7, none⟩ (.int .u64 E.f2.f1)).setCell ⟨g4, 8, none⟩ (.int .u64 E.f2.f2))) := ⟨bw HB⟩
      generalize (((((((((W_g4.setCell ⟨g4, 0, none⟩ (.string E.f0)).setCell ⟨g4, 1, none⟩ (.int .i64 E.f1.f0)).setCell ⟨g4, 2, none⟩ (.int .u64 E.f1.f1)).setCell ⟨g4, 3, none⟩ (.int .u64 E.f1.f2)).setCell ⟨g4, 4, none⟩ (.int .u64 E.f1.f3)).setCell ⟨g4, 5, none⟩ (.int .u64 E.f1.f4)).setCell ⟨g4, 6, none⟩ (.int .u64 E.f2.f0)).setCell ⟨g4, 7, none⟩ (.int .u64 E.f2.f1)).setCell ⟨g4, 8, none⟩ (.int .u64 E.f2.f2)) = W5 at n0_ n1_ n2_ ⊢
      clear Bg1 Bg4 HB
      have Bg1 := n0_; have Bg4 := n1_; have HB := n2_
      clear n0_ n1_ n2_
      obtain ⟨p0, p1, p2, p3, p4, p5⟩ := bc3 Bg1
      obtain ⟨z0, z1, z2, z3, z4, z5, z6, z7, z8, z9, z10, z11, z12, z13, z14, z15, z16, z17⟩ := state_Valid.bc9 Bg4
      by_cases s1 : E.f0.size < 1
      · as_aux_lemma =>
        have hr_ : r = false := by
          unfold state_Valid.ok at hgo2
          rw [HE_.out, if_pos s1] at hgo2
          simpa using hgo2.symm
        subst hr_
        have t1a : decide ((E.f0.size : Int) < 1) = true := decide_eq_true (by omega); have t1b : decide (E.f0.size < 1) = true := decide_eq_true (by omega)
        clear s1
        go_quiet (fail)
        go_wp2
        go_ret
        exact ⟨re, bw HB⟩
      · as_aux_lemma =>
        have t1a : decide ((E.f0.size : Int) < 1) = false := decide_eq_false (by omega); have t1b : decide (E.f0.size < 1) = false := decide_eq_false (by omega)
        by_cases s2 : 64 < E.f0.size
        · as_aux_lemma =>
          have hr_ : r = false := by
            unfold state_Valid.ok at hgo2
            rw [HE_.out, if_neg s1, if_pos s2] at hgo2
            simpa using hgo2.symm
          subst hr_
          have t2a : decide ((64 : Int) < (E.f0.size : Int)) = true := decide_eq_true (by omega); have t2b : decide (64 < E.f0.size) = true := decide_eq_true (by omega)
          clear s1 s2
          go_quiet (fail)
          go_wp2
          go_ret
          exact ⟨re, bw HB⟩
        · as_aux_lemma =>
          have t2a : decide ((64 : Int) < (E.f0.size : Int)) = false := decide_eq_false (by omega); have t2b : decide (64 < E.f0.size) = false := decide_eq_false (by omega)
          by_cases s3 : 0 < i
          · as_aux_lemma =>
            obtain ⟨j, hj⟩ : ∃ j, i = j + 1 := ⟨i - 1, by omega⟩
            obtain ⟨P, hP⟩ : ∃ P, l.getD j z56 = P := ⟨_, rfl⟩
            have q0 := (state_Valid.el (Kd.C_below HC.out HB.out) hP (by omega)).1
            have hij : i - 1 = j := by omega
            have hP' : l.getD (i - 1) z56 = P := by rw [hij]; exact hP
            have HP := Aside0.mk hP'
            clear hP hP' hij
            have t3a : decide ((0 : Int) < (i : Int)) = true := decide_eq_true (by omega); have t3b : decide (0 < i) = true := decide_eq_true (by omega)
            have w1_ : IntKind.i64.wrap (j : Int) = (j : Int) := by have := HL.out; rw [IntKind.wrap_i64]; omega
            have w2_ : (i : Int) - 1 = (j : Int) := by omega
            have w3_ : j < l.length := by omega
            have w4_ : (j : Int) < (l.length : Int) := by omega
            have S3 := Aside0.mk s3; have HJ := Aside0.mk hj; have S1 := Aside0.mk s1; have S2 := Aside0.mk s2; clear s3 hj s1 s2
            cases s4 : Op.bytesLess P.f0.toList E.f0.toList
            · as_aux_lemma =>
              have hr_ : r = false := by
                unfold state_Valid.ok at hgo2
                rw [HE_.out, HP.out, if_neg S1.out, if_neg S2.out, if_pos (by rw [s4]; simpa using S3.out)] at hgo2
                simpa using hgo2.symm
              subst hr_
              go_quiet (fail)
              go_wp2
              go_ret
              exact ⟨re, bw HB⟩
            · have hgo3 := hgo2; clear hgo2
              go_quiet (fail)
              clear w1_ w2_ w3_ w4_ q0
              have hgo2 := hgo3; clear hgo3
              have S4 := Aside0.mk s4; clear s4
              unfold state_Valid.ok at hgo2
              rw [HE_.out, HP.out, if_neg S1.out, if_neg S2.out, if_neg (by rw [S4.out]; simp)] at hgo2
              obtain ⟨b2, hb2, hgo3⟩ := Option.bind_eq_some_iff.mp hgo2
              obtain ⟨b1, hb1, hb3⟩ := Option.bind_eq_some_iff.mp hb2
              have HB1 := Aside0.mk hb1
              have HB3 := Aside0.mk hb3
              have HG3 := Aside0.mk hgo3
              clear hgo2 hb2 hb1 hb3 hgo3
              cases b1
              · as_aux_lemma =>
                have hr_ : r = false := by
                  have h3 := HB3.out; have h4 := HG3.out
                  simp only [Bool.false_eq_true, if_false, Option.some.injEq] at h3
                  subst h3
                  simpa using h4.symm
                subst hr_
                go_wp2_with (first | ((with_reducible refine gate_callee (f := 28) rfl ?_); refine gm (some 50) Tryd.func28 #[.agg #[.int .i64 E.f1.f0, .int .u64 E.f1.f1, .int .u64 E.f1.f2, .int .u64 E.f1.f3, .int .u64 E.f1.f4]] (policy_Valid.calls E.f1.f0 E.f1.f1 E.f1.f2 E.f1.f3 E.f1.f4 _ _ HB1.out) ?_; intro W_28 hb; clear z0 z1 z2 z3 z4 z5 z6 z7 z8 z9 z10 z11 z12 z13 z14 z15 z16 z17 p0 p1 p2 p3 p4 p5; have n0_ := bb Bg1 hb; have n1_ := bb Bg4 hb; have n2_ := bs HB hb; clear Bg1 Bg4 HB; have Bg1 := n0_; have Bg4 := n1_; have HB := n2_; clear n0_ n1_ n2_; obtain ⟨p0, p1, p2, p3, p4, p5⟩ := bc3 Bg1; clear hb; obtain ⟨z0, z1, z2, z3, z4, z5, z6, z7, z8, z9, z10, z11, z12, z13, z14, z15, z16, z17⟩ := state_Valid.bc9 Bg4))
                go_ret
                exact ⟨re, bw HB⟩
              · have HF := Aside0.mk (show policy_Fits.f E.f1.f0 E.f1.f1 E.f1.f2 E.f1.f3 E.f1.f4 E.f2.f0 E.f2.f1 E.f2.f2 = some b2 from HB3.out)
                cases b2
                · as_aux_lemma =>
                  have hr_ : r = false := by
                    have h4 := HG3.out
                    simpa using h4.symm
                  subst hr_
                  go_wp2_with (first | ((with_reducible refine gate_callee (f := 28) rfl ?_); refine gm (some 50) Tryd.func28 #[.agg #[.int .i64 E.f1.f0, .int .u64 E.f1.f1, .int .u64 E.f1.f2, .int .u64 E.f1.f3, .int .u64 E.f1.f4]] (policy_Valid.calls E.f1.f0 E.f1.f1 E.f1.f2 E.f1.f3 E.f1.f4 _ _ HB1.out) ?_; intro W_28 hb; clear z0 z1 z2 z3 z4 z5 z6 z7 z8 z9 z10 z11 z12 z13 z14 z15 z16 z17 p0 p1 p2 p3 p4 p5; have n0_ := bb Bg1 hb; have n1_ := bb Bg4 hb; have n2_ := bs HB hb; clear Bg1 Bg4 HB; have Bg1 := n0_; have Bg4 := n1_; have HB := n2_; clear n0_ n1_ n2_; obtain ⟨p0, p1, p2, p3, p4, p5⟩ := bc3 Bg1; clear hb; obtain ⟨z0, z1, z2, z3, z4, z5, z6, z7, z8, z9, z10, z11, z12, z13, z14, z15, z16, z17⟩ := state_Valid.bc9 Bg4))
                  refine (policy_Fits.calls E.f1.f0 E.f1.f1 E.f1.f2 E.f1.f3 E.f1.f4 E.f2.f0 E.f2.f1 E.f2.f2 _ _ HF.out).mono ?_
                  rintro e W_29 ⟨rfl, hb⟩
                  clear z0 z1 z2 z3 z4 z5 z6 z7 z8 z9 z10 z11 z12 z13 z14 z15 z16 z17 p0 p1 p2 p3 p4 p5
                  have n0_ := bb Bg1 hb
                  have n1_ := bb Bg4 hb
                  have n2_ := bs HB hb
                  clear Bg1 Bg4 HB
                  have Bg1 := n0_
                  have Bg4 := n1_
                  have HB := n2_
                  clear n0_ n1_ n2_
                  clear hb
                  obtain ⟨p0, p1, p2, p3, p4, p5⟩ := bc3 Bg1
                  go_wp2
                  go_ret
                  exact ⟨re, bw HB⟩
                · as_aux_lemma =>
                  have hg4 : state_Valid.go l m (i + 1) = some r := HG3.out
                  have HG4 := Aside0.mk hg4; clear hg4
                  go_wp2_with (first | ((with_reducible refine gate_callee (f := 28) rfl ?_); refine gm (some 50) Tryd.func28 #[.agg #[.int .i64 E.f1.f0, .int .u64 E.f1.f1, .int .u64 E.f1.f2, .int .u64 E.f1.f3, .int .u64 E.f1.f4]] (policy_Valid.calls E.f1.f0 E.f1.f1 E.f1.f2 E.f1.f3 E.f1.f4 _ _ HB1.out) ?_; intro W_28 hb; clear z0 z1 z2 z3 z4 z5 z6 z7 z8 z9 z10 z11 z12 z13 z14 z15 z16 z17 p0 p1 p2 p3 p4 p5; have n0_ := bb Bg1 hb; have n1_ := bb Bg4 hb; have n2_ := bs HB hb; clear Bg1 Bg4 HB; have Bg1 := n0_; have Bg4 := n1_; have HB := n2_; clear n0_ n1_ n2_; obtain ⟨p0, p1, p2, p3, p4, p5⟩ := bc3 Bg1; clear hb; obtain ⟨z0, z1, z2, z3, z4, z5, z6, z7, z8, z9, z10, z11, z12, z13, z14, z15, z16, z17⟩ := state_Valid.bc9 Bg4))
                  refine (policy_Fits.calls E.f1.f0 E.f1.f1 E.f1.f2 E.f1.f3 E.f1.f4 E.f2.f0 E.f2.f1 E.f2.f2 _ _ HF.out).mono ?_
                  rintro e W_29 ⟨rfl, hb⟩
                  clear z0 z1 z2 z3 z4 z5 z6 z7 z8 z9 z10 z11 z12 z13 z14 z15 z16 z17 p0 p1 p2 p3 p4 p5
                  have n0_ := bb Bg1 hb
                  have n1_ := bb Bg4 hb
                  have n2_ := bs HB hb
                  clear Bg1 Bg4 HB
                  have Bg1 := n0_
                  have Bg4 := n1_
                  have HB := n2_
                  clear n0_ n1_ n2_
                  clear hb
                  obtain ⟨p0, p1, p2, p3, p4, p5⟩ := bc3 Bg1
                  go_wp2
                  clear p0 p1 p2 p3 p4 p5
                  go_roundw
                  case rel => exact ⟨i + 1, by rw [state_Valid.wr HLT.out HL.out], ⟨HLT.out⟩, ⟨by rw [show l.length - (i + 1) = m by have := HM.out; omega]; exact HG4.out⟩, Bg1, HB⟩
                  case measure => exact state_Valid.mea HLT.out HL.out
          · as_aux_lemma =>
            have t3a : decide ((0 : Int) < (i : Int)) = false := decide_eq_false (by omega); have t3b : decide (0 < i) = false := decide_eq_false (by omega)
            have S3 := Aside0.mk s3; have S1 := Aside0.mk s1; have S2 := Aside0.mk s2; clear s3 s1 s2
            go_quiet (fail)
            unfold state_Valid.ok at hgo2
            rw [HE_.out, if_neg S1.out, if_neg S2.out, if_neg (by have := S3.out; simp; omega)] at hgo2
            obtain ⟨b2, hb2, hgo3⟩ := Option.bind_eq_some_iff.mp hgo2
            obtain ⟨b1, hb1, hb3⟩ := Option.bind_eq_some_iff.mp hb2
            have HB1 := Aside0.mk hb1
            have HB3 := Aside0.mk hb3
            have HG3 := Aside0.mk hgo3
            clear hgo2 hb2 hb1 hb3 hgo3
            cases b1
            · as_aux_lemma =>
              have hr_ : r = false := by
                have h3 := HB3.out; have h4 := HG3.out
                simp only [Bool.false_eq_true, if_false, Option.some.injEq] at h3
                subst h3
                simpa using h4.symm
              subst hr_
              go_wp2_with (first | ((with_reducible refine gate_callee (f := 28) rfl ?_); refine gm (some 50) Tryd.func28 #[.agg #[.int .i64 E.f1.f0, .int .u64 E.f1.f1, .int .u64 E.f1.f2, .int .u64 E.f1.f3, .int .u64 E.f1.f4]] (policy_Valid.calls E.f1.f0 E.f1.f1 E.f1.f2 E.f1.f3 E.f1.f4 _ _ HB1.out) ?_; intro W_28 hb; clear z0 z1 z2 z3 z4 z5 z6 z7 z8 z9 z10 z11 z12 z13 z14 z15 z16 z17 p0 p1 p2 p3 p4 p5; have n0_ := bb Bg1 hb; have n1_ := bb Bg4 hb; have n2_ := bs HB hb; clear Bg1 Bg4 HB; have Bg1 := n0_; have Bg4 := n1_; have HB := n2_; clear n0_ n1_ n2_; obtain ⟨p0, p1, p2, p3, p4, p5⟩ := bc3 Bg1; clear hb; obtain ⟨z0, z1, z2, z3, z4, z5, z6, z7, z8, z9, z10, z11, z12, z13, z14, z15, z16, z17⟩ := state_Valid.bc9 Bg4))
              go_ret
              exact ⟨re, bw HB⟩
            · have HF := Aside0.mk (show policy_Fits.f E.f1.f0 E.f1.f1 E.f1.f2 E.f1.f3 E.f1.f4 E.f2.f0 E.f2.f1 E.f2.f2 = some b2 from HB3.out)
              cases b2
              · as_aux_lemma =>
                have hr_ : r = false := by
                  have h4 := HG3.out
                  simpa using h4.symm
                subst hr_
                go_wp2_with (first | ((with_reducible refine gate_callee (f := 28) rfl ?_); refine gm (some 50) Tryd.func28 #[.agg #[.int .i64 E.f1.f0, .int .u64 E.f1.f1, .int .u64 E.f1.f2, .int .u64 E.f1.f3, .int .u64 E.f1.f4]] (policy_Valid.calls E.f1.f0 E.f1.f1 E.f1.f2 E.f1.f3 E.f1.f4 _ _ HB1.out) ?_; intro W_28 hb; clear z0 z1 z2 z3 z4 z5 z6 z7 z8 z9 z10 z11 z12 z13 z14 z15 z16 z17 p0 p1 p2 p3 p4 p5; have n0_ := bb Bg1 hb; have n1_ := bb Bg4 hb; have n2_ := bs HB hb; clear Bg1 Bg4 HB; have Bg1 := n0_; have Bg4 := n1_; have HB := n2_; clear n0_ n1_ n2_; obtain ⟨p0, p1, p2, p3, p4, p5⟩ := bc3 Bg1; clear hb; obtain ⟨z0, z1, z2, z3, z4, z5, z6, z7, z8, z9, z10, z11, z12, z13, z14, z15, z16, z17⟩ := state_Valid.bc9 Bg4))
                refine (policy_Fits.calls E.f1.f0 E.f1.f1 E.f1.f2 E.f1.f3 E.f1.f4 E.f2.f0 E.f2.f1 E.f2.f2 _ _ HF.out).mono ?_
                rintro e W_29 ⟨rfl, hb⟩
                clear z0 z1 z2 z3 z4 z5 z6 z7 z8 z9 z10 z11 z12 z13 z14 z15 z16 z17 p0 p1 p2 p3 p4 p5
                have n0_ := bb Bg1 hb
                have n1_ := bb Bg4 hb
                have n2_ := bs HB hb
                clear Bg1 Bg4 HB
                have Bg1 := n0_
                have Bg4 := n1_
                have HB := n2_
                clear n0_ n1_ n2_
                clear hb
                obtain ⟨p0, p1, p2, p3, p4, p5⟩ := bc3 Bg1
                go_wp2
                go_ret
                exact ⟨re, bw HB⟩
              · as_aux_lemma =>
                have hg4 : state_Valid.go l m (i + 1) = some r := HG3.out
                have HG4 := Aside0.mk hg4; clear hg4
                go_wp2_with (first | ((with_reducible refine gate_callee (f := 28) rfl ?_); refine gm (some 50) Tryd.func28 #[.agg #[.int .i64 E.f1.f0, .int .u64 E.f1.f1, .int .u64 E.f1.f2, .int .u64 E.f1.f3, .int .u64 E.f1.f4]] (policy_Valid.calls E.f1.f0 E.f1.f1 E.f1.f2 E.f1.f3 E.f1.f4 _ _ HB1.out) ?_; intro W_28 hb; clear z0 z1 z2 z3 z4 z5 z6 z7 z8 z9 z10 z11 z12 z13 z14 z15 z16 z17 p0 p1 p2 p3 p4 p5; have n0_ := bb Bg1 hb; have n1_ := bb Bg4 hb; have n2_ := bs HB hb; clear Bg1 Bg4 HB; have Bg1 := n0_; have Bg4 := n1_; have HB := n2_; clear n0_ n1_ n2_; obtain ⟨p0, p1, p2, p3, p4, p5⟩ := bc3 Bg1; clear hb; obtain ⟨z0, z1, z2, z3, z4, z5, z6, z7, z8, z9, z10, z11, z12, z13, z14, z15, z16, z17⟩ := state_Valid.bc9 Bg4))
                refine (policy_Fits.calls E.f1.f0 E.f1.f1 E.f1.f2 E.f1.f3 E.f1.f4 E.f2.f0 E.f2.f1 E.f2.f2 _ _ HF.out).mono ?_
                rintro e W_29 ⟨rfl, hb⟩
                clear z0 z1 z2 z3 z4 z5 z6 z7 z8 z9 z10 z11 z12 z13 z14 z15 z16 z17 p0 p1 p2 p3 p4 p5
                have n0_ := bb Bg1 hb
                have n1_ := bb Bg4 hb
                have n2_ := bs HB hb
                clear Bg1 Bg4 HB
                have Bg1 := n0_
                have Bg4 := n1_
                have HB := n2_
                clear n0_ n1_ n2_
                clear hb
                obtain ⟨p0, p1, p2, p3, p4, p5⟩ := bc3 Bg1
                go_wp2
                clear p0 p1 p2 p3 p4 p5
                go_roundw
                case rel => exact ⟨i + 1, by rw [state_Valid.wr HLT.out HL.out], ⟨HLT.out⟩, ⟨by rw [show l.length - (i + 1) = m by have := HM.out; omega]; exact HG4.out⟩, Bg1, HB⟩
                case measure => exact state_Valid.mea HLT.out HL.out
    · have he : l.length - i = 0 := by omega
      rw [he] at hgo'
      have hr_ : r = true := by simpa [state_Valid.go] using hgo'.symm
      subst hr_
      have hlt2 : ¬ (i : Int) < (l.length : Int) := by omega
      clear hgo' he
      go_wp2
      go_ret
      exact ⟨re, bw HB⟩

theorem state_Valid.calls (a0 a1 : Int) (A : Option Addr) (c : Nat) (l : List S56) (r : Bool) (w : World) (hr : Kd.C k56 w A l.length l) (hc : l.length ≤ c) (h : state_Valid.f a0 a1 l = some r) :
    Calls Tryd.prog 10 #[.agg #[.int .u64 a0, .int .u64 a1, .slice A l.length c]] w fun e w' => e = .returned (.bool r) ∧ Below w.heap.size w w' := by
  unfold state_Valid.f at h
  by_cases h1 : 4611686018427387904 < a0
  · rw [if_pos h1] at h
    injection h with h
    subst h
    exact state_Valid.big a0 a1 A c l w hr hc (decide_eq_true h1)
  · rw [if_neg h1] at h
    by_cases h2 : 4096 < l.length
    · rw [if_pos h2] at h
      injection h with h
      subst h
      exact state_Valid.long a0 a1 A c l w hr hc (decide_eq_false h1) h2
    · rw [if_neg h2] at h
      exact state_Valid.loop a0 a1 A c l w hr hc (decide_eq_false h1) (by omega) r h

end Go.Proofs.YtnhngjhodcikiaaDoor.F
