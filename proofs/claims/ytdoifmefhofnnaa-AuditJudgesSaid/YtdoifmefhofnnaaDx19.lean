/- Written by the session's own program hyb.py: what functions of the program compute; Lean checks it. -/
import Derived.Test.YtdoifmefhofnnaaDx0
import Derived.Test.YtdoifmefhofnnaaDx18
namespace Go.Proofs.Ytdoifmefhofnnaa.D
open Go.RowKit Go.Proofs.YtdoifmefhofnnaaW.PrintWords Go.Proofs.YtdoifmefhofnnaaW.PrintLast Go.Proofs.YtdoifmefhofnnaaW.PrintMore Go.Proofs.YtdoifmefhofnnaaW.PrintShort
attribute [local go_sem] run_Add64 run_Sub64
attribute [local go_sem] max2_int min2_int max_two min_two max_three min_three max_four min_four   -- for this text's walks alone
set_option linter.unusedVariables false
set_option linter.unusedSimpArgs false

/-! ### audit_flow: function 38 -/
def audit_flow.over (k : Nat) (p0 p1 p2 p3 p4 : Int) : List S31 → Int → Int → Int → Option (Int × Int × Int × Bool)
  | [], t0, t1, t2 => some (t0, t1, t2, true)
  | e :: es, t0, t1, t2 => if e.f1 = 0 then some (t0, t1, t2, false) else ((audit_flow_1.f k t0 t1 t2 e.f0 e.f1 p0 p1 p2 p3 p4).bind fun n => if n.2.2.2 = true then audit_flow.over k p0 p1 p2 p3 p4 es n.1 n.2.1 n.2.2.1 else some (t0, t1, t2, false))
def audit_flow.f (k : Nat) (p0 p1 p2 p3 p4 : Int) (l : List S31) : Option (Int × Int × Int × Bool) := if l.length ≤ 4611686018427387904 then audit_flow.over k p0 p1 p2 p3 p4 l 0 0 0 else none
theorem audit_flow.over_mono (k : Nat) (p0 p1 p2 p3 p4 : Int) : ∀ (l : List S31) t0 t1 t2, LeO (audit_flow.over k p0 p1 p2 p3 p4 l t0 t1 t2) (audit_flow.over (k + 1) p0 p1 p2 p3 p4 l t0 t1 t2)
  | [], _, _, _ => LeO.refl _
  | e :: es, t0, t1, t2 => by
    unfold audit_flow.over
    refine LeO.ite (LeO.refl _) (LeO.bind (audit_flow_1.mono _ _ _ _ _ _ _ _ _ _ _) (fun n => LeO.ite (audit_flow.over_mono k p0 p1 p2 p3 p4 es _ _ _) (LeO.refl _)))
theorem audit_flow.mono : ∀ p0 p1 p2 p3 p4 l k, LeO (audit_flow.f k p0 p1 p2 p3 p4 l) (audit_flow.f (k + 1) p0 p1 p2 p3 p4 l) := by
  intro p0 p1 p2 p3 p4 l k
  unfold audit_flow.f
  exact LeO.ite (audit_flow.over_mono k p0 p1 p2 p3 p4 l 0 0 0) (LeO.refl _)
theorem audit_flow.drop_at (l : List S31) (i : Int) (h0 : 0 ≤ i) (h1 : i < l.length) : l.drop i.toNat = rd_T31 l i :: l.drop (i + 1).toNat := by
  have h : i.toNat < l.length := by omega
  rw [List.drop_eq_getElem_cons h]
  unfold rd_T31
  rw [List.getD_eq_getElem?_getD, List.getElem?_eq_getElem h, show (i + 1).toNat = i.toNat + 1 by omega]
  rfl
theorem audit_flow.put3 {w : World} {g : Nat} {t : TypeId} {a b c a' b' c' : Value} (B : w.heap[g]? = some (.cells #[a, b, c] t (0, 0))) : (((w.setCell ⟨g, 0, none⟩ a').setCell ⟨g, 1, none⟩ b').setCell ⟨g, 2, none⟩ c').heap[g]? = some (.cells #[a', b', c'] t (0, 0)) :=
  blk_put (blk_put (blk_put B 0 a' rfl) 1 b' rfl) 2 c' rfl
set_option maxHeartbeats 1600000 in
set_option maxRecDepth 100000 in
theorem audit_flow.over_calls (k : Nat) (p0 p1 p2 p3 p4 : Int) (gp : Nat) (A : Option Addr) (c : Nat) (l : List S31) (t0 t1 t2 r1 r2 r3 : Int) (r4 : Bool) (w : World) (hgp : w.heap[gp]? = some (.cells #[.int .i64 p0, .int .u64 p1, .int .u64 p2, .int .u64 p3, .int .u64 p4] 24 (0, 0))) (hr : Kd.C k31 w A l.length l) (hc : l.length ≤ c) (hn : l.length ≤ 4611686018427387904) (h : audit_flow.over k p0 p1 p2 p3 p4 l t0 t1 t2 = some (r1, r2, r3, r4)) :
    Calls Try.prog 49 #[.slice A l.length c, .agg #[.int .u64 t0, .int .u64 t1, .int .u64 t2], .func (.func 50) #[] #[.pointer (some ⟨gp, 0, none⟩)]] w fun e w' => e = .returned (.tuple #[.agg #[.int .u64 r1, .int .u64 r2, .int .u64 r3], .bool r4]) ∧ Below w.heap.size w w' := by
  have HB := Aside0.mk (Below.refl w.heap.size w)
  have HR := Aside0.mk hr
  have HC := Aside0.mk hc
  have HN := Aside0.mk hn
  have BKgp := Aside0.mk hgp
  have H0 := Aside0.mk h
  clear hr hc hgp h hn
  have hu := Try.underlying76
  have hv := Try.underlying31
  go_enter Try.func49, Try.ntmps49
  go_wp2_with (first | ((with_reducible refine gate_dst (N := 4) rfl ?_); refine bx 4 #[.int .u64 t0, .int .u64 t1, .int .u64 t2] 76 ?_; intro g4 hg w_g4 hbox hb; have n_gp := bb BKgp hb; have e1_gp := nl BKgp hg; have e2_gp := nr BKgp hg; have n0_ := bs HB hb; have GEg4 := sz HB hg; clear HB BKgp; have HB := n0_; clear n0_; have BKgp := n_gp; clear n_gp; have NEgp_g4 := e1_gp; have NEg4_gp := e2_gp; clear e1_gp e2_gp; have BKg4 := Aside0.mk hbox; clear hb hbox hg) | ((with_reducible refine gate_dst (N := 6) rfl ?_); refine bx 6 #[.int .u64 0, .int .u64 0, .int .u64 0] 76 ?_; intro g6 hg w_g6 hbox hb; have n_gp := bb BKgp hb; have e1_gp := nl BKgp hg; have e2_gp := nr BKgp hg; have n_g4 := bb BKg4 hb; have e1_g4 := nl BKg4 hg; have e2_g4 := nr BKg4 hg; have n0_ := bs HB hb; have GEg6 := sz HB hg; clear HB BKgp BKg4; have HB := n0_; clear n0_; have BKgp := n_gp; clear n_gp; have NEgp_g6 := e1_gp; have NEg6_gp := e2_gp; clear e1_gp e2_gp; have BKg4 := n_g4; clear n_g4; have NEg4_g6 := e1_g4; have NEg6_g4 := e2_g4; clear e1_g4 e2_g4; have BKg6 := Aside0.mk hbox; clear hb hbox hg))
  go_loopw [14] (fun v14 w' => ∃ (i x0 x1 x2 : Int), v14 = .int .i64 i ∧ Aside0 (0 ≤ i ∧ i ≤ l.length) ∧ Aside0 (audit_flow.over k p0 p1 p2 p3 p4 (l.drop i.toNat) x0 x1 x2 = some (r1, r2, r3, r4)) ∧ Aside0 (w'.heap[g4]? = some (.cells #[.int .u64 x0, .int .u64 x1, .int .u64 x2] 76 (0, 0))) ∧ Aside0 (w'.heap[g6]? = some (.cells #[.int .u64 0, .int .u64 0, .int .u64 0] 76 (0, 0))) ∧ Aside0 (w'.heap[gp]? = some (.cells #[.int .i64 p0, .int .u64 p1, .int .u64 p2, .int .u64 p3, .int .u64 p4] 24 (0, 0))) ∧ Aside0 (Below w.heap.size w w')) (fun v14 _ => l.length - (intOf v14).toNat)
  case atStart => exact ⟨0, t0, t1, t2, rs, ⟨Int.le_refl _, Int.natCast_nonneg _⟩, H0, ⟨bk BKg4⟩, ⟨bk BKg6⟩, ⟨bk BKgp⟩, ⟨bw HB⟩⟩
  case round =>
    clear BKg4 BKg6 BKgp HB H0
    obtain ⟨i, x0, x1, x2, rfl, hi, H, BKg4, BKg6, BKgp, HB⟩ := hrel
    obtain ⟨hc4_0, hc4_1, hc4_2, hf4_0, hf4_1, hf4_2⟩ := bc3 BKg4
    obtain ⟨hc6_0, hc6_1, hc6_2, hf6_0, hf6_1, hf6_2⟩ := bc3 BKg6
    have h4_6 := NEg4_g6.out
    have h6_4 := NEg6_g4.out
    by_cases hlt : i < (l.length : Int)
    rotate_left
    · have c0 : decide (i < (l.length : Int)) = false := decide_eq_false hlt
      have hi0 := hi.out
      have e := H.out
      rw [List.drop_eq_nil_of_le (by omega)] at e
      simp only [audit_flow.over, Option.some.injEq, Prod.mk.injEq] at e
      obtain ⟨rfl, rfl, rfl, rfl⟩ := e
      clear hlt H hi0
      go_wp2
      refine bodyPost_ret (results_ct rfl _ _ g6 76 #[.int .u64 x0, .int .u64 x1, .int .u64 x2] (0, 0) _ rfl ?hbk hu rfl (by kernel_rfl)) rfl ?_
      case hbk => exact audit_flow.put3 (bk (o := .cells #[.int .u64 0, .int .u64 0, .int .u64 0] 76 (0, 0)) BKg6)
      exact ⟨re, bw HB⟩
    · have c0 : decide (i < (l.length : Int)) = true := decide_eq_true hlt
      have H1 := H.out
      have pi1 : 0 ≤ i := hi.out.1
      have qi1 : i < (l.length : Int) := hlt
      rw [audit_flow.drop_at l i pi1 qi1] at H1
      have HL := Aside0.mk hlt
      clear hlt H
      obtain ⟨ad, ead, hx0, hx1⟩ := at_T31 HR.out i pi1 qi1
      cases ead
      replace hx0 := (HB.out.cell (World.block_lt_of_cell? w _ hx0)).trans hx0
      replace hx1 := (HB.out.cell (World.block_lt_of_cell? w _ hx1)).trans hx1
      replace pi1 := eq_true pi1
      replace qi1 := eq_true qi1
      generalize rd_T31 l i = E at *
      unfold audit_flow.over at H1
      by_cases cz : E.f1 = 0
      · rw [if_pos cz] at H1
        simp only [Option.some.injEq, Prod.mk.injEq] at H1
        obtain ⟨rfl, rfl, rfl, rfl⟩ := H1
        have cz0 : (E.f1 == 0) = true := beq_iff_eq.mpr cz
        clear cz
        go_wp2_with (first | ((with_reducible refine gate_dst (N := 9) rfl ?_); refine bx 9 #[.int .u64 0, .int .u64 0] 31 ?_; intro g9 hg w_g9 hbox hb; have n_g4 := bb BKg4 hb; have e1_g4 := nl BKg4 hg; have e2_g4 := nr BKg4 hg; have n_g6 := bb BKg6 hb; have e1_g6 := nl BKg6 hg; have e2_g6 := nr BKg6 hg; have n_gp := bb BKgp hb; have e1_gp := nl BKgp hg; have e2_gp := nr BKgp hg; have n0_ := bs HB hb; have GEg9 := sz HB hg; clear HB BKg4 BKg6 BKgp; have HB := n0_; clear n0_; have BKg4 := n_g4; clear n_g4; have NEg4_g9 := e1_g4; have NEg9_g4 := e2_g4; clear e1_g4 e2_g4; have BKg6 := n_g6; clear n_g6; have NEg6_g9 := e1_g6; have NEg9_g6 := e2_g6; clear e1_g6 e2_g6; have BKgp := n_gp; clear n_gp; have NEgp_g9 := e1_gp; have NEg9_gp := e2_gp; clear e1_gp e2_gp; have BKg9 := Aside0.mk hbox; clear hb hbox hg; obtain ⟨hcg9a_0, hcg9a_1, hfg9a_0, hfg9a_1⟩ := bc2 BKg9; have hg4_g9 := NEg4_g9.out; have hg9_g4 := NEg9_g4.out; have hg6_g9 := NEg6_g9.out; have hg9_g6 := NEg9_g6.out; obtain ⟨hcg4a_0, hcg4a_1, hcg4a_2, hfg4a_0, hfg4a_1, hfg4a_2⟩ := bc3 BKg4; obtain ⟨hcg6a_0, hcg6a_1, hcg6a_2, hfg6a_0, hfg6a_1, hfg6a_2⟩ := bc3 BKg6))
        refine bodyPost_ret (results_ct rfl _ _ g6 76 #[.int .u64 x0, .int .u64 x1, .int .u64 x2] (0, 0) _ rfl ?hbk hu rfl (by kernel_rfl)) rfl ?_
        case hbk => exact audit_flow.put3 (bk (o := .cells #[.int .u64 0, .int .u64 0, .int .u64 0] 76 (0, 0)) BKg6)
        exact ⟨re, bw HB⟩
      · rw [if_neg cz] at H1
        have cz0 : (E.f1 == 0) = false := beq_eq_false_iff_ne.mpr cz
        clear cz
        obtain ⟨⟨n0, n1, n2, n3⟩, F, H2⟩ := Option.bind_eq_some_iff.mp H1
        dsimp only at H2
        have F := Aside0.mk F
        clear H1
        cases n3 with
        | false =>
          rw [if_neg (by decide)] at H2
          simp only [Option.some.injEq, Prod.mk.injEq] at H2
          obtain ⟨rfl, rfl, rfl, rfl⟩ := H2
          go_wp2_with (first | ((with_reducible refine gate_dst (N := 9) rfl ?_); refine bx 9 #[.int .u64 0, .int .u64 0] 31 ?_; intro g9 hg w_g9 hbox hb; have n_g4 := bb BKg4 hb; have e1_g4 := nl BKg4 hg; have e2_g4 := nr BKg4 hg; have n_g6 := bb BKg6 hb; have e1_g6 := nl BKg6 hg; have e2_g6 := nr BKg6 hg; have n_gp := bb BKgp hb; have e1_gp := nl BKgp hg; have e2_gp := nr BKgp hg; have n0_ := bs HB hb; have GEg9 := sz HB hg; clear HB BKg4 BKg6 BKgp; have HB := n0_; clear n0_; have BKg4 := n_g4; clear n_g4; have NEg4_g9 := e1_g4; have NEg9_g4 := e2_g4; clear e1_g4 e2_g4; have BKg6 := n_g6; clear n_g6; have NEg6_g9 := e1_g6; have NEg9_g6 := e2_g6; clear e1_g6 e2_g6; have BKgp := n_gp; clear n_gp; have NEgp_g9 := e1_gp; have NEg9_gp := e2_gp; clear e1_gp e2_gp; have BKg9 := Aside0.mk hbox; clear hb hbox hg; obtain ⟨hcg9a_0, hcg9a_1, hfg9a_0, hfg9a_1⟩ := bc2 BKg9; have hg4_g9 := NEg4_g9.out; have hg9_g4 := NEg9_g4.out; have hg6_g9 := NEg6_g9.out; have hg9_g6 := NEg9_g6.out; obtain ⟨hcg4a_0, hcg4a_1, hcg4a_2, hfg4a_0, hfg4a_1, hfg4a_2⟩ := bc3 BKg4; obtain ⟨hcg6a_0, hcg6a_1, hcg6a_2, hfg6a_0, hfg6a_1, hfg6a_2⟩ := bc3 BKg6) | (go_at_call 50; refine (audit_flow_1.calls k x0 x1 x2 E.f0 E.f1 p0 p1 p2 p3 p4 n0 n1 n2 false _ gp (bk BKgp) F.out).mono ?_; rintro e w5 ⟨rfl, hb⟩; have n_g4 := bb BKg4 hb; have n_g6 := bb BKg6 hb; have n_gp := bb BKgp hb; have n_g9 := bbp (.cells #[.int .u64 E.f0, .int .u64 E.f1] 31 (0, 0)) BKg9 hb; have n0_ := bs HB hb; clear HB hb BKg4 BKg6 BKgp BKg9; have HB := n0_; clear n0_; have BKg4 := n_g4; clear n_g4; have BKg6 := n_g6; clear n_g6; have BKgp := n_gp; clear n_gp; have BKg9 := n_g9; clear n_g9; obtain ⟨hcg4b_0, hcg4b_1, hcg4b_2, hfg4b_0, hfg4b_1, hfg4b_2⟩ := bc3 BKg4; obtain ⟨hcg6b_0, hcg6b_1, hcg6b_2, hfg6b_0, hfg6b_1, hfg6b_2⟩ := bc3 BKg6) | ((with_reducible refine gate_dst (N := 10) rfl ?_); refine bx 10 #[.int .u64 0, .int .u64 0, .int .u64 0] 76 ?_; intro g10 hg w_g10 hbox hb; have n_g4 := bb BKg4 hb; have e1_g4 := nl BKg4 hg; have e2_g4 := nr BKg4 hg; have n_g6 := bb BKg6 hb; have e1_g6 := nl BKg6 hg; have e2_g6 := nr BKg6 hg; have n_gp := bb BKgp hb; have e1_gp := nl BKgp hg; have e2_gp := nr BKgp hg; have n_g9 := bb BKg9 hb; have e1_g9 := nl BKg9 hg; have e2_g9 := nr BKg9 hg; have n0_ := bs HB hb; have GEg10 := sz HB hg; clear HB BKg4 BKg6 BKgp BKg9; have HB := n0_; clear n0_; have BKg4 := n_g4; clear n_g4; have NEg4_g10 := e1_g4; have NEg10_g4 := e2_g4; clear e1_g4 e2_g4; have BKg6 := n_g6; clear n_g6; have NEg6_g10 := e1_g6; have NEg10_g6 := e2_g6; clear e1_g6 e2_g6; have BKgp := n_gp; clear n_gp; have NEgp_g10 := e1_gp; have NEg10_gp := e2_gp; clear e1_gp e2_gp; have BKg9 := n_g9; clear n_g9; have NEg9_g10 := e1_g9; have NEg10_g9 := e2_g9; clear e1_g9 e2_g9; have BKg10 := Aside0.mk hbox; clear hb hbox hg; obtain ⟨hcg10c_0, hcg10c_1, hcg10c_2, hfg10c_0, hfg10c_1, hfg10c_2⟩ := bc3 BKg10; have hg4_g10 := NEg4_g10.out; have hg10_g4 := NEg10_g4.out; have hg6_g10 := NEg6_g10.out; have hg10_g6 := NEg10_g6.out; obtain ⟨hcg4c_0, hcg4c_1, hcg4c_2, hfg4c_0, hfg4c_1, hfg4c_2⟩ := bc3 BKg4; obtain ⟨hcg6c_0, hcg6c_1, hcg6c_2, hfg6c_0, hfg6c_1, hfg6c_2⟩ := bc3 BKg6))
          refine bodyPost_ret (results_ct rfl _ _ g6 76 #[.int .u64 x0, .int .u64 x1, .int .u64 x2] (0, 0) _ rfl ?hbk hu rfl (by kernel_rfl)) rfl ?_
          case hbk => exact audit_flow.put3 (bk (o := .cells #[.int .u64 0, .int .u64 0, .int .u64 0] 76 (0, 0)) BKg6)
          exact ⟨re, bw HB⟩
        | true =>
          rw [if_pos rfl] at H2
          have H3 := Aside0.mk H2
          clear H2
          go_wp2_with (first | ((with_reducible refine gate_dst (N := 9) rfl ?_); refine bx 9 #[.int .u64 0, .int .u64 0] 31 ?_; intro g9 hg w_g9 hbox hb; have n_g4 := bb BKg4 hb; have e1_g4 := nl BKg4 hg; have e2_g4 := nr BKg4 hg; have n_g6 := bb BKg6 hb; have e1_g6 := nl BKg6 hg; have e2_g6 := nr BKg6 hg; have n_gp := bb BKgp hb; have e1_gp := nl BKgp hg; have e2_gp := nr BKgp hg; have n0_ := bs HB hb; have GEg9 := sz HB hg; clear HB BKg4 BKg6 BKgp; have HB := n0_; clear n0_; have BKg4 := n_g4; clear n_g4; have NEg4_g9 := e1_g4; have NEg9_g4 := e2_g4; clear e1_g4 e2_g4; have BKg6 := n_g6; clear n_g6; have NEg6_g9 := e1_g6; have NEg9_g6 := e2_g6; clear e1_g6 e2_g6; have BKgp := n_gp; clear n_gp; have NEgp_g9 := e1_gp; have NEg9_gp := e2_gp; clear e1_gp e2_gp; have BKg9 := Aside0.mk hbox; clear hb hbox hg; obtain ⟨hcg9a_0, hcg9a_1, hfg9a_0, hfg9a_1⟩ := bc2 BKg9; have hg4_g9 := NEg4_g9.out; have hg9_g4 := NEg9_g4.out; have hg6_g9 := NEg6_g9.out; have hg9_g6 := NEg9_g6.out; obtain ⟨hcg4a_0, hcg4a_1, hcg4a_2, hfg4a_0, hfg4a_1, hfg4a_2⟩ := bc3 BKg4; obtain ⟨hcg6a_0, hcg6a_1, hcg6a_2, hfg6a_0, hfg6a_1, hfg6a_2⟩ := bc3 BKg6) | (go_at_call 50; refine (audit_flow_1.calls k x0 x1 x2 E.f0 E.f1 p0 p1 p2 p3 p4 n0 n1 n2 true _ gp (bk BKgp) F.out).mono ?_; rintro e w5 ⟨rfl, hb⟩; have n_g4 := bb BKg4 hb; have n_g6 := bb BKg6 hb; have n_gp := bb BKgp hb; have n_g9 := bbp (.cells #[.int .u64 E.f0, .int .u64 E.f1] 31 (0, 0)) BKg9 hb; have n0_ := bs HB hb; clear HB hb BKg4 BKg6 BKgp BKg9; have HB := n0_; clear n0_; have BKg4 := n_g4; clear n_g4; have BKg6 := n_g6; clear n_g6; have BKgp := n_gp; clear n_gp; have BKg9 := n_g9; clear n_g9; obtain ⟨hcg4b_0, hcg4b_1, hcg4b_2, hfg4b_0, hfg4b_1, hfg4b_2⟩ := bc3 BKg4; obtain ⟨hcg6b_0, hcg6b_1, hcg6b_2, hfg6b_0, hfg6b_1, hfg6b_2⟩ := bc3 BKg6) | ((with_reducible refine gate_dst (N := 10) rfl ?_); refine bx 10 #[.int .u64 0, .int .u64 0, .int .u64 0] 76 ?_; intro g10 hg w_g10 hbox hb; have n_g4 := bb BKg4 hb; have e1_g4 := nl BKg4 hg; have e2_g4 := nr BKg4 hg; have n_g6 := bb BKg6 hb; have e1_g6 := nl BKg6 hg; have e2_g6 := nr BKg6 hg; have n_gp := bb BKgp hb; have e1_gp := nl BKgp hg; have e2_gp := nr BKgp hg; have n_g9 := bb BKg9 hb; have e1_g9 := nl BKg9 hg; have e2_g9 := nr BKg9 hg; have n0_ := bs HB hb; have GEg10 := sz HB hg; clear HB BKg4 BKg6 BKgp BKg9; have HB := n0_; clear n0_; have BKg4 := n_g4; clear n_g4; have NEg4_g10 := e1_g4; have NEg10_g4 := e2_g4; clear e1_g4 e2_g4; have BKg6 := n_g6; clear n_g6; have NEg6_g10 := e1_g6; have NEg10_g6 := e2_g6; clear e1_g6 e2_g6; have BKgp := n_gp; clear n_gp; have NEgp_g10 := e1_gp; have NEg10_gp := e2_gp; clear e1_gp e2_gp; have BKg9 := n_g9; clear n_g9; have NEg9_g10 := e1_g9; have NEg10_g9 := e2_g9; clear e1_g9 e2_g9; have BKg10 := Aside0.mk hbox; clear hb hbox hg; obtain ⟨hcg10c_0, hcg10c_1, hcg10c_2, hfg10c_0, hfg10c_1, hfg10c_2⟩ := bc3 BKg10; have hg4_g10 := NEg4_g10.out; have hg10_g4 := NEg10_g4.out; have hg6_g10 := NEg6_g10.out; have hg10_g6 := NEg10_g6.out; obtain ⟨hcg4c_0, hcg4c_1, hcg4c_2, hfg4c_0, hfg4c_1, hfg4c_2⟩ := bc3 BKg4; obtain ⟨hcg6c_0, hcg6c_1, hcg6c_2, hfg6c_0, hfg6c_1, hfg6c_2⟩ := bc3 BKg6))
          go_roundw
          case measure =>
            have e1 := HL.out
            have e2 := hi.out.1
            have e3 := HN.out
            have hw : wrap64 (i + 1) = i + 1 := by unfold wrap64; omega
            simp only [intOf, hw]
            omega
          case rel => exact ⟨i + 1, n0, n1, n2, by first | rfl | (have := HL.out; have := hi.out.1; have := HN.out; rw [show wrap64 (i + 1) = i + 1 by unfold wrap64; omega]), ⟨by have := hi.out.1; omega, by have := HL.out; omega⟩, H3, ⟨audit_flow.put3 (bk (o := .cells #[.int .u64 x0, .int .u64 x1, .int .u64 x2] 76 (0, 0)) BKg4)⟩, ⟨bk BKg6⟩, ⟨bk BKgp⟩, ⟨bw HB⟩⟩
set_option maxHeartbeats 1600000 in
set_option maxRecDepth 100000 in
theorem audit_flow.calls (k : Nat) (p0 p1 p2 p3 p4 : Int) (A : Option Addr) (c : Nat) (l : List S31) (r1 r2 r3 : Int) (r4 : Bool) (w : World) (hr : Kd.C k31 w A l.length l) (hc : l.length ≤ c) (h : audit_flow.f k p0 p1 p2 p3 p4 l = some (r1, r2, r3, r4)) :
    Calls Try.prog 38 #[.agg #[.int .i64 p0, .int .u64 p1, .int .u64 p2, .int .u64 p3, .int .u64 p4], .slice A l.length c] w fun e w' => e = .returned (.tuple #[.agg #[.int .u64 r1, .int .u64 r2, .int .u64 r3], .bool r4]) ∧ Below w.heap.size w w' := by
  have HB := Aside0.mk (Below.refl w.heap.size w)
  have HR := Aside0.mk hr
  have HC := Aside0.mk hc
  unfold audit_flow.f at h
  by_cases hn : l.length ≤ 4611686018427387904
  rotate_left
  · rw [if_neg hn] at h
    exact absurd h (by simp)
  rw [if_pos hn] at h
  have HN := Aside0.mk hn
  have H0 : Aside0 (audit_flow.over k p0 p1 p2 p3 p4 l 0 0 0 = some (r1, r2, r3, r4)) := Aside0.mk h
  clear hr hc h hn
  have hu := Try.underlying76
  have hmf : ∀ (fn : Fn) (first cap : Array Value) (w : World), (Instr.makeFunc fn first cap).run Try.prog w = .ok (.func fn first cap) w := fun _ _ _ _ => rfl
  go_enter Try.func38, Try.ntmps38
  go_wp2_with (first | ((with_reducible refine gate_dst (N := 2) rfl ?_); refine bx 2 #[.int .i64 p0, .int .u64 p1, .int .u64 p2, .int .u64 p3, .int .u64 p4] 24 ?_; intro gp hg w_gp hbox hb; have n0_ := bs HB hb; have GEgp := sz HB hg; clear HB ; have HB := n0_; clear n0_; have BKgp := Aside0.mk hbox; clear hb hbox hg) | ((with_reducible refine gate_dst (N := 4) rfl ?_); refine bx 4 #[.int .u64 0, .int .u64 0, .int .u64 0] 76 ?_; intro g4 hg w_g4 hbox hb; have n_gp := bb BKgp hb; have e1_gp := nl BKgp hg; have e2_gp := nr BKgp hg; have n0_ := bs HB hb; have GEg4 := sz HB hg; clear HB BKgp; have HB := n0_; clear n0_; have BKgp := n_gp; clear n_gp; have NEgp_g4 := e1_gp; have NEg4_gp := e2_gp; clear e1_gp e2_gp; have BKg4 := Aside0.mk hbox; clear hb hbox hg) | (go_at_call 49; refine (audit_flow.over_calls k p0 p1 p2 p3 p4 gp _ _ l 0 0 0 r1 r2 r3 r4 _ (bk BKgp) (Kd.C_below HR.out (bw HB)) HC.out HN.out H0.out).mono ?_; rintro e w5 ⟨rfl, hb⟩; have n_gp := bb BKgp hb; have n_g4 := bb BKg4 hb; have n0_ := bs HB hb; clear HB hb BKgp BKg4; have HB := n0_; clear n0_; have BKgp := n_gp; clear n_gp; have BKg4 := n_g4; clear n_g4; obtain ⟨hcg4b_0, hcg4b_1, hcg4b_2, hfg4b_0, hfg4b_1, hfg4b_2⟩ := bc3 BKg4))
  refine bodyPost_ret (results_ct rfl _ _ g4 76 #[.int .u64 r1, .int .u64 r2, .int .u64 r3] (0, 0) _ rfl ?hbk hu rfl (by kernel_rfl)) rfl ?_
  case hbk => exact audit_flow.put3 (bk (o := .cells #[.int .u64 0, .int .u64 0, .int .u64 0] 76 (0, 0)) BKg4)
  exact ⟨re, bw HB⟩

end Go.Proofs.Ytdoifmefhofnnaa.D
