/- Written by the session's own program hyb.py: what functions of the program compute; Lean checks it. -/
import Derived.Test.YtdoifmefhofnnaaDx0
import Derived.Test.YtdoifmefhofnnaaDx17
namespace Go.Proofs.Ytdoifmefhofnnaa.D
open Go.RowKit Go.Proofs.YtdoifmefhofnnaaW.PrintWords Go.Proofs.YtdoifmefhofnnaaW.PrintLast Go.Proofs.YtdoifmefhofnnaaW.PrintMore Go.Proofs.YtdoifmefhofnnaaW.PrintShort
attribute [local go_sem] run_Add64 run_Sub64
attribute [local go_sem] max2_int min2_int max_two min_two max_three min_three max_four min_four   -- for this text's walks alone
set_option linter.unusedVariables false
set_option linter.unusedSimpArgs false

/-! ### audit_flow_1: function 50 -/
def audit_flow_1.j0 : Nat → Int → Int → Int → Int → Int → Int → Int → Int → Int → Int → Int → Int → Int → Option (Int × Int × Int × Bool)
  | 0, _, _, _, _, _, _, _, _, _, _, _, _, _ => none
  | k + 1, x221000, x221001, x221002, x221003, x221004, x222000, x222001, x222002, x223000, x223001, x228000, x228001, x228002 => (audit_times.f (IntKind.u64.wrap (x223001 - 1)) x221001).bind fun bt229 => ((audit_plus.f x222000 x222001 x222002 bt229.1 bt229.2.1 bt229.2.2).bind fun bt232 => ((audit_of.f x221002).bind fun bt236 => ((audit_plus.f x228000 x228001 x228002 bt236.1 bt236.2.1 bt236.2.2).bind fun bt239 => ((audit_above.f bt232.1 bt232.2.1 bt232.2.2 bt239.1 bt239.2.1 bt239.2.2).bind fun t242 => (if t242 = true then (some (x222000, x222001, x222002, false)) else ((audit_of.f x221001).bind fun bt243 => ((audit_plus.f bt232.1 bt232.2.1 bt232.2.2 bt243.1 bt243.2.1 bt243.2.2).bind fun bt246 => (some (bt246.1, bt246.2.1, bt246.2.2, true)))))))))
def audit_flow_1.f (k : Nat) (a0_0 : Int) (a0_1 : Int) (a0_2 : Int) (a1_0 : Int) (a1_1 : Int) (a2_0 : Int) (a2_1 : Int) (a2_2 : Int) (a2_3 : Int) (a2_4 : Int) : Option (Int × Int × Int × Bool) := (audit_of.f a1_0).bind fun bt224 => ((audit_above.f bt224.1 bt224.2.1 bt224.2.2 a0_0 a0_1 a0_2).bind fun t228 => (if t228 = true then (audit_flow_1.j0 k a2_0 a2_1 a2_2 a2_3 a2_4 bt224.1 bt224.2.1 bt224.2.2 a1_0 a1_1 bt224.1 bt224.2.1 bt224.2.2) else (audit_flow_1.j0 k a2_0 a2_1 a2_2 a2_3 a2_4 a0_0 a0_1 a0_2 a1_0 a1_1 bt224.1 bt224.2.1 bt224.2.2)))
theorem audit_flow_1.mono_l : ∀ k, (∀ y0 y1 y2 y3 y4 y5 y6 y7 y8 y9 y10 y11 y12, LeO (audit_flow_1.j0 k y0 y1 y2 y3 y4 y5 y6 y7 y8 y9 y10 y11 y12) (audit_flow_1.j0 (k + 1) y0 y1 y2 y3 y4 y5 y6 y7 y8 y9 y10 y11 y12))
  | 0 => fun _ _ _ _ _ _ _ _ _ _ _ _ _ r h => by simp [audit_flow_1.j0] at h
  | k + 1 => by
    have ih0 := audit_flow_1.mono_l k
    · intro y0 y1 y2 y3 y4 y5 y6 y7 y8 y9 y10 y11 y12
      unfold audit_flow_1.j0
      repeat' first
      | (with_reducible exact ih0 _ _ _ _ _ _ _ _ _ _ _ _ _)
      | (with_reducible exact LeO.refl _)
      | (with_reducible exact LeO.none _)
      | (with_reducible refine LeO.ite ?_ ?_)
      | (with_reducible refine LeO.bind ?_ (fun _ => ?_))
      | exact ih0 _ _ _ _ _ _ _ _ _ _ _ _ _
      | exact LeO.none _
      | refine LeO.ite ?_ ?_
      | refine LeO.bind ?_ (fun _ => ?_)
theorem audit_flow_1.mono : ∀ a0 a1 a2 a3 a4 a5 a6 a7 a8 a9 k, LeO (audit_flow_1.f k a0 a1 a2 a3 a4 a5 a6 a7 a8 a9) (audit_flow_1.f (k + 1) a0 a1 a2 a3 a4 a5 a6 a7 a8 a9) := by
  intro a0 a1 a2 a3 a4 a5 a6 a7 a8 a9 k
  have ih0 := audit_flow_1.mono_l k
  unfold audit_flow_1.f
  repeat' first
      | (with_reducible exact ih0 _ _ _ _ _ _ _ _ _ _ _ _ _)
      | (with_reducible exact LeO.refl _)
      | (with_reducible exact LeO.none _)
      | (with_reducible refine LeO.ite ?_ ?_)
      | (with_reducible refine LeO.bind ?_ (fun _ => ?_))
      | exact ih0 _ _ _ _ _ _ _ _ _ _ _ _ _
      | exact LeO.none _
      | refine LeO.ite ?_ ?_
      | refine LeO.bind ?_ (fun _ => ?_)
def audit_flow_1.T4 : Bool × List (List Nat × List Nat) := (true, [([], []), ([], []), ([1], [1]), ([2], [2]), ([], []), ([4], [4]), ([3, 5], [3, 5]), ([0, 6, 6], [0, 6]), ([], []), ([8, 7, 7, 0, 1, 2, 3, 4, 5, 6, 7, 8], [7, 8])])
def audit_flow_1.B4 : List Nat := [0, 0, 2, 6, 0, 16, 62, 127, 0, 511]
theorem audit_flow_1.tab4 : rtab .any (opsOf Try.f50 4) = audit_flow_1.T4 := by kernel_rfl
theorem audit_flow_1.bits4 : waitsOk audit_flow_1.T4.2 audit_flow_1.B4 = true := by kernel_rfl
set_option maxHeartbeats 8000000 in
set_option maxRecDepth 100000 in
theorem audit_flow_1.calls (k : Nat) (a0_0 : Int) (a0_1 : Int) (a0_2 : Int) (a1_0 : Int) (a1_1 : Int) (a2_0 : Int) (a2_1 : Int) (a2_2 : Int) (a2_3 : Int) (a2_4 : Int) (r1 : Int) (r2 : Int) (r3 : Int) (r4 : Bool) (w : World) (gb220 : Nat) (hgp220 : w.heap[gb220]? = some (.cells #[.int .i64 a2_0, .int .u64 a2_1, .int .u64 a2_2, .int .u64 a2_3, .int .u64 a2_4] 24 (0, 0))) (h : audit_flow_1.f k a0_0 a0_1 a0_2 a1_0 a1_1 a2_0 a2_1 a2_2 a2_3 a2_4 = some (r1, r2, r3, r4)) :
 Calls Try.prog 50 #[.agg #[.int .u64 a0_0, .int .u64 a0_1, .int .u64 a0_2], .agg #[.int .u64 a1_0, .int .u64 a1_1], .pointer (some ⟨gb220, 0, none⟩)] w fun e w' => e = .returned (.tuple #[.agg #[.int .u64 r1, .int .u64 r2, .int .u64 r3], .bool r4]) ∧ Below w.heap.size w w' := by
 have hu24 := Try.underlying24; have hu76 := Try.underlying76; have hu31 := Try.underlying31; have HB := Aside0.mk (Below.refl w.heap.size w)
 have H : ((audit_of.f a1_0).bind fun bt224 => ((audit_above.f bt224.1 bt224.2.1 bt224.2.2 a0_0 a0_1 a0_2).bind fun t228 => (if t228 = true then (audit_flow_1.j0 k a2_0 a2_1 a2_2 a2_3 a2_4 bt224.1 bt224.2.1 bt224.2.2 a1_0 a1_1 bt224.1 bt224.2.1 bt224.2.2) else (audit_flow_1.j0 k a2_0 a2_1 a2_2 a2_3 a2_4 a0_0 a0_1 a0_2 a1_0 a1_1 bt224.1 bt224.2.1 bt224.2.2)))) = some (r1, r2, r3, r4) := h
 clear h; replace H := Option.bind_eq_some_iff.mp H
 obtain ⟨⟨t224, t225, t226⟩, A40, H⟩ := H
 replace H : ((audit_above.f t224 t225 t226 a0_0 a0_1 a0_2).bind fun t228 => (if t228 = true then (audit_flow_1.j0 k a2_0 a2_1 a2_2 a2_3 a2_4 t224 t225 t226 a1_0 a1_1 t224 t225 t226) else (audit_flow_1.j0 k a2_0 a2_1 a2_2 a2_3 a2_4 a0_0 a0_1 a0_2 a1_0 a1_1 t224 t225 t226))) = some (r1, r2, r3, r4) := H
 have A4 := Aside0.mk A40; clear A40; replace H := Option.bind_eq_some_iff.mp H
 obtain ⟨t228, A50, H⟩ := H
 replace H : (if t228 = true then (audit_flow_1.j0 k a2_0 a2_1 a2_2 a2_3 a2_4 t224 t225 t226 a1_0 a1_1 t224 t225 t226) else (audit_flow_1.j0 k a2_0 a2_1 a2_2 a2_3 a2_4 a0_0 a0_1 a0_2 a1_0 a1_1 t224 t225 t226)) = some (r1, r2, r3, r4) := H
 have A5 := Aside0.mk A50; clear A50; have HC6 := Aside0.mk H; clear H; have BK220 := Aside0.mk hgp220; clear hgp220
 go_enter Try.func50, Try.ntmps50
 go_upto_if 14 with (first | ((with_reducible refine gate_dst (N := 3) rfl ?_); refine bx 3 #[.int .u64 a0_0, .int .u64 a0_1, .int .u64 a0_2] 76 ?_; intro gb221 hg w8 hbox hb; have BK221 := Aside0.mk (hbox); have GW221 := sz HB hg; have GE221 := sz HB hg; have NB220_221 := nl BK220 hg; have NB221_220 := nr BK220 hg; replace BK220 := bb BK220 hb; replace HB := bs HB hb; clear hb hbox hg) | ((with_reducible refine gate_dst (N := 4) rfl ?_); refine bx 4 #[.int .u64 a1_0, .int .u64 a1_1] 31 ?_; intro gb222 hg w9 hbox hb; have BK222 := Aside0.mk (hbox); have GW222 := sz HB hg; have GE222 := sz HB hg; have NB220_222 := nl BK220 hg; have NB222_220 := nr BK220 hg; have NB221_222 := nl BK221 hg; have NB222_221 := nr BK221 hg; replace BK220 := bb BK220 hb; replace BK221 := bb BK221 hb; replace HB := bs HB hb; clear hb hbox hg) | ((with_reducible refine gate_dst (N := 5) rfl ?_); refine bx 5 #[.int .u64 0, .int .u64 0, .int .u64 0] 76 ?_; intro gb223 hg w10 hbox hb; have BK223 := Aside0.mk (hbox); have GW223 := sz HB hg; have GE223 := sz HB hg; have NB220_223 := nl BK220 hg; have NB223_220 := nr BK220 hg; have NB221_223 := nl BK221 hg; have NB223_221 := nr BK221 hg; have NB222_223 := nl BK222 hg; have NB223_222 := nr BK222 hg; replace BK220 := bb BK220 hb; replace BK221 := bb BK221 hb; replace BK222 := bb BK222 hb; replace HB := bs HB hb; clear hb hbox hg; have hnb11 := NB222_220.out; have hnc11 := NB220_222.out; have hnb12 := NB222_221.out; have hnc12 := NB221_222.out; have hnb13 := NB222_223.out; have hnc13 := NB223_222.out; obtain ⟨hcz14_0, hcz14_1, hfz14_0, hfz14_1⟩ := bc2 BK222) | ((with_reducible refine gate_callee (f := 40) rfl ?_); refine gm (some 11) Try.func40 #[.int .u64 a1_0] (audit_of.calls a1_0 t224 t225 t226 _ A4.out) ?_; intro w15 hb; replace BK220 := bb BK220 hb; replace BK221 := bb BK221 hb; replace BK222 := bb BK222 hb; replace BK223 := bb BK223 hb; replace HB := bs HB hb; (try clear hb); (try clear hb2); (try clear hk); (try clear hi)) | ((with_reducible refine gate_dst (N := 7) rfl ?_); refine bx 7 #[.int .u64 0, .int .u64 0, .int .u64 0] 76 ?_; intro gb227 hg w16 hbox hb; have BK227 := Aside0.mk (hbox); have GW227 := sz HB hg; have GE227 := sz HB hg; have NB220_227 := nl BK220 hg; have NB227_220 := nr BK220 hg; have NB221_227 := nl BK221 hg; have NB227_221 := nr BK221 hg; have NB222_227 := nl BK222 hg; have NB227_222 := nr BK222 hg; have NB223_227 := nl BK223 hg; have NB227_223 := nr BK223 hg; replace BK220 := bb BK220 hb; replace BK221 := bb BK221 hb; replace BK222 := bb BK222 hb; replace BK223 := bb BK223 hb; replace HB := bs HB hb; clear hb hbox hg; have hnb17 := NB227_220.out; have hnc17 := NB220_227.out; have hnb18 := NB227_221.out; have hnc18 := NB221_227.out; have hnb19 := NB227_222.out; have hnc19 := NB222_227.out; have hnb20 := NB227_223.out; have hnc20 := NB223_227.out; obtain ⟨hcz21_0, hcz21_1, hcz21_2, hfz21_0, hfz21_1, hfz21_2⟩ := bc3 BK227; have hnb22 := NB221_220.out; have hnc22 := NB220_221.out; have hnb23 := NB221_223.out; have hnc23 := NB223_221.out; obtain ⟨hcz24_0, hcz24_1, hcz24_2, hfz24_0, hfz24_1, hfz24_2⟩ := bc3 BK221) | ((with_reducible refine gate_callee (f := 51) rfl ?_); refine gm (some 14) Try.func51 #[.agg #[.int .u64 t224, .int .u64 t225, .int .u64 t226], .agg #[.int .u64 a0_0, .int .u64 a0_1, .int .u64 a0_2]] (audit_above.calls t224 t225 t226 a0_0 a0_1 a0_2 t228 _ A5.out) ?_; intro w25 hb; replace BK220 := bb BK220 hb; replace BK221 := bb BK221 hb; replace BK222 := bb BK222 hb; replace BK223 := bb BK223 hb; replace BK227 := bbp (.cells #[.int .u64 t224, .int .u64 t225, .int .u64 t226] 76 (0, 0)) BK227 hb; replace HB := bs HB hb; (try clear hb); (try clear hb2); (try clear hk); (try clear hi)))
 (try simp only [Act.put, List.setIfInBounds_toArray, List.set_cons_zero, List.set_cons_succ])
 go_cut [] (fun wc => ∃ (kq : Nat) (x222000_5 : Int) (x222001_5 : Int) (x222002_5 : Int), Aside0 (audit_flow_1.j0 kq a2_0 a2_1 a2_2 a2_3 a2_4 x222000_5 x222001_5 x222002_5 a1_0 a1_1 t224 t225 t226 = some (r1, r2, r3, r4)) ∧ Aside0 (kq ≤ k) ∧ Aside0 (wc.heap[gb220]? = some (.cells #[.int .i64 a2_0, .int .u64 a2_1, .int .u64 a2_2, .int .u64 a2_3, .int .u64 a2_4] 24 (0, 0))) ∧ Aside0 (wc.heap[gb221]? = some (.cells #[.int .u64 x222000_5, .int .u64 x222001_5, .int .u64 x222002_5] 76 (0, 0))) ∧ Aside0 (wc.heap[gb222]? = some (.cells #[.int .u64 a1_0, .int .u64 a1_1] 31 (0, 0))) ∧ Aside0 (wc.heap[gb223]? = some (.cells #[.int .u64 0, .int .u64 0, .int .u64 0] 76 (0, 0))) ∧ Aside0 (wc.heap[gb227]? = some (.cells #[.int .u64 t224, .int .u64 t225, .int .u64 t226] 76 (0, 0))) ∧ Aside0 (Below w.heap.size w wc))
 case first =>
  have H := HC6.out; clear HC6
  by_cases c26 : t228 = true
  · subst c26
    have H1 : (audit_flow_1.j0 k a2_0 a2_1 a2_2 a2_3 a2_4 t224 t225 t226 a1_0 a1_1 t224 t225 t226) = some (r1, r2, r3, r4) := by rw [if_pos rfl] at H; exact H
    clear H; have H := H1; clear H1
    have H' := Aside0.mk H
    clear H; have hnb27 := NB227_220.out; have hnc27 := NB220_227.out; have hnb28 := NB227_221.out; have hnc28 := NB221_227.out; have hnb29 := NB227_222.out; have hnc29 := NB222_227.out; have hnb30 := NB227_223.out; have hnc30 := NB223_227.out
    obtain ⟨hcz31_0, hcz31_1, hcz31_2, hfz31_0, hfz31_1, hfz31_2⟩ := bc3 BK227
    have hnb32 := NB221_220.out; have hnc32 := NB220_221.out; have hnb33 := NB221_222.out; have hnc33 := NB222_221.out; have hnb34 := NB221_223.out; have hnc34 := NB223_221.out
    obtain ⟨hcz35_0, hcz35_1, hcz35_2, hfz35_0, hfz35_1, hfz35_2⟩ := bc3 BK221
    go_wp2
    go_meet
    case rel => exact ⟨_, (t224), (t225), (t226), H', ⟨by first | omega | exact Nat.le_refl _⟩, ⟨bk BK220⟩, ⟨bk BK221⟩, ⟨bk BK222⟩, ⟨bk BK223⟩, ⟨bk BK227⟩, ⟨bw HB⟩⟩
  · replace c26 := Bool.eq_false_iff.mpr c26
    subst c26
    have H1 : (audit_flow_1.j0 k a2_0 a2_1 a2_2 a2_3 a2_4 a0_0 a0_1 a0_2 a1_0 a1_1 t224 t225 t226) = some (r1, r2, r3, r4) := by rw [if_neg (show ¬ (false = true) by decide)] at H; exact H
    clear H; have H := H1; clear H1
    have H' := Aside0.mk H
    clear H
    go_wp2
    go_meet
    case rel => exact ⟨_, (a0_0), (a0_1), (a0_2), H', ⟨by first | omega | exact Nat.le_refl _⟩, ⟨bk BK220⟩, ⟨bk BK221⟩, ⟨bk BK222⟩, ⟨bk BK223⟩, ⟨bk BK227⟩, ⟨bw HB⟩⟩
 case rest =>
  clear HC6; (try clear c1); (try clear c2); (try clear p2); (try clear c3); (try clear c4); (try clear c5); (try clear c11); (try clear c12); (try clear c13); (try clear c17); (try clear c18); (try clear c19); (try clear c20); (try clear c22); (try clear c23); (try clear c26); (try clear c27); (try clear c28); (try clear c29); (try clear c30); (try clear c32); (try clear c33); (try clear c34); (try clear hcz14_0); (try clear hcz14_1); (try clear hcz21_0); (try clear hcz21_1); (try clear hcz21_2); (try clear hcz24_0); (try clear hcz24_1); (try clear hcz24_2); (try clear hcz31_0); (try clear hcz31_1); (try clear hcz31_2); (try clear hcz35_0); (try clear hcz35_1); (try clear hcz35_2); (try clear hfz14_0); (try clear hfz14_1); (try clear hfz21_0); (try clear hfz21_1); (try clear hfz21_2); (try clear hfz24_0); (try clear hfz24_1); (try clear hfz24_2); (try clear hfz31_0); (try clear hfz31_1); (try clear hfz31_2); (try clear hfz35_0); (try clear hfz35_1); (try clear hfz35_2)
  obtain ⟨kq, x222000_5, x222001_5, x222002_5, HA, HJ5, BK220, BK221, BK222, BK223, BK227, HB⟩ := hcut
  cases kq with
  | zero => exact absurd HA.out (by simp [audit_flow_1.j0])
  | succ kj5 =>
   have H := HA.out; clear HA
   simp only [audit_flow_1.j0] at H
   replace H := Option.bind_eq_some_iff.mp H
   obtain ⟨⟨t229, t230, t231⟩, A360, H⟩ := H
   replace H : ((audit_plus.f x222000_5 x222001_5 x222002_5 t229 t230 t231).bind fun bt232 => ((audit_of.f a2_2).bind fun bt236 => ((audit_plus.f t224 t225 t226 bt236.1 bt236.2.1 bt236.2.2).bind fun bt239 => ((audit_above.f bt232.1 bt232.2.1 bt232.2.2 bt239.1 bt239.2.1 bt239.2.2).bind fun t242 => (if t242 = true then (some (x222000_5, x222001_5, x222002_5, false)) else ((audit_of.f a2_1).bind fun bt243 => ((audit_plus.f bt232.1 bt232.2.1 bt232.2.2 bt243.1 bt243.2.1 bt243.2.2).bind fun bt246 => (some (bt246.1, bt246.2.1, bt246.2.2, true))))))))) = some (r1, r2, r3, r4) := H
   have A36 := Aside0.mk A360; clear A360; replace H := Option.bind_eq_some_iff.mp H
   obtain ⟨⟨t232, t233, t234⟩, A370, H⟩ := H
   replace H : ((audit_of.f a2_2).bind fun bt236 => ((audit_plus.f t224 t225 t226 bt236.1 bt236.2.1 bt236.2.2).bind fun bt239 => ((audit_above.f t232 t233 t234 bt239.1 bt239.2.1 bt239.2.2).bind fun t242 => (if t242 = true then (some (x222000_5, x222001_5, x222002_5, false)) else ((audit_of.f a2_1).bind fun bt243 => ((audit_plus.f t232 t233 t234 bt243.1 bt243.2.1 bt243.2.2).bind fun bt246 => (some (bt246.1, bt246.2.1, bt246.2.2, true)))))))) = some (r1, r2, r3, r4) := H
   have A37 := Aside0.mk A370; clear A370; replace H := Option.bind_eq_some_iff.mp H
   obtain ⟨⟨t236, t237, t238⟩, A380, H⟩ := H
   replace H : ((audit_plus.f t224 t225 t226 t236 t237 t238).bind fun bt239 => ((audit_above.f t232 t233 t234 bt239.1 bt239.2.1 bt239.2.2).bind fun t242 => (if t242 = true then (some (x222000_5, x222001_5, x222002_5, false)) else ((audit_of.f a2_1).bind fun bt243 => ((audit_plus.f t232 t233 t234 bt243.1 bt243.2.1 bt243.2.2).bind fun bt246 => (some (bt246.1, bt246.2.1, bt246.2.2, true))))))) = some (r1, r2, r3, r4) := H
   have A38 := Aside0.mk A380; clear A380; replace H := Option.bind_eq_some_iff.mp H
   obtain ⟨⟨t239, t240, t241⟩, A390, H⟩ := H
   replace H : ((audit_above.f t232 t233 t234 t239 t240 t241).bind fun t242 => (if t242 = true then (some (x222000_5, x222001_5, x222002_5, false)) else ((audit_of.f a2_1).bind fun bt243 => ((audit_plus.f t232 t233 t234 bt243.1 bt243.2.1 bt243.2.2).bind fun bt246 => (some (bt246.1, bt246.2.1, bt246.2.2, true)))))) = some (r1, r2, r3, r4) := H
   have A39 := Aside0.mk A390; clear A390; replace H := Option.bind_eq_some_iff.mp H
   obtain ⟨t242, A400, H⟩ := H
   replace H : (if t242 = true then (some (x222000_5, x222001_5, x222002_5, false)) else ((audit_of.f a2_1).bind fun bt243 => ((audit_plus.f t232 t233 t234 bt243.1 bt243.2.1 bt243.2.2).bind fun bt246 => (some (bt246.1, bt246.2.1, bt246.2.2, true))))) = some (r1, r2, r3, r4) := H
   have A40 := Aside0.mk A400; clear A400
   by_cases c41 : t242 = true
   · subst c41
     have H1 : (some (x222000_5, x222001_5, x222002_5, false)) = some (r1, r2, r3, r4) := by rw [if_pos rfl] at H; exact H
     clear H; have H := H1; clear H1
     simp only [Option.some.injEq, Prod.mk.injEq] at H
     obtain ⟨rfl, rfl, rfl, rfl⟩ := H
     try go_wp2
     replace BK220 := Aside0.mk (blk_drew BK220.out); replace BK221 := Aside0.mk (blk_drew BK221.out); replace BK222 := Aside0.mk (blk_drew BK222.out); replace BK223 := Aside0.mk (blk_drew BK223.out); replace BK227 := Aside0.mk (blk_drew BK227.out); replace HB := Aside0.mk (below_drew1 HB.out)
     refine start_ (n := 10) (S := fun w' => w'.cell? ⟨gb221, 0, none⟩ = some (.int .u64 x222000_5) ∧ w'.cell? ⟨gb221, 1, none⟩ = some (.int .u64 x222001_5) ∧ w'.cell? ⟨gb221, 2, none⟩ = some (.int .u64 x222002_5) ∧ w'.cell? ⟨gb222, 0, none⟩ = some (.int .u64 a1_0) ∧ w'.cell? ⟨gb222, 1, none⟩ = some (.int .u64 a1_1) ∧ w'.cell? ⟨gb220, 0, none⟩ = some (.int .i64 a2_0) ∧ w'.cell? ⟨gb220, 1, none⟩ = some (.int .u64 a2_1) ∧ w'.cell? ⟨gb220, 2, none⟩ = some (.int .u64 a2_2) ∧ w'.cell? ⟨gb220, 3, none⟩ = some (.int .u64 a2_3) ∧ w'.cell? ⟨gb220, 4, none⟩ = some (.int .u64 a2_4)) (ds := []) #[false, false, false, false, false, false, false, false, false, false] (by kernel_rfl) rfl rfl ⟨(blk_cell BK221.out 0).trans rfl, (blk_cell BK221.out 1).trans rfl, (blk_cell BK221.out 2).trans rfl, (blk_cell BK222.out 0).trans rfl, (blk_cell BK222.out 1).trans rfl, (blk_cell BK220.out 0).trans rfl, (blk_cell BK220.out 1).trans rfl, (blk_cell BK220.out 2).trans rfl, (blk_cell BK220.out 3).trans rfl, (blk_cell BK220.out 4).trans rfl⟩ (fun hHeld => ?_); refine with_tabW audit_flow_1.tab4 audit_flow_1.bits4 (fun HT_ HW_ => ?_)
     generalize wc.drew = w42 at BK220 BK221 BK222 BK223 BK227 HB hHeld ⊢
     refine chain_ (fuel := 4) [(1, 0, some 17), (4, 0, some 20), (0, 1, some 16), (2, 1, some 18), (3, 0, some 19), (5, 1, some 21)] #[true, true, true, true, true, true, false, false, false, false] HT_.out HW_.out (by kernel_rfl) (fun _ _ _ _ _ h => h) (Or.inr hHeld) rfl ?_
     (iterate 2 refine lkP ?_); (iterate 2 refine lkT ?_); refine lkP ?_; refine lkT ?_; refine .nil ?_
     refine join_ (σ := Nat) 1 #[true, true, true, true, true, true, true, true, true, false] (fun s_ => [(22, .agg #[.int .u64 t229, .int .u64 t230, .int .u64 t231]), (23, .agg #[.int .u64 t232, .int .u64 t233, .int .u64 t234]), (8, .pointer (some ⟨s_, 0, none⟩))]) (fun s_ w' => (w'.cell? ⟨gb221, 0, none⟩ = some (.int .u64 x222000_5) ∧ w'.cell? ⟨gb221, 1, none⟩ = some (.int .u64 x222001_5) ∧ w'.cell? ⟨gb221, 2, none⟩ = some (.int .u64 x222002_5) ∧ w'.cell? ⟨gb222, 0, none⟩ = some (.int .u64 a1_0) ∧ w'.cell? ⟨gb222, 1, none⟩ = some (.int .u64 a1_1) ∧ w'.cell? ⟨gb220, 0, none⟩ = some (.int .i64 a2_0) ∧ w'.cell? ⟨gb220, 1, none⟩ = some (.int .u64 a2_1) ∧ w'.cell? ⟨gb220, 2, none⟩ = some (.int .u64 a2_2) ∧ w'.cell? ⟨gb220, 3, none⟩ = some (.int .u64 a2_3) ∧ w'.cell? ⟨gb220, 4, none⟩ = some (.int .u64 a2_4)) ∧ (w'.heap[gb220]? = some (.cells #[.int .i64 a2_0, .int .u64 a2_1, .int .u64 a2_2, .int .u64 a2_3, .int .u64 a2_4] 24 (0, 0))) ∧ (w'.heap[gb221]? = some (.cells #[.int .u64 x222000_5, .int .u64 x222001_5, .int .u64 x222002_5] 76 (0, 0))) ∧ (w'.heap[gb222]? = some (.cells #[.int .u64 a1_0, .int .u64 a1_1] 31 (0, 0))) ∧ (w'.heap[gb223]? = some (.cells #[.int .u64 0, .int .u64 0, .int .u64 0] 76 (0, 0))) ∧ (w'.heap[gb227]? = some (.cells #[.int .u64 t224, .int .u64 t225, .int .u64 t226] 76 (0, 0))) ∧ (w'.heap[s_]? = some (.cells #[.int .u64 0, .int .u64 0, .int .u64 0] 76 (0, 0))) ∧ (w.heap.size ≤ s_) ∧ (w.heap.size ≤ s_) ∧ (gb220 ≠ s_) ∧ (s_ ≠ gb220) ∧ (gb221 ≠ s_) ∧ (s_ ≠ gb221) ∧ (gb222 ≠ s_) ∧ (s_ ≠ gb222) ∧ (gb223 ≠ s_) ∧ (s_ ≠ gb223) ∧ (gb227 ≠ s_) ∧ (s_ ≠ gb227) ∧ (Below w.heap.size w w')) ?_ ?_
     rotate_left
     · intro hCont
       refine two_ (i := 6) (j := 8) (Ni := some 22) (Nj := some 8) #[true, true, true, true, true, true, true, false, false, false] #[true, true, true, true, true, true, false, false, true, false] rfl rfl rfl rfl (two_of HT_.out (by kernel_rfl)) (by decide) (by decide) (fun K hK => ?_) (fun K hK => ?_)
       · skip
         refine ge Try.func53 #[.int .u64 (IntKind.u64.wrap (a1_1 - 1)), .int .u64 a2_1] ?_
         with_reducible refine (audit_times.calls (IntKind.u64.wrap (a1_1 - 1)) a2_1 t229 t230 t231 _ A36.out).mono ?_
         rintro e w43 ⟨rfl, hb⟩
         refine ⟨_, rfl, ?_⟩
         replace BK220 := bb BK220 hb; replace BK221 := bb BK221 hb; replace BK222 := bb BK222 hb; replace BK223 := bb BK223 hb; replace BK227 := bb BK227 hb; replace HB := bs HB hb; (try clear hb); (try clear hb2); (try clear hk); (try clear hi)
         refine hK.out _ _ ⟨(blk_cell BK221.out 0).trans rfl, (blk_cell BK221.out 1).trans rfl, (blk_cell BK221.out 2).trans rfl, (blk_cell BK222.out 0).trans rfl, (blk_cell BK222.out 1).trans rfl, (blk_cell BK220.out 0).trans rfl, (blk_cell BK220.out 1).trans rfl, (blk_cell BK220.out 2).trans rfl, (blk_cell BK220.out 3).trans rfl, (blk_cell BK220.out 4).trans rfl⟩ (fun hHeld => ?_)
         clear hK K
         refine norm_ (a' := ?_) ?_ ?_
         rotate_left
         · show Act.put _ (some 22) _ = _
           simp only [Act.put, List.setIfInBounds_toArray, List.set_cons_zero, List.set_cons_succ, i64_w, i32_w]
           rfl
         refine two_ (i := 7) (j := 8) (Ni := some 23) (Nj := some 8) #[true, true, true, true, true, true, true, true, false, false] #[true, true, true, true, true, true, true, false, true, false] rfl rfl rfl rfl (two_of HT_.out (by kernel_rfl)) (by decide) (by decide) (fun K hK => ?_) (fun K hK => ?_)
         · skip
           refine ge Try.func52 #[.agg #[.int .u64 x222000_5, .int .u64 x222001_5, .int .u64 x222002_5], .agg #[.int .u64 t229, .int .u64 t230, .int .u64 t231]] ?_
           with_reducible refine (audit_plus.calls x222000_5 x222001_5 x222002_5 t229 t230 t231 t232 t233 t234 _ A37.out).mono ?_
           rintro e w44 ⟨rfl, hb⟩
           refine ⟨_, rfl, ?_⟩
           replace BK220 := bb BK220 hb; replace BK221 := bb BK221 hb; replace BK222 := bb BK222 hb; replace BK223 := bb BK223 hb; replace BK227 := bb BK227 hb; replace HB := bs HB hb; (try clear hb); (try clear hb2); (try clear hk); (try clear hi)
           refine hK.out _ _ ⟨(blk_cell BK221.out 0).trans rfl, (blk_cell BK221.out 1).trans rfl, (blk_cell BK221.out 2).trans rfl, (blk_cell BK222.out 0).trans rfl, (blk_cell BK222.out 1).trans rfl, (blk_cell BK220.out 0).trans rfl, (blk_cell BK220.out 1).trans rfl, (blk_cell BK220.out 2).trans rfl, (blk_cell BK220.out 3).trans rfl, (blk_cell BK220.out 4).trans rfl⟩ (fun hHeld => ?_)
           clear hK K
           refine norm_ (a' := ?_) ?_ ?_
           rotate_left
           · show Act.put _ (some 23) _ = _
             simp only [Act.put, List.setIfInBounds_toArray, List.set_cons_zero, List.set_cons_succ, i64_w, i32_w]
             rfl
           refine one_ (i := 8) (N := some 8) #[true, true, true, true, true, true, true, true, true, false] rfl rfl (one_of HT_.out (by kernel_rfl)) (by decide) (fun K hK => ?_)
           refine box_step ?hg (N := 8) ?hd (cs := #[.int .u64 0, .int .u64 0, .int .u64 0]) (t := 76) ?hr ?_; (case hd => rfl); (case hg => rfl); (case hr => first | (go_simp; done) | (go_simp; rfl))
           intro gb235 hg w45 hbox hb
           have BK235 := Aside0.mk (hbox); have GW235 := sz HB hg; have GE235 := sz HB hg; have NB220_235 := nl BK220 hg; have NB235_220 := nr BK220 hg; have NB221_235 := nl BK221 hg; have NB235_221 := nr BK221 hg; have NB222_235 := nl BK222 hg; have NB235_222 := nr BK222 hg; have NB223_235 := nl BK223 hg; have NB235_223 := nr BK223 hg; have NB227_235 := nl BK227 hg; have NB235_227 := nr BK227 hg; replace BK220 := bb BK220 hb; replace BK221 := bb BK221 hb; replace BK222 := bb BK222 hb; replace BK223 := bb BK223 hb; replace BK227 := bb BK227 hb; replace HB := bs HB hb; clear hb hbox hg
           refine hK.out _ _ ⟨(blk_cell BK221.out 0).trans rfl, (blk_cell BK221.out 1).trans rfl, (blk_cell BK221.out 2).trans rfl, (blk_cell BK222.out 0).trans rfl, (blk_cell BK222.out 1).trans rfl, (blk_cell BK220.out 0).trans rfl, (blk_cell BK220.out 1).trans rfl, (blk_cell BK220.out 2).trans rfl, (blk_cell BK220.out 3).trans rfl, (blk_cell BK220.out 4).trans rfl⟩ (fun hHeld => ?_)
           clear hK K
           refine norm_ (a' := ?_) ?_ ?_
           rotate_left
           · show Act.put _ (some 8) _ = _
             simp only [Act.put, List.setIfInBounds_toArray, List.set_cons_zero, List.set_cons_succ, i64_w, i32_w]
             rfl
           exact norm_ (by simp only [putAll, Act.put, List.setIfInBounds_toArray, List.set_cons_zero, List.set_cons_succ]) (hCont (gb235) _ ⟨hHeld, (bk BK220), (bk BK221), (bk BK222), (bk BK223), (bk BK227), (bk BK235), GW235.out, GE235.out, NB220_235.out, NB235_220.out, NB221_235.out, NB235_221.out, NB222_235.out, NB235_222.out, NB223_235.out, NB235_223.out, NB227_235.out, NB235_227.out, (bw HB)⟩)
         · skip
           refine box_step ?hg (N := 8) ?hd (cs := #[.int .u64 0, .int .u64 0, .int .u64 0]) (t := 76) ?hr ?_; (case hd => rfl); (case hg => rfl); (case hr => first | (go_simp; done) | (go_simp; rfl))
           intro gb235 hg w44 hbox hb
           have BK235 := Aside0.mk (hbox); have GW235 := sz HB hg; have GE235 := sz HB hg; have NB220_235 := nl BK220 hg; have NB235_220 := nr BK220 hg; have NB221_235 := nl BK221 hg; have NB235_221 := nr BK221 hg; have NB222_235 := nl BK222 hg; have NB235_222 := nr BK222 hg; have NB223_235 := nl BK223 hg; have NB235_223 := nr BK223 hg; have NB227_235 := nl BK227 hg; have NB235_227 := nr BK227 hg; replace BK220 := bb BK220 hb; replace BK221 := bb BK221 hb; replace BK222 := bb BK222 hb; replace BK223 := bb BK223 hb; replace BK227 := bb BK227 hb; replace HB := bs HB hb; clear hb hbox hg
           refine hK.out _ _ ⟨(blk_cell BK221.out 0).trans rfl, (blk_cell BK221.out 1).trans rfl, (blk_cell BK221.out 2).trans rfl, (blk_cell BK222.out 0).trans rfl, (blk_cell BK222.out 1).trans rfl, (blk_cell BK220.out 0).trans rfl, (blk_cell BK220.out 1).trans rfl, (blk_cell BK220.out 2).trans rfl, (blk_cell BK220.out 3).trans rfl, (blk_cell BK220.out 4).trans rfl⟩ (fun hHeld => ?_)
           clear hK K
           refine norm_ (a' := ?_) ?_ ?_
           rotate_left
           · show Act.put _ (some 8) _ = _
             simp only [Act.put, List.setIfInBounds_toArray, List.set_cons_zero, List.set_cons_succ, i64_w, i32_w]
             rfl
           refine one_ (i := 7) (N := some 23) #[true, true, true, true, true, true, true, true, true, false] rfl rfl (one_of HT_.out (by kernel_rfl)) (by decide) (fun K hK => ?_)
           refine ge Try.func52 #[.agg #[.int .u64 x222000_5, .int .u64 x222001_5, .int .u64 x222002_5], .agg #[.int .u64 t229, .int .u64 t230, .int .u64 t231]] ?_
           with_reducible refine (audit_plus.calls x222000_5 x222001_5 x222002_5 t229 t230 t231 t232 t233 t234 _ A37.out).mono ?_
           rintro e w45 ⟨rfl, hb⟩
           refine ⟨_, rfl, ?_⟩
           replace BK220 := bb BK220 hb; replace BK221 := bb BK221 hb; replace BK222 := bb BK222 hb; replace BK223 := bb BK223 hb; replace BK227 := bb BK227 hb; replace BK235 := bb BK235 hb; replace HB := bs HB hb; (try clear hb); (try clear hb2); (try clear hk); (try clear hi)
           refine hK.out _ _ ⟨(blk_cell BK221.out 0).trans rfl, (blk_cell BK221.out 1).trans rfl, (blk_cell BK221.out 2).trans rfl, (blk_cell BK222.out 0).trans rfl, (blk_cell BK222.out 1).trans rfl, (blk_cell BK220.out 0).trans rfl, (blk_cell BK220.out 1).trans rfl, (blk_cell BK220.out 2).trans rfl, (blk_cell BK220.out 3).trans rfl, (blk_cell BK220.out 4).trans rfl⟩ (fun hHeld => ?_)
           clear hK K
           refine norm_ (a' := ?_) ?_ ?_
           rotate_left
           · show Act.put _ (some 23) _ = _
             simp only [Act.put, List.setIfInBounds_toArray, List.set_cons_zero, List.set_cons_succ, i64_w, i32_w]
             rfl
           exact norm_ (by simp only [putAll, Act.put, List.setIfInBounds_toArray, List.set_cons_zero, List.set_cons_succ]) (hCont (gb235) _ ⟨hHeld, (bk BK220), (bk BK221), (bk BK222), (bk BK223), (bk BK227), (bk BK235), GW235.out, GE235.out, NB220_235.out, NB235_220.out, NB221_235.out, NB235_221.out, NB222_235.out, NB235_222.out, NB223_235.out, NB235_223.out, NB227_235.out, NB235_227.out, (bw HB)⟩)
       · skip
         refine box_step ?hg (N := 8) ?hd (cs := #[.int .u64 0, .int .u64 0, .int .u64 0]) (t := 76) ?hr ?_; (case hd => rfl); (case hg => rfl); (case hr => first | (go_simp; done) | (go_simp; rfl))
         intro gb235 hg w43 hbox hb
         have BK235 := Aside0.mk (hbox); have GW235 := sz HB hg; have GE235 := sz HB hg; have NB220_235 := nl BK220 hg; have NB235_220 := nr BK220 hg; have NB221_235 := nl BK221 hg; have NB235_221 := nr BK221 hg; have NB222_235 := nl BK222 hg; have NB235_222 := nr BK222 hg; have NB223_235 := nl BK223 hg; have NB235_223 := nr BK223 hg; have NB227_235 := nl BK227 hg; have NB235_227 := nr BK227 hg; replace BK220 := bb BK220 hb; replace BK221 := bb BK221 hb; replace BK222 := bb BK222 hb; replace BK223 := bb BK223 hb; replace BK227 := bb BK227 hb; replace HB := bs HB hb; clear hb hbox hg
         refine hK.out _ _ ⟨(blk_cell BK221.out 0).trans rfl, (blk_cell BK221.out 1).trans rfl, (blk_cell BK221.out 2).trans rfl, (blk_cell BK222.out 0).trans rfl, (blk_cell BK222.out 1).trans rfl, (blk_cell BK220.out 0).trans rfl, (blk_cell BK220.out 1).trans rfl, (blk_cell BK220.out 2).trans rfl, (blk_cell BK220.out 3).trans rfl, (blk_cell BK220.out 4).trans rfl⟩ (fun hHeld => ?_)
         clear hK K
         refine norm_ (a' := ?_) ?_ ?_
         rotate_left
         · show Act.put _ (some 8) _ = _
           simp only [Act.put, List.setIfInBounds_toArray, List.set_cons_zero, List.set_cons_succ, i64_w, i32_w]
           rfl
         refine one_ (i := 6) (N := some 22) #[true, true, true, true, true, true, true, false, true, false] rfl rfl (one_of HT_.out (by kernel_rfl)) (by decide) (fun K hK => ?_)
         refine ge Try.func53 #[.int .u64 (IntKind.u64.wrap (a1_1 - 1)), .int .u64 a2_1] ?_
         with_reducible refine (audit_times.calls (IntKind.u64.wrap (a1_1 - 1)) a2_1 t229 t230 t231 _ A36.out).mono ?_
         rintro e w44 ⟨rfl, hb⟩
         refine ⟨_, rfl, ?_⟩
         replace BK220 := bb BK220 hb; replace BK221 := bb BK221 hb; replace BK222 := bb BK222 hb; replace BK223 := bb BK223 hb; replace BK227 := bb BK227 hb; replace BK235 := bb BK235 hb; replace HB := bs HB hb; (try clear hb); (try clear hb2); (try clear hk); (try clear hi)
         refine hK.out _ _ ⟨(blk_cell BK221.out 0).trans rfl, (blk_cell BK221.out 1).trans rfl, (blk_cell BK221.out 2).trans rfl, (blk_cell BK222.out 0).trans rfl, (blk_cell BK222.out 1).trans rfl, (blk_cell BK220.out 0).trans rfl, (blk_cell BK220.out 1).trans rfl, (blk_cell BK220.out 2).trans rfl, (blk_cell BK220.out 3).trans rfl, (blk_cell BK220.out 4).trans rfl⟩ (fun hHeld => ?_)
         clear hK K
         refine norm_ (a' := ?_) ?_ ?_
         rotate_left
         · show Act.put _ (some 22) _ = _
           simp only [Act.put, List.setIfInBounds_toArray, List.set_cons_zero, List.set_cons_succ, i64_w, i32_w]
           rfl
         refine one_ (i := 7) (N := some 23) #[true, true, true, true, true, true, true, true, true, false] rfl rfl (one_of HT_.out (by kernel_rfl)) (by decide) (fun K hK => ?_)
         refine ge Try.func52 #[.agg #[.int .u64 x222000_5, .int .u64 x222001_5, .int .u64 x222002_5], .agg #[.int .u64 t229, .int .u64 t230, .int .u64 t231]] ?_
         with_reducible refine (audit_plus.calls x222000_5 x222001_5 x222002_5 t229 t230 t231 t232 t233 t234 _ A37.out).mono ?_
         rintro e w45 ⟨rfl, hb⟩
         refine ⟨_, rfl, ?_⟩
         replace BK220 := bb BK220 hb; replace BK221 := bb BK221 hb; replace BK222 := bb BK222 hb; replace BK223 := bb BK223 hb; replace BK227 := bb BK227 hb; replace BK235 := bb BK235 hb; replace HB := bs HB hb; (try clear hb); (try clear hb2); (try clear hk); (try clear hi)
         refine hK.out _ _ ⟨(blk_cell BK221.out 0).trans rfl, (blk_cell BK221.out 1).trans rfl, (blk_cell BK221.out 2).trans rfl, (blk_cell BK222.out 0).trans rfl, (blk_cell BK222.out 1).trans rfl, (blk_cell BK220.out 0).trans rfl, (blk_cell BK220.out 1).trans rfl, (blk_cell BK220.out 2).trans rfl, (blk_cell BK220.out 3).trans rfl, (blk_cell BK220.out 4).trans rfl⟩ (fun hHeld => ?_)
         clear hK K
         refine norm_ (a' := ?_) ?_ ?_
         rotate_left
         · show Act.put _ (some 23) _ = _
           simp only [Act.put, List.setIfInBounds_toArray, List.set_cons_zero, List.set_cons_succ, i64_w, i32_w]
           rfl
         exact norm_ (by simp only [putAll, Act.put, List.setIfInBounds_toArray, List.set_cons_zero, List.set_cons_succ]) (hCont (gb235) _ ⟨hHeld, (bk BK220), (bk BK221), (bk BK222), (bk BK223), (bk BK227), (bk BK235), GW235.out, GE235.out, NB220_235.out, NB235_220.out, NB221_235.out, NB235_221.out, NB222_235.out, NB235_222.out, NB223_235.out, NB235_223.out, NB227_235.out, NB235_227.out, (bw HB)⟩)
     rintro gb235 w46 ⟨hS_, h0_, h1_, h2_, h3_, h4_, h5_, h6_, h7_, h8_, h9_, h10_, h11_, h12_, h13_, h14_, h15_, h16_, h17_, h18_⟩
     have n0_ : Aside0 (w46.heap[gb220]? = some (.cells #[.int .i64 a2_0, .int .u64 a2_1, .int .u64 a2_2, .int .u64 a2_3, .int .u64 a2_4] 24 (0, 0))) := ⟨h0_⟩
     have n1_ : Aside0 (w46.heap[gb221]? = some (.cells #[.int .u64 x222000_5, .int .u64 x222001_5, .int .u64 x222002_5] 76 (0, 0))) := ⟨h1_⟩
     have n2_ : Aside0 (w46.heap[gb222]? = some (.cells #[.int .u64 a1_0, .int .u64 a1_1] 31 (0, 0))) := ⟨h2_⟩
     have n3_ : Aside0 (w46.heap[gb223]? = some (.cells #[.int .u64 0, .int .u64 0, .int .u64 0] 76 (0, 0))) := ⟨h3_⟩
     have n4_ : Aside0 (w46.heap[gb227]? = some (.cells #[.int .u64 t224, .int .u64 t225, .int .u64 t226] 76 (0, 0))) := ⟨h4_⟩
     have n5_ : Aside0 (w46.heap[gb235]? = some (.cells #[.int .u64 0, .int .u64 0, .int .u64 0] 76 (0, 0))) := ⟨h5_⟩
     have n6_ : Aside0 (w.heap.size ≤ gb235) := ⟨h6_⟩
     have n7_ : Aside0 (w.heap.size ≤ gb235) := ⟨h7_⟩
     have n8_ : Aside0 (gb220 ≠ gb235) := ⟨h8_⟩
     have n9_ : Aside0 (gb235 ≠ gb220) := ⟨h9_⟩
     have n10_ : Aside0 (gb221 ≠ gb235) := ⟨h10_⟩
     have n11_ : Aside0 (gb235 ≠ gb221) := ⟨h11_⟩
     have n12_ : Aside0 (gb222 ≠ gb235) := ⟨h12_⟩
     have n13_ : Aside0 (gb235 ≠ gb222) := ⟨h13_⟩
     have n14_ : Aside0 (gb223 ≠ gb235) := ⟨h14_⟩
     have n15_ : Aside0 (gb235 ≠ gb223) := ⟨h15_⟩
     have n16_ : Aside0 (gb227 ≠ gb235) := ⟨h16_⟩
     have n17_ : Aside0 (gb235 ≠ gb227) := ⟨h17_⟩
     have n18_ : Aside0 (Below w.heap.size w w46) := ⟨h18_⟩
     clear BK220; clear BK221; clear BK222; clear BK223; clear BK227; clear HB; clear h0_ h1_ h2_ h3_ h4_ h5_ h6_ h7_ h8_ h9_ h10_ h11_ h12_ h13_ h14_ h15_ h16_ h17_ h18_; have BK220 := n0_; have BK221 := n1_; have BK222 := n2_; have BK223 := n3_; have BK227 := n4_; have BK235 := n5_; have GW235 := n6_; have GE235 := n7_; have NB220_235 := n8_; have NB235_220 := n9_; have NB221_235 := n10_; have NB235_221 := n11_; have NB222_235 := n12_; have NB235_222 := n13_; have NB223_235 := n14_; have NB235_223 := n15_; have NB227_235 := n16_; have NB235_227 := n17_; have HB := n18_; clear n0_ n1_ n2_ n3_ n4_ n5_ n6_ n7_ n8_ n9_ n10_ n11_ n12_ n13_ n14_ n15_ n16_ n17_ n18_
     have hHeld : w46.cell? ⟨gb221, 0, none⟩ = some (.int .u64 x222000_5) ∧ w46.cell? ⟨gb221, 1, none⟩ = some (.int .u64 x222001_5) ∧ w46.cell? ⟨gb221, 2, none⟩ = some (.int .u64 x222002_5) ∧ w46.cell? ⟨gb222, 0, none⟩ = some (.int .u64 a1_0) ∧ w46.cell? ⟨gb222, 1, none⟩ = some (.int .u64 a1_1) ∧ w46.cell? ⟨gb220, 0, none⟩ = some (.int .i64 a2_0) ∧ w46.cell? ⟨gb220, 1, none⟩ = some (.int .u64 a2_1) ∧ w46.cell? ⟨gb220, 2, none⟩ = some (.int .u64 a2_2) ∧ w46.cell? ⟨gb220, 3, none⟩ = some (.int .u64 a2_3) ∧ w46.cell? ⟨gb220, 4, none⟩ = some (.int .u64 a2_4) := hS_
     refine norm_ (a' := ?_) ?_ ?_
     rotate_left
     · simp only [putAll, Act.put, List.setIfInBounds_toArray, List.set_cons_zero, List.set_cons_succ]
       rfl
     refine one_ (i := 9) (N := none) #[true, true, true, true, true, true, true, true, true, true] rfl rfl (one_of HT_.out (by kernel_rfl)) (by decide) (fun K hK => ?_)
     have hs47 : w46.cell? ⟨gb235, 0, none⟩ = some (.int .u64 0) := (blk_cell BK235.out 0).trans rfl
     have hfs47 := blk_frozen BK235.out 0; have hns47_0 := NB220_235.out; have hns47_1 := NB221_235.out; have hns47_2 := NB222_235.out; have hns47_3 := NB223_235.out; have hns47_4 := NB227_235.out; have hms47_0 := NB235_220.out; have hms47_1 := NB235_221.out; have hms47_2 := NB235_222.out; have hms47_3 := NB235_223.out; have hms47_4 := NB235_227.out
     have hs48 : w46.cell? ⟨gb235, 1, none⟩ = some (.int .u64 0) := (blk_cell BK235.out 1).trans rfl
     have hfs48 := blk_frozen BK235.out 1; have hns48_0 := NB220_235.out; have hns48_1 := NB221_235.out; have hns48_2 := NB222_235.out; have hns48_3 := NB223_235.out; have hns48_4 := NB227_235.out; have hms48_0 := NB235_220.out; have hms48_1 := NB235_221.out; have hms48_2 := NB235_222.out; have hms48_3 := NB235_223.out; have hms48_4 := NB235_227.out
     have hs49 : w46.cell? ⟨gb235, 2, none⟩ = some (.int .u64 0) := (blk_cell BK235.out 2).trans rfl
     have hfs49 := blk_frozen BK235.out 2; have hns49_0 := NB220_235.out; have hns49_1 := NB221_235.out; have hns49_2 := NB222_235.out; have hns49_3 := NB223_235.out; have hns49_4 := NB227_235.out; have hms49_0 := NB235_220.out; have hms49_1 := NB235_221.out; have hms49_2 := NB235_222.out; have hms49_3 := NB235_223.out; have hms49_4 := NB235_227.out
     refine skip_ (w1 := ?_) (by rfl) rfl ?_ ?_
     rotate_left
     · go_simp
       rfl
     refine hK.out _ _ ⟨((cell_far (p := ⟨gb235, _, none⟩) NB221_235.out _).trans (((cell_far (p := ⟨gb235, _, none⟩) NB221_235.out _).trans (((cell_far (p := ⟨gb235, _, none⟩) NB221_235.out _).trans (hHeld.1)))))), ((cell_far (p := ⟨gb235, _, none⟩) NB221_235.out _).trans (((cell_far (p := ⟨gb235, _, none⟩) NB221_235.out _).trans (((cell_far (p := ⟨gb235, _, none⟩) NB221_235.out _).trans (hHeld.2.1)))))), ((cell_far (p := ⟨gb235, _, none⟩) NB221_235.out _).trans (((cell_far (p := ⟨gb235, _, none⟩) NB221_235.out _).trans (((cell_far (p := ⟨gb235, _, none⟩) NB221_235.out _).trans (hHeld.2.2.1)))))), ((cell_far (p := ⟨gb235, _, none⟩) NB222_235.out _).trans (((cell_far (p := ⟨gb235, _, none⟩) NB222_235.out _).trans (((cell_far (p := ⟨gb235, _, none⟩) NB222_235.out _).trans (hHeld.2.2.2.1)))))), ((cell_far (p := ⟨gb235, _, none⟩) NB222_235.out _).trans (((cell_far (p := ⟨gb235, _, none⟩) NB222_235.out _).trans (((cell_far (p := ⟨gb235, _, none⟩) NB222_235.out _).trans (hHeld.2.2.2.2.1)))))), ((cell_far (p := ⟨gb235, _, none⟩) NB220_235.out _).trans (((cell_far (p := ⟨gb235, _, none⟩) NB220_235.out _).trans (((cell_far (p := ⟨gb235, _, none⟩) NB220_235.out _).trans (hHeld.2.2.2.2.2.1)))))), ((cell_far (p := ⟨gb235, _, none⟩) NB220_235.out _).trans (((cell_far (p := ⟨gb235, _, none⟩) NB220_235.out _).trans (((cell_far (p := ⟨gb235, _, none⟩) NB220_235.out _).trans (hHeld.2.2.2.2.2.2.1)))))), ((cell_far (p := ⟨gb235, _, none⟩) NB220_235.out _).trans (((cell_far (p := ⟨gb235, _, none⟩) NB220_235.out _).trans (((cell_far (p := ⟨gb235, _, none⟩) NB220_235.out _).trans (hHeld.2.2.2.2.2.2.2.1)))))), ((cell_far (p := ⟨gb235, _, none⟩) NB220_235.out _).trans (((cell_far (p := ⟨gb235, _, none⟩) NB220_235.out _).trans (((cell_far (p := ⟨gb235, _, none⟩) NB220_235.out _).trans (hHeld.2.2.2.2.2.2.2.2.1)))))), ((cell_far (p := ⟨gb235, _, none⟩) NB220_235.out _).trans (((cell_far (p := ⟨gb235, _, none⟩) NB220_235.out _).trans (((cell_far (p := ⟨gb235, _, none⟩) NB220_235.out _).trans (hHeld.2.2.2.2.2.2.2.2.2))))))⟩ (fun hHeld => ?_)
     clear hK K
     refine done_ (done_of HT_.out (by kernel_rfl)) ?_
     try go_wp2
     have n0_ : Aside0 ((((w46.setCell ⟨gb235, 0, none⟩ (.int .u64 t232)).setCell ⟨gb235, 1, none⟩ (.int .u64 t233)).setCell ⟨gb235, 2, none⟩ (.int .u64 t234)).heap[gb220]? = some (.cells #[.int .i64 a2_0, .int .u64 a2_1, .int .u64 a2_2, .int .u64 a2_3, .int .u64 a2_4] 24 (0, 0))) := ⟨bk BK220⟩
     have n1_ : Aside0 ((((w46.setCell ⟨gb235, 0, none⟩ (.int .u64 t232)).setCell ⟨gb235, 1, none⟩ (.int .u64 t233)).setCell ⟨gb235, 2, none⟩ (.int .u64 t234)).heap[gb221]? = some (.cells #[.int .u64 x222000_5, .int .u64 x222001_5, .int .u64 x222002_5] 76 (0, 0))) := ⟨bk BK221⟩
     have n2_ : Aside0 ((((w46.setCell ⟨gb235, 0, none⟩ (.int .u64 t232)).setCell ⟨gb235, 1, none⟩ (.int .u64 t233)).setCell ⟨gb235, 2, none⟩ (.int .u64 t234)).heap[gb222]? = some (.cells #[.int .u64 a1_0, .int .u64 a1_1] 31 (0, 0))) := ⟨bk BK222⟩
     have n3_ : Aside0 ((((w46.setCell ⟨gb235, 0, none⟩ (.int .u64 t232)).setCell ⟨gb235, 1, none⟩ (.int .u64 t233)).setCell ⟨gb235, 2, none⟩ (.int .u64 t234)).heap[gb223]? = some (.cells #[.int .u64 0, .int .u64 0, .int .u64 0] 76 (0, 0))) := ⟨bk BK223⟩
     have n4_ : Aside0 ((((w46.setCell ⟨gb235, 0, none⟩ (.int .u64 t232)).setCell ⟨gb235, 1, none⟩ (.int .u64 t233)).setCell ⟨gb235, 2, none⟩ (.int .u64 t234)).heap[gb227]? = some (.cells #[.int .u64 t224, .int .u64 t225, .int .u64 t226] 76 (0, 0))) := ⟨bk BK227⟩
     have n5_ : Aside0 ((((w46.setCell ⟨gb235, 0, none⟩ (.int .u64 t232)).setCell ⟨gb235, 1, none⟩ (.int .u64 t233)).setCell ⟨gb235, 2, none⟩ (.int .u64 t234)).heap[gb235]? = some (.cells #[.int .u64 t232, .int .u64 t233, .int .u64 t234] 76 (0, 0))) := ⟨bk BK235⟩
     have n6_ : Aside0 (Below w.heap.size w (((w46.setCell ⟨gb235, 0, none⟩ (.int .u64 t232)).setCell ⟨gb235, 1, none⟩ (.int .u64 t233)).setCell ⟨gb235, 2, none⟩ (.int .u64 t234))) := ⟨bw HB⟩
     (try clear BK220); (try clear BK221); (try clear BK222); (try clear BK223); (try clear BK227); (try clear BK235); (try clear HB)
     generalize (((w46.setCell ⟨gb235, 0, none⟩ (.int .u64 t232)).setCell ⟨gb235, 1, none⟩ (.int .u64 t233)).setCell ⟨gb235, 2, none⟩ (.int .u64 t234)) = w50 at n0_ n1_ n2_ n3_ n4_ n5_ n6_ ⊢
     have BK220 := n0_; have BK221 := n1_; have BK222 := n2_; have BK223 := n3_; have BK227 := n4_; have BK235 := n5_; have HB := n6_; clear n0_ n1_ n2_ n3_ n4_ n5_ n6_; replace BK220 := Aside0.mk (blk_drew BK220.out); replace BK221 := Aside0.mk (blk_drew BK221.out); replace BK222 := Aside0.mk (blk_drew BK222.out); replace BK223 := Aside0.mk (blk_drew BK223.out); replace BK227 := Aside0.mk (blk_drew BK227.out); replace BK235 := Aside0.mk (blk_drew BK235.out); replace HB := Aside0.mk (below_drew1 HB.out)
     refine start_ (n := 7) (S := fun w' => w'.cell? ⟨gb235, 0, none⟩ = some (.int .u64 t232) ∧ w'.cell? ⟨gb235, 1, none⟩ = some (.int .u64 t233) ∧ w'.cell? ⟨gb235, 2, none⟩ = some (.int .u64 t234) ∧ w'.cell? ⟨gb227, 0, none⟩ = some (.int .u64 t224) ∧ w'.cell? ⟨gb227, 1, none⟩ = some (.int .u64 t225) ∧ w'.cell? ⟨gb227, 2, none⟩ = some (.int .u64 t226) ∧ w'.cell? ⟨gb220, 0, none⟩ = some (.int .i64 a2_0) ∧ w'.cell? ⟨gb220, 1, none⟩ = some (.int .u64 a2_1) ∧ w'.cell? ⟨gb220, 2, none⟩ = some (.int .u64 a2_2) ∧ w'.cell? ⟨gb220, 3, none⟩ = some (.int .u64 a2_3) ∧ w'.cell? ⟨gb220, 4, none⟩ = some (.int .u64 a2_4)) (ds := []) #[false, false, false, false, false, false, false] (by kernel_rfl) rfl rfl ⟨(blk_cell BK235.out 0).trans rfl, (blk_cell BK235.out 1).trans rfl, (blk_cell BK235.out 2).trans rfl, (blk_cell BK227.out 0).trans rfl, (blk_cell BK227.out 1).trans rfl, (blk_cell BK227.out 2).trans rfl, (blk_cell BK220.out 0).trans rfl, (blk_cell BK220.out 1).trans rfl, (blk_cell BK220.out 2).trans rfl, (blk_cell BK220.out 3).trans rfl, (blk_cell BK220.out 4).trans rfl⟩ (fun hHeld => ?_)
     generalize w50.drew = w51 at BK220 BK221 BK222 BK223 BK227 BK235 HB hHeld ⊢
     refine pure_ (i := 2) (N := some 26) (v := ?_) (a' := ?_) #[false, false, true, false, false, false, false] rfl rfl (by kernel_rfl) (fun _ _ _ h => h) (Or.inl ⟨by rfl, ?_⟩) ?_ ?_
     rotate_left
     · intro w'
       go_simp
       with_reducible rfl
     rotate_left
     · simp only [Act.put, List.setIfInBounds_toArray, List.set_cons_zero, List.set_cons_succ, i64_w, i32_w]
       rfl
     refine take_ (i := 0) (N := some 24) (v := ?_) (a' := ?_) #[true, false, true, false, false, false, false] rfl rfl (by kernel_rfl) (fun _ _ _ h => h) (Or.inl ⟨by rfl, ?_⟩) hHeld ?_ ?_
     rotate_left
     · rintro w' ⟨s0, s1, s2, s3, s4, s5, s6, s7, s8, s9, s10⟩
       go_simp
       with_reducible rfl
     rotate_left
     · simp only [Act.put, List.setIfInBounds_toArray, List.set_cons_zero, List.set_cons_succ, i64_w, i32_w]
       rfl
     refine take_ (i := 1) (N := some 25) (v := ?_) (a' := ?_) #[true, true, true, false, false, false, false] rfl rfl (by kernel_rfl) (fun _ _ _ h => h) (Or.inl ⟨by rfl, ?_⟩) hHeld ?_ ?_
     rotate_left
     · rintro w' ⟨s0, s1, s2, s3, s4, s5, s6, s7, s8, s9, s10⟩
       go_simp
       with_reducible rfl
     rotate_left
     · simp only [Act.put, List.setIfInBounds_toArray, List.set_cons_zero, List.set_cons_succ, i64_w, i32_w]
       rfl
     refine take_ (i := 3) (N := some 27) (v := ?_) (a' := ?_) #[true, true, true, true, false, false, false] rfl rfl (by kernel_rfl) (fun _ _ _ h => h) (Or.inl ⟨by rfl, ?_⟩) hHeld ?_ ?_
     rotate_left
     · rintro w' ⟨s0, s1, s2, s3, s4, s5, s6, s7, s8, s9, s10⟩
       go_simp
       with_reducible rfl
     rotate_left
     · simp only [Act.put, List.setIfInBounds_toArray, List.set_cons_zero, List.set_cons_succ, i64_w, i32_w]
       rfl
     refine one_ (i := 4) (N := some 28) #[true, true, true, true, true, false, false] rfl rfl (by kernel_rfl) (by decide) (fun K hK => ?_)
     refine ge Try.func40 #[.int .u64 a2_2] ?_
     with_reducible refine (audit_of.calls a2_2 t236 t237 t238 _ A38.out).mono ?_
     rintro e w52 ⟨rfl, hb⟩
     refine ⟨_, rfl, ?_⟩
     replace BK220 := bb BK220 hb; replace BK221 := bb BK221 hb; replace BK222 := bb BK222 hb; replace BK223 := bb BK223 hb; replace BK227 := bb BK227 hb; replace BK235 := bb BK235 hb; replace HB := bs HB hb; (try clear hb); (try clear hb2); (try clear hk); (try clear hi)
     refine hK.out _ _ ⟨(blk_cell BK235.out 0).trans rfl, (blk_cell BK235.out 1).trans rfl, (blk_cell BK235.out 2).trans rfl, (blk_cell BK227.out 0).trans rfl, (blk_cell BK227.out 1).trans rfl, (blk_cell BK227.out 2).trans rfl, (blk_cell BK220.out 0).trans rfl, (blk_cell BK220.out 1).trans rfl, (blk_cell BK220.out 2).trans rfl, (blk_cell BK220.out 3).trans rfl, (blk_cell BK220.out 4).trans rfl⟩ (fun hHeld => ?_)
     clear hK K
     refine norm_ (a' := ?_) ?_ ?_
     rotate_left
     · show Act.put _ (some 28) _ = _
       simp only [Act.put, List.setIfInBounds_toArray, List.set_cons_zero, List.set_cons_succ, i64_w, i32_w]
       rfl
     refine one_ (i := 5) (N := some 29) #[true, true, true, true, true, true, false] rfl rfl (by kernel_rfl) (by decide) (fun K hK => ?_)
     refine ge Try.func52 #[.agg #[.int .u64 t224, .int .u64 t225, .int .u64 t226], .agg #[.int .u64 t236, .int .u64 t237, .int .u64 t238]] ?_
     with_reducible refine (audit_plus.calls t224 t225 t226 t236 t237 t238 t239 t240 t241 _ A39.out).mono ?_
     rintro e w53 ⟨rfl, hb⟩
     refine ⟨_, rfl, ?_⟩
     replace BK220 := bb BK220 hb; replace BK221 := bb BK221 hb; replace BK222 := bb BK222 hb; replace BK223 := bb BK223 hb; replace BK227 := bb BK227 hb; replace BK235 := bb BK235 hb; replace HB := bs HB hb; (try clear hb); (try clear hb2); (try clear hk); (try clear hi)
     refine hK.out _ _ ⟨(blk_cell BK235.out 0).trans rfl, (blk_cell BK235.out 1).trans rfl, (blk_cell BK235.out 2).trans rfl, (blk_cell BK227.out 0).trans rfl, (blk_cell BK227.out 1).trans rfl, (blk_cell BK227.out 2).trans rfl, (blk_cell BK220.out 0).trans rfl, (blk_cell BK220.out 1).trans rfl, (blk_cell BK220.out 2).trans rfl, (blk_cell BK220.out 3).trans rfl, (blk_cell BK220.out 4).trans rfl⟩ (fun hHeld => ?_)
     clear hK K
     refine norm_ (a' := ?_) ?_ ?_
     rotate_left
     · show Act.put _ (some 29) _ = _
       simp only [Act.put, List.setIfInBounds_toArray, List.set_cons_zero, List.set_cons_succ, i64_w, i32_w]
       rfl
     refine one_ (i := 6) (N := some 30) #[true, true, true, true, true, true, true] rfl rfl (by kernel_rfl) (by decide) (fun K hK => ?_)
     refine ge Try.func51 #[.agg #[.int .u64 t232, .int .u64 t233, .int .u64 t234], .agg #[.int .u64 t239, .int .u64 t240, .int .u64 t241]] ?_
     with_reducible refine (audit_above.calls t232 t233 t234 t239 t240 t241 true _ A40.out).mono ?_
     rintro e w54 ⟨rfl, hb⟩
     refine ⟨_, rfl, ?_⟩
     replace BK220 := bb BK220 hb; replace BK221 := bb BK221 hb; replace BK222 := bb BK222 hb; replace BK223 := bb BK223 hb; replace BK227 := bb BK227 hb; replace BK235 := bb BK235 hb; replace HB := bs HB hb; (try clear hb); (try clear hb2); (try clear hk); (try clear hi)
     refine hK.out _ _ ⟨(blk_cell BK235.out 0).trans rfl, (blk_cell BK235.out 1).trans rfl, (blk_cell BK235.out 2).trans rfl, (blk_cell BK227.out 0).trans rfl, (blk_cell BK227.out 1).trans rfl, (blk_cell BK227.out 2).trans rfl, (blk_cell BK220.out 0).trans rfl, (blk_cell BK220.out 1).trans rfl, (blk_cell BK220.out 2).trans rfl, (blk_cell BK220.out 3).trans rfl, (blk_cell BK220.out 4).trans rfl⟩ (fun hHeld => ?_)
     clear hK K
     refine norm_ (a' := ?_) ?_ ?_
     rotate_left
     · show Act.put _ (some 30) _ = _
       simp only [Act.put, List.setIfInBounds_toArray, List.set_cons_zero, List.set_cons_succ, i64_w, i32_w]
       rfl
     refine done_ (by kernel_rfl) ?_
     have hnb55 := NB221_220.out; have hnc55 := NB220_221.out; have hnb56 := NB221_222.out; have hnc56 := NB222_221.out; have hnb57 := NB221_223.out; have hnc57 := NB223_221.out; have hnb58 := NB221_227.out; have hnc58 := NB227_221.out; have hnb59 := NB221_235.out; have hnc59 := NB235_221.out
     obtain ⟨hcz60_0, hcz60_1, hcz60_2, hfz60_0, hfz60_1, hfz60_2⟩ := bc3 BK221
     have hnb61 := NB223_220.out; have hnc61 := NB220_223.out; have hnb62 := NB223_222.out; have hnc62 := NB222_223.out; have hnb63 := NB223_227.out; have hnc63 := NB227_223.out; have hnb64 := NB223_235.out; have hnc64 := NB235_223.out
     obtain ⟨hcz65_0, hcz65_1, hcz65_2, hfz65_0, hfz65_1, hfz65_2⟩ := bc3 BK223
     try go_wp2
     refine bodyPost_ret (results_ct rfl _ _ gb223 76 #[.int .u64 x222000_5, .int .u64 x222001_5, .int .u64 x222002_5] (0, 0) _ rfl (bk BK223) Try.underlying76 rfl (by kernel_rfl)) rfl ?_
     exact ⟨re, bw HB⟩
   · replace c41 := Bool.eq_false_iff.mpr c41
     subst c41
     have H1 : ((audit_of.f a2_1).bind fun bt243 => ((audit_plus.f t232 t233 t234 bt243.1 bt243.2.1 bt243.2.2).bind fun bt246 => (some (bt246.1, bt246.2.1, bt246.2.2, true)))) = some (r1, r2, r3, r4) := by rw [if_neg (show ¬ (false = true) by decide)] at H; exact H
     clear H; have H := H1; clear H1; replace H := Option.bind_eq_some_iff.mp H
     obtain ⟨⟨t243, t244, t245⟩, A660, H⟩ := H
     replace H : ((audit_plus.f t232 t233 t234 t243 t244 t245).bind fun bt246 => (some (bt246.1, bt246.2.1, bt246.2.2, true))) = some (r1, r2, r3, r4) := H
     have A66 := Aside0.mk A660; clear A660; replace H := Option.bind_eq_some_iff.mp H
     obtain ⟨⟨t246, t247, t248⟩, A670, H⟩ := H
     replace H : (some (t246, t247, t248, true)) = some (r1, r2, r3, r4) := H
     have A67 := Aside0.mk A670; clear A670
     simp only [Option.some.injEq, Prod.mk.injEq] at H
     obtain ⟨rfl, rfl, rfl, rfl⟩ := H
     try go_wp2
     replace BK220 := Aside0.mk (blk_drew BK220.out); replace BK221 := Aside0.mk (blk_drew BK221.out); replace BK222 := Aside0.mk (blk_drew BK222.out); replace BK223 := Aside0.mk (blk_drew BK223.out); replace BK227 := Aside0.mk (blk_drew BK227.out); replace HB := Aside0.mk (below_drew1 HB.out)
     refine start_ (n := 10) (S := fun w' => w'.cell? ⟨gb221, 0, none⟩ = some (.int .u64 x222000_5) ∧ w'.cell? ⟨gb221, 1, none⟩ = some (.int .u64 x222001_5) ∧ w'.cell? ⟨gb221, 2, none⟩ = some (.int .u64 x222002_5) ∧ w'.cell? ⟨gb222, 0, none⟩ = some (.int .u64 a1_0) ∧ w'.cell? ⟨gb222, 1, none⟩ = some (.int .u64 a1_1) ∧ w'.cell? ⟨gb220, 0, none⟩ = some (.int .i64 a2_0) ∧ w'.cell? ⟨gb220, 1, none⟩ = some (.int .u64 a2_1) ∧ w'.cell? ⟨gb220, 2, none⟩ = some (.int .u64 a2_2) ∧ w'.cell? ⟨gb220, 3, none⟩ = some (.int .u64 a2_3) ∧ w'.cell? ⟨gb220, 4, none⟩ = some (.int .u64 a2_4)) (ds := []) #[false, false, false, false, false, false, false, false, false, false] (by kernel_rfl) rfl rfl ⟨(blk_cell BK221.out 0).trans rfl, (blk_cell BK221.out 1).trans rfl, (blk_cell BK221.out 2).trans rfl, (blk_cell BK222.out 0).trans rfl, (blk_cell BK222.out 1).trans rfl, (blk_cell BK220.out 0).trans rfl, (blk_cell BK220.out 1).trans rfl, (blk_cell BK220.out 2).trans rfl, (blk_cell BK220.out 3).trans rfl, (blk_cell BK220.out 4).trans rfl⟩ (fun hHeld => ?_); refine with_tabW audit_flow_1.tab4 audit_flow_1.bits4 (fun HT_ HW_ => ?_)
     generalize wc.drew = w68 at BK220 BK221 BK222 BK223 BK227 HB hHeld ⊢
     refine chain_ (fuel := 4) [(1, 0, some 17), (4, 0, some 20), (0, 1, some 16), (2, 1, some 18), (3, 0, some 19), (5, 1, some 21)] #[true, true, true, true, true, true, false, false, false, false] HT_.out HW_.out (by kernel_rfl) (fun _ _ _ _ _ h => h) (Or.inr hHeld) rfl ?_
     (iterate 2 refine lkP ?_); (iterate 2 refine lkT ?_); refine lkP ?_; refine lkT ?_; refine .nil ?_
     refine join_ (σ := Nat) 1 #[true, true, true, true, true, true, true, true, true, false] (fun s_ => [(22, .agg #[.int .u64 t229, .int .u64 t230, .int .u64 t231]), (23, .agg #[.int .u64 t232, .int .u64 t233, .int .u64 t234]), (8, .pointer (some ⟨s_, 0, none⟩))]) (fun s_ w' => (w'.cell? ⟨gb221, 0, none⟩ = some (.int .u64 x222000_5) ∧ w'.cell? ⟨gb221, 1, none⟩ = some (.int .u64 x222001_5) ∧ w'.cell? ⟨gb221, 2, none⟩ = some (.int .u64 x222002_5) ∧ w'.cell? ⟨gb222, 0, none⟩ = some (.int .u64 a1_0) ∧ w'.cell? ⟨gb222, 1, none⟩ = some (.int .u64 a1_1) ∧ w'.cell? ⟨gb220, 0, none⟩ = some (.int .i64 a2_0) ∧ w'.cell? ⟨gb220, 1, none⟩ = some (.int .u64 a2_1) ∧ w'.cell? ⟨gb220, 2, none⟩ = some (.int .u64 a2_2) ∧ w'.cell? ⟨gb220, 3, none⟩ = some (.int .u64 a2_3) ∧ w'.cell? ⟨gb220, 4, none⟩ = some (.int .u64 a2_4)) ∧ (w'.heap[gb220]? = some (.cells #[.int .i64 a2_0, .int .u64 a2_1, .int .u64 a2_2, .int .u64 a2_3, .int .u64 a2_4] 24 (0, 0))) ∧ (w'.heap[gb221]? = some (.cells #[.int .u64 x222000_5, .int .u64 x222001_5, .int .u64 x222002_5] 76 (0, 0))) ∧ (w'.heap[gb222]? = some (.cells #[.int .u64 a1_0, .int .u64 a1_1] 31 (0, 0))) ∧ (w'.heap[gb223]? = some (.cells #[.int .u64 0, .int .u64 0, .int .u64 0] 76 (0, 0))) ∧ (w'.heap[gb227]? = some (.cells #[.int .u64 t224, .int .u64 t225, .int .u64 t226] 76 (0, 0))) ∧ (w'.heap[s_]? = some (.cells #[.int .u64 0, .int .u64 0, .int .u64 0] 76 (0, 0))) ∧ (w.heap.size ≤ s_) ∧ (w.heap.size ≤ s_) ∧ (gb220 ≠ s_) ∧ (s_ ≠ gb220) ∧ (gb221 ≠ s_) ∧ (s_ ≠ gb221) ∧ (gb222 ≠ s_) ∧ (s_ ≠ gb222) ∧ (gb223 ≠ s_) ∧ (s_ ≠ gb223) ∧ (gb227 ≠ s_) ∧ (s_ ≠ gb227) ∧ (Below w.heap.size w w')) ?_ ?_
     rotate_left
     · intro hCont
       refine two_ (i := 6) (j := 8) (Ni := some 22) (Nj := some 8) #[true, true, true, true, true, true, true, false, false, false] #[true, true, true, true, true, true, false, false, true, false] rfl rfl rfl rfl (two_of HT_.out (by kernel_rfl)) (by decide) (by decide) (fun K hK => ?_) (fun K hK => ?_)
       · skip
         refine ge Try.func53 #[.int .u64 (IntKind.u64.wrap (a1_1 - 1)), .int .u64 a2_1] ?_
         with_reducible refine (audit_times.calls (IntKind.u64.wrap (a1_1 - 1)) a2_1 t229 t230 t231 _ A36.out).mono ?_
         rintro e w69 ⟨rfl, hb⟩
         refine ⟨_, rfl, ?_⟩
         replace BK220 := bb BK220 hb; replace BK221 := bb BK221 hb; replace BK222 := bb BK222 hb; replace BK223 := bb BK223 hb; replace BK227 := bb BK227 hb; replace HB := bs HB hb; (try clear hb); (try clear hb2); (try clear hk); (try clear hi)
         refine hK.out _ _ ⟨(blk_cell BK221.out 0).trans rfl, (blk_cell BK221.out 1).trans rfl, (blk_cell BK221.out 2).trans rfl, (blk_cell BK222.out 0).trans rfl, (blk_cell BK222.out 1).trans rfl, (blk_cell BK220.out 0).trans rfl, (blk_cell BK220.out 1).trans rfl, (blk_cell BK220.out 2).trans rfl, (blk_cell BK220.out 3).trans rfl, (blk_cell BK220.out 4).trans rfl⟩ (fun hHeld => ?_)
         clear hK K
         refine norm_ (a' := ?_) ?_ ?_
         rotate_left
         · show Act.put _ (some 22) _ = _
           simp only [Act.put, List.setIfInBounds_toArray, List.set_cons_zero, List.set_cons_succ, i64_w, i32_w]
           rfl
         refine two_ (i := 7) (j := 8) (Ni := some 23) (Nj := some 8) #[true, true, true, true, true, true, true, true, false, false] #[true, true, true, true, true, true, true, false, true, false] rfl rfl rfl rfl (two_of HT_.out (by kernel_rfl)) (by decide) (by decide) (fun K hK => ?_) (fun K hK => ?_)
         · skip
           refine ge Try.func52 #[.agg #[.int .u64 x222000_5, .int .u64 x222001_5, .int .u64 x222002_5], .agg #[.int .u64 t229, .int .u64 t230, .int .u64 t231]] ?_
           with_reducible refine (audit_plus.calls x222000_5 x222001_5 x222002_5 t229 t230 t231 t232 t233 t234 _ A37.out).mono ?_
           rintro e w70 ⟨rfl, hb⟩
           refine ⟨_, rfl, ?_⟩
           replace BK220 := bb BK220 hb; replace BK221 := bb BK221 hb; replace BK222 := bb BK222 hb; replace BK223 := bb BK223 hb; replace BK227 := bb BK227 hb; replace HB := bs HB hb; (try clear hb); (try clear hb2); (try clear hk); (try clear hi)
           refine hK.out _ _ ⟨(blk_cell BK221.out 0).trans rfl, (blk_cell BK221.out 1).trans rfl, (blk_cell BK221.out 2).trans rfl, (blk_cell BK222.out 0).trans rfl, (blk_cell BK222.out 1).trans rfl, (blk_cell BK220.out 0).trans rfl, (blk_cell BK220.out 1).trans rfl, (blk_cell BK220.out 2).trans rfl, (blk_cell BK220.out 3).trans rfl, (blk_cell BK220.out 4).trans rfl⟩ (fun hHeld => ?_)
           clear hK K
           refine norm_ (a' := ?_) ?_ ?_
           rotate_left
           · show Act.put _ (some 23) _ = _
             simp only [Act.put, List.setIfInBounds_toArray, List.set_cons_zero, List.set_cons_succ, i64_w, i32_w]
             rfl
           refine one_ (i := 8) (N := some 8) #[true, true, true, true, true, true, true, true, true, false] rfl rfl (one_of HT_.out (by kernel_rfl)) (by decide) (fun K hK => ?_)
           refine box_step ?hg (N := 8) ?hd (cs := #[.int .u64 0, .int .u64 0, .int .u64 0]) (t := 76) ?hr ?_; (case hd => rfl); (case hg => rfl); (case hr => first | (go_simp; done) | (go_simp; rfl))
           intro gb235 hg w71 hbox hb
           have BK235 := Aside0.mk (hbox); have GW235 := sz HB hg; have GE235 := sz HB hg; have NB220_235 := nl BK220 hg; have NB235_220 := nr BK220 hg; have NB221_235 := nl BK221 hg; have NB235_221 := nr BK221 hg; have NB222_235 := nl BK222 hg; have NB235_222 := nr BK222 hg; have NB223_235 := nl BK223 hg; have NB235_223 := nr BK223 hg; have NB227_235 := nl BK227 hg; have NB235_227 := nr BK227 hg; replace BK220 := bb BK220 hb; replace BK221 := bb BK221 hb; replace BK222 := bb BK222 hb; replace BK223 := bb BK223 hb; replace BK227 := bb BK227 hb; replace HB := bs HB hb; clear hb hbox hg
           refine hK.out _ _ ⟨(blk_cell BK221.out 0).trans rfl, (blk_cell BK221.out 1).trans rfl, (blk_cell BK221.out 2).trans rfl, (blk_cell BK222.out 0).trans rfl, (blk_cell BK222.out 1).trans rfl, (blk_cell BK220.out 0).trans rfl, (blk_cell BK220.out 1).trans rfl, (blk_cell BK220.out 2).trans rfl, (blk_cell BK220.out 3).trans rfl, (blk_cell BK220.out 4).trans rfl⟩ (fun hHeld => ?_)
           clear hK K
           refine norm_ (a' := ?_) ?_ ?_
           rotate_left
           · show Act.put _ (some 8) _ = _
             simp only [Act.put, List.setIfInBounds_toArray, List.set_cons_zero, List.set_cons_succ, i64_w, i32_w]
             rfl
           exact norm_ (by simp only [putAll, Act.put, List.setIfInBounds_toArray, List.set_cons_zero, List.set_cons_succ]) (hCont (gb235) _ ⟨hHeld, (bk BK220), (bk BK221), (bk BK222), (bk BK223), (bk BK227), (bk BK235), GW235.out, GE235.out, NB220_235.out, NB235_220.out, NB221_235.out, NB235_221.out, NB222_235.out, NB235_222.out, NB223_235.out, NB235_223.out, NB227_235.out, NB235_227.out, (bw HB)⟩)
         · skip
           refine box_step ?hg (N := 8) ?hd (cs := #[.int .u64 0, .int .u64 0, .int .u64 0]) (t := 76) ?hr ?_; (case hd => rfl); (case hg => rfl); (case hr => first | (go_simp; done) | (go_simp; rfl))
           intro gb235 hg w70 hbox hb
           have BK235 := Aside0.mk (hbox); have GW235 := sz HB hg; have GE235 := sz HB hg; have NB220_235 := nl BK220 hg; have NB235_220 := nr BK220 hg; have NB221_235 := nl BK221 hg; have NB235_221 := nr BK221 hg; have NB222_235 := nl BK222 hg; have NB235_222 := nr BK222 hg; have NB223_235 := nl BK223 hg; have NB235_223 := nr BK223 hg; have NB227_235 := nl BK227 hg; have NB235_227 := nr BK227 hg; replace BK220 := bb BK220 hb; replace BK221 := bb BK221 hb; replace BK222 := bb BK222 hb; replace BK223 := bb BK223 hb; replace BK227 := bb BK227 hb; replace HB := bs HB hb; clear hb hbox hg
           refine hK.out _ _ ⟨(blk_cell BK221.out 0).trans rfl, (blk_cell BK221.out 1).trans rfl, (blk_cell BK221.out 2).trans rfl, (blk_cell BK222.out 0).trans rfl, (blk_cell BK222.out 1).trans rfl, (blk_cell BK220.out 0).trans rfl, (blk_cell BK220.out 1).trans rfl, (blk_cell BK220.out 2).trans rfl, (blk_cell BK220.out 3).trans rfl, (blk_cell BK220.out 4).trans rfl⟩ (fun hHeld => ?_)
           clear hK K
           refine norm_ (a' := ?_) ?_ ?_
           rotate_left
           · show Act.put _ (some 8) _ = _
             simp only [Act.put, List.setIfInBounds_toArray, List.set_cons_zero, List.set_cons_succ, i64_w, i32_w]
             rfl
           refine one_ (i := 7) (N := some 23) #[true, true, true, true, true, true, true, true, true, false] rfl rfl (one_of HT_.out (by kernel_rfl)) (by decide) (fun K hK => ?_)
           refine ge Try.func52 #[.agg #[.int .u64 x222000_5, .int .u64 x222001_5, .int .u64 x222002_5], .agg #[.int .u64 t229, .int .u64 t230, .int .u64 t231]] ?_
           with_reducible refine (audit_plus.calls x222000_5 x222001_5 x222002_5 t229 t230 t231 t232 t233 t234 _ A37.out).mono ?_
           rintro e w71 ⟨rfl, hb⟩
           refine ⟨_, rfl, ?_⟩
           replace BK220 := bb BK220 hb; replace BK221 := bb BK221 hb; replace BK222 := bb BK222 hb; replace BK223 := bb BK223 hb; replace BK227 := bb BK227 hb; replace BK235 := bb BK235 hb; replace HB := bs HB hb; (try clear hb); (try clear hb2); (try clear hk); (try clear hi)
           refine hK.out _ _ ⟨(blk_cell BK221.out 0).trans rfl, (blk_cell BK221.out 1).trans rfl, (blk_cell BK221.out 2).trans rfl, (blk_cell BK222.out 0).trans rfl, (blk_cell BK222.out 1).trans rfl, (blk_cell BK220.out 0).trans rfl, (blk_cell BK220.out 1).trans rfl, (blk_cell BK220.out 2).trans rfl, (blk_cell BK220.out 3).trans rfl, (blk_cell BK220.out 4).trans rfl⟩ (fun hHeld => ?_)
           clear hK K
           refine norm_ (a' := ?_) ?_ ?_
           rotate_left
           · show Act.put _ (some 23) _ = _
             simp only [Act.put, List.setIfInBounds_toArray, List.set_cons_zero, List.set_cons_succ, i64_w, i32_w]
             rfl
           exact norm_ (by simp only [putAll, Act.put, List.setIfInBounds_toArray, List.set_cons_zero, List.set_cons_succ]) (hCont (gb235) _ ⟨hHeld, (bk BK220), (bk BK221), (bk BK222), (bk BK223), (bk BK227), (bk BK235), GW235.out, GE235.out, NB220_235.out, NB235_220.out, NB221_235.out, NB235_221.out, NB222_235.out, NB235_222.out, NB223_235.out, NB235_223.out, NB227_235.out, NB235_227.out, (bw HB)⟩)
       · skip
         refine box_step ?hg (N := 8) ?hd (cs := #[.int .u64 0, .int .u64 0, .int .u64 0]) (t := 76) ?hr ?_; (case hd => rfl); (case hg => rfl); (case hr => first | (go_simp; done) | (go_simp; rfl))
         intro gb235 hg w69 hbox hb
         have BK235 := Aside0.mk (hbox); have GW235 := sz HB hg; have GE235 := sz HB hg; have NB220_235 := nl BK220 hg; have NB235_220 := nr BK220 hg; have NB221_235 := nl BK221 hg; have NB235_221 := nr BK221 hg; have NB222_235 := nl BK222 hg; have NB235_222 := nr BK222 hg; have NB223_235 := nl BK223 hg; have NB235_223 := nr BK223 hg; have NB227_235 := nl BK227 hg; have NB235_227 := nr BK227 hg; replace BK220 := bb BK220 hb; replace BK221 := bb BK221 hb; replace BK222 := bb BK222 hb; replace BK223 := bb BK223 hb; replace BK227 := bb BK227 hb; replace HB := bs HB hb; clear hb hbox hg
         refine hK.out _ _ ⟨(blk_cell BK221.out 0).trans rfl, (blk_cell BK221.out 1).trans rfl, (blk_cell BK221.out 2).trans rfl, (blk_cell BK222.out 0).trans rfl, (blk_cell BK222.out 1).trans rfl, (blk_cell BK220.out 0).trans rfl, (blk_cell BK220.out 1).trans rfl, (blk_cell BK220.out 2).trans rfl, (blk_cell BK220.out 3).trans rfl, (blk_cell BK220.out 4).trans rfl⟩ (fun hHeld => ?_)
         clear hK K
         refine norm_ (a' := ?_) ?_ ?_
         rotate_left
         · show Act.put _ (some 8) _ = _
           simp only [Act.put, List.setIfInBounds_toArray, List.set_cons_zero, List.set_cons_succ, i64_w, i32_w]
           rfl
         refine one_ (i := 6) (N := some 22) #[true, true, true, true, true, true, true, false, true, false] rfl rfl (one_of HT_.out (by kernel_rfl)) (by decide) (fun K hK => ?_)
         refine ge Try.func53 #[.int .u64 (IntKind.u64.wrap (a1_1 - 1)), .int .u64 a2_1] ?_
         with_reducible refine (audit_times.calls (IntKind.u64.wrap (a1_1 - 1)) a2_1 t229 t230 t231 _ A36.out).mono ?_
         rintro e w70 ⟨rfl, hb⟩
         refine ⟨_, rfl, ?_⟩
         replace BK220 := bb BK220 hb; replace BK221 := bb BK221 hb; replace BK222 := bb BK222 hb; replace BK223 := bb BK223 hb; replace BK227 := bb BK227 hb; replace BK235 := bb BK235 hb; replace HB := bs HB hb; (try clear hb); (try clear hb2); (try clear hk); (try clear hi)
         refine hK.out _ _ ⟨(blk_cell BK221.out 0).trans rfl, (blk_cell BK221.out 1).trans rfl, (blk_cell BK221.out 2).trans rfl, (blk_cell BK222.out 0).trans rfl, (blk_cell BK222.out 1).trans rfl, (blk_cell BK220.out 0).trans rfl, (blk_cell BK220.out 1).trans rfl, (blk_cell BK220.out 2).trans rfl, (blk_cell BK220.out 3).trans rfl, (blk_cell BK220.out 4).trans rfl⟩ (fun hHeld => ?_)
         clear hK K
         refine norm_ (a' := ?_) ?_ ?_
         rotate_left
         · show Act.put _ (some 22) _ = _
           simp only [Act.put, List.setIfInBounds_toArray, List.set_cons_zero, List.set_cons_succ, i64_w, i32_w]
           rfl
         refine one_ (i := 7) (N := some 23) #[true, true, true, true, true, true, true, true, true, false] rfl rfl (one_of HT_.out (by kernel_rfl)) (by decide) (fun K hK => ?_)
         refine ge Try.func52 #[.agg #[.int .u64 x222000_5, .int .u64 x222001_5, .int .u64 x222002_5], .agg #[.int .u64 t229, .int .u64 t230, .int .u64 t231]] ?_
         with_reducible refine (audit_plus.calls x222000_5 x222001_5 x222002_5 t229 t230 t231 t232 t233 t234 _ A37.out).mono ?_
         rintro e w71 ⟨rfl, hb⟩
         refine ⟨_, rfl, ?_⟩
         replace BK220 := bb BK220 hb; replace BK221 := bb BK221 hb; replace BK222 := bb BK222 hb; replace BK223 := bb BK223 hb; replace BK227 := bb BK227 hb; replace BK235 := bb BK235 hb; replace HB := bs HB hb; (try clear hb); (try clear hb2); (try clear hk); (try clear hi)
         refine hK.out _ _ ⟨(blk_cell BK221.out 0).trans rfl, (blk_cell BK221.out 1).trans rfl, (blk_cell BK221.out 2).trans rfl, (blk_cell BK222.out 0).trans rfl, (blk_cell BK222.out 1).trans rfl, (blk_cell BK220.out 0).trans rfl, (blk_cell BK220.out 1).trans rfl, (blk_cell BK220.out 2).trans rfl, (blk_cell BK220.out 3).trans rfl, (blk_cell BK220.out 4).trans rfl⟩ (fun hHeld => ?_)
         clear hK K
         refine norm_ (a' := ?_) ?_ ?_
         rotate_left
         · show Act.put _ (some 23) _ = _
           simp only [Act.put, List.setIfInBounds_toArray, List.set_cons_zero, List.set_cons_succ, i64_w, i32_w]
           rfl
         exact norm_ (by simp only [putAll, Act.put, List.setIfInBounds_toArray, List.set_cons_zero, List.set_cons_succ]) (hCont (gb235) _ ⟨hHeld, (bk BK220), (bk BK221), (bk BK222), (bk BK223), (bk BK227), (bk BK235), GW235.out, GE235.out, NB220_235.out, NB235_220.out, NB221_235.out, NB235_221.out, NB222_235.out, NB235_222.out, NB223_235.out, NB235_223.out, NB227_235.out, NB235_227.out, (bw HB)⟩)
     rintro gb235 w72 ⟨hS_, h0_, h1_, h2_, h3_, h4_, h5_, h6_, h7_, h8_, h9_, h10_, h11_, h12_, h13_, h14_, h15_, h16_, h17_, h18_⟩
     have n0_ : Aside0 (w72.heap[gb220]? = some (.cells #[.int .i64 a2_0, .int .u64 a2_1, .int .u64 a2_2, .int .u64 a2_3, .int .u64 a2_4] 24 (0, 0))) := ⟨h0_⟩
     have n1_ : Aside0 (w72.heap[gb221]? = some (.cells #[.int .u64 x222000_5, .int .u64 x222001_5, .int .u64 x222002_5] 76 (0, 0))) := ⟨h1_⟩
     have n2_ : Aside0 (w72.heap[gb222]? = some (.cells #[.int .u64 a1_0, .int .u64 a1_1] 31 (0, 0))) := ⟨h2_⟩
     have n3_ : Aside0 (w72.heap[gb223]? = some (.cells #[.int .u64 0, .int .u64 0, .int .u64 0] 76 (0, 0))) := ⟨h3_⟩
     have n4_ : Aside0 (w72.heap[gb227]? = some (.cells #[.int .u64 t224, .int .u64 t225, .int .u64 t226] 76 (0, 0))) := ⟨h4_⟩
     have n5_ : Aside0 (w72.heap[gb235]? = some (.cells #[.int .u64 0, .int .u64 0, .int .u64 0] 76 (0, 0))) := ⟨h5_⟩
     have n6_ : Aside0 (w.heap.size ≤ gb235) := ⟨h6_⟩
     have n7_ : Aside0 (w.heap.size ≤ gb235) := ⟨h7_⟩
     have n8_ : Aside0 (gb220 ≠ gb235) := ⟨h8_⟩
     have n9_ : Aside0 (gb235 ≠ gb220) := ⟨h9_⟩
     have n10_ : Aside0 (gb221 ≠ gb235) := ⟨h10_⟩
     have n11_ : Aside0 (gb235 ≠ gb221) := ⟨h11_⟩
     have n12_ : Aside0 (gb222 ≠ gb235) := ⟨h12_⟩
     have n13_ : Aside0 (gb235 ≠ gb222) := ⟨h13_⟩
     have n14_ : Aside0 (gb223 ≠ gb235) := ⟨h14_⟩
     have n15_ : Aside0 (gb235 ≠ gb223) := ⟨h15_⟩
     have n16_ : Aside0 (gb227 ≠ gb235) := ⟨h16_⟩
     have n17_ : Aside0 (gb235 ≠ gb227) := ⟨h17_⟩
     have n18_ : Aside0 (Below w.heap.size w w72) := ⟨h18_⟩
     clear BK220; clear BK221; clear BK222; clear BK223; clear BK227; clear HB; clear h0_ h1_ h2_ h3_ h4_ h5_ h6_ h7_ h8_ h9_ h10_ h11_ h12_ h13_ h14_ h15_ h16_ h17_ h18_; have BK220 := n0_; have BK221 := n1_; have BK222 := n2_; have BK223 := n3_; have BK227 := n4_; have BK235 := n5_; have GW235 := n6_; have GE235 := n7_; have NB220_235 := n8_; have NB235_220 := n9_; have NB221_235 := n10_; have NB235_221 := n11_; have NB222_235 := n12_; have NB235_222 := n13_; have NB223_235 := n14_; have NB235_223 := n15_; have NB227_235 := n16_; have NB235_227 := n17_; have HB := n18_; clear n0_ n1_ n2_ n3_ n4_ n5_ n6_ n7_ n8_ n9_ n10_ n11_ n12_ n13_ n14_ n15_ n16_ n17_ n18_
     have hHeld : w72.cell? ⟨gb221, 0, none⟩ = some (.int .u64 x222000_5) ∧ w72.cell? ⟨gb221, 1, none⟩ = some (.int .u64 x222001_5) ∧ w72.cell? ⟨gb221, 2, none⟩ = some (.int .u64 x222002_5) ∧ w72.cell? ⟨gb222, 0, none⟩ = some (.int .u64 a1_0) ∧ w72.cell? ⟨gb222, 1, none⟩ = some (.int .u64 a1_1) ∧ w72.cell? ⟨gb220, 0, none⟩ = some (.int .i64 a2_0) ∧ w72.cell? ⟨gb220, 1, none⟩ = some (.int .u64 a2_1) ∧ w72.cell? ⟨gb220, 2, none⟩ = some (.int .u64 a2_2) ∧ w72.cell? ⟨gb220, 3, none⟩ = some (.int .u64 a2_3) ∧ w72.cell? ⟨gb220, 4, none⟩ = some (.int .u64 a2_4) := hS_
     refine norm_ (a' := ?_) ?_ ?_
     rotate_left
     · simp only [putAll, Act.put, List.setIfInBounds_toArray, List.set_cons_zero, List.set_cons_succ]
       rfl
     refine one_ (i := 9) (N := none) #[true, true, true, true, true, true, true, true, true, true] rfl rfl (one_of HT_.out (by kernel_rfl)) (by decide) (fun K hK => ?_)
     have hs73 : w72.cell? ⟨gb235, 0, none⟩ = some (.int .u64 0) := (blk_cell BK235.out 0).trans rfl
     have hfs73 := blk_frozen BK235.out 0; have hns73_0 := NB220_235.out; have hns73_1 := NB221_235.out; have hns73_2 := NB222_235.out; have hns73_3 := NB223_235.out; have hns73_4 := NB227_235.out; have hms73_0 := NB235_220.out; have hms73_1 := NB235_221.out; have hms73_2 := NB235_222.out; have hms73_3 := NB235_223.out; have hms73_4 := NB235_227.out
     have hs74 : w72.cell? ⟨gb235, 1, none⟩ = some (.int .u64 0) := (blk_cell BK235.out 1).trans rfl
     have hfs74 := blk_frozen BK235.out 1; have hns74_0 := NB220_235.out; have hns74_1 := NB221_235.out; have hns74_2 := NB222_235.out; have hns74_3 := NB223_235.out; have hns74_4 := NB227_235.out; have hms74_0 := NB235_220.out; have hms74_1 := NB235_221.out; have hms74_2 := NB235_222.out; have hms74_3 := NB235_223.out; have hms74_4 := NB235_227.out
     have hs75 : w72.cell? ⟨gb235, 2, none⟩ = some (.int .u64 0) := (blk_cell BK235.out 2).trans rfl
     have hfs75 := blk_frozen BK235.out 2; have hns75_0 := NB220_235.out; have hns75_1 := NB221_235.out; have hns75_2 := NB222_235.out; have hns75_3 := NB223_235.out; have hns75_4 := NB227_235.out; have hms75_0 := NB235_220.out; have hms75_1 := NB235_221.out; have hms75_2 := NB235_222.out; have hms75_3 := NB235_223.out; have hms75_4 := NB235_227.out
     refine skip_ (w1 := ?_) (by rfl) rfl ?_ ?_
     rotate_left
     · go_simp
       rfl
     refine hK.out _ _ ⟨((cell_far (p := ⟨gb235, _, none⟩) NB221_235.out _).trans (((cell_far (p := ⟨gb235, _, none⟩) NB221_235.out _).trans (((cell_far (p := ⟨gb235, _, none⟩) NB221_235.out _).trans (hHeld.1)))))), ((cell_far (p := ⟨gb235, _, none⟩) NB221_235.out _).trans (((cell_far (p := ⟨gb235, _, none⟩) NB221_235.out _).trans (((cell_far (p := ⟨gb235, _, none⟩) NB221_235.out _).trans (hHeld.2.1)))))), ((cell_far (p := ⟨gb235, _, none⟩) NB221_235.out _).trans (((cell_far (p := ⟨gb235, _, none⟩) NB221_235.out _).trans (((cell_far (p := ⟨gb235, _, none⟩) NB221_235.out _).trans (hHeld.2.2.1)))))), ((cell_far (p := ⟨gb235, _, none⟩) NB222_235.out _).trans (((cell_far (p := ⟨gb235, _, none⟩) NB222_235.out _).trans (((cell_far (p := ⟨gb235, _, none⟩) NB222_235.out _).trans (hHeld.2.2.2.1)))))), ((cell_far (p := ⟨gb235, _, none⟩) NB222_235.out _).trans (((cell_far (p := ⟨gb235, _, none⟩) NB222_235.out _).trans (((cell_far (p := ⟨gb235, _, none⟩) NB222_235.out _).trans (hHeld.2.2.2.2.1)))))), ((cell_far (p := ⟨gb235, _, none⟩) NB220_235.out _).trans (((cell_far (p := ⟨gb235, _, none⟩) NB220_235.out _).trans (((cell_far (p := ⟨gb235, _, none⟩) NB220_235.out _).trans (hHeld.2.2.2.2.2.1)))))), ((cell_far (p := ⟨gb235, _, none⟩) NB220_235.out _).trans (((cell_far (p := ⟨gb235, _, none⟩) NB220_235.out _).trans (((cell_far (p := ⟨gb235, _, none⟩) NB220_235.out _).trans (hHeld.2.2.2.2.2.2.1)))))), ((cell_far (p := ⟨gb235, _, none⟩) NB220_235.out _).trans (((cell_far (p := ⟨gb235, _, none⟩) NB220_235.out _).trans (((cell_far (p := ⟨gb235, _, none⟩) NB220_235.out _).trans (hHeld.2.2.2.2.2.2.2.1)))))), ((cell_far (p := ⟨gb235, _, none⟩) NB220_235.out _).trans (((cell_far (p := ⟨gb235, _, none⟩) NB220_235.out _).trans (((cell_far (p := ⟨gb235, _, none⟩) NB220_235.out _).trans (hHeld.2.2.2.2.2.2.2.2.1)))))), ((cell_far (p := ⟨gb235, _, none⟩) NB220_235.out _).trans (((cell_far (p := ⟨gb235, _, none⟩) NB220_235.out _).trans (((cell_far (p := ⟨gb235, _, none⟩) NB220_235.out _).trans (hHeld.2.2.2.2.2.2.2.2.2))))))⟩ (fun hHeld => ?_)
     clear hK K
     refine done_ (done_of HT_.out (by kernel_rfl)) ?_
     try go_wp2
     have n0_ : Aside0 ((((w72.setCell ⟨gb235, 0, none⟩ (.int .u64 t232)).setCell ⟨gb235, 1, none⟩ (.int .u64 t233)).setCell ⟨gb235, 2, none⟩ (.int .u64 t234)).heap[gb220]? = some (.cells #[.int .i64 a2_0, .int .u64 a2_1, .int .u64 a2_2, .int .u64 a2_3, .int .u64 a2_4] 24 (0, 0))) := ⟨bk BK220⟩
     have n1_ : Aside0 ((((w72.setCell ⟨gb235, 0, none⟩ (.int .u64 t232)).setCell ⟨gb235, 1, none⟩ (.int .u64 t233)).setCell ⟨gb235, 2, none⟩ (.int .u64 t234)).heap[gb221]? = some (.cells #[.int .u64 x222000_5, .int .u64 x222001_5, .int .u64 x222002_5] 76 (0, 0))) := ⟨bk BK221⟩
     have n2_ : Aside0 ((((w72.setCell ⟨gb235, 0, none⟩ (.int .u64 t232)).setCell ⟨gb235, 1, none⟩ (.int .u64 t233)).setCell ⟨gb235, 2, none⟩ (.int .u64 t234)).heap[gb222]? = some (.cells #[.int .u64 a1_0, .int .u64 a1_1] 31 (0, 0))) := ⟨bk BK222⟩
     have n3_ : Aside0 ((((w72.setCell ⟨gb235, 0, none⟩ (.int .u64 t232)).setCell ⟨gb235, 1, none⟩ (.int .u64 t233)).setCell ⟨gb235, 2, none⟩ (.int .u64 t234)).heap[gb223]? = some (.cells #[.int .u64 0, .int .u64 0, .int .u64 0] 76 (0, 0))) := ⟨bk BK223⟩
     have n4_ : Aside0 ((((w72.setCell ⟨gb235, 0, none⟩ (.int .u64 t232)).setCell ⟨gb235, 1, none⟩ (.int .u64 t233)).setCell ⟨gb235, 2, none⟩ (.int .u64 t234)).heap[gb227]? = some (.cells #[.int .u64 t224, .int .u64 t225, .int .u64 t226] 76 (0, 0))) := ⟨bk BK227⟩
     have n5_ : Aside0 ((((w72.setCell ⟨gb235, 0, none⟩ (.int .u64 t232)).setCell ⟨gb235, 1, none⟩ (.int .u64 t233)).setCell ⟨gb235, 2, none⟩ (.int .u64 t234)).heap[gb235]? = some (.cells #[.int .u64 t232, .int .u64 t233, .int .u64 t234] 76 (0, 0))) := ⟨bk BK235⟩
     have n6_ : Aside0 (Below w.heap.size w (((w72.setCell ⟨gb235, 0, none⟩ (.int .u64 t232)).setCell ⟨gb235, 1, none⟩ (.int .u64 t233)).setCell ⟨gb235, 2, none⟩ (.int .u64 t234))) := ⟨bw HB⟩
     (try clear BK220); (try clear BK221); (try clear BK222); (try clear BK223); (try clear BK227); (try clear BK235); (try clear HB)
     generalize (((w72.setCell ⟨gb235, 0, none⟩ (.int .u64 t232)).setCell ⟨gb235, 1, none⟩ (.int .u64 t233)).setCell ⟨gb235, 2, none⟩ (.int .u64 t234)) = w76 at n0_ n1_ n2_ n3_ n4_ n5_ n6_ ⊢
     have BK220 := n0_; have BK221 := n1_; have BK222 := n2_; have BK223 := n3_; have BK227 := n4_; have BK235 := n5_; have HB := n6_; clear n0_ n1_ n2_ n3_ n4_ n5_ n6_; replace BK220 := Aside0.mk (blk_drew BK220.out); replace BK221 := Aside0.mk (blk_drew BK221.out); replace BK222 := Aside0.mk (blk_drew BK222.out); replace BK223 := Aside0.mk (blk_drew BK223.out); replace BK227 := Aside0.mk (blk_drew BK227.out); replace BK235 := Aside0.mk (blk_drew BK235.out); replace HB := Aside0.mk (below_drew1 HB.out)
     refine start_ (n := 7) (S := fun w' => w'.cell? ⟨gb235, 0, none⟩ = some (.int .u64 t232) ∧ w'.cell? ⟨gb235, 1, none⟩ = some (.int .u64 t233) ∧ w'.cell? ⟨gb235, 2, none⟩ = some (.int .u64 t234) ∧ w'.cell? ⟨gb227, 0, none⟩ = some (.int .u64 t224) ∧ w'.cell? ⟨gb227, 1, none⟩ = some (.int .u64 t225) ∧ w'.cell? ⟨gb227, 2, none⟩ = some (.int .u64 t226) ∧ w'.cell? ⟨gb220, 0, none⟩ = some (.int .i64 a2_0) ∧ w'.cell? ⟨gb220, 1, none⟩ = some (.int .u64 a2_1) ∧ w'.cell? ⟨gb220, 2, none⟩ = some (.int .u64 a2_2) ∧ w'.cell? ⟨gb220, 3, none⟩ = some (.int .u64 a2_3) ∧ w'.cell? ⟨gb220, 4, none⟩ = some (.int .u64 a2_4)) (ds := []) #[false, false, false, false, false, false, false] (by kernel_rfl) rfl rfl ⟨(blk_cell BK235.out 0).trans rfl, (blk_cell BK235.out 1).trans rfl, (blk_cell BK235.out 2).trans rfl, (blk_cell BK227.out 0).trans rfl, (blk_cell BK227.out 1).trans rfl, (blk_cell BK227.out 2).trans rfl, (blk_cell BK220.out 0).trans rfl, (blk_cell BK220.out 1).trans rfl, (blk_cell BK220.out 2).trans rfl, (blk_cell BK220.out 3).trans rfl, (blk_cell BK220.out 4).trans rfl⟩ (fun hHeld => ?_)
     generalize w76.drew = w77 at BK220 BK221 BK222 BK223 BK227 BK235 HB hHeld ⊢
     refine pure_ (i := 2) (N := some 26) (v := ?_) (a' := ?_) #[false, false, true, false, false, false, false] rfl rfl (by kernel_rfl) (fun _ _ _ h => h) (Or.inl ⟨by rfl, ?_⟩) ?_ ?_
     rotate_left
     · intro w'
       go_simp
       with_reducible rfl
     rotate_left
     · simp only [Act.put, List.setIfInBounds_toArray, List.set_cons_zero, List.set_cons_succ, i64_w, i32_w]
       rfl
     refine take_ (i := 0) (N := some 24) (v := ?_) (a' := ?_) #[true, false, true, false, false, false, false] rfl rfl (by kernel_rfl) (fun _ _ _ h => h) (Or.inl ⟨by rfl, ?_⟩) hHeld ?_ ?_
     rotate_left
     · rintro w' ⟨s0, s1, s2, s3, s4, s5, s6, s7, s8, s9, s10⟩
       go_simp
       with_reducible rfl
     rotate_left
     · simp only [Act.put, List.setIfInBounds_toArray, List.set_cons_zero, List.set_cons_succ, i64_w, i32_w]
       rfl
     refine take_ (i := 1) (N := some 25) (v := ?_) (a' := ?_) #[true, true, true, false, false, false, false] rfl rfl (by kernel_rfl) (fun _ _ _ h => h) (Or.inl ⟨by rfl, ?_⟩) hHeld ?_ ?_
     rotate_left
     · rintro w' ⟨s0, s1, s2, s3, s4, s5, s6, s7, s8, s9, s10⟩
       go_simp
       with_reducible rfl
     rotate_left
     · simp only [Act.put, List.setIfInBounds_toArray, List.set_cons_zero, List.set_cons_succ, i64_w, i32_w]
       rfl
     refine take_ (i := 3) (N := some 27) (v := ?_) (a' := ?_) #[true, true, true, true, false, false, false] rfl rfl (by kernel_rfl) (fun _ _ _ h => h) (Or.inl ⟨by rfl, ?_⟩) hHeld ?_ ?_
     rotate_left
     · rintro w' ⟨s0, s1, s2, s3, s4, s5, s6, s7, s8, s9, s10⟩
       go_simp
       with_reducible rfl
     rotate_left
     · simp only [Act.put, List.setIfInBounds_toArray, List.set_cons_zero, List.set_cons_succ, i64_w, i32_w]
       rfl
     refine one_ (i := 4) (N := some 28) #[true, true, true, true, true, false, false] rfl rfl (by kernel_rfl) (by decide) (fun K hK => ?_)
     refine ge Try.func40 #[.int .u64 a2_2] ?_
     with_reducible refine (audit_of.calls a2_2 t236 t237 t238 _ A38.out).mono ?_
     rintro e w78 ⟨rfl, hb⟩
     refine ⟨_, rfl, ?_⟩
     replace BK220 := bb BK220 hb; replace BK221 := bb BK221 hb; replace BK222 := bb BK222 hb; replace BK223 := bb BK223 hb; replace BK227 := bb BK227 hb; replace BK235 := bb BK235 hb; replace HB := bs HB hb; (try clear hb); (try clear hb2); (try clear hk); (try clear hi)
     refine hK.out _ _ ⟨(blk_cell BK235.out 0).trans rfl, (blk_cell BK235.out 1).trans rfl, (blk_cell BK235.out 2).trans rfl, (blk_cell BK227.out 0).trans rfl, (blk_cell BK227.out 1).trans rfl, (blk_cell BK227.out 2).trans rfl, (blk_cell BK220.out 0).trans rfl, (blk_cell BK220.out 1).trans rfl, (blk_cell BK220.out 2).trans rfl, (blk_cell BK220.out 3).trans rfl, (blk_cell BK220.out 4).trans rfl⟩ (fun hHeld => ?_)
     clear hK K
     refine norm_ (a' := ?_) ?_ ?_
     rotate_left
     · show Act.put _ (some 28) _ = _
       simp only [Act.put, List.setIfInBounds_toArray, List.set_cons_zero, List.set_cons_succ, i64_w, i32_w]
       rfl
     refine one_ (i := 5) (N := some 29) #[true, true, true, true, true, true, false] rfl rfl (by kernel_rfl) (by decide) (fun K hK => ?_)
     refine ge Try.func52 #[.agg #[.int .u64 t224, .int .u64 t225, .int .u64 t226], .agg #[.int .u64 t236, .int .u64 t237, .int .u64 t238]] ?_
     with_reducible refine (audit_plus.calls t224 t225 t226 t236 t237 t238 t239 t240 t241 _ A39.out).mono ?_
     rintro e w79 ⟨rfl, hb⟩
     refine ⟨_, rfl, ?_⟩
     replace BK220 := bb BK220 hb; replace BK221 := bb BK221 hb; replace BK222 := bb BK222 hb; replace BK223 := bb BK223 hb; replace BK227 := bb BK227 hb; replace BK235 := bb BK235 hb; replace HB := bs HB hb; (try clear hb); (try clear hb2); (try clear hk); (try clear hi)
     refine hK.out _ _ ⟨(blk_cell BK235.out 0).trans rfl, (blk_cell BK235.out 1).trans rfl, (blk_cell BK235.out 2).trans rfl, (blk_cell BK227.out 0).trans rfl, (blk_cell BK227.out 1).trans rfl, (blk_cell BK227.out 2).trans rfl, (blk_cell BK220.out 0).trans rfl, (blk_cell BK220.out 1).trans rfl, (blk_cell BK220.out 2).trans rfl, (blk_cell BK220.out 3).trans rfl, (blk_cell BK220.out 4).trans rfl⟩ (fun hHeld => ?_)
     clear hK K
     refine norm_ (a' := ?_) ?_ ?_
     rotate_left
     · show Act.put _ (some 29) _ = _
       simp only [Act.put, List.setIfInBounds_toArray, List.set_cons_zero, List.set_cons_succ, i64_w, i32_w]
       rfl
     refine one_ (i := 6) (N := some 30) #[true, true, true, true, true, true, true] rfl rfl (by kernel_rfl) (by decide) (fun K hK => ?_)
     refine ge Try.func51 #[.agg #[.int .u64 t232, .int .u64 t233, .int .u64 t234], .agg #[.int .u64 t239, .int .u64 t240, .int .u64 t241]] ?_
     with_reducible refine (audit_above.calls t232 t233 t234 t239 t240 t241 false _ A40.out).mono ?_
     rintro e w80 ⟨rfl, hb⟩
     refine ⟨_, rfl, ?_⟩
     replace BK220 := bb BK220 hb; replace BK221 := bb BK221 hb; replace BK222 := bb BK222 hb; replace BK223 := bb BK223 hb; replace BK227 := bb BK227 hb; replace BK235 := bb BK235 hb; replace HB := bs HB hb; (try clear hb); (try clear hb2); (try clear hk); (try clear hi)
     refine hK.out _ _ ⟨(blk_cell BK235.out 0).trans rfl, (blk_cell BK235.out 1).trans rfl, (blk_cell BK235.out 2).trans rfl, (blk_cell BK227.out 0).trans rfl, (blk_cell BK227.out 1).trans rfl, (blk_cell BK227.out 2).trans rfl, (blk_cell BK220.out 0).trans rfl, (blk_cell BK220.out 1).trans rfl, (blk_cell BK220.out 2).trans rfl, (blk_cell BK220.out 3).trans rfl, (blk_cell BK220.out 4).trans rfl⟩ (fun hHeld => ?_)
     clear hK K
     refine norm_ (a' := ?_) ?_ ?_
     rotate_left
     · show Act.put _ (some 30) _ = _
       simp only [Act.put, List.setIfInBounds_toArray, List.set_cons_zero, List.set_cons_succ, i64_w, i32_w]
       rfl
     refine done_ (by kernel_rfl) ?_
     try go_wp2
     replace BK220 := Aside0.mk (blk_drew BK220.out); replace BK221 := Aside0.mk (blk_drew BK221.out); replace BK222 := Aside0.mk (blk_drew BK222.out); replace BK223 := Aside0.mk (blk_drew BK223.out); replace BK227 := Aside0.mk (blk_drew BK227.out); replace BK235 := Aside0.mk (blk_drew BK235.out); replace HB := Aside0.mk (below_drew1 HB.out)
     refine start_ (n := 7) (S := fun w' => w'.cell? ⟨gb235, 0, none⟩ = some (.int .u64 t232) ∧ w'.cell? ⟨gb235, 1, none⟩ = some (.int .u64 t233) ∧ w'.cell? ⟨gb235, 2, none⟩ = some (.int .u64 t234) ∧ w'.cell? ⟨gb220, 0, none⟩ = some (.int .i64 a2_0) ∧ w'.cell? ⟨gb220, 1, none⟩ = some (.int .u64 a2_1) ∧ w'.cell? ⟨gb220, 2, none⟩ = some (.int .u64 a2_2) ∧ w'.cell? ⟨gb220, 3, none⟩ = some (.int .u64 a2_3) ∧ w'.cell? ⟨gb220, 4, none⟩ = some (.int .u64 a2_4)) (ds := []) #[false, false, false, false, false, false, false] (by kernel_rfl) rfl rfl ⟨(blk_cell BK235.out 0).trans rfl, (blk_cell BK235.out 1).trans rfl, (blk_cell BK235.out 2).trans rfl, (blk_cell BK220.out 0).trans rfl, (blk_cell BK220.out 1).trans rfl, (blk_cell BK220.out 2).trans rfl, (blk_cell BK220.out 3).trans rfl, (blk_cell BK220.out 4).trans rfl⟩ (fun hHeld => ?_)
     generalize w80.drew = w81 at BK220 BK221 BK222 BK223 BK227 BK235 HB hHeld ⊢
     refine pure_ (i := 1) (N := some 33) (v := ?_) (a' := ?_) #[false, true, false, false, false, false, false] rfl rfl (by kernel_rfl) (fun _ _ _ h => h) (Or.inl ⟨by rfl, ?_⟩) ?_ ?_
     rotate_left
     · intro w'
       go_simp
       with_reducible rfl
     rotate_left
     · simp only [Act.put, List.setIfInBounds_toArray, List.set_cons_zero, List.set_cons_succ, i64_w, i32_w]
       rfl
     refine take_ (i := 0) (N := some 32) (v := ?_) (a' := ?_) #[true, true, false, false, false, false, false] rfl rfl (by kernel_rfl) (fun _ _ _ h => h) (Or.inl ⟨by rfl, ?_⟩) hHeld ?_ ?_
     rotate_left
     · rintro w' ⟨s0, s1, s2, s3, s4, s5, s6, s7⟩
       go_simp
       with_reducible rfl
     rotate_left
     · simp only [Act.put, List.setIfInBounds_toArray, List.set_cons_zero, List.set_cons_succ, i64_w, i32_w]
       rfl
     refine take_ (i := 2) (N := some 34) (v := ?_) (a' := ?_) #[true, true, true, false, false, false, false] rfl rfl (by kernel_rfl) (fun _ _ _ h => h) (Or.inl ⟨by rfl, ?_⟩) hHeld ?_ ?_
     rotate_left
     · rintro w' ⟨s0, s1, s2, s3, s4, s5, s6, s7⟩
       go_simp
       with_reducible rfl
     rotate_left
     · simp only [Act.put, List.setIfInBounds_toArray, List.set_cons_zero, List.set_cons_succ, i64_w, i32_w]
       rfl
     refine one_ (i := 3) (N := some 35) #[true, true, true, true, false, false, false] rfl rfl (by kernel_rfl) (by decide) (fun K hK => ?_)
     refine ge Try.func40 #[.int .u64 a2_1] ?_
     with_reducible refine (audit_of.calls a2_1 t243 t244 t245 _ A66.out).mono ?_
     rintro e w82 ⟨rfl, hb⟩
     refine ⟨_, rfl, ?_⟩
     replace BK220 := bb BK220 hb; replace BK221 := bb BK221 hb; replace BK222 := bb BK222 hb; replace BK223 := bb BK223 hb; replace BK227 := bb BK227 hb; replace BK235 := bb BK235 hb; replace HB := bs HB hb; (try clear hb); (try clear hb2); (try clear hk); (try clear hi)
     refine hK.out _ _ ⟨(blk_cell BK235.out 0).trans rfl, (blk_cell BK235.out 1).trans rfl, (blk_cell BK235.out 2).trans rfl, (blk_cell BK220.out 0).trans rfl, (blk_cell BK220.out 1).trans rfl, (blk_cell BK220.out 2).trans rfl, (blk_cell BK220.out 3).trans rfl, (blk_cell BK220.out 4).trans rfl⟩ (fun hHeld => ?_)
     clear hK K
     refine norm_ (a' := ?_) ?_ ?_
     rotate_left
     · show Act.put _ (some 35) _ = _
       simp only [Act.put, List.setIfInBounds_toArray, List.set_cons_zero, List.set_cons_succ, i64_w, i32_w]
       rfl
     refine one_ (i := 4) (N := some 36) #[true, true, true, true, true, false, false] rfl rfl (by kernel_rfl) (by decide) (fun K hK => ?_)
     refine ge Try.func52 #[.agg #[.int .u64 t232, .int .u64 t233, .int .u64 t234], .agg #[.int .u64 t243, .int .u64 t244, .int .u64 t245]] ?_
     with_reducible refine (audit_plus.calls t232 t233 t234 t243 t244 t245 t246 t247 t248 _ A67.out).mono ?_
     rintro e w83 ⟨rfl, hb⟩
     refine ⟨_, rfl, ?_⟩
     replace BK220 := bb BK220 hb; replace BK221 := bb BK221 hb; replace BK222 := bb BK222 hb; replace BK223 := bb BK223 hb; replace BK227 := bb BK227 hb; replace BK235 := bb BK235 hb; replace HB := bs HB hb; (try clear hb); (try clear hb2); (try clear hk); (try clear hi)
     refine hK.out _ _ ⟨(blk_cell BK235.out 0).trans rfl, (blk_cell BK235.out 1).trans rfl, (blk_cell BK235.out 2).trans rfl, (blk_cell BK220.out 0).trans rfl, (blk_cell BK220.out 1).trans rfl, (blk_cell BK220.out 2).trans rfl, (blk_cell BK220.out 3).trans rfl, (blk_cell BK220.out 4).trans rfl⟩ (fun hHeld => ?_)
     clear hK K
     refine norm_ (a' := ?_) ?_ ?_
     rotate_left
     · show Act.put _ (some 36) _ = _
       simp only [Act.put, List.setIfInBounds_toArray, List.set_cons_zero, List.set_cons_succ, i64_w, i32_w]
       rfl
     refine one_ (i := 5) (N := none) #[true, true, true, true, true, true, false] rfl rfl (by kernel_rfl) (by decide) (fun K hK => ?_)
     have hs84 : w83.cell? ⟨gb223, 0, none⟩ = some (.int .u64 0) := (blk_cell BK223.out 0).trans rfl
     have hfs84 := blk_frozen BK223.out 0; have hns84_0 := NB220_223.out; have hns84_1 := NB221_223.out; have hns84_2 := NB222_223.out; have hns84_4 := NB227_223.out; have hns84_5 := NB235_223.out; have hms84_0 := NB223_220.out; have hms84_1 := NB223_221.out; have hms84_2 := NB223_222.out; have hms84_4 := NB223_227.out; have hms84_5 := NB223_235.out
     have hs85 : w83.cell? ⟨gb223, 1, none⟩ = some (.int .u64 0) := (blk_cell BK223.out 1).trans rfl
     have hfs85 := blk_frozen BK223.out 1; have hns85_0 := NB220_223.out; have hns85_1 := NB221_223.out; have hns85_2 := NB222_223.out; have hns85_4 := NB227_223.out; have hns85_5 := NB235_223.out; have hms85_0 := NB223_220.out; have hms85_1 := NB223_221.out; have hms85_2 := NB223_222.out; have hms85_4 := NB223_227.out; have hms85_5 := NB223_235.out
     have hs86 : w83.cell? ⟨gb223, 2, none⟩ = some (.int .u64 0) := (blk_cell BK223.out 2).trans rfl
     have hfs86 := blk_frozen BK223.out 2; have hns86_0 := NB220_223.out; have hns86_1 := NB221_223.out; have hns86_2 := NB222_223.out; have hns86_4 := NB227_223.out; have hns86_5 := NB235_223.out; have hms86_0 := NB223_220.out; have hms86_1 := NB223_221.out; have hms86_2 := NB223_222.out; have hms86_4 := NB223_227.out; have hms86_5 := NB223_235.out
     refine skip_ (w1 := ?_) (by rfl) rfl ?_ ?_
     rotate_left
     · go_simp
       rfl
     refine hK.out _ _ ⟨((cell_far (p := ⟨gb223, _, none⟩) NB235_223.out _).trans (((cell_far (p := ⟨gb223, _, none⟩) NB235_223.out _).trans (((cell_far (p := ⟨gb223, _, none⟩) NB235_223.out _).trans (hHeld.1)))))), ((cell_far (p := ⟨gb223, _, none⟩) NB235_223.out _).trans (((cell_far (p := ⟨gb223, _, none⟩) NB235_223.out _).trans (((cell_far (p := ⟨gb223, _, none⟩) NB235_223.out _).trans (hHeld.2.1)))))), ((cell_far (p := ⟨gb223, _, none⟩) NB235_223.out _).trans (((cell_far (p := ⟨gb223, _, none⟩) NB235_223.out _).trans (((cell_far (p := ⟨gb223, _, none⟩) NB235_223.out _).trans (hHeld.2.2.1)))))), ((cell_far (p := ⟨gb223, _, none⟩) NB220_223.out _).trans (((cell_far (p := ⟨gb223, _, none⟩) NB220_223.out _).trans (((cell_far (p := ⟨gb223, _, none⟩) NB220_223.out _).trans (hHeld.2.2.2.1)))))), ((cell_far (p := ⟨gb223, _, none⟩) NB220_223.out _).trans (((cell_far (p := ⟨gb223, _, none⟩) NB220_223.out _).trans (((cell_far (p := ⟨gb223, _, none⟩) NB220_223.out _).trans (hHeld.2.2.2.2.1)))))), ((cell_far (p := ⟨gb223, _, none⟩) NB220_223.out _).trans (((cell_far (p := ⟨gb223, _, none⟩) NB220_223.out _).trans (((cell_far (p := ⟨gb223, _, none⟩) NB220_223.out _).trans (hHeld.2.2.2.2.2.1)))))), ((cell_far (p := ⟨gb223, _, none⟩) NB220_223.out _).trans (((cell_far (p := ⟨gb223, _, none⟩) NB220_223.out _).trans (((cell_far (p := ⟨gb223, _, none⟩) NB220_223.out _).trans (hHeld.2.2.2.2.2.2.1)))))), ((cell_far (p := ⟨gb223, _, none⟩) NB220_223.out _).trans (((cell_far (p := ⟨gb223, _, none⟩) NB220_223.out _).trans (((cell_far (p := ⟨gb223, _, none⟩) NB220_223.out _).trans (hHeld.2.2.2.2.2.2.2))))))⟩ (fun hHeld => ?_)
     clear hK K
     refine pure_ (i := 6) (N := some 6) (v := ?_) (a' := ?_) #[true, true, true, true, true, true, true] rfl rfl (by kernel_rfl) (fun _ _ _ h => h) (Or.inl ⟨by rfl, ?_⟩) ?_ ?_
     rotate_left
     · intro w'
       go_simp
       with_reducible rfl
     rotate_left
     · simp only [Act.put, List.setIfInBounds_toArray, List.set_cons_zero, List.set_cons_succ, i64_w, i32_w]
       rfl
     refine done_ (by kernel_rfl) ?_
     try go_wp2
     refine bodyPost_ret (results_ct rfl _ _ gb223 76 #[.int .u64 t246, .int .u64 t247, .int .u64 t248] (0, 0) _ rfl (bk BK223) Try.underlying76 rfl (by kernel_rfl)) rfl ?_
     exact ⟨re, bw HB⟩

end Go.Proofs.Ytdoifmefhofnnaa.D
