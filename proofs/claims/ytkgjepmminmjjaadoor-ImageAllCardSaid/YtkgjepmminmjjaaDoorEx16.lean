/- Written by the session's own program hyb.py: what functions of the program compute; Lean checks it. -/
import Derived.Test.YtkgjepmminmjjaaDoorEx0
import Derived.Laws.BitsAllLaws
import Derived.Laws.CopyOwn
import Derived.Test.YtkgjepmminmjjaaDoorWErr
namespace Go.Proofs.YtkgjepmminmjjaaDoor.E
open Go.RowKit Go.Proofs.YtkgjepmminmjjaaDoorW.PrintWords Go.Proofs.YtkgjepmminmjjaaDoorW.PrintLast Go.Proofs.YtkgjepmminmjjaaDoorW.PrintMore Go.Proofs.YtkgjepmminmjjaaDoorW.PrintShort
attribute [local go_sem] run_Add64 run_Sub64
attribute [local go_sem] max2_int min2_int max_two min_two max_three min_three max_four min_four   -- for this text's walks alone
set_option linter.unusedVariables false
set_option linter.unusedSimpArgs false
/-! ### pack_put: function 60 -/
-- NEEDSLIB Derived.Laws.CopyOwn
/-- The lowest n bytes of x, the lowest first. -/
def putN : Nat → Int → List Int
  | 0, _ => []
  | n + 1, x => x % 256 :: putN n (x / 256)
theorem putN_length : ∀ (n : Nat) (x : Int), (putN n x).length = n
  | 0, _ => rfl
  | n + 1, x => by simp [putN, putN_length n]
def pack_put.f (l0 : List Int) (a1 a2 : Int) : Option (List Int) := if 0 ≤ a1 then (if 0 ≤ a2 then (if (l0.length : Int) + a2 ≤ 140737488355328 then some (l0 ++ putN a2.toNat a1) else none) else none) else none
theorem own_copied {W : World} {base g n m : Nat} {cur cs : List Value} (hb : base ≤ g) (hg : W.heap[g]? = some (.cells (splice cur 0 cs).toArray 5 (0, 0))) (hm : cur.length = m) (hn : cs.length = n) (hnm : n ≤ m) (hx : m ≤ maxLen) : W.ownsRow base 5 1 (.slice (some ⟨g, 0, none⟩) n m) n cs := by
  refine ⟨by omega, .inr ⟨g, m, _, rfl, hb, hg, hnm, hx, ?_, ?_⟩⟩
  · simp only [splice, List.size_toArray, List.length_append, List.length_take, List.length_drop]; omega
  · simp [splice, hn]
    try (rw [List.take_append_of_le_length (by omega), ← hn, List.take_length])
theorem copy_src {w W : World} {A0 : Option Addr} {l0 : List Int} (HR : ReadsInt w .u8 A0 l0.length l0) (hb : Below w.heap.size w W) (g : Addr) : 0 < (nums .u8 l0).length → some g = some g ∧ ∃ ad, A0 = some ad ∧ ∀ (j : Nat) v, (nums .u8 l0)[j]? = some v → W.cell? (ad.add j) = some v := by
  intro hp
  obtain ⟨ad, e, hc⟩ := HR.2.2 (by simpa [nums] using hp)
  refine ⟨rfl, ad, e, fun j v hj => ?_⟩
  have hj2 : j < l0.length := by
    have := (List.getElem?_eq_some_iff.1 hj).1
    simpa [nums] using this
  have e2 : v = .int .u8 (l0.getD j 0) := by
    simp [nums, List.getElem?_eq_getElem hj2] at hj
    simp [← hj, List.getD_eq_getElem?_getD, List.getElem?_eq_getElem hj2]
  rw [e2]
  exact pw_cell_below hb (hc j hj2)
set_option maxHeartbeats 1600000 in
set_option maxRecDepth 100000 in
theorem pack_put.calls (A0 : Option Addr) (c0 : Nat) (l0 : List Int) (a1 a2 : Int) (r : List Int) (w : World) (hr0 : Kd.C (Kd.int .u8) w A0 l0.length l0) (hc0 : l0.length ≤ c0) (h : pack_put.f l0 a1 a2 = some r) :
 Calls Tryd.prog 60 #[.slice A0 l0.length c0, .int .u64 a1, .int .i64 a2] w fun e w' => ∃ v0_ : Value, e = .returned v0_ ∧ Kd.R (Kd.int .u8) 5 w' w.heap.size (fun _ => True) v0_ r ∧ Below w.heap.size w w' := by
 unfold pack_put.f at h
 by_cases h1 : 0 ≤ a1
 rotate_left
 · rw [if_neg h1] at h
   cases h
 rw [if_pos h1] at h
 by_cases h2 : 0 ≤ a2
 rotate_left
 · rw [if_neg h2] at h
   cases h
 rw [if_pos h2] at h
 by_cases h3 : (l0.length : Int) + a2 ≤ 140737488355328
 rotate_left
 · rw [if_neg h3] at h
   cases h
 rw [if_pos h3] at h
 obtain rfl := Option.some.inj h
 obtain ⟨N, rfl⟩ := Int.eq_ofNat_of_zero_le h2
 rw [Int.toNat_natCast]
 have HR := Aside0.mk (Kd.reads_of_C (enc := Value.int .u8) (d := (0 : Int)) (h1 := fun _ => rfl) hr0)
 have hmk : ∀ W : World, (Instr.makeSlice 33 (.int .i64 (l0.length : Int)) (.int .i64 ((l0.length : Int) + (N : Int)))).run Tryd.prog W = .ok (.slice (some ⟨W.heap.size, 0, none⟩) l0.length (l0.length + N)) (W.alloc (.cells (madeCells #[.int .u8 0] (l0.length + N)) 5)) := by
  intro W
  have hi : ∃ i, Tryd.prog.info? 5 = some i ∧ i.zero = some (.int .u8 0) ∧ i.size = 1 ∧ i.bytes = 1 := by
   have h : (Tryd.prog.info? 5).map (fun i => (i.zero, i.size, i.bytes)) = some (some (.int .u8 0), 1, 1) := by kernel_rfl
   obtain ⟨i, h1, h2⟩ := Option.map_eq_some_iff.1 h
   simp only [Prod.mk.injEq] at h2
   exact ⟨i, h1, h2.1, h2.2.1, h2.2.2⟩
  obtain ⟨i, hi, hz, hs, hb⟩ := hi
  have := run_make (P := Tryd.prog) W 33 5 i (.int .u8 0) Tryd.underlying33 hi hz .i64 .i64 (l0.length : Int) ((l0.length : Int) + (N : Int)) (by omega) (by omega) (by rw [hb]; omega) (by omega)
  rw [hs, Nat.mul_one, Int.toNat_natCast, show ((l0.length : Int) + (N : Int)).toNat = l0.length + N by omega] at this
  exact this
 clear h hr0 h2
 go_enter Tryd.func60, Tryd.ntmps60
 go_wp2_with (first | ((with_reducible refine gate_dst (N := 17) rfl ?_); refine wpList_copy_splice rfl (.tmp 15) (.tmp 16) 33 33 rfl 5 Tryd.underlying33 (by kernel_rfl) (some ⟨w.heap.size, 0, none⟩) A0 l0.length (l0.length + N) l0.length c0 rfl rfl w.heap.size 0 (madeCells #[.int .u8 0] (l0.length + N)).toList 5 (by simpa using heap_alloc_new w _) (nums .u8 l0) (by simp [nums]) ?hp (by simp [nums, size_madeCells]) (by intro v hv; obtain ⟨x, _, rfl⟩ := List.mem_map.1 hv; rfl) w.heap.size w (below_alloc (Below.refl _ _) _) (Nat.le_refl _) ?_; (case hp => exact copy_src HR.out (below_alloc (Below.refl _ _) _) _); intro w1 hc hb1; have HO := Aside0.mk (own_copied (base := w.heap.size) (n := l0.length) (m := l0.length + N) (Nat.le_refl _) hc.out (by simp [size_madeCells]) (by simp [nums]) (by omega) (by simp only [maxLen]; omega)); have HB := Aside0.mk hb1; clear hc hb1))
 have h0 := HB.out.size
 go_loopw [1, 7, 19] (fun v1 v7 v19 W => ∃ (j : Nat) (x : Int) (xs : List Int), Aside0 (j ≤ N ∧ xs ++ putN (N - j) x = l0 ++ putN N a1 ∧ xs.length = l0.length + j ∧ 0 ≤ x) ∧ v1 = .int .u64 x ∧ v19 = .int .i64 (j : Int) ∧ Aside0 (W.ownsRow w.heap.size 5 1 v7 xs.length (nums .u8 xs)) ∧ Aside0 (Below w.heap.size w W)) (fun _ _ v19 _ => N - (intOf v19).toNat)
 case atStart => exact ⟨0, a1, l0, ⟨Nat.zero_le _, rfl, rfl, h1⟩, rfl, rfl, HO, HB⟩
 case round =>
  clear HO HB h0 h1
  obtain ⟨j, x, xs, hj, rfl, rfl, HO, HB⟩ := hrel
  obtain ⟨h1, h2, h4, h5⟩ := hj.out
  have H2 := Aside0.mk h2; have H4 := Aside0.mk h4; clear hj h2 h4
  by_cases hlt : j < N
  · go_wp2_with (first | ((with_reducible refine gate_builtin (b := .append) (xs := #[.tmp 21, .tmp 24]) rfl ?_); at_builtin; refine print_append_num (w0 := w) w.heap.size rfl (.tmp 21) (.tmp 24) 33 5 .u8 1 rfl Tryd.underlying33 (by kernel_rfl) (by decide) _ xs (x % 256) rfl rfl HO.out HB.out HB.out.size (by have := H4.out; omega) ?_; intro v1 w2 hown hb2 _ _; have HO2 := Aside0.mk hown; have HB2 := Aside0.mk hb2; clear hown hb2))
    go_roundw
    case measure => simp [intOf]; omega
    case rel =>
     refine ⟨j + 1, x / 256, xs ++ [x % 256], ⟨by omega, ?_, ?_, by omega⟩, rfl, by simp, HO2, HB2⟩
     · rw [← H2.out, show N - j = (N - (j + 1)) + 1 by omega]
       simp [putN]
     · have := H4.out
       simp
       omega
  · have e : j = N := by omega
    subst e
    go_wp2
    go_ret
    refine ⟨_, rfl, ?_, HB.out⟩
    have e2 := H2.out
    rw [Nat.sub_self] at e2
    simp only [putN, List.append_nil] at e2
    rw [← e2]
    exact Kd.R_of_own HO.out (fun _ _ => trivial)
/-! ### pack_PutU64: function 35 -/
def pack_PutU64.f (l0 : List Int) (a1 : Int) : Option (List Int) := (pack_put.f l0 a1 8).bind fun t216 => (some t216)
set_option maxHeartbeats 8000000 in
set_option maxRecDepth 100000 in
theorem pack_PutU64.calls (A0 : Option Addr) (c0 : Nat) (l0 : List Int) (a1 : Int) (r : List Int) (w : World) (hr0 : Kd.C (Kd.int .u8) w A0 l0.length l0) (hc0 : l0.length ≤ c0) (h : pack_PutU64.f l0 a1 = some r) :
 Calls Tryd.prog 35 #[.slice A0 l0.length c0, .int .u64 a1] w fun e w' => ∃ v0_ : Value, e = .returned (v0_) ∧ Kd.R (Kd.int .u8) 5 w' w.heap.size (fun _ => True) v0_ r ∧ Below w.heap.size w w' := by
 have HR0 := Aside0.mk hr0; have HC0 := Aside0.mk hc0; clear hr0 hc0; have HB := Aside0.mk (Below.refl w.heap.size w)
 have H : ((pack_put.f l0 a1 8).bind fun t216 => (some t216)) = some r := h
 clear h; replace H := Option.bind_eq_some_iff.mp H
 obtain ⟨t216, A30, H⟩ := H
 replace H : (some t216) = some r := H
 have A3 := Aside0.mk A30; clear A30
 obtain rfl := Option.some.inj H
 go_enter Tryd.func35, Tryd.ntmps35
 go_wp2_with (first | ((with_reducible refine gate_callee (f := 60) rfl ?_); refine gl (some 7) Tryd.func60 #[.slice A0 l0.length c0, .int .u64 a1, .int .i64 8] ?_; (with_reducible refine (pack_put.calls _ _ l0 a1 8 t216 _ ?side1 ?side2 A3.out).mono ?_); (case side1 => exact co HR0.out); (case side2 => exact HC0.out); rintro e w4 ⟨v217, rfl, ho0, hb⟩; refine ⟨_, rfl, ?_⟩; have HO218 := Aside0.mk (Kd.R_lower ho0 (below_size (bw HB))); replace HB := bs HB hb; (try clear hb); (try clear hb2); (try clear hk); (try clear hi); (try clear ho0)))
 go_ret
 exact ⟨_, re, by (with_reducible repeat (first | apply Kd.R_alloc | apply Kd.R_drewN | apply Kd.R_drew)); exact HO218.out, bw HB⟩
/-! ### pack_PutText: function 36 -/
def pack_PutText.f (l0 : List Int) (a1 : ByteArray) : Option (List Int × Int) := if (a1.size : Int) > 65535 then (some (([] : List Int), 4)) else ((pack_put.f l0 (IntKind.u64.wrap ((a1.size : Int))) 2).bind fun t219 => (if t219.length + a1.size < 140737488355328 then (some ((t219 ++ bytesOf a1), 0)) else (none)))
set_option maxHeartbeats 8000000 in
set_option maxRecDepth 100000 in
theorem pack_PutText.calls [Errs] (A0 : Option Addr) (c0 : Nat) (l0 : List Int) (a1 : ByteArray) (r1 : List Int) (r2 : Int) (w : World) (hE : Sent w) (hr0 : Kd.C (Kd.int .u8) w A0 l0.length l0) (hc0 : l0.length ≤ c0) (h : pack_PutText.f l0 a1 = some (r1, r2)) :
 Calls Tryd.prog 36 #[.slice A0 l0.length c0, .string a1] w fun e w' => ∃ v0_ : Value, e = .returned (.tuple #[v0_, errW r2]) ∧ Kd.R (Kd.int .u8) 5 w' w.heap.size (fun _ => True) v0_ r1 ∧ Below w.heap.size w w' := by
 have HR0 := Aside0.mk hr0; have HC0 := Aside0.mk hc0; clear hr0 hc0; have HERR := Aside0.mk hE; clear hE; have HB := Aside0.mk (Below.refl w.heap.size w)
 have H : (if (a1.size : Int) > 65535 then (some (([] : List Int), 4)) else ((pack_put.f l0 (IntKind.u64.wrap ((a1.size : Int))) 2).bind fun t219 => (if t219.length + a1.size < 140737488355328 then (some ((t219 ++ bytesOf a1), 0)) else (none)))) = some (r1, r2) := h
 clear h
 by_cases c3 : (a1.size : Int) > 65535
 · rw [if_pos c3] at H
   have c3b0 : decide (65535 < (a1.size : Int)) = true := decide_eq_true c3
   have c3b1 : decide (65535 < a1.size) = true := decide_eq_true (by omega)
   clear c3
   simp only [Option.some.injEq, Prod.mk.injEq] at H
   obtain ⟨rfl, rfl⟩ := H
   have hez4 : w.cell? ⟨4, 0, none⟩ = some (errW 4) := sent_cell 4 4 (HERR.out.below (bw HB)) (by decide) (by have := Errs.five; omega) rfl
   go_enter Tryd.func36, Tryd.ntmps36
   go_wp2
   repeat (go_quiet (fail); try go_wp2)
   go_ret2
   exact ⟨_, re, by first | exact Kd.R_nil _ _ _ _ _ | exact Kd.N_nil _ _ _ _ _ | exact Kd.V_nil _ _ _ _ _ | exact Kd.Q_nil _ _ _ _ _ | exact Kd.S_nil _ _ _ _ _, bw HB⟩
 · rw [if_neg c3] at H
   have c3b0 : decide (65535 < (a1.size : Int)) = false := decide_eq_false c3
   have c3b1 : decide (65535 < a1.size) = false := decide_eq_false (by omega)
   clear c3; replace H := Option.bind_eq_some_iff.mp H
   obtain ⟨t219, A50, H⟩ := H
   replace H : (if t219.length + a1.size < 140737488355328 then (some ((t219 ++ bytesOf a1), 0)) else (none)) = some (r1, r2) := H
   have A5 := Aside0.mk A50; clear A50
   by_cases c6 : t219.length + a1.size < 140737488355328
   · rw [if_pos c6] at H
     have LMc6 := Aside0.mk c6; clear c6
     obtain ⟨y222, hy222⟩ : ∃ y_ : List Int, y_ = (t219 ++ bytesOf a1) := ⟨_, rfl⟩
     replace H : (some (y222, 0)) = some (r1, r2) := by first | (rw [hy222]; with_reducible exact H) | (have H2_ := (Option.bind_some _ _).symm.trans H; rw [hy222]; with_reducible exact H2_) | (have H2_ := (Option.bind_some _ _).symm.trans H; with_reducible exact H2_) | with_reducible exact H | (rw [hy222]; exact H) | exact H
     have Ny222 := Aside0.mk hy222; clear hy222
     simp only [Option.some.injEq, Prod.mk.injEq] at H
     obtain ⟨rfl, rfl⟩ := H
     go_enter Tryd.func36, Tryd.ntmps36
     go_wp2_with (first | (go_at_call 60; (with_reducible refine (pack_put.calls _ _ l0 (IntKind.u64.wrap ((a1.size : Int))) 2 t219 _ ?side1 ?side2 A5.out).mono ?_); (case side1 => exact co HR0.out); (case side2 => exact HC0.out); rintro e w7 ⟨v220, rfl, ho0, hb⟩; have HO221 := Aside0.mk (Kd.R_lower ho0 (below_size (bw HB))); replace HB := bs HB hb; (try clear hb); (try clear hb2); (try clear hk); (try clear hi); (try clear ho0)) | (at_builtin; refine print_append_str (w0 := w) w.heap.size rfl (.tmp 14) _ 33 9 5 rfl Tryd.underlying33 Tryd.underlying9 info5 v220 t219 a1 rfl rfl ?aO ?aB ?aS ?aL ?_; (case aB => exact (bw HB)); (case aO => exact (Kd.own_of_R (ro HO221))); (case aS => exact (below_size (bw HB))); (case aL => have := LMc6.out; omega); intro v223 w8 ho0 hb hg; have ho := Kd.R_of_own (h1 := fun _ => rfl) (ok := fun _ => True) ho0 (fun _ _ => trivial); clear ho0; have hat := True.intro; rw [← Ny222.out] at ho; change Kd.R (Kd.int .u8) 5 w8 w.heap.size (fun _ => True) v223 y222 at ho; have n0_ := Aside0.mk (hb); have n1_ := Aside0.mk (ho); clear HB; clear HO221; have HB := n0_; have HO224 := n1_; clear n0_ n1_; clear ho hb hg hat))
     repeat (go_quiet (first | (go_at_call 60; (with_reducible refine (pack_put.calls _ _ l0 (IntKind.u64.wrap ((a1.size : Int))) 2 t219 _ ?side1 ?side2 A5.out).mono ?_); (case side1 => exact co HR0.out); (case side2 => exact HC0.out); rintro e w7 ⟨v220, rfl, ho0, hb⟩; have HO221 := Aside0.mk (Kd.R_lower ho0 (below_size (bw HB))); replace HB := bs HB hb; (try clear hb); (try clear hb2); (try clear hk); (try clear hi); (try clear ho0)) | (at_builtin; refine print_append_str (w0 := w) w.heap.size rfl (.tmp 14) _ 33 9 5 rfl Tryd.underlying33 Tryd.underlying9 info5 v220 t219 a1 rfl rfl ?aO ?aB ?aS ?aL ?_; (case aB => exact (bw HB)); (case aO => exact (Kd.own_of_R (ro HO221))); (case aS => exact (below_size (bw HB))); (case aL => have := LMc6.out; omega); intro v223 w8 ho0 hb hg; have ho := Kd.R_of_own (h1 := fun _ => rfl) (ok := fun _ => True) ho0 (fun _ _ => trivial); clear ho0; have hat := True.intro; rw [← Ny222.out] at ho; change Kd.R (Kd.int .u8) 5 w8 w.heap.size (fun _ => True) v223 y222 at ho; have n0_ := Aside0.mk (hb); have n1_ := Aside0.mk (ho); clear HB; clear HO221; have HB := n0_; have HO224 := n1_; clear n0_ n1_; clear ho hb hg hat)); try go_wp2_with (first | (go_at_call 60; (with_reducible refine (pack_put.calls _ _ l0 (IntKind.u64.wrap ((a1.size : Int))) 2 t219 _ ?side1 ?side2 A5.out).mono ?_); (case side1 => exact co HR0.out); (case side2 => exact HC0.out); rintro e w7 ⟨v220, rfl, ho0, hb⟩; have HO221 := Aside0.mk (Kd.R_lower ho0 (below_size (bw HB))); replace HB := bs HB hb; (try clear hb); (try clear hb2); (try clear hk); (try clear hi); (try clear ho0)) | (at_builtin; refine print_append_str (w0 := w) w.heap.size rfl (.tmp 14) _ 33 9 5 rfl Tryd.underlying33 Tryd.underlying9 info5 v220 t219 a1 rfl rfl ?aO ?aB ?aS ?aL ?_; (case aB => exact (bw HB)); (case aO => exact (Kd.own_of_R (ro HO221))); (case aS => exact (below_size (bw HB))); (case aL => have := LMc6.out; omega); intro v223 w8 ho0 hb hg; have ho := Kd.R_of_own (h1 := fun _ => rfl) (ok := fun _ => True) ho0 (fun _ _ => trivial); clear ho0; have hat := True.intro; rw [← Ny222.out] at ho; change Kd.R (Kd.int .u8) 5 w8 w.heap.size (fun _ => True) v223 y222 at ho; have n0_ := Aside0.mk (hb); have n1_ := Aside0.mk (ho); clear HB; clear HO221; have HB := n0_; have HO224 := n1_; clear n0_ n1_; clear ho hb hg hat)))
     go_ret2
     exact ⟨_, re, by (with_reducible repeat (first | apply Kd.R_alloc | apply Kd.R_drewN | apply Kd.R_drew)); exact HO224.out, bw HB⟩
   · rw [if_neg c6] at H
     exact absurd H (by simp)
/-! ### pack_PutU32: function 46 -/
def pack_PutU32.f (l0 : List Int) (a1 : Int) : Option (List Int) := (pack_put.f l0 (IntKind.u64.wrap (a1)) 4).bind fun t225 => (some t225)
set_option maxHeartbeats 8000000 in
set_option maxRecDepth 100000 in
theorem pack_PutU32.calls (A0 : Option Addr) (c0 : Nat) (l0 : List Int) (a1 : Int) (r : List Int) (w : World) (hr0 : Kd.C (Kd.int .u8) w A0 l0.length l0) (hc0 : l0.length ≤ c0) (h : pack_PutU32.f l0 a1 = some r) :
 Calls Tryd.prog 46 #[.slice A0 l0.length c0, .int .u32 a1] w fun e w' => ∃ v0_ : Value, e = .returned (v0_) ∧ Kd.R (Kd.int .u8) 5 w' w.heap.size (fun _ => True) v0_ r ∧ Below w.heap.size w w' := by
 have HR0 := Aside0.mk hr0; have HC0 := Aside0.mk hc0; clear hr0 hc0; have HB := Aside0.mk (Below.refl w.heap.size w)
 have H : ((pack_put.f l0 (IntKind.u64.wrap (a1)) 4).bind fun t225 => (some t225)) = some r := h
 clear h; replace H := Option.bind_eq_some_iff.mp H
 obtain ⟨t225, A30, H⟩ := H
 replace H : (some t225) = some r := H
 have A3 := Aside0.mk A30; clear A30
 obtain rfl := Option.some.inj H
 go_enter Tryd.func46, Tryd.ntmps46
 go_wp2_with (first | ((with_reducible refine gate_callee (f := 60) rfl ?_); refine gl (some 8) Tryd.func60 #[.slice A0 l0.length c0, .int .u64 (IntKind.u64.wrap (a1)), .int .i64 4] ?_; (with_reducible refine (pack_put.calls _ _ l0 (IntKind.u64.wrap (a1)) 4 t225 _ ?side1 ?side2 A3.out).mono ?_); (case side1 => exact co HR0.out); (case side2 => exact HC0.out); rintro e w4 ⟨v226, rfl, ho0, hb⟩; refine ⟨_, rfl, ?_⟩; have HO227 := Aside0.mk (Kd.R_lower ho0 (below_size (bw HB))); replace HB := bs HB hb; (try clear hb); (try clear hb2); (try clear hk); (try clear hi); (try clear ho0)))
 go_ret
 exact ⟨_, re, by (with_reducible repeat (first | apply Kd.R_alloc | apply Kd.R_drewN | apply Kd.R_drew)); exact HO227.out, bw HB⟩
/-! ### crc_Add: function 67 -/
-- NEEDSLIB Derived.Laws.BitsAllLaws
/-- Four steps at once, by the table; a byte; bytes. -/
def crc_Add.nib (x : Nat) : Nat := x / 16 ^^^ (tabL.getD (x % 16) 0).toNat
def crc_Add.byte (x c : Nat) : Nat := crc_Add.nib (crc_Add.nib (x ^^^ c))
def crc_Add.bytes (x : Nat) (l : List Int) : Nat := l.foldl (fun x c => crc_Add.byte x c.toNat) x
def crc_Add.f (a0 : Int) (l1 : List Int) : Option Int := if 0 ≤ a0 ∧ a0 < 4294967296 ∧ l1.length ≤ 4611686018427387904 ∧ l1.all (fun x => decide (0 ≤ x) && decide (x < 256)) = true then some ((4294967295 ^^^ crc_Add.bytes (4294967295 ^^^ a0.toNat) l1 : Nat) : Int) else none
theorem crc_Add.tab_lt (k : Nat) (h : k < 16) : 0 ≤ tabL.getD k 0 ∧ tabL.getD k 0 < 4294967296 := by
 have : ∀ k, k < 16 → 0 ≤ tabL.getD k 0 ∧ tabL.getD k 0 < 4294967296 := by decide +kernel
 exact this k h
theorem crc_Add.nib_lt {x : Nat} (h : x < 4294967296) : crc_Add.nib x < 4294967296 := by
 have := crc_Add.tab_lt (x % 16) (Nat.mod_lt _ (by decide))
 exact Nat.xor_lt_two_pow (n := 32) (by omega) (by omega)
/-- Go's step of four bits is 'nib'. -/
theorem crc_Add.step {x : Nat} (h : x < 4294967296) : Go.bits .xor .u32 ((x : Int) / 16) (tabL.getD (x % 16) 0) = ((crc_Add.nib x : Nat) : Int) := by
 have := crc_Add.tab_lt (x % 16) (Nat.mod_lt _ (by decide))
 have e : (x : Int) / 16 = ((x / 16 : Nat) : Int) := by omega
 have e2 : tabL.getD (x % 16) 0 = (((tabL.getD (x % 16) 0).toNat : Nat) : Int) := by omega
 rw [e, e2, u32_xor_nat _ _ (by omega) (by omega)]
 rfl
theorem crc_Add.low {x : Nat} (h : x < 4294967296) : Go.bits .and .u32 (x : Int) 15 = ((x % 16 : Nat) : Int) := by
 have := u32_and_nat x 15 h (by decide)
 rw [show ((15 : Nat) : Int) = 15 from rfl] at this
 rw [this, show (15 : Nat) = 2 ^ 4 - 1 from rfl, Nat.and_two_pow_sub_one_eq_mod]
theorem crc_Add.succ {i n : Nat} (h : i < n) (hn : n ≤ 4611686018427387904) : wrap64 ((i : Int) + 1) = ((i + 1 : Nat) : Int) := by unfold wrap64; omega
theorem crc_Add.mea {i n : Nat} (h : i < n) (hn : n ≤ 4611686018427387904) : n - (intOf (.int .i64 (wrap64 ((i : Int) + 1)))).toNat < n - (intOf (.int .i64 (i : Int))).toNat := by
 rw [crc_Add.succ h hn]
 simp only [intOf, Int.toNat_natCast]
 omega
set_option maxHeartbeats 4000000 in
set_option maxRecDepth 100000 in
theorem crc_Add.calls [Errs] (a0 : Int) (A1 : Option Addr) (c1 : Nat) (l1 : List Int) (r : Int) (w : World) (hE : Sent w) (hr1 : Kd.C (Kd.int .u8) w A1 l1.length l1) (hc1 : l1.length ≤ c1) (h : crc_Add.f a0 l1 = some r) :
 Calls Tryd.prog 67 #[.int .u32 a0, .slice A1 l1.length c1] w fun e w' => e = .returned (.int .u32 r) ∧ Below w.heap.size w w' := by
 unfold crc_Add.f at h
 split at h
 rotate_left
 · cases h
 rename_i hh
 obtain ⟨h0, h1, h2, h3⟩ := hh
 obtain rfl := Option.some.inj h
 obtain ⟨x0, rfl⟩ := Int.eq_ofNat_of_zero_le h0
 have hx0 : x0 < 4294967296 := by omega
 have HT : Aside0 (∀ k : Nat, k < 16 → w.cell? ⟨15, k, none⟩ = some (.int .u32 (tabL.getD k 0))) := ⟨hE.tabs⟩
 have HC := Aside0.mk hr1
 have HX : Aside0 (∀ x ∈ l1, 0 ≤ x ∧ x < 256) := ⟨fun x hx => by
  have := List.all_eq_true.1 h3 x hx
  simpa using this⟩
 have HL := Aside0.mk h2; have hu := Tryd.underlying33; have hu2 := Tryd.underlying127
 have sgu : IntKind.u32.signed = false := rfl
 have mxu : IntKind.u32.max = 4294967295 := rfl
 have hxr : Go.bits .xor .u32 4294967295 (x0 : Int) = ((4294967295 ^^^ x0 : Nat) : Int) := u32_xor_nat 4294967295 x0 (by decide) hx0
 clear hE hr1 hc1 h h0 h1 h2 h3
 rw [Int.toNat_natCast]
 go_enter Tryd.func67, Tryd.ntmps67
 go_wp2
 go_loopw [5, 12] (fun v5 v12 w' => ∃ (i : Nat) (x : Nat), v5 = .int .u32 x ∧ v12 = .int .i64 i ∧ Aside0 (i ≤ l1.length ∧ x < 4294967296 ∧ crc_Add.bytes x (l1.drop i) = crc_Add.bytes (4294967295 ^^^ x0) l1) ∧ w' = w) (fun _ v12 _ => (l1.length - (intOf v12).toNat))
 case atStart => exact ⟨0, 4294967295 ^^^ x0, rfl, rfl, ⟨Nat.zero_le _, Nat.xor_lt_two_pow (n := 32) (by decide) hx0, rfl⟩, rfl⟩
 case round =>
  obtain ⟨i, x, rfl, rfl, HI, rfl⟩ := hrel
  obtain ⟨hi, hx, hb⟩ := HI.out
  by_cases hlt : i < l1.length
  · obtain ⟨ad, eA, hrd⟩ := Kd.at_int HC.out (i : Int) (by omega) (by omega)
    cases eA
    rw [Int.toNat_natCast] at hrd
    obtain ⟨c, hc⟩ : ∃ c : Nat, rd l1 (i : Int) = (c : Int) ∧ c < 256 ∧ l1[i]'hlt = (c : Int) := by
     have e : rd l1 (i : Int) = l1[i] := by unfold rd; simp [List.getD_eq_getElem?_getD, List.getElem?_eq_getElem hlt]
     have := HX.out _ (List.getElem_mem hlt)
     exact ⟨(l1[i]).toNat, by rw [e]; omega, by omega, by omega⟩
    obtain ⟨hc1, hc2, hc3⟩ := hc
    rw [hc1] at hrd
    have hlt2 : (i : Int) < (l1.length : Int) := by omega
    have q0 : Go.bits .xor .u32 (x : Int) (c : Int) = ((x ^^^ c : Nat) : Int) := u32_xor_nat x c hx (by omega)
    have hy : x ^^^ c < 4294967296 := Nat.xor_lt_two_pow (n := 32) hx (by omega)
    obtain ⟨y, hy_⟩ : ∃ y, x ^^^ c = y := ⟨_, rfl⟩
    rw [hy_] at q0 hy
    have q1 := crc_Add.low hy; have q2 := crc_Add.step hy; have hz := crc_Add.nib_lt hy; have t1 := HT.out (y % 16) (Nat.mod_lt _ (by decide))
    obtain ⟨z, hz_⟩ : ∃ z, crc_Add.nib y = z := ⟨_, rfl⟩
    rw [hz_] at q2 hz
    have q3 := crc_Add.low hz; have q4 := crc_Add.step hz; have hv := crc_Add.nib_lt hz; have t2 := HT.out (z % 16) (Nat.mod_lt _ (by decide))
    obtain ⟨v, hv_⟩ : ∃ v, crc_Add.nib z = v := ⟨_, rfl⟩
    rw [hv_] at q4 hv
    have b1 : y % 16 < 16 := Nat.mod_lt _ (by decide)
    have b2 : z % 16 < 16 := Nat.mod_lt _ (by decide)
    have HY := Aside0.mk (And.intro hy_ (And.intro hz_ hv_))
    obtain ⟨T1, hT1⟩ : ∃ T, tabL.getD (y % 16) 0 = T := ⟨_, rfl⟩
    obtain ⟨T2, hT2⟩ : ∃ T, tabL.getD (z % 16) 0 = T := ⟨_, rfl⟩
    rw [hT1] at q2 t1
    rw [hT2] at q4 t2
    obtain ⟨y16, hy16⟩ : ∃ m, y % 16 = m := ⟨_, rfl⟩
    obtain ⟨z16, hz16⟩ : ∃ m, z % 16 = m := ⟨_, rfl⟩
    rw [hy16] at q1 t1 b1
    rw [hz16] at q3 t2 b2
    have b3 : (y16 : Int) < 16 := by omega
    have b4 : (z16 : Int) < 16 := by omega
    clear hT1 hT2 hy_ hz_ hv_ hy16 hz16 hc1
    go_wp2
    go_roundw
    case measure =>
     exact crc_Add.mea hlt HL.out
    case rel =>
     obtain ⟨e1, e2, e3⟩ := HY.out
     have hs := crc_Add.succ hlt HL.out
     refine ⟨i + 1, v, rfl, by rw [hs], ⟨hlt, hv, ?_⟩, ?_⟩
     rotate_left
     · trivial
     rw [← hb, List.drop_eq_getElem_cons hlt, hc3, ← e3, ← e2, ← e1]
     simp only [crc_Add.bytes, List.foldl_cons, crc_Add.byte, Int.toNat_natCast]
  · have hlt2 : ¬ (i : Int) < (l1.length : Int) := by omega
    have e : i = l1.length := by omega
    subst e
    rw [List.drop_length] at hb
    have hb2 : x = crc_Add.bytes (4294967295 ^^^ x0) l1 := hb
    have q5 : Go.bits .xor .u32 4294967295 (x : Int) = ((4294967295 ^^^ x : Nat) : Int) := u32_xor_nat 4294967295 x (by decide) hx
    go_wp2
    go_ret
    refine ⟨?_, Below.refl _ _⟩
    show Ending.returned (.int .u32 (Go.bits .xor .u32 4294967295 _)) = _
    rw [← hb2, q5]
/-! ### crc_Sum: function 47 -/
def crc_Sum.f (l0 : List Int) : Option (Int) := (crc_Add.f 0 l0).bind fun t228 => (some t228)
set_option maxHeartbeats 8000000 in
set_option maxRecDepth 100000 in
theorem crc_Sum.calls [Errs] (A0 : Option Addr) (c0 : Nat) (l0 : List Int) (r : Int) (w : World) (hE : Sent w) (hr0 : Kd.C (Kd.int .u8) w A0 l0.length l0) (hc0 : l0.length ≤ c0) (h : crc_Sum.f l0 = some r) :
 Calls Tryd.prog 47 #[.slice A0 l0.length c0] w fun e w' => e = .returned (.int .u32 r) ∧ Below w.heap.size w w' := by
 have HR0 := Aside0.mk hr0; have HC0 := Aside0.mk hc0; clear hr0 hc0; have HERR := Aside0.mk hE; clear hE; have HB := Aside0.mk (Below.refl w.heap.size w)
 have H : ((crc_Add.f 0 l0).bind fun t228 => (some t228)) = some r := h
 clear h; replace H := Option.bind_eq_some_iff.mp H
 obtain ⟨t228, A20, H⟩ := H
 replace H : (some t228) = some r := H
 have A2 := Aside0.mk A20; clear A20
 obtain rfl := Option.some.inj H
 go_enter Tryd.func47, Tryd.ntmps47
 go_wp2_with (first | ((with_reducible refine gate_callee (f := 67) rfl ?_); refine gl (some 4) Tryd.func67 #[.int .u32 0, .slice A0 l0.length c0] ?_; (with_reducible refine (crc_Add.calls 0 _ _ l0 t228 _ ?side3 ?side1 ?side2 A2.out).mono ?_); (case side1 => exact co HR0.out); (case side2 => exact HC0.out); (case side3 => exact (HERR.out.below (bw HB))); rintro e w3 ⟨rfl, hb⟩; refine ⟨_, rfl, ?_⟩; replace HB := bs HB hb; (try clear hb); (try clear hb2); (try clear hk); (try clear hi)))
 go_ret
 exact ⟨re, bw HB⟩
end Go.Proofs.YtkgjepmminmjjaaDoor.E
