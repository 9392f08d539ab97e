/- Written by the session's own program hyb.py: what functions of the program compute; Lean checks it. -/
import Derived.Test.YtkgjepmminmjjaaDoorEx0
import Derived.Laws.CopyOwn
import Derived.Test.YtkgjepmminmjjaaDoorWErr
namespace Go.Proofs.YtkgjepmminmjjaaDoor.E
open Go.RowKit Go.Proofs.YtkgjepmminmjjaaDoorW.PrintWords Go.Proofs.YtkgjepmminmjjaaDoorW.PrintLast Go.Proofs.YtkgjepmminmjjaaDoorW.PrintMore Go.Proofs.YtkgjepmminmjjaaDoorW.PrintShort
attribute [local go_sem] run_Add64 run_Sub64
attribute [local go_sem] max2_int min2_int max_two min_two max_three min_three max_four min_four   -- for this text's walks alone
set_option linter.unusedVariables false
set_option linter.unusedSimpArgs false

/-! ### pack_put: function 60 -/
-- NEEDSLIB Derived.Laws.CopyOwn
/-- The lowest n bytes of x, the lowest first. -/
def putN : Nat → Int → List Int
  | 0, _ => []
  | n + 1, x => x % 256 :: putN n (x / 256)
theorem putN_length : ∀ (n : Nat) (x : Int), (putN n x).length = n
  | 0, _ => rfl
  | n + 1, x => by simp [putN, putN_length n]
def pack_put.f (l0 : List Int) (a1 a2 : Int) : Option (List Int) := if 0 ≤ a1 then (if 0 ≤ a2 then (if (l0.length : Int) + a2 ≤ 140737488355328 then some (l0 ++ putN a2.toNat a1) else none) else none) else none
theorem own_copied {W : World} {base g n m : Nat} {cur cs : List Value} (hb : base ≤ g) (hg : W.heap[g]? = some (.cells (splice cur 0 cs).toArray 5 (0, 0))) (hm : cur.length = m) (hn : cs.length = n) (hnm : n ≤ m) (hx : m ≤ maxLen) : W.ownsRow base 5 1 (.slice (some ⟨g, 0, none⟩) n m) n cs := by
  refine ⟨by omega, .inr ⟨g, m, _, rfl, hb, hg, hnm, hx, ?_, ?_⟩⟩
  · simp only [splice, List.size_toArray, List.length_append, List.length_take, List.length_drop]; omega
  · simp [splice, hn]
    try (rw [List.take_append_of_le_length (by omega), ← hn, List.take_length])
theorem copy_src {w W : World} {A0 : Option Addr} {l0 : List Int} (HR : ReadsInt w .u8 A0 l0.length l0) (hb : Below w.heap.size w W) (g : Addr) : 0 < (nums .u8 l0).length → some g = some g ∧ ∃ ad, A0 = some ad ∧ ∀ (j : Nat) v, (nums .u8 l0)[j]? = some v → W.cell? (ad.add j) = some v := by
  intro hp
  obtain ⟨ad, e, hc⟩ := HR.2.2 (by simpa [nums] using hp)
  refine ⟨rfl, ad, e, fun j v hj => ?_⟩
  have hj2 : j < l0.length := by
    have := (List.getElem?_eq_some_iff.1 hj).1
    simpa [nums] using this
  have e2 : v = .int .u8 (l0.getD j 0) := by
    simp [nums, List.getElem?_eq_getElem hj2] at hj
    simp [← hj, List.getD_eq_getElem?_getD, List.getElem?_eq_getElem hj2]
  rw [e2]
  exact pw_cell_below hb (hc j hj2)
set_option maxHeartbeats 1600000 in
set_option maxRecDepth 100000 in
theorem pack_put.calls (A0 : Option Addr) (c0 : Nat) (l0 : List Int) (a1 a2 : Int) (r : List Int) (w : World) (hr0 : Kd.C (Kd.int .u8) w A0 l0.length l0) (hc0 : l0.length ≤ c0) (h : pack_put.f l0 a1 a2 = some r) :
    Calls Tryd.prog 60 #[.slice A0 l0.length c0, .int .u64 a1, .int .i64 a2] w fun e w' => ∃ v0_ : Value, e = .returned v0_ ∧ Kd.R (Kd.int .u8) 5 w' w.heap.size (fun _ => True) v0_ r ∧ Below w.heap.size w w' := by
  unfold pack_put.f at h
  by_cases h1 : 0 ≤ a1
  rotate_left
  · rw [if_neg h1] at h
    cases h
  rw [if_pos h1] at h
  by_cases h2 : 0 ≤ a2
  rotate_left
  · rw [if_neg h2] at h
    cases h
  rw [if_pos h2] at h
  by_cases h3 : (l0.length : Int) + a2 ≤ 140737488355328
  rotate_left
  · rw [if_neg h3] at h
    cases h
  rw [if_pos h3] at h
  obtain rfl := Option.some.inj h
  obtain ⟨N, rfl⟩ := Int.eq_ofNat_of_zero_le h2
  rw [Int.toNat_natCast]
  have HR := Aside0.mk (Kd.reads_of_C (enc := Value.int .u8) (d := (0 : Int)) (h1 := fun _ => rfl) hr0)
  have hmk : ∀ W : World, (Instr.makeSlice 33 (.int .i64 (l0.length : Int)) (.int .i64 ((l0.length : Int) + (N : Int)))).run Tryd.prog W = .ok (.slice (some ⟨W.heap.size, 0, none⟩) l0.length (l0.length + N)) (W.alloc (.cells (madeCells #[.int .u8 0] (l0.length + N)) 5)) := by
    intro W
    have hi : ∃ i, Tryd.prog.info? 5 = some i ∧ i.zero = some (.int .u8 0) ∧ i.size = 1 ∧ i.bytes = 1 := by
      have h : (Tryd.prog.info? 5).map (fun i => (i.zero, i.size, i.bytes)) = some (some (.int .u8 0), 1, 1) := by kernel_rfl
      obtain ⟨i, h1, h2⟩ := Option.map_eq_some_iff.1 h
      simp only [Prod.mk.injEq] at h2
      exact ⟨i, h1, h2.1, h2.2.1, h2.2.2⟩
    obtain ⟨i, hi, hz, hs, hb⟩ := hi
    have := run_make (P := Tryd.prog) W 33 5 i (.int .u8 0) Tryd.underlying33 hi hz .i64 .i64 (l0.length : Int) ((l0.length : Int) + (N : Int)) (by omega) (by omega) (by rw [hb]; omega) (by omega)
    rw [hs, Nat.mul_one, Int.toNat_natCast, show ((l0.length : Int) + (N : Int)).toNat = l0.length + N by omega] at this
    exact this
  clear h hr0 h2
  go_enter Tryd.func60, Tryd.ntmps60
  go_wp2_with (first | ((with_reducible refine gate_dst (N := 17) rfl ?_); refine wpList_copy_splice rfl (.tmp 15) (.tmp 16) 33 33 rfl 5 Tryd.underlying33 (by kernel_rfl) (some ⟨w.heap.size, 0, none⟩) A0 l0.length (l0.length + N) l0.length c0 rfl rfl w.heap.size 0 (madeCells #[.int .u8 0] (l0.length + N)).toList 5 (by simpa using heap_alloc_new w _) (nums .u8 l0) (by simp [nums]) ?hp (by simp [nums, size_madeCells]) (by intro v hv; obtain ⟨x, _, rfl⟩ := List.mem_map.1 hv; rfl) w.heap.size w (below_alloc (Below.refl _ _) _) (Nat.le_refl _) ?_; (case hp => exact copy_src HR.out (below_alloc (Below.refl _ _) _) _); intro w1 hc hb1; have HO := Aside0.mk (own_copied (base := w.heap.size) (n := l0.length) (m := l0.length + N) (Nat.le_refl _) hc.out (by simp [size_madeCells]) (by simp [nums]) (by omega) (by simp only [maxLen]; omega)); have HB := Aside0.mk hb1; clear hc hb1))
  have h0 := HB.out.size
  go_loopw [1, 7, 19] (fun v1 v7 v19 W => ∃ (j : Nat) (x : Int) (xs : List Int), Aside0 (j ≤ N ∧ xs ++ putN (N - j) x = l0 ++ putN N a1 ∧ xs.length = l0.length + j ∧ 0 ≤ x) ∧ v1 = .int .u64 x ∧ v19 = .int .i64 (j : Int) ∧ Aside0 (W.ownsRow w.heap.size 5 1 v7 xs.length (nums .u8 xs)) ∧ Aside0 (Below w.heap.size w W)) (fun _ _ v19 _ => N - (intOf v19).toNat)
  case atStart => exact ⟨0, a1, l0, ⟨Nat.zero_le _, rfl, rfl, h1⟩, rfl, rfl, HO, HB⟩
  case round =>
    clear HO HB h0 h1
    obtain ⟨j, x, xs, hj, rfl, rfl, HO, HB⟩ := hrel
    obtain ⟨h1, h2, h4, h5⟩ := hj.out
    have H2 := Aside0.mk h2
    have H4 := Aside0.mk h4
    clear hj h2 h4
    by_cases hlt : j < N
    · go_wp2_with (first | ((with_reducible refine gate_builtin (b := .append) (xs := #[.tmp 21, .tmp 24]) rfl ?_); at_builtin; refine print_append_num (w0 := w) w.heap.size rfl (.tmp 21) (.tmp 24) 33 5 .u8 1 rfl Tryd.underlying33 (by kernel_rfl) (by decide) _ xs (x % 256) rfl rfl HO.out HB.out HB.out.size (by have := H4.out; omega) ?_; intro v1 w2 hown hb2 _ _; have HO2 := Aside0.mk hown; have HB2 := Aside0.mk hb2; clear hown hb2))
      go_roundw
      case measure => simp [intOf]; omega
      case rel =>
        refine ⟨j + 1, x / 256, xs ++ [x % 256], ⟨by omega, ?_, ?_, by omega⟩, rfl, by simp, HO2, HB2⟩
        · rw [← H2.out, show N - j = (N - (j + 1)) + 1 by omega]
          simp [putN]
        · have := H4.out
          simp
          omega
    · have e : j = N := by omega
      subst e
      go_wp2
      go_ret
      refine ⟨_, rfl, ?_, HB.out⟩
      have e2 := H2.out
      rw [Nat.sub_self] at e2
      simp only [putN, List.append_nil] at e2
      rw [← e2]
      exact Kd.R_of_own HO.out (fun _ _ => trivial)

/-! ### pack_PutU64: function 35 -/
def pack_PutU64.f (l0 : List Int) (a1 : Int) : Option (List Int) := (pack_put.f l0 a1 8).bind fun t218 => (some t218)
set_option maxHeartbeats 8000000 in
set_option maxRecDepth 100000 in
theorem pack_PutU64.calls (A0 : Option Addr) (c0 : Nat) (l0 : List Int) (a1 : Int) (r : List Int) (w : World) (hr0 : Kd.C (Kd.int .u8) w A0 l0.length l0) (hc0 : l0.length ≤ c0) (h : pack_PutU64.f l0 a1 = some r) :
    Calls Tryd.prog 35 #[.slice A0 l0.length c0, .int .u64 a1] w fun e w' => ∃ v0_ : Value, e = .returned (v0_) ∧ Kd.R (Kd.int .u8) 5 w' w.heap.size (fun _ => True) v0_ r ∧ Below w.heap.size w w' := by
  have HR0 := Aside0.mk hr0
  have HC0 := Aside0.mk hc0
  clear hr0 hc0
  have HB := Aside0.mk (Below.refl w.heap.size w)
  have H : ((pack_put.f l0 a1 8).bind fun t218 => (some t218)) = some r := h
  clear h
  replace H := Option.bind_eq_some_iff.mp H
  obtain ⟨t218, A30, H⟩ := H
  replace H : (some t218) = some r := H
  have A3 := Aside0.mk A30
  clear A30
  obtain rfl := Option.some.inj H
  go_enter Tryd.func35, Tryd.ntmps35
  go_wp2_with (first | ((with_reducible refine gate_callee (f := 60) rfl ?_); refine gl (some 7) Tryd.func60 #[.slice A0 l0.length c0, .int .u64 a1, .int .i64 8] ?_; (with_reducible refine (pack_put.calls _ _ l0 a1 8 t218 _ ?side1 ?side2 A3.out).mono ?_); (case side1 => repeat (first | exact HR0.out | (with_reducible refine Kd.C_alloc ?_ _) | (with_reducible refine Kd.C_drewN ?_ _) | (with_reducible refine Kd.C_drew ?_))); (case side2 => exact HC0.out); rintro e w4 ⟨v219, rfl, ho0, hb⟩; refine ⟨_, rfl, ?_⟩; have n0_ := Aside0.mk (Kd.R_lower ho0 (below_size (bw HB))); have n1_ := bs HB hb; clear HB; have HO220 := n0_; have HB := n1_; clear n0_ n1_; (try clear hb); (try clear hb2); (try clear hk); (try clear hi); (try clear ho0)))
  go_ret
  exact ⟨_, re, by (with_reducible repeat (first | apply Kd.R_alloc | apply Kd.R_drewN | apply Kd.R_drew)); exact HO220.out, bw HB⟩

/-! ### pack_PutText: function 36 -/
def pack_PutText.f (l0 : List Int) (a1 : ByteArray) : Option (List Int × Int) := if (a1.size : Int) > 65535 then (some (([] : List Int), 4)) else ((pack_put.f l0 (IntKind.u64.wrap ((a1.size : Int))) 2).bind fun t221 => (if t221.length + a1.size < 140737488355328 then (some ((t221 ++ bytesOf a1), 0)) else (none)))
set_option maxHeartbeats 8000000 in
set_option maxRecDepth 100000 in
theorem pack_PutText.calls [Errs] (A0 : Option Addr) (c0 : Nat) (l0 : List Int) (a1 : ByteArray) (r1 : List Int) (r2 : Int) (w : World) (hE : Sent w) (hr0 : Kd.C (Kd.int .u8) w A0 l0.length l0) (hc0 : l0.length ≤ c0) (h : pack_PutText.f l0 a1 = some (r1, r2)) :
    Calls Tryd.prog 36 #[.slice A0 l0.length c0, .string a1] w fun e w' => ∃ v0_ : Value, e = .returned (.tuple #[v0_, errW r2]) ∧ Kd.R (Kd.int .u8) 5 w' w.heap.size (fun _ => True) v0_ r1 ∧ Below w.heap.size w w' := by
  have HR0 := Aside0.mk hr0
  have HC0 := Aside0.mk hc0
  clear hr0 hc0
  have HERR := Aside0.mk hE
  clear hE
  have HB := Aside0.mk (Below.refl w.heap.size w)
  have H : (if (a1.size : Int) > 65535 then (some (([] : List Int), 4)) else ((pack_put.f l0 (IntKind.u64.wrap ((a1.size : Int))) 2).bind fun t221 => (if t221.length + a1.size < 140737488355328 then (some ((t221 ++ bytesOf a1), 0)) else (none)))) = some (r1, r2) := h
  clear h
  by_cases c3 : (a1.size : Int) > 65535
  · rw [if_pos c3] at H
    have c3b0 : decide (65535 < (a1.size : Int)) = true := decide_eq_true c3
    have c3b1 : decide (65535 < a1.size) = true := decide_eq_true (by omega)
    clear c3
    simp only [Option.some.injEq, Prod.mk.injEq] at H
    obtain ⟨rfl, rfl⟩ := H
    have hez4 : w.cell? ⟨4, 0, none⟩ = some (errW 4) := sent_cell 4 4 (HERR.out.below (bw HB)) (by decide) (by have := Errs.five; omega) rfl
    go_enter Tryd.func36, Tryd.ntmps36
    go_wp2
    repeat (go_quiet (fail); try go_wp2)
    go_ret2
    exact ⟨_, re, by first | exact Kd.R_nil _ _ _ _ _ | exact Kd.N_nil _ _ _ _ _ | exact Kd.V_nil _ _ _ _ _ | exact Kd.Q_nil _ _ _ _ _ | exact Kd.S_nil _ _ _ _ _, bw HB⟩
  · rw [if_neg c3] at H
    have c3b0 : decide (65535 < (a1.size : Int)) = false := decide_eq_false c3
    have c3b1 : decide (65535 < a1.size) = false := decide_eq_false (by omega)
    clear c3
    replace H := Option.bind_eq_some_iff.mp H
    obtain ⟨t221, A50, H⟩ := H
    replace H : (if t221.length + a1.size < 140737488355328 then (some ((t221 ++ bytesOf a1), 0)) else (none)) = some (r1, r2) := H
    have A5 := Aside0.mk A50
    clear A50
    by_cases c6 : t221.length + a1.size < 140737488355328
    · rw [if_pos c6] at H
      have LMc6 := Aside0.mk c6
      clear c6
      obtain ⟨y224, hy224⟩ : ∃ y_ : List Int, y_ = (t221 ++ bytesOf a1) := ⟨_, rfl⟩
      replace H : (some (y224, 0)) = some (r1, r2) := by first | (rw [hy224]; with_reducible exact H) | (have H2_ := (Option.bind_some _ _).symm.trans H; rw [hy224]; with_reducible exact H2_) | (have H2_ := (Option.bind_some _ _).symm.trans H; with_reducible exact H2_) | with_reducible exact H | (rw [hy224]; exact H) | exact H
      have Ny224 := Aside0.mk hy224
      clear hy224
      simp only [Option.some.injEq, Prod.mk.injEq] at H
      obtain ⟨rfl, rfl⟩ := H
      go_enter Tryd.func36, Tryd.ntmps36
      go_wp2_with (first | (go_at_call 60; (with_reducible refine (pack_put.calls _ _ l0 (IntKind.u64.wrap ((a1.size : Int))) 2 t221 _ ?side1 ?side2 A5.out).mono ?_); (case side1 => repeat (first | exact HR0.out | (with_reducible refine Kd.C_alloc ?_ _) | (with_reducible refine Kd.C_drewN ?_ _) | (with_reducible refine Kd.C_drew ?_))); (case side2 => exact HC0.out); rintro e w7 ⟨v222, rfl, ho0, hb⟩; have n0_ := Aside0.mk (Kd.R_lower ho0 (below_size (bw HB))); have n1_ := bs HB hb; clear HB; have HO223 := n0_; have HB := n1_; clear n0_ n1_; (try clear hb); (try clear hb2); (try clear hk); (try clear hi); (try clear ho0)) | (at_builtin; refine print_append_str (w0 := w) w.heap.size rfl (.tmp 14) _ 33 9 5 rfl Tryd.underlying33 Tryd.underlying9 info5 v222 t221 a1 rfl rfl ?aO ?aB ?aS ?aL ?_; (case aB => exact (bw HB)); (case aO => exact (Kd.own_of_R (by (with_reducible repeat (first | apply Kd.R_alloc | apply Kd.R_drewN | apply Kd.R_drew)); exact HO223.out))); (case aS => exact (below_size (bw HB))); (case aL => have := LMc6.out; omega); intro v225 w8 ho0 hb hg; have ho := Kd.R_of_own (h1 := fun _ => rfl) (ok := fun _ => True) ho0 (fun _ _ => trivial); clear ho0; have hat := True.intro; rw [← Ny224.out] at ho; change Kd.R (Kd.int .u8) 5 w8 w.heap.size (fun _ => True) v225 y224 at ho; have n0_ := Aside0.mk (hb); have n1_ := Aside0.mk (ho); clear HB; clear HO223; have HB := n0_; have HO226 := n1_; clear n0_ n1_; clear ho hb hg hat))
      repeat (go_quiet (first | (go_at_call 60; (with_reducible refine (pack_put.calls _ _ l0 (IntKind.u64.wrap ((a1.size : Int))) 2 t221 _ ?side1 ?side2 A5.out).mono ?_); (case side1 => repeat (first | exact HR0.out | (with_reducible refine Kd.C_alloc ?_ _) | (with_reducible refine Kd.C_drewN ?_ _) | (with_reducible refine Kd.C_drew ?_))); (case side2 => exact HC0.out); rintro e w7 ⟨v222, rfl, ho0, hb⟩; have n0_ := Aside0.mk (Kd.R_lower ho0 (below_size (bw HB))); have n1_ := bs HB hb; clear HB; have HO223 := n0_; have HB := n1_; clear n0_ n1_; (try clear hb); (try clear hb2); (try clear hk); (try clear hi); (try clear ho0)) | (at_builtin; refine print_append_str (w0 := w) w.heap.size rfl (.tmp 14) _ 33 9 5 rfl Tryd.underlying33 Tryd.underlying9 info5 v222 t221 a1 rfl rfl ?aO ?aB ?aS ?aL ?_; (case aB => exact (bw HB)); (case aO => exact (Kd.own_of_R (by (with_reducible repeat (first | apply Kd.R_alloc | apply Kd.R_drewN | apply Kd.R_drew)); exact HO223.out))); (case aS => exact (below_size (bw HB))); (case aL => have := LMc6.out; omega); intro v225 w8 ho0 hb hg; have ho := Kd.R_of_own (h1 := fun _ => rfl) (ok := fun _ => True) ho0 (fun _ _ => trivial); clear ho0; have hat := True.intro; rw [← Ny224.out] at ho; change Kd.R (Kd.int .u8) 5 w8 w.heap.size (fun _ => True) v225 y224 at ho; have n0_ := Aside0.mk (hb); have n1_ := Aside0.mk (ho); clear HB; clear HO223; have HB := n0_; have HO226 := n1_; clear n0_ n1_; clear ho hb hg hat)); try go_wp2_with (first | (go_at_call 60; (with_reducible refine (pack_put.calls _ _ l0 (IntKind.u64.wrap ((a1.size : Int))) 2 t221 _ ?side1 ?side2 A5.out).mono ?_); (case side1 => repeat (first | exact HR0.out | (with_reducible refine Kd.C_alloc ?_ _) | (with_reducible refine Kd.C_drewN ?_ _) | (with_reducible refine Kd.C_drew ?_))); (case side2 => exact HC0.out); rintro e w7 ⟨v222, rfl, ho0, hb⟩; have n0_ := Aside0.mk (Kd.R_lower ho0 (below_size (bw HB))); have n1_ := bs HB hb; clear HB; have HO223 := n0_; have HB := n1_; clear n0_ n1_; (try clear hb); (try clear hb2); (try clear hk); (try clear hi); (try clear ho0)) | (at_builtin; refine print_append_str (w0 := w) w.heap.size rfl (.tmp 14) _ 33 9 5 rfl Tryd.underlying33 Tryd.underlying9 info5 v222 t221 a1 rfl rfl ?aO ?aB ?aS ?aL ?_; (case aB => exact (bw HB)); (case aO => exact (Kd.own_of_R (by (with_reducible repeat (first | apply Kd.R_alloc | apply Kd.R_drewN | apply Kd.R_drew)); exact HO223.out))); (case aS => exact (below_size (bw HB))); (case aL => have := LMc6.out; omega); intro v225 w8 ho0 hb hg; have ho := Kd.R_of_own (h1 := fun _ => rfl) (ok := fun _ => True) ho0 (fun _ _ => trivial); clear ho0; have hat := True.intro; rw [← Ny224.out] at ho; change Kd.R (Kd.int .u8) 5 w8 w.heap.size (fun _ => True) v225 y224 at ho; have n0_ := Aside0.mk (hb); have n1_ := Aside0.mk (ho); clear HB; clear HO223; have HB := n0_; have HO226 := n1_; clear n0_ n1_; clear ho hb hg hat)))
      go_ret2
      exact ⟨_, re, by (with_reducible repeat (first | apply Kd.R_alloc | apply Kd.R_drewN | apply Kd.R_drew)); exact HO226.out, bw HB⟩
    · rw [if_neg c6] at H
      exact absurd H (by simp)

end Go.Proofs.YtkgjepmminmjjaaDoor.E
