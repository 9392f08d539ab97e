/- Written by the session's own program hyb.py: what functions of the program compute; Lean checks it. -/
import Derived.Test.YtnhngjhodcikiaaDoorFx0
import Derived.Test.YtnhngjhodcikiaaDoorFx3
import Derived.Laws.Cover1
namespace Go.Proofs.YtnhngjhodcikiaaDoor.F
open Go.RowKit Go.Proofs.YtnhngjhodcikiaaDoorW.PrintWords Go.Proofs.YtnhngjhodcikiaaDoorW.PrintLast Go.Proofs.YtnhngjhodcikiaaDoorW.PrintMore Go.Proofs.YtnhngjhodcikiaaDoorW.PrintShort
attribute [local go_sem] run_Add64 run_Sub64
attribute [local go_sem] max2_int min2_int max_two min_two max_three min_three max_four min_four   -- for this text's walks alone
set_option linter.unusedVariables false
set_option linter.unusedSimpArgs false

attribute [local go_sem high] eqA56
/-! ### state_Find: function 11 -/
-- NEEDSLIB Derived.Laws.Cover1
/-- Where a key is, or would be: the search. -/
def state_Find.s (l : List (S56)) (key : ByteArray) : Nat → Nat → Nat → Nat
  | 0, i, _ => i
  | m + 1, i, j => if i < j then (if Op.bytesLess (rd_T56 l (((i + j) / 2 : Nat) : Int)).f0.toList key.toList = true then state_Find.s l key m ((i + j) / 2 + 1) j else state_Find.s l key m i ((i + j) / 2)) else i
def state_Find.at_ (l : List (S56)) (key : ByteArray) : Nat := state_Find.s l key (l.length + 1) 0 l.length
def state_Find.is_ (l : List (S56)) (key : ByteArray) : Bool := decide (state_Find.at_ l key < l.length) && ((rd_T56 l ((state_Find.at_ l key : Nat) : Int)).f0.toList == key.toList)
def state_Find.f (_a0_0 : Int) (_a0_1 : Int) (l0_2 : List (S56)) (a1 : ByteArray) : Option (Int × Bool) := some (((state_Find.at_ l0_2 a1 : Nat) : Int), state_Find.is_ l0_2 a1)
theorem state_Find.s_le (l : List (S56)) (key : ByteArray) : ∀ (m i j : Nat), i ≤ j → i ≤ state_Find.s l key m i j ∧ state_Find.s l key m i j ≤ j
  | 0, i, j, h => ⟨Nat.le_refl _, h⟩
  | m + 1, i, j, h => by
    unfold state_Find.s
    by_cases c : i < j
    · rw [if_pos c]
      split
      · have := state_Find.s_le l key m ((i + j) / 2 + 1) j (by omega)
        omega
      · have := state_Find.s_le l key m i ((i + j) / 2) (by omega)
        omega
    · rw [if_neg c]
      omega
theorem state_Find.at_le (l : List (S56)) (key : ByteArray) : state_Find.at_ l key ≤ l.length := (state_Find.s_le l key _ 0 l.length (Nat.zero_le _)).2
set_option maxHeartbeats 4000000 in
set_option maxRecDepth 100000 in
theorem state_Find.one (g2 g3 : Nat) (a0 a1 : Int) (A : Option Addr) (c : Nat) (l : List (S56)) (key : ByteArray) (i : Int) (w : World) (h2 : w.heap[g2]? = some (.cells #[.int .u64 a0, .int .u64 a1, .slice A l.length c] 27 (0, 0))) (h3 : w.heap[g3]? = some (.cells #[.string key] 9 (0, 0))) (hr : Kd.C k56 w A l.length l) (h0 : 0 ≤ i) (h1 : i < l.length) :
    Calls Tryd.prog 31 #[.int .i64 i, .pointer (some ⟨g2, 0, none⟩), .pointer (some ⟨g3, 0, none⟩)] w fun e w' => e = .returned (.bool (!(Op.bytesLess (rd_T56 l i).f0.toList key.toList))) ∧ Drawn0 w w' := by
  have hu := Tryd.underlying27
  have hv := Tryd.underlying56
  obtain ⟨ad, ead, hx0, hx1, hx2, hx3, hx4, hx5, hx6, hx7, hx8⟩ := at_T56 hr i h0 h1
  cases ead
  generalize rd_T56 l i = E at *
  obtain ⟨hc0, hc1, hc2, hf0, hf1, hf2⟩ := bc3 ⟨h2⟩
  obtain ⟨hd0, hg0⟩ := bc1 ⟨h3⟩
  have H2 := Aside0.mk h2
  have H3 := Aside0.mk h3
  have HR := Aside0.mk hr
  clear h2 h3 hr
  replace h0 := eq_true h0
  replace h1 := eq_true h1
  go_enter Tryd.func31, Tryd.ntmps31
  go_wp2
  repeat (go_quiet (fail); try go_wp2)
  go_ret
  exact ⟨re, by repeat (first | exact Drawn0.refl _ | apply Drawn0.step)⟩
theorem state_Find.half {i j n : Nat} (hi : i ≤ j) (hj : j ≤ n) (hn : n ≤ 9223372036854775807) : wrap64 (IntKind.u64.wrap (wrap64 ((i : Int) + (j : Int))) / 2) = (((i + j) / 2 : Nat) : Int) := by
  have b : IntKind.u64.wrap (wrap64 ((i : Int) + (j : Int))) = ((i + j : Nat) : Int) := by
    rw [IntKind.wrap_u64]
    unfold wrap64
    omega
  rw [b]
  have hs : i + j ≤ 18446744073709551614 := by omega
  generalize i + j = s at *
  have c : ((s : Nat) : Int) / 2 = ((s / 2 : Nat) : Int) := by omega
  rw [c]
  have d : 2 * (s / 2) ≤ s := Nat.mul_div_le _ _
  generalize s / 2 = q at *
  unfold wrap64
  omega
theorem state_Find.succ {h n : Nat} (hj : h < n) (hn : n ≤ 9223372036854775807) : wrap64 ((h : Int) + 1) = ((h + 1 : Nat) : Int) := by unfold wrap64; omega
theorem state_Find.mea1 {i h j : Nat} (h1 : i ≤ h) (h2 : h < j) : ((h : Int) - (i : Int)).toNat < ((j : Int) - (i : Int)).toNat := by omega
theorem state_Find.mea2 {i h j : Nat} (h1 : i ≤ h) (h2 : h < j) : ((j : Int) - ((h + 1 : Nat) : Int)).toNat < ((j : Int) - (i : Int)).toNat := by omega
set_option maxHeartbeats 4000000 in
set_option maxRecDepth 100000 in
theorem state_Find.search (g2 g3 : Nat) (a0 a1 : Int) (A : Option Addr) (c : Nat) (l : List (S56)) (key : ByteArray) (w : World) (h2 : w.heap[g2]? = some (.cells #[.int .u64 a0, .int .u64 a1, .slice A l.length c] 27 (0, 0))) (h3 : w.heap[g3]? = some (.cells #[.string key] 9 (0, 0))) (hr : Kd.C k56 w A l.length l) (hn : l.length ≤ 9223372036854775807) :
    Calls Tryd.prog 30 #[.int .i64 l.length, .func (.func 31) #[] #[.pointer (some ⟨g2, 0, none⟩), .pointer (some ⟨g3, 0, none⟩)]] w fun e w' => e = .returned (.int .i64 (state_Find.at_ l key : Nat)) ∧ Drawn0 w w' := by
  have H2 := Aside0.mk h2
  have H3 := Aside0.mk h3
  have HR := Aside0.mk hr
  have HN := Aside0.mk hn
  obtain ⟨r, hr_⟩ : ∃ r, state_Find.at_ l key = r := ⟨_, rfl⟩
  rw [hr_]
  have H0 : Aside0 (state_Find.s l key (l.length + 1) 0 l.length = r) := ⟨hr_⟩
  clear h2 h3 hr hn hr_
  go_enter Tryd.func30, Tryd.ntmps30
  go_wp2
  go_loopw [5, 6] (fun v5 v6 w' => ∃ (i j m : Nat), v5 = .int .i64 i ∧ v6 = .int .i64 j ∧ Aside0 (i ≤ j ∧ j ≤ l.length ∧ j - i < m) ∧ Aside0 (state_Find.s l key m i j = r) ∧ Drawn0 w w') (fun v5 v6 _ => (intOf v6 - intOf v5).toNat)
  case atStart => exact ⟨0, l.length, l.length + 1, rfl, rfl, ⟨Nat.zero_le _, Nat.le_refl _, by omega⟩, H0, Drawn0.refl _⟩
  case round =>
    obtain ⟨i, j, m, rfl, rfl, hij, HS, ⟨q, rfl⟩⟩ := hrel
    obtain ⟨h1, h2, h3⟩ := hij.out
    have hs := HS.out
    obtain ⟨m, rfl⟩ : ∃ m', m = m' + 1 := ⟨m - 1, by omega⟩
    unfold state_Find.s at hs
    clear HS H0
    by_cases c0 : i < j
    · rw [if_pos c0] at hs
      have e1 := state_Find.half h1 h2 HN.out
      obtain ⟨h, hh⟩ : ∃ h : Nat, (i + j) / 2 = h := ⟨_, rfl⟩
      rw [hh] at hs e1
      have hb : Aside0 (i ≤ h ∧ h < j) := ⟨by omega⟩
      have W1 := Aside0.mk (state_Find.succ (show h < l.length by omega) HN.out)
      have E1 := Aside0.mk e1
      clear e1
      have c1 : decide (i < j) = true := decide_eq_true c0
      have HC := Aside0.mk c0
      clear c0 h1 h2 h3
      go_upto_region 4 with (fail)
      rw [E1.out]
      clear E1
      cases hB : Op.bytesLess (rd_T56 l (h : Int)).f0.toList key.toList
      case false =>
        rw [hB] at hs
        have hone := state_Find.one g2 g3 a0 a1 A c l key (h : Int) (w.drewN q) (blk_drewN H2.out q) (blk_drewN H3.out q) (Kd.C_drewN HR.out q) (by have := hb.out; omega) (by have := hb.out; have := hij.out; omega)
        rw [hB] at hone
        have HO := Aside0.mk hone
        have HS := Aside0.mk hs
        clear hone hs hB
        go_wp2_with (first | (go_at_call 31; refine HO.out.mono ?_; rintro e w7 ⟨rfl, ⟨q2, rfl⟩⟩))
        go_roundw
        case measure => exact state_Find.mea1 hb.out.1 hb.out.2
        case rel =>
          have h5 := hb.out
          have h6 := hij.out
          have h7 := HS.out
          simp only [Bool.false_eq_true, if_false, if_true] at h7
          exact ⟨i, h, m, rfl, rfl, ⟨⟨h5.1, by omega, by omega⟩⟩, ⟨h7⟩, ⟨_, rfl⟩⟩
      case true =>
        rw [hB] at hs
        have hone := state_Find.one g2 g3 a0 a1 A c l key (h : Int) (w.drewN q) (blk_drewN H2.out q) (blk_drewN H3.out q) (Kd.C_drewN HR.out q) (by have := hb.out; omega) (by have := hb.out; have := hij.out; omega)
        rw [hB] at hone
        have HO := Aside0.mk hone
        have HS := Aside0.mk hs
        clear hone hs hB
        go_wp2_with (first | (go_at_call 31; refine HO.out.mono ?_; rintro e w7 ⟨rfl, ⟨q2, rfl⟩⟩))
        rw [W1.out]
        go_roundw
        case measure => exact state_Find.mea2 hb.out.1 hb.out.2
        case rel =>
          have h5 := hb.out
          have h6 := hij.out
          have h7 := HS.out
          simp only [Bool.false_eq_true, if_false, if_true] at h7
          exact ⟨h + 1, j, m, rfl, rfl, ⟨⟨by omega, by omega, by omega⟩⟩, ⟨h7⟩, ⟨_, rfl⟩⟩
    · rw [if_neg c0] at hs
      subst hs
      have c1 : decide (i < j) = false := decide_eq_false c0
      clear c0 h1 h2 h3
      go_wp2
      go_ret
      exact ⟨re, _, rfl⟩
set_option maxHeartbeats 4000000 in
set_option maxRecDepth 100000 in
theorem state_Find.calls (a0_0 : Int) (a0_1 : Int) (A0_2 : Option Addr) (c0_2 : Nat) (l0_2 : List (S56)) (a1 : ByteArray) (r1 : Int) (r2 : Bool) (w : World) (hr0_2 : Kd.C k56 w A0_2 l0_2.length l0_2) (hc0_2 : l0_2.length ≤ c0_2) (h : state_Find.f a0_0 a0_1 l0_2 a1 = some (r1, r2)) :
    Calls Tryd.prog 11 #[.agg #[.int .u64 a0_0, .int .u64 a0_1, .slice A0_2 l0_2.length c0_2], .string a1] w fun e w' => e = .returned (.tuple #[.int .i64 r1, .bool r2]) ∧ Below w.heap.size w w' := by
  have hu := Tryd.underlying27
  have hv := Tryd.underlying56
  have HR := Aside0.mk hr0_2
  have HN : Aside0 (l0_2.length ≤ 9223372036854775807) := ⟨hr0_2.2.1⟩
  have HB := Aside0.mk (Below.refl w.heap.size w)
  simp only [state_Find.f, Option.some.injEq, Prod.mk.injEq] at h
  obtain ⟨rfl, rfl⟩ := h
  have hmf : ∀ (fn : Fn) (first cap : Array Value) (w : World), (Instr.makeFunc fn first cap).run Tryd.prog w = .ok (.func fn first cap) w := fun _ _ _ _ => rfl
  obtain ⟨n, hn⟩ : ∃ n, state_Find.at_ l0_2 a1 = n := ⟨_, rfl⟩
  obtain ⟨b, hb⟩ : ∃ b, state_Find.is_ l0_2 a1 = b := ⟨_, rfl⟩
  have hle := state_Find.at_le l0_2 a1
  rw [hn, hb]
  unfold state_Find.is_ at hb
  rw [hn] at hb hle
  have HA := Aside0.mk hn
  have HBB := Aside0.mk hb
  have HLE := Aside0.mk hle
  clear hn hb hle hr0_2
  have HRR := HR.out
  clear HRR
  by_cases c0 : n < l0_2.length
  · have c1 : decide (n < l0_2.length) = true := decide_eq_true c0
    have hb := HBB.out
    rw [c1, Bool.true_and] at hb
    subst hb
    clear HBB
    have HC := Aside0.mk c0
    obtain ⟨ad, ead, hx0, hx1, hx2, hx3, hx4, hx5, hx6, hx7, hx8⟩ := at_T56 HR.out (n : Int) (Int.natCast_nonneg _) (by omega)
    cases ead
    rw [Int.toNat_natCast] at hx0
    have p0 := eq_true (Int.natCast_nonneg n)
    have p1 := eq_true (show (n : Int) < (l0_2.length : Int) by omega)
    have p2 := eq_true c0
    clear c0
    go_enter Tryd.func11, Tryd.ntmps11
    go_wp2_with (first
      | ((with_reducible refine gate_dst (N := 2) rfl ?_); refine bx 2 #[.int .u64 a0_0, .int .u64 a0_1, .slice (some ad) l0_2.length c0_2] 27 ?_; intro g2 hg w2 hbox hb; have n0_ := bs HB hb; clear HB; have HB := n0_; clear n0_; have BK2 := Aside0.mk hbox; replace hx0 := (hb.cell (World.block_lt_of_cell? w _ hx0)).trans hx0; clear hx1 hx2 hx3 hx4 hx5 hx6 hx7 hx8 hb hbox hg)
      | ((with_reducible refine gate_dst (N := 3) rfl ?_); refine bx 3 #[.string a1] 9 ?_; intro g3 hg w3 hbox hb; have n0_ := bs HB hb; have n1_ := bb BK2 hb; clear HB BK2; have HB := n0_; have BK2 := n1_; clear n0_ n1_; have BK3 := Aside0.mk hbox; replace hx0 := (hb.cell (World.block_lt_of_cell? _ _ hx0)).trans hx0; clear hb hbox hg; obtain ⟨hc0, hc1, hc2, hf0, hf1, hf2⟩ := bc3 BK2; obtain ⟨hd0, hg0⟩ := bc1 BK3)
      | (go_at_call 30; refine (state_Find.search _ _ a0_0 a0_1 _ c0_2 l0_2 a1 _ BK2.out BK3.out (co (Kd.C_below HR.out HB.out)) HN.out).mono ?_; rw [HA.out]; rintro e w7 ⟨rfl, ⟨q2, rfl⟩⟩))
    repeat (go_quiet (fail); try go_wp2)
    go_ret2
    exact ⟨rfl, bw HB⟩
  · have c1 : decide (n < l0_2.length) = false := decide_eq_false c0
    have hb := HBB.out
    rw [c1, Bool.false_and] at hb
    subst hb
    clear HBB
    have HC := Aside0.mk c0
    clear c0
    go_enter Tryd.func11, Tryd.ntmps11
    go_wp2_with (first
      | ((with_reducible refine gate_dst (N := 2) rfl ?_); refine bx 2 #[.int .u64 a0_0, .int .u64 a0_1, .slice A0_2 l0_2.length c0_2] 27 ?_; intro g2 hg w2 hbox hb; have n0_ := bs HB hb; clear HB; have HB := n0_; clear n0_; have BK2 := Aside0.mk hbox; clear hb hbox hg)
      | ((with_reducible refine gate_dst (N := 3) rfl ?_); refine bx 3 #[.string a1] 9 ?_; intro g3 hg w3 hbox hb; have n0_ := bs HB hb; have n1_ := bb BK2 hb; clear HB BK2; have HB := n0_; have BK2 := n1_; clear n0_ n1_; have BK3 := Aside0.mk hbox; clear hb hbox hg; obtain ⟨hc0, hc1, hc2, hf0, hf1, hf2⟩ := bc3 BK2; obtain ⟨hd0, hg0⟩ := bc1 BK3)
      | (go_at_call 30; refine (state_Find.search _ _ a0_0 a0_1 _ c0_2 l0_2 a1 _ BK2.out BK3.out (co (Kd.C_below HR.out HB.out)) HN.out).mono ?_; rw [HA.out]; rintro e w7 ⟨rfl, ⟨q2, rfl⟩⟩))
    repeat (go_quiet (fail); try go_wp2)
    go_ret2
    exact ⟨rfl, bw HB⟩

/-! ### api_Entry_32: function 32 -/
def api_Entry_32.l0 : Nat → List (S56) → List (S56) → Int → Int → Option (Bool)
  | 0, _, _, _, _ => none
  | k + 1, x0, x1, x12, x13 => if x13 < x12 then (if 0 ≤ x13 then (if x13 < (x0.length : Int) then (if x13 < (x1.length : Int) then (if (!((((rd_T56 x0 x13).f0).toList) == (((rd_T56 x1 x13).f0).toList)) || ((!(((rd_T56 x0 x13).f1.f0) == ((rd_T56 x1 x13).f1.f0)) || (!(((rd_T56 x0 x13).f1.f1) == ((rd_T56 x1 x13).f1.f1)) || (!(((rd_T56 x0 x13).f1.f2) == ((rd_T56 x1 x13).f1.f2)) || (!(((rd_T56 x0 x13).f1.f3) == ((rd_T56 x1 x13).f1.f3)) || (!(((rd_T56 x0 x13).f1.f4) == ((rd_T56 x1 x13).f1.f4))))))) || ((!(((rd_T56 x0 x13).f2.f0) == ((rd_T56 x1 x13).f2.f0)) || (!(((rd_T56 x0 x13).f2.f1) == ((rd_T56 x1 x13).f2.f1)) || (!(((rd_T56 x0 x13).f2.f2) == ((rd_T56 x1 x13).f2.f2)))))))) = true then (some false) else (api_Entry_32.l0 k x0 x1 x12 (wrap64 (x13 + 1)))) else (none)) else (none)) else (none)) else (some true)
def api_Entry_32.f (k : Nat) (l0 : List (S56)) (l1 : List (S56)) : Option (Bool) := if (l0.length : Int) = (l1.length : Int) then (api_Entry_32.l0 k l0 l1 (l0.length : Int) 0) else (some false)
theorem api_Entry_32.mono_l : ∀ k, (∀ y0 y1 y2 y3, LeO (api_Entry_32.l0 k y0 y1 y2 y3) (api_Entry_32.l0 (k + 1) y0 y1 y2 y3))
  | 0 => fun _ _ _ _ r h => by simp [api_Entry_32.l0] at h
  | k + 1 => by
    have ih0 := api_Entry_32.mono_l k
    · intro y0 y1 y2 y3
      unfold api_Entry_32.l0
      repeat' first
      | (with_reducible exact ih0 _ _ _ _)
      | (with_reducible exact LeO.refl _)
      | (with_reducible exact LeO.none _)
      | (with_reducible refine LeO.ite ?_ ?_)
      | (with_reducible refine LeO.bind ?_ (fun _ => ?_))
      | exact ih0 _ _ _ _
      | exact LeO.none _
      | refine LeO.ite ?_ ?_
      | refine LeO.bind ?_ (fun _ => ?_)
theorem api_Entry_32.mono : ∀ a0 a1 k, LeO (api_Entry_32.f k a0 a1) (api_Entry_32.f (k + 1) a0 a1) := by
  intro a0 a1 k
  have ih0 := api_Entry_32.mono_l k
  unfold api_Entry_32.f
  repeat' first
      | (with_reducible exact ih0 _ _ _ _)
      | (with_reducible exact LeO.refl _)
      | (with_reducible exact LeO.none _)
      | (with_reducible refine LeO.ite ?_ ?_)
      | (with_reducible refine LeO.bind ?_ (fun _ => ?_))
      | exact ih0 _ _ _ _
      | exact LeO.none _
      | refine LeO.ite ?_ ?_
      | refine LeO.bind ?_ (fun _ => ?_)
set_option maxHeartbeats 8000000 in
set_option maxRecDepth 100000 in
theorem api_Entry_32.calls (k : Nat) (A0 : Option Addr) (c0 : Nat) (l0 : List (S56)) (A1 : Option Addr) (c1 : Nat) (l1 : List (S56)) (r : Bool) (w : World) (hr0 : Kd.C k56 w A0 l0.length l0) (hc0 : l0.length ≤ c0) (hr1 : Kd.C k56 w A1 l1.length l1) (hc1 : l1.length ≤ c1) (h : api_Entry_32.f k l0 l1 = some r) :
    Calls Tryd.prog 32 #[.slice A0 l0.length c0, .slice A1 l1.length c1] w fun e w' => e = .returned (.bool r) ∧ Drawn0 w w' := by
  have hu56 := Tryd.underlying56
  have HR0 := Aside0.mk hr0
  have HC0 := Aside0.mk hc0
  clear hr0 hc0
  have HR1 := Aside0.mk hr1
  have HC1 := Aside0.mk hc1
  clear hr1 hc1
  have H : (if (l0.length : Int) = (l1.length : Int) then (api_Entry_32.l0 k l0 l1 (l0.length : Int) 0) else (some false)) = some r := h
  clear h
  by_cases c3 : (l0.length : Int) = (l1.length : Int)
  · rw [if_pos c3] at H
    have c3b0 : ((l0.length : Int) == (l1.length : Int)) = true := beq_iff_eq.mpr c3
    have c3b1 : ((l0.length : Int) != (l1.length : Int)) = false := bne_eq_false_iff_eq.mpr c3
    have c3b2 : (l0.length == l1.length) = true := by first | simpa using c3 | (simp at c3 ⊢; omega)
    clear c3
    have H' := Aside0.mk H
    clear H
    go_enter Tryd.func32, Tryd.ntmps32
    go_wp2
    repeat (go_quiet (fail); try go_wp2)
    go_loopg [13] k (fun kq v13 w' => ∃ (x13_1 : Int), v13 = .int .i64 x13_1 ∧ Aside0 (api_Entry_32.l0 kq l0 l1 (l0.length : Int) x13_1 = some r) ∧ Aside0 (kq ≤ k) ∧ Drawn0 w w')
    case atStart => exact ⟨(0), rs, H', ⟨Nat.le_refl _⟩, by repeat (first | exact Drawn0.refl _ | apply Drawn0.step)⟩
    case round =>
      clear H'
      try clear c1
      try clear p2
      try clear c3
      try clear c3b0
      try clear c3b1
      try clear c3b2
      obtain ⟨x13_1, rfl, HA, HK1, ⟨m1, rfl⟩⟩ := hrel
      cases gk with
      | zero => exact absurd HA.out (by simp [api_Entry_32.l0])
      | succ k1 =>
        have H := HA.out
        clear HA
        simp only [api_Entry_32.l0] at H
        by_cases c4 : x13_1 < (l0.length : Int)
        · rw [if_pos c4] at H
          have c4b0 : decide (x13_1 < (l0.length : Int)) = true := decide_eq_true c4
          clear c4
          by_cases c5 : 0 ≤ x13_1
          · rw [if_pos c5] at H
            have c5b0 : decide (0 ≤ x13_1) = true := decide_eq_true c5
            clear c5
            by_cases c6 : x13_1 < (l0.length : Int)
            · rw [if_pos c6] at H
              have c6b0 : decide (x13_1 < (l0.length : Int)) = true := decide_eq_true c6
              clear c6
              by_cases c7 : x13_1 < (l1.length : Int)
              · rw [if_pos c7] at H
                have c7b0 : decide (x13_1 < (l1.length : Int)) = true := decide_eq_true c7
                clear c7
                by_cases c8 : (!((((rd_T56 l0 x13_1).f0).toList) == (((rd_T56 l1 x13_1).f0).toList)) || ((!(((rd_T56 l0 x13_1).f1.f0) == ((rd_T56 l1 x13_1).f1.f0)) || (!(((rd_T56 l0 x13_1).f1.f1) == ((rd_T56 l1 x13_1).f1.f1)) || (!(((rd_T56 l0 x13_1).f1.f2) == ((rd_T56 l1 x13_1).f1.f2)) || (!(((rd_T56 l0 x13_1).f1.f3) == ((rd_T56 l1 x13_1).f1.f3)) || (!(((rd_T56 l0 x13_1).f1.f4) == ((rd_T56 l1 x13_1).f1.f4))))))) || ((!(((rd_T56 l0 x13_1).f2.f0) == ((rd_T56 l1 x13_1).f2.f0)) || (!(((rd_T56 l0 x13_1).f2.f1) == ((rd_T56 l1 x13_1).f2.f1)) || (!(((rd_T56 l0 x13_1).f2.f2) == ((rd_T56 l1 x13_1).f2.f2)))))))) = true
                · rw [if_pos c8] at H
                  have c8b0 : (!((((rd_T56 l0 x13_1).f0).toList) == (((rd_T56 l1 x13_1).f0).toList)) || ((!(((rd_T56 l0 x13_1).f1.f0) == ((rd_T56 l1 x13_1).f1.f0)) || (!(((rd_T56 l0 x13_1).f1.f1) == ((rd_T56 l1 x13_1).f1.f1)) || (!(((rd_T56 l0 x13_1).f1.f2) == ((rd_T56 l1 x13_1).f1.f2)) || (!(((rd_T56 l0 x13_1).f1.f3) == ((rd_T56 l1 x13_1).f1.f3)) || (!(((rd_T56 l0 x13_1).f1.f4) == ((rd_T56 l1 x13_1).f1.f4))))))) || ((!(((rd_T56 l0 x13_1).f2.f0) == ((rd_T56 l1 x13_1).f2.f0)) || (!(((rd_T56 l0 x13_1).f2.f1) == ((rd_T56 l1 x13_1).f2.f1)) || (!(((rd_T56 l0 x13_1).f2.f2) == ((rd_T56 l1 x13_1).f2.f2)))))))) = true := c8
                  clear c8
                  obtain rfl := Option.some.inj H
                  have p216 : 0 ≤ (x13_1 : Int) := of_decide_eq_true (by first | (with_reducible assumption) | assumption)
                  have q216 : x13_1 < (l0.length : Int) := of_decide_eq_true (by first | (with_reducible assumption) | assumption)
                  obtain ⟨ad216, e216, hx216_0, hx216_1, hx216_2, hx216_3, hx216_4, hx216_5, hx216_6, hx216_7, hx216_8⟩ := at_T56 HR0.out x13_1 p216 q216
                  cases e216
                  replace p216 := eq_true p216
                  replace q216 := eq_true q216
                  have p217 : 0 ≤ (x13_1 : Int) := of_decide_eq_true (by first | (with_reducible assumption) | assumption)
                  have q217 : x13_1 < (l1.length : Int) := of_decide_eq_true (by first | (with_reducible assumption) | assumption)
                  obtain ⟨ad217, e217, hx217_0, hx217_1, hx217_2, hx217_3, hx217_4, hx217_5, hx217_6, hx217_7, hx217_8⟩ := at_T56 HR1.out x13_1 p217 q217
                  cases e217
                  replace p217 := eq_true p217
                  replace q217 := eq_true q217
                  go_wp2
                  repeat (go_quiet (fail); try go_wp2)
                  go_ret
                  exact ⟨rs, by repeat (first | exact Drawn0.refl _ | apply Drawn0.step)⟩
                · rw [if_neg c8] at H
                  have c8b0 : (!((((rd_T56 l0 x13_1).f0).toList) == (((rd_T56 l1 x13_1).f0).toList)) || ((!(((rd_T56 l0 x13_1).f1.f0) == ((rd_T56 l1 x13_1).f1.f0)) || (!(((rd_T56 l0 x13_1).f1.f1) == ((rd_T56 l1 x13_1).f1.f1)) || (!(((rd_T56 l0 x13_1).f1.f2) == ((rd_T56 l1 x13_1).f1.f2)) || (!(((rd_T56 l0 x13_1).f1.f3) == ((rd_T56 l1 x13_1).f1.f3)) || (!(((rd_T56 l0 x13_1).f1.f4) == ((rd_T56 l1 x13_1).f1.f4))))))) || ((!(((rd_T56 l0 x13_1).f2.f0) == ((rd_T56 l1 x13_1).f2.f0)) || (!(((rd_T56 l0 x13_1).f2.f1) == ((rd_T56 l1 x13_1).f2.f1)) || (!(((rd_T56 l0 x13_1).f2.f2) == ((rd_T56 l1 x13_1).f2.f2)))))))) = false := by simpa using c8
                  clear c8
                  have H' := Aside0.mk H
                  clear H
                  have p216 : 0 ≤ (x13_1 : Int) := of_decide_eq_true (by first | (with_reducible assumption) | assumption)
                  have q216 : x13_1 < (l0.length : Int) := of_decide_eq_true (by first | (with_reducible assumption) | assumption)
                  obtain ⟨ad216, e216, hx216_0, hx216_1, hx216_2, hx216_3, hx216_4, hx216_5, hx216_6, hx216_7, hx216_8⟩ := at_T56 HR0.out x13_1 p216 q216
                  cases e216
                  replace p216 := eq_true p216
                  replace q216 := eq_true q216
                  have p217 : 0 ≤ (x13_1 : Int) := of_decide_eq_true (by first | (with_reducible assumption) | assumption)
                  have q217 : x13_1 < (l1.length : Int) := of_decide_eq_true (by first | (with_reducible assumption) | assumption)
                  obtain ⟨ad217, e217, hx217_0, hx217_1, hx217_2, hx217_3, hx217_4, hx217_5, hx217_6, hx217_7, hx217_8⟩ := at_T56 HR1.out x13_1 p217 q217
                  cases e217
                  replace p217 := eq_true p217
                  replace q217 := eq_true q217
                  go_wp2
                  repeat (go_quiet (fail); try go_wp2)
                  go_roundg k1
                  case measure => have := HK1.out; omega
                  case rel => exact ⟨(wrap64 (x13_1 + 1)), rs, H', ⟨by have := HK1.out; omega⟩, by repeat (first | exact Drawn0.refl _ | apply Drawn0.step)⟩
              · rw [if_neg c7] at H
                exact absurd H (by simp)
            · rw [if_neg c6] at H
              exact absurd H (by simp)
          · rw [if_neg c5] at H
            exact absurd H (by simp)
        · rw [if_neg c4] at H
          have c4b0 : decide (x13_1 < (l0.length : Int)) = false := decide_eq_false c4
          clear c4
          obtain rfl := Option.some.inj H
          go_wp2
          repeat (go_quiet (fail); try go_wp2)
          go_ret
          exact ⟨rs, by repeat (first | exact Drawn0.refl _ | apply Drawn0.step)⟩
  · rw [if_neg c3] at H
    have c3b0 : ((l0.length : Int) == (l1.length : Int)) = false := beq_eq_false_iff_ne.mpr c3
    have c3b1 : ((l0.length : Int) != (l1.length : Int)) = true := bne_iff_ne.mpr c3
    have c3b2 : (l0.length == l1.length) = false := by first | simpa using c3 | (simp at c3 ⊢; omega)
    obtain rfl := Option.some.inj H
    go_enter Tryd.func32, Tryd.ntmps32
    go_wp2
    repeat (go_quiet (fail); try go_wp2)
    go_ret
    exact ⟨rs, by repeat (first | exact Drawn0.refl _ | apply Drawn0.step)⟩

end Go.Proofs.YtnhngjhodcikiaaDoor.F
