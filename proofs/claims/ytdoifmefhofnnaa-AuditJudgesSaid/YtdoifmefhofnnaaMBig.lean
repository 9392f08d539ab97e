/- The document's numbers of any size (turnstileref24): digits in base 2^32, the lowest first. -/
import Derived.Test.YtdoifmefhofnnaaMBase
import Derived.Test.YtdoifmefhofnnaaDx27
import Derived.Test.YtdoifmefhofnnaaDx28
import Derived.Test.YtdoifmefhofnnaaDx29
import Derived.Test.YtdoifmefhofnnaaDx31
namespace Go.Proofs.Ytdoifmefhofnnaa.M
set_option linter.unusedVariables false
set_option linter.unusedSimpArgs false
open Go.RowKit Go.Proofs.Ytdoifmefhofnnaa.D Go.Proofs.YtdoifmefhofnnaaW.PrintWords Go.Proofs.YtdoifmefhofnnaaW.PrintMore
/-- What digits mean. -/
def bv : List Int → Int
  | [] => 0
  | d :: ds => d + 4294967296 * bv ds
def Dg (l : List Int) : Prop := ∀ x ∈ l, 0 ≤ x ∧ x < 4294967296
/-- Digits without zeros at their end. -/
structure Nm (l : List Int) : Prop where
  dg : Dg l
  top : l ≠ [] → (4294967296 : Int) ^ (l.length - 1) ≤ bv l
theorem Dg.nil : Dg [] := fun x hx => by cases hx
theorem Nm.nil : Nm [] := ⟨Dg.nil, fun h => absurd rfl h⟩
theorem Dg.cons {x : Int} {l : List Int} (hx : 0 ≤ x ∧ x < 4294967296) (h : Dg l) : Dg (x :: l) := fun y hy => by
  rcases List.mem_cons.1 hy with rfl | hy
  · exact hx
  · exact h y hy
theorem Dg.head {x : Int} {l : List Int} (h : Dg (x :: l)) : 0 ≤ x ∧ x < 4294967296 := h x (List.mem_cons_self ..)
theorem Dg.tail {x : Int} {l : List Int} (h : Dg (x :: l)) : Dg l := fun y hy => h y (List.mem_cons_of_mem _ hy)
theorem Dg.take {l : List Int} (h : Dg l) (n : Nat) : Dg (l.take n) := fun y hy => h y (List.mem_of_mem_take hy)
theorem pow_pos' (n : Nat) : (0 : Int) < 4294967296 ^ n := Int.pow_pos (by decide)
theorem bv_range : ∀ (l : List Int), Dg l → 0 ≤ bv l ∧ bv l < 4294967296 ^ l.length
  | [], _ => by simp [bv]
  | d :: ds, h => by
    have h1 := h.head
    have h2 := bv_range ds h.tail
    simp only [bv, List.length_cons, Int.pow_succ]
    omega
theorem bv_append : ∀ (l m : List Int), bv (l ++ m) = bv l + 4294967296 ^ l.length * bv m
  | [], m => by simp [bv]
  | d :: ds, m => by
    simp only [List.cons_append, bv, List.length_cons, Int.pow_succ]
    rw [bv_append ds m, Int.mul_add, ← Int.mul_assoc, Int.mul_comm (4294967296 ^ ds.length) 4294967296]
    omega
theorem bv_one (x : Int) : bv [x] = x := by simp [bv]
theorem bv_snoc (l : List Int) (x : Int) : bv (l ++ [x]) = bv l + 4294967296 ^ l.length * x := by rw [bv_append, bv_one]
theorem Nm_snoc {l : List Int} {x : Int} (h : Dg l) (h0 : 0 < x) (h1 : x < 4294967296) : Nm (l ++ [x]) := by
  refine ⟨fun y hy => ?_, fun _ => ?_⟩
  · rcases List.mem_append.1 hy with hy | hy
    · exact h y hy
    · rw [List.mem_singleton.1 hy]; omega
  · rw [bv_snoc, List.length_append, List.length_singleton, Nat.add_sub_cancel]
    have hr := (bv_range l h).1
    have hm : (4294967296 : Int) ^ l.length * 1 ≤ 4294967296 ^ l.length * x := Int.mul_le_mul_of_nonneg_left (by omega) (Int.le_of_lt (pow_pos' _))
    omega
theorem Nm_one {x : Int} (h0 : 0 < x) (h1 : x < 4294967296) : Nm [x] := Nm_snoc (l := []) Dg.nil h0 h1
/-! ### Of -/
theorem Of_ok {x : Int} (h : U x) (k : Nat) : ∃ l, turnstileref24_Of.f (k + 3) x = some l ∧ Nm l ∧ bv l = x ∧ l.length ≤ 2 := by
  have h0 := h.1
  have h1 := h.2
  have d1 : IntKind.u64.wrap (Int.tdiv x 4294967296) = x / 4294967296 := by rw [Int.tdiv_eq_ediv_of_nonneg h0]; exact wr_id (by unfold U; omega)
  have m1 : Int.tmod x 4294967296 = x % 4294967296 := Int.tmod_eq_emod_of_nonneg h0
  unfold turnstileref24_Of.f
  by_cases c : x > 0
  · rw [turnstileref24_Of.l0, if_pos c, if_pos (by simp), d1, m1]
    by_cases c2 : x / 4294967296 > 0
    · have d2 : IntKind.u64.wrap (Int.tdiv (x / 4294967296) 4294967296) = 0 := by rw [Int.tdiv_eq_ediv_of_nonneg (by omega), show x / 4294967296 / 4294967296 = 0 by omega]; exact wr_id (by unfold U; omega)
      have m2 : Int.tmod (x / 4294967296) 4294967296 = x / 4294967296 := by rw [Int.tmod_eq_emod_of_nonneg (by omega)]; omega
      rw [turnstileref24_Of.l0, if_pos c2, if_pos (by simp), d2, m2, turnstileref24_Of.l0, if_neg (by omega)]
      refine ⟨_, rfl, ?_, ?_, by simp⟩
      · exact Nm_snoc (l := [] ++ [x % 4294967296]) (by intro y hy; simp at hy; omega) (by omega) (by omega)
      · simp [bv]; omega
    · rw [turnstileref24_Of.l0, if_neg c2]
      refine ⟨_, rfl, ?_, ?_, by simp⟩
      · exact Nm_one (by omega) (by omega)
      · simp [bv]; omega
  · rw [turnstileref24_Of.l0, if_neg c]
    exact ⟨[], rfl, Nm.nil, by simp [bv]; omega, by simp⟩
/-! ### AtMost -/
theorem get_rd {l : List Int} {i : Nat} (h : i < l.length) : rd l (i : Int) = l[i] := by
  unfold rd
  rw [Int.toNat_natCast, List.getD_eq_getElem?_getD, List.getElem?_eq_getElem h]
  rfl
theorem take_snoc {l : List Int} {i : Nat} (h : i < l.length) : l.take (i + 1) = l.take i ++ [l[i]] := List.take_succ_eq_append_getElem h
theorem bv_take {l : List Int} {i : Nat} (h : i < l.length) : bv (l.take (i + 1)) = bv (l.take i) + 4294967296 ^ i * l[i] := by
  rw [take_snoc h, bv_snoc, List.length_take, Nat.min_eq_left (by omega)]
theorem cmp_go {a b : List Int} (ha : Dg a) (hb : Dg b) (he : a.length = b.length) (hl : a.length ≤ 9223372036854775807) (j : Nat) : ∀ (i : Nat), i ≤ a.length → turnstileref24_AtMost.l0 (i + j + 1) a b ((i : Int) - 1) = some (decide (bv (a.take i) ≤ bv (b.take i)))
  | 0, _ => by
    rw [turnstileref24_AtMost.l0, if_neg (by omega)]
    simp [bv]
  | i + 1, h => by
    have ia : i < a.length := by omega
    have ib : i < b.length := by omega
    have ra := bv_range (a.take i) (ha.take i)
    have rb := bv_range (b.take i) (hb.take i)
    rw [List.length_take, Nat.min_eq_left (by omega)] at ra rb
    have ga := ha _ (List.getElem_mem ia)
    have gb := hb _ (List.getElem_mem ib)
    rw [show i + 1 + j + 1 = (i + j + 1) + 1 by omega, turnstileref24_AtMost.l0, show (((i + 1 : Nat) : Int)) - 1 = (i : Int) by omega, if_pos (by omega), if_pos (by omega), if_pos (by omega), if_pos (by omega), get_rd ia, get_rd ib, bv_take ia, bv_take ib]
    by_cases c : a[i] = b[i]
    · rw [if_pos c, show wrap64 ((i : Int) - 1) = (i : Int) - 1 by unfold wrap64; omega, cmp_go ha hb he hl j i (by omega), c]
      congr 1
      exact decide_eq_decide.2 (by omega)
    · rw [if_neg c]
      congr 1
      refine decide_eq_decide.2 ?_
      have hp := pow_pos' i
      rcases Int.lt_or_lt_of_ne c with d | d
      · have hm : (4294967296 : Int) ^ i * (a[i] + 1) ≤ 4294967296 ^ i * b[i] := Int.mul_le_mul_of_nonneg_left (by omega) (Int.le_of_lt hp)
        rw [Int.mul_add] at hm
        constructor <;> intro _ <;> omega
      · have hm : (4294967296 : Int) ^ i * (b[i] + 1) ≤ 4294967296 ^ i * a[i] := Int.mul_le_mul_of_nonneg_left (by omega) (Int.le_of_lt hp)
        rw [Int.mul_add] at hm
        constructor <;> intro _ <;> omega
theorem pow_mono' {m n : Nat} (h : m ≤ n) : (4294967296 : Int) ^ m ≤ 4294967296 ^ n := by
  obtain ⟨d, rfl⟩ := Nat.le.dest h
  rw [Int.pow_add]
  have h1 := pow_pos' d
  have h2 : (4294967296 : Int) ^ m * 1 ≤ 4294967296 ^ m * 4294967296 ^ d := Int.mul_le_mul_of_nonneg_left (by omega) (Int.le_of_lt (pow_pos' m))
  omega
theorem Nm_short {a b : List Int} (ha : Dg a) (hb : Nm b) (h : a.length < b.length) : bv a < bv b := by
  have h1 := (bv_range a ha).2
  have h2 := hb.top (fun e => by rw [e] at h; simp at h)
  have h3 := pow_mono' (show a.length ≤ b.length - 1 by omega)
  omega
theorem AtMost_ok {a b : List Int} (ha : Nm a) (hb : Nm b) (hl : a.length ≤ 9223372036854775807) (k : Nat) (hk : a.length < k) : turnstileref24_AtMost.f k a b = some (decide (bv a ≤ bv b)) := by
  unfold turnstileref24_AtMost.f
  by_cases c : (a.length : Int) = (b.length : Int)
  · rw [if_pos c, show wrap64 ((a.length : Int) - 1) = (a.length : Int) - 1 by unfold wrap64; omega]
    have h := cmp_go ha.dg hb.dg (by omega) hl (k - a.length - 1) a.length (Nat.le_refl _)
    rw [show a.length + (k - a.length - 1) + 1 = k by omega, List.take_length, show a.length = b.length by omega, List.take_length] at h
    rw [show a.length = b.length by omega]
    exact h
  · rw [if_neg c]
    congr 1
    refine decide_eq_decide.2 ?_
    rcases Nat.lt_or_gt_of_ne (show a.length ≠ b.length by omega) with d | d
    · have := Nm_short ha.dg hb d
      constructor <;> intro _ <;> omega
    · have := Nm_short hb.dg ha d
      constructor <;> intro _ <;> omega
/-! ### Plus -/
def dig (l : List Int) (i : Nat) : Int := l.getD i 0
theorem dig_in {l : List Int} {i : Nat} (h : i < l.length) : dig l i = l[i] := by unfold dig; rw [List.getD_eq_getElem?_getD, List.getElem?_eq_getElem h]; rfl
theorem dig_out {l : List Int} {i : Nat} (h : ¬ i < l.length) : dig l i = 0 := by unfold dig; rw [List.getD_eq_getElem?_getD, List.getElem?_eq_none (by omega)]; rfl
theorem dig_range {l : List Int} (h : Dg l) (i : Nat) : 0 ≤ dig l i ∧ dig l i < 4294967296 := by
  by_cases c : i < l.length
  · rw [dig_in c]; exact h _ (List.getElem_mem c)
  · rw [dig_out c]; omega
theorem rd_dig {l : List Int} {i : Nat} (h : i < l.length) : rd l (i : Int) = dig l i := by rw [get_rd h, dig_in h]
theorem bv_dig (l : List Int) (i : Nat) : bv (l.take (i + 1)) = bv (l.take i) + 4294967296 ^ i * dig l i := by
  by_cases c : i < l.length
  · rw [bv_take c, dig_in c]
  · rw [dig_out c, List.take_of_length_le (by omega), List.take_of_length_le (by omega)]; omega
theorem plus_step {a b s : List Int} {c : Int} {i : Nat} (ha : Dg a) (hb : Dg b) (hc : 0 ≤ c ∧ c ≤ 1) (hs : s.length < 17592186044416) (hi : i < 9223372036854775806) (go : i < a.length ∨ i < b.length ∨ c > 0) (k : Nat) :
    turnstileref24_Plus.l0 (k + 2) a b s c (i : Int) = turnstileref24_Plus.l0 k a b (s ++ [(c + dig a i + dig b i) % 4294967296]) ((c + dig a i + dig b i) / 4294967296) ((i + 1 : Nat) : Int) := by
  have ra := dig_range ha i
  have rb := dig_range hb i
  have wi : wrap64 ((i : Int) + 1) = ((i + 1 : Nat) : Int) := by unfold wrap64; omega
  have w : ∀ x : Int, 0 ≤ x → x < 4294967296 * 3 → IntKind.u64.wrap x = x := fun x h0 h1 => wr_id (by unfold U; omega)
  have dv : ∀ x : Int, 0 ≤ x → x < 4294967296 * 3 → IntKind.u64.wrap (Int.tdiv x 4294967296) = x / 4294967296 := fun x h0 h1 => by rw [Int.tdiv_eq_ediv_of_nonneg h0]; exact w _ (by omega) (by omega)
  have md : ∀ x : Int, 0 ≤ x → Int.tmod x 4294967296 = x % 4294967296 := fun x h0 => Int.tmod_eq_emod_of_nonneg h0
  have J : turnstileref24_Plus.l0 (k + 2) a b s c (i : Int) = turnstileref24_Plus.j1 (k + 1) a b s c (i : Int) true := by
    rw [turnstileref24_Plus.l0]
    by_cases p : (i : Int) < (a.length : Int)
    · rw [if_pos p]
    · rw [if_neg p]
      by_cases q : (i : Int) < (b.length : Int)
      · rw [if_pos q]
      · rw [if_neg q, decide_eq_true (show c > 0 by omega)]
  rw [J, turnstileref24_Plus.j1, if_pos rfl]
  by_cases p : (i : Int) < (a.length : Int)
  · rw [if_pos p, if_pos (by omega)]
    by_cases q : (i : Int) < (b.length : Int)
    · rw [if_pos q, if_pos (by omega), rd_dig (l := a) (by omega), rd_dig (l := b) (by omega), w (c + dig a i) (by omega) (by omega), w (c + dig a i + dig b i) (by omega) (by omega), md _ (by omega), dv _ (by omega) (by omega), wi]
    · have z : dig b i = 0 := dig_out (by omega)
      rw [if_neg q, if_pos (by omega), rd_dig (l := a) (by omega), w (c + dig a i) (by omega) (by omega), md _ (by omega), dv _ (by omega) (by omega), wi, z, Int.add_zero]
  · have z : dig a i = 0 := dig_out (by omega)
    rw [if_neg p, z, Int.add_zero]
    by_cases q : (i : Int) < (b.length : Int)
    · rw [if_pos q, if_pos (by omega), if_pos (by omega), rd_dig (l := b) (by omega), w (c + dig b i) (by omega) (by omega), md _ (by omega), dv _ (by omega) (by omega), wi]
    · have z2 : dig b i = 0 := dig_out (by omega)
      rw [if_neg q, if_pos (by omega), md _ (by omega), dv _ (by omega) (by omega), wi, z2, Int.add_zero]
theorem carry_eq (P v : Int) : P * (v % 4294967296) + P * 4294967296 * (v / 4294967296) = P * v := by
  rw [Int.mul_assoc, ← Int.mul_add, Int.emod_add_mul_ediv]
theorem plus_go {a b : List Int} (ha : Nm a) (hb : Nm b) (n : Nat) (na : a.length ≤ n) (nb : b.length ≤ n) (nn : n = a.length ∨ n = b.length) (hn : n ≤ 1000000000) (j : Nat) : ∀ (m i : Nat) (s : List Int) (c : Int), i + m = n + 1 → s.length = i → Dg s → (0 ≤ c ∧ c ≤ 1) →
    bv s + 4294967296 ^ i * c = bv (a.take i) + bv (b.take i) → (i ≤ n ∨ (4294967296 : Int) ^ n ≤ bv a + bv b) → ∃ r, turnstileref24_Plus.l0 (2 * m + j + 2) a b s c (i : Int) = some r ∧ Nm r ∧ bv r = bv a + bv b ∧ r.length ≤ n + 1 := by
  intro m
  induction m with
  | zero =>
    intro i s c h hs hd hc hv hq
    have ta : bv (a.take i) = bv a := by rw [List.take_of_length_le (by omega)]
    have tb : bv (b.take i) = bv b := by rw [List.take_of_length_le (by omega)]
    rw [ta, tb] at hv
    have ra := bv_range a ha.dg
    have rb := bv_range b hb.dg
    have pa := pow_mono' na
    have pb := pow_mono' nb
    have rs := bv_range s hd
    have pi : (4294967296 : Int) ^ i = 4294967296 ^ n * 4294967296 := by rw [show i = n + 1 by omega, Int.pow_succ]
    have pn := pow_pos' n
    have c0 : c = 0 := by
      rcases (show c = 0 ∨ c = 1 by omega) with e | e
      · exact e
      · rw [e, pi] at hv
        omega
    rw [c0] at hv ⊢
    rcases hq with q | q
    · omega
    refine ⟨s, ?_, ⟨hd, fun ne => ?_⟩, by omega, by omega⟩
    · rw [show 2 * 0 + j + 2 = j + 1 + 1 by omega, turnstileref24_Plus.l0, if_neg (by omega), if_neg (by omega), turnstileref24_Plus.j1, if_neg (by simp)]
    · rw [show s.length - 1 = n by omega]
      omega
  | succ m ih =>
    intro i s c h hs hd hc hv hq
    by_cases stop : n ≤ i ∧ c = 0
    · obtain ⟨q, c0⟩ := stop
      have ta : bv (a.take i) = bv a := by rw [List.take_of_length_le (by omega)]
      have tb : bv (b.take i) = bv b := by rw [List.take_of_length_le (by omega)]
      rw [ta, tb] at hv
      have ra := bv_range a ha.dg
      have rb := bv_range b hb.dg
      rw [c0] at hv ⊢
      refine ⟨s, ?_, ⟨hd, fun ne => ?_⟩, by omega, by omega⟩
      · rw [show 2 * (m + 1) + j + 2 = (2 * (m + 1) + j) + 1 + 1 by omega, turnstileref24_Plus.l0, if_neg (by omega), if_neg (by omega), turnstileref24_Plus.j1, if_neg (by simp)]
      · have hi : i ≠ 0 := fun e => ne (List.length_eq_zero_iff.1 (by omega))
        rw [hs, show i = n by omega]
        rcases nn with e | e
        · have := ha.top (fun z => by rw [z] at e; simp at e; omega)
          rw [← e] at this
          omega
        · have := hb.top (fun z => by rw [z] at e; simp at e; omega)
          rw [← e] at this
          omega
    · have da := dig_range ha.dg i
      have db := dig_range hb.dg i
      have go : i < a.length ∨ i < b.length ∨ c > 0 := by omega
      have st := plus_step (a := a) (b := b) (s := s) (c := c) (i := i) ha.dg hb.dg hc (by omega) (by omega) go (2 * m + j + 2)
      rw [show 2 * (m + 1) + j + 2 = (2 * m + j + 2) + 2 by omega, st]
      have e1 : bv (s ++ [(c + dig a i + dig b i) % 4294967296]) + 4294967296 ^ (i + 1) * ((c + dig a i + dig b i) / 4294967296) = bv (a.take (i + 1)) + bv (b.take (i + 1)) := by
        rw [bv_dig a i, bv_dig b i, bv_snoc, hs, Int.pow_succ, Int.add_assoc, carry_eq]
        rw [Int.mul_add, Int.mul_add]
        omega
      refine ih (i + 1) _ _ (by omega) (by rw [List.length_append, List.length_singleton, hs]) (fun y hy => ?_) (by omega) e1 ?_
      · rcases List.mem_append.1 hy with hy | hy
        · exact hd y hy
        · rw [List.mem_singleton.1 hy]; omega
      · by_cases q : i + 1 ≤ n
        · exact Or.inl q
        · right
          have ta : bv (a.take i) = bv a := by rw [List.take_of_length_le (by omega)]
          have tb : bv (b.take i) = bv b := by rw [List.take_of_length_le (by omega)]
          rw [ta, tb, show i = n by omega, show c = 1 by omega] at hv
          have rs := bv_range s hd
          omega
theorem Plus_ok {a b : List Int} (ha : Nm a) (hb : Nm b) (n : Nat) (na : a.length ≤ n) (nb : b.length ≤ n) (hn : n ≤ 1000000000) (k : Nat) : ∃ r, turnstileref24_Plus.f (2 * n + k + 4) a b = some r ∧ Nm r ∧ bv r = bv a + bv b ∧ r.length ≤ n + 1 := by
  have h := plus_go ha hb (max a.length b.length) (by omega) (by omega) (by omega) (by omega) (2 * n + k - 2 * max a.length b.length) (max a.length b.length + 1) 0 [] 0 (by omega) rfl Dg.nil (by omega) (by simp [bv]) (Or.inl (by omega))
  obtain ⟨r, e, h1, h2, h3⟩ := h
  refine ⟨r, ?_, h1, h2, by omega⟩
  unfold turnstileref24_Plus.f
  rw [show 2 * (max a.length b.length + 1) + (2 * n + k - 2 * max a.length b.length) + 2 = 2 * n + k + 4 by omega] at e
  exact e
/-! ### Without zeros at the end -/
theorem strip_T {p : List Int} (hd : Dg p) (hl : p.length ≤ 2000000000) (j : Nat) : ∀ (n : Nat), n ≤ p.length → ∃ r, turnstileref24_Times.l2 (n + j + 1) p (n : Int) = some r ∧ Nm r ∧ bv r = bv (p.take n) ∧ r.length ≤ n
  | 0, _ => by
    refine ⟨[], ?_, Nm.nil, by simp [bv], by simp⟩
    rw [turnstileref24_Times.l2, if_neg (by omega), if_pos (by omega), if_pos (by omega)]
    rfl
  | n + 1, h => by
    have hn : n < p.length := by omega
    have gp := hd _ (List.getElem_mem hn)
    rw [show n + 1 + j + 1 = (n + j + 1) + 1 by omega, turnstileref24_Times.l2, if_pos (by omega), show wrap64 (((n + 1 : Nat) : Int) - 1) = (n : Int) by unfold wrap64; omega, if_pos (by omega), if_pos (by omega), get_rd hn]
    by_cases z : p[n] = 0
    · rw [if_pos z]
      obtain ⟨r, e, h1, h2, h3⟩ := strip_T hd hl j n (by omega)
      exact ⟨r, e, h1, by rw [h2, bv_take hn, z]; omega, by omega⟩
    · rw [if_neg z, if_pos (by omega), if_pos (by omega), Int.toNat_natCast]
      refine ⟨_, rfl, ?_, rfl, by rw [List.length_take]; omega⟩
      rw [take_snoc hn]
      exact Nm_snoc (hd.take n) (by omega) (by omega)
theorem strip_m {p : List Int} (hd : Dg p) (hl : p.length ≤ 2000000000) (j : Nat) : ∀ (n : Nat), n ≤ p.length → ∃ r, turnstileref24_minus.l1 (n + j + 1) p (n : Int) = some r ∧ Nm r ∧ bv r = bv (p.take n) ∧ r.length ≤ n
  | 0, _ => by
    refine ⟨[], ?_, Nm.nil, by simp [bv], by simp⟩
    rw [turnstileref24_minus.l1, if_neg (by omega), if_pos (by omega), if_pos (by omega)]
    rfl
  | n + 1, h => by
    have hn : n < p.length := by omega
    have gp := hd _ (List.getElem_mem hn)
    rw [show n + 1 + j + 1 = (n + j + 1) + 1 by omega, turnstileref24_minus.l1, if_pos (by omega), show wrap64 (((n + 1 : Nat) : Int) - 1) = (n : Int) by unfold wrap64; omega, if_pos (by omega), if_pos (by omega), get_rd hn]
    by_cases z : p[n] = 0
    · rw [if_pos z]
      obtain ⟨r, e, h1, h2, h3⟩ := strip_m hd hl j n (by omega)
      exact ⟨r, e, h1, by rw [h2, bv_take hn, z]; omega, by omega⟩
    · rw [if_neg z, if_pos (by omega), if_pos (by omega), Int.toNat_natCast]
      refine ⟨_, rfl, ?_, rfl, by rw [List.length_take]; omega⟩
      rw [take_snoc hn]
      exact Nm_snoc (hd.take n) (by omega) (by omega)
/-! ### Times -/
theorem bv_set : ∀ (l : List Int) (n : Nat) (x : Int), n < l.length → bv (l.set n x) = bv l + 4294967296 ^ n * (x - dig l n)
  | [], n, x, h => absurd h (by simp)
  | d :: ds, 0, x, h => by
    simp [bv, dig]
    omega
  | d :: ds, n + 1, x, h => by
    have ih := bv_set ds n x (by simpa using h)
    have e : dig (d :: ds) (n + 1) = dig ds n := by simp [dig]
    rw [List.set_cons_succ, bv, bv, ih, e, Int.pow_succ, Int.mul_add, ← Int.mul_assoc, Int.mul_comm 4294967296 (4294967296 ^ n)]
    omega
theorem Dg.set {l : List Int} (h : Dg l) {x : Int} (hx : 0 ≤ x ∧ x < 4294967296) (n : Nat) : Dg (l.set n x) := fun y hy => by
  rcases List.mem_or_eq_of_mem_set hy with hy | rfl
  · exact h y hy
  · exact hx
theorem dig_set_ne {l : List Int} {n m : Nat} (x : Int) (h : n ≠ m) : dig (l.set n x) m = dig l m := by
  unfold dig
  rw [List.getD_eq_getElem?_getD, List.getD_eq_getElem?_getD, List.getElem?_set_ne h]
theorem mul_small {x y : Int} (hx : 0 ≤ x ∧ x < 4294967296) (hy : 0 ≤ y ∧ y < 4294967296) : 0 ≤ x * y ∧ x * y ≤ 18446744065119617025 :=
  ⟨Int.mul_nonneg hx.1 hy.1, by have := Int.mul_le_mul (show x ≤ 4294967295 by omega) (show y ≤ 4294967295 by omega) hy.1 (by omega); omega⟩
theorem Tl1 (k : Nat) (x0 x1 x5 : List Int) (x6 x7 x8 : Int) : turnstileref24_Times.l1 (k + 1) x0 x1 x5 x6 x7 x8 = if x8 < (x1.length : Int) then (if 0 ≤ (wrap64 (x6 + x8)) then (if (wrap64 (x6 + x8)) < (x5.length : Int) then (if 0 ≤ x6 then (if x6 < (x0.length : Int) then (if 0 ≤ x8 then (turnstileref24_Times.l1 k x0 x1 (x5.set ((wrap64 (x6 + x8)) : Int).toNat (Int.tmod (IntKind.u64.wrap (x7 + (IntKind.u64.wrap ((rd x5 (wrap64 (x6 + x8))) + (IntKind.u64.wrap ((rd x0 x6) * (rd x1 x8))))))) 4294967296)) x6 (IntKind.u64.wrap (Int.tdiv (IntKind.u64.wrap (x7 + (IntKind.u64.wrap ((rd x5 (wrap64 (x6 + x8))) + (IntKind.u64.wrap ((rd x0 x6) * (rd x1 x8))))))) 4294967296)) (wrap64 (x8 + 1))) else (none)) else (none)) else (none)) else (none)) else (none)) else (if 0 ≤ (wrap64 (x6 + (x1.length : Int))) then (if (wrap64 (x6 + (x1.length : Int))) < (x5.length : Int) then (turnstileref24_Times.l0 k x0 x1 (x5.set ((wrap64 (x6 + (x1.length : Int))) : Int).toNat x7) (wrap64 (x6 + 1))) else (none)) else (none)) := rfl
theorem times_end {a b p : List Int} (hl : a.length + b.length ≤ 1000000) {i : Nat} (hi : i < a.length) (hp : p.length = a.length + b.length) (c : Int) (K : Nat) :
    turnstileref24_Times.l1 (K + 1) a b p (i : Int) c (b.length : Int) = turnstileref24_Times.l0 K a b (p.set (i + b.length) c) ((i + 1 : Nat) : Int) := by
  have e : wrap64 ((i : Int) + (b.length : Int)) = ((i + b.length : Nat) : Int) := by unfold wrap64; omega
  rw [Tl1, if_neg (by omega), e, if_pos (by omega), if_pos (by omega), Int.toNat_natCast, show wrap64 ((i : Int) + 1) = ((i + 1 : Nat) : Int) by unfold wrap64; omega]
theorem wrap_succ {j : Nat} (h : j < 1000000) : wrap64 ((j : Int) + 1) = ((j + 1 : Nat) : Int) := by unfold wrap64; omega
theorem wrap_add {i j : Nat} (h : i + j < 1000000) : wrap64 ((i : Int) + (j : Int)) = ((i + j : Nat) : Int) := by unfold wrap64; omega
theorem dvU {V : Int} (h0 : 0 ≤ V) (h1 : V < 18446744073709551616) : IntKind.u64.wrap (V / 4294967296) = V / 4294967296 := wr_id (by unfold U; omega)
theorem times_step {a b p : List Int} (ha : Dg a) (hb : Dg b) (hd : Dg p) (hl : a.length + b.length ≤ 1000000) {i j : Nat} (hi : i < a.length) (hj : j < b.length) (hp : p.length = a.length + b.length) {c : Int} (hc : 0 ≤ c ∧ c < 4294967296) (K : Nat) :
    turnstileref24_Times.l1 (K + 1) a b p (i : Int) c (j : Int) = turnstileref24_Times.l1 K a b (p.set (i + j) ((c + dig p (i + j) + dig a i * dig b j) % 4294967296)) (i : Int) ((c + dig p (i + j) + dig a i * dig b j) / 4294967296) ((j + 1 : Nat) : Int) ∧
    (0 ≤ c + dig p (i + j) + dig a i * dig b j ∧ c + dig p (i + j) + dig a i * dig b j < 18446744073709551616) := by
  have q9 : i + j < 1000000 := by clear hc hd ha hb; omega
  have q10 : j < 1000000 := by clear hc hd ha hb; omega
  have e : wrap64 ((i : Int) + (j : Int)) = ((i + j : Nat) : Int) := wrap_add q9
  have q8 : wrap64 ((j : Int) + 1) = ((j + 1 : Nat) : Int) := wrap_succ q10
  have q1 : (j : Int) < (b.length : Int) := by clear hc hd ha hb; omega
  have q2 : (0 : Int) ≤ ((i + j : Nat) : Int) := by clear hc hd ha hb; omega
  have q3 : ((i + j : Nat) : Int) < (p.length : Int) := by clear hc hd ha hb; omega
  have q4 : (0 : Int) ≤ (i : Int) := by clear hc hd ha hb; omega
  have q5 : (i : Int) < (a.length : Int) := by clear hc hd ha hb; omega
  have q6 : (0 : Int) ≤ (j : Int) := by clear hc hd ha hb; omega
  have q7 : i + j < p.length := by clear hc hd ha hb; omega
  have ra := dig_range ha i
  have rb := dig_range hb j
  have rp := dig_range hd (i + j)
  have mm := mul_small ra rb
  generalize hM : dig a i * dig b j = M at mm ⊢
  have w : ∀ x : Int, 0 ≤ x → x < 18446744073709551616 → IntKind.u64.wrap x = x := fun x h0 h1 => wr_id ⟨h0, h1⟩
  have e1 : IntKind.u64.wrap (c + IntKind.u64.wrap (dig p (i + j) + IntKind.u64.wrap M)) = c + dig p (i + j) + M := by
    rw [w M (by omega) (by omega), w (dig p (i + j) + M) (by omega) (by omega), w (c + (dig p (i + j) + M)) (by omega) (by omega)]
    omega
  have v0 : 0 ≤ c + dig p (i + j) + M := by omega
  have v1 : c + dig p (i + j) + M < 18446744073709551616 := by omega
  refine ⟨?_, v0, v1⟩
  rw [Tl1, if_pos q1, e, if_pos q2, if_pos q3, if_pos q4, if_pos q5, if_pos q6, rd_dig (l := p) q7, rd_dig (l := a) hi, rd_dig (l := b) hj, hM, e1, Int.toNat_natCast, q8]
  rw [Int.tmod_eq_emod_of_nonneg v0, Int.tdiv_eq_ediv_of_nonneg v0, dvU v0 v1]
theorem alg1 {X Y c Q A D T S P V : Int} (hV : c + Q + A * D = V) (hv : P + X * Y * c = S + X * (A * T)) : P + X * Y * (V % 4294967296 - Q) + X * Y * 4294967296 * (V / 4294967296) = S + X * (A * (T + Y * D)) := by
  have k1 := carry_eq (X * Y) V
  have k2 : X * Y * V = X * Y * c + X * Y * Q + X * Y * (A * D) := by rw [← hV, Int.mul_add, Int.mul_add]
  have k3 : X * (A * (T + Y * D)) = X * (A * T) + X * Y * (A * D) := by
    rw [Int.mul_add, Int.mul_add, Int.mul_left_comm A Y D, ← Int.mul_assoc X Y]
  rw [k3, Int.mul_sub]
  generalize X * Y * (V % 4294967296) = a1 at *
  generalize X * Y * 4294967296 * (V / 4294967296) = a2 at *
  generalize X * Y * V = a3 at *
  generalize X * Y * c = a4 at *
  generalize X * Y * Q = a5 at *
  generalize X * Y * (A * D) = a6 at *
  generalize X * (A * T) = a7 at *
  clear hV
  omega
theorem times_in {a b : List Int} (ha : Dg a) (hb : Dg b) (hl : a.length + b.length ≤ 1000000) {i : Nat} (hi : i < a.length) (K : Nat) (S : Int) : ∀ (m j : Nat) (p : List Int) (c : Int), j + m = b.length → p.length = a.length + b.length → Dg p → (0 ≤ c ∧ c < 4294967296) →
    (∀ n, i + b.length ≤ n → dig p n = 0) → bv p + 4294967296 ^ i * 4294967296 ^ j * c = S + 4294967296 ^ i * (dig a i * bv (b.take j)) →
    ∃ q, turnstileref24_Times.l1 (m + 1 + K) a b p (i : Int) c (j : Int) = turnstileref24_Times.l0 K a b q ((i + 1 : Nat) : Int) ∧ q.length = a.length + b.length ∧ Dg q ∧ (∀ n, i + 1 + b.length ≤ n → dig q n = 0) ∧ bv q = S + 4294967296 ^ i * (dig a i * bv b)
  | 0, j, p, c, hj, hp, hd, hc, hz, hv => by
    have ej : j = b.length := by omega
    subst ej
    refine ⟨p.set (i + b.length) c, ?_, by rw [List.length_set, hp], hd.set hc _, fun n hn => ?_, ?_⟩
    · rw [show 0 + 1 + K = K + 1 by omega]
      exact times_end hl hi hp c K
    · rw [dig_set_ne _ (by omega)]
      exact hz n (by omega)
    · rw [bv_set _ _ _ (by omega), hz _ (Nat.le_refl _), Int.sub_zero, Int.pow_add]
      rw [List.take_length] at hv
      exact hv
  | m + 1, j, p, c, hj, hp, hd, hc, hz, hv => by
    have hjb : j < b.length := by omega
    obtain ⟨st, v0, v1⟩ := times_step ha hb hd hl hi hjb hp hc (m + 1 + K)
    rw [show m + 1 + 1 + K = (m + 1 + K) + 1 by omega, st]
    refine times_in ha hb hl hi K S m (j + 1) _ _ (by omega) (by rw [List.length_set, hp]) (hd.set ⟨Int.emod_nonneg _ (by decide), Int.emod_lt_of_pos _ (by decide)⟩ _) ⟨Int.ediv_nonneg v0 (by decide), Int.ediv_lt_of_lt_mul (by decide) v1⟩ (fun n hn => ?_) ?_
    · rw [dig_set_ne _ (by omega)]
      exact hz n hn
    · rw [bv_set _ _ _ (by omega), bv_dig b j, Int.pow_succ, Int.pow_add, ← Int.mul_assoc (4294967296 ^ i) (4294967296 ^ j) 4294967296]
      exact alg1 rfl hv
theorem times_out {a b : List Int} (ha : Dg a) (hb : Dg b) (hl : a.length + b.length ≤ 1000000) (J : Nat) : ∀ (m i : Nat) (p : List Int), i + m = a.length → p.length = a.length + b.length → Dg p → (∀ n, i + b.length ≤ n → dig p n = 0) → bv p = bv (a.take i) * bv b →
    ∃ r, turnstileref24_Times.l0 (m * (b.length + 2) + (a.length + b.length + J + 2)) a b p (i : Int) = some r ∧ Nm r ∧ bv r = bv a * bv b ∧ r.length ≤ a.length + b.length := by
  intro m
  induction m with
  | zero =>
    intro i p hi hp hd hz hv
    rw [Nat.zero_mul, Nat.zero_add, show a.length + b.length + J + 2 = (a.length + b.length + J + 1) + 1 by omega, turnstileref24_Times.l0, if_neg (by omega)]
    obtain ⟨r, e, h1, h2, h3⟩ := strip_T hd (by omega) J p.length (Nat.le_refl _)
    rw [hp] at e
    rw [hp]
    refine ⟨r, e, h1, ?_, by omega⟩
    rw [h2, List.take_length, hv, List.take_of_length_le (by omega)]
  | succ m ih =>
    intro i p hi hp hd hz hv
    obtain ⟨q, e, h1, h2, h3, h4⟩ := times_in ha hb hl (i := i) (by omega) (m * (b.length + 2) + (a.length + b.length + J + 2)) (bv (a.take i) * bv b) b.length 0 p 0 (by omega) hp hd (by omega) hz (by rw [hv, List.take_zero, bv]; simp)
    rw [show (m + 1) * (b.length + 2) + (a.length + b.length + J + 2) = (b.length + 1 + (m * (b.length + 2) + (a.length + b.length + J + 2))) + 1 by rw [Nat.succ_mul]; omega, turnstileref24_Times.l0, if_pos (by omega)]
    have e' : turnstileref24_Times.l1 (b.length + 1 + (m * (b.length + 2) + (a.length + b.length + J + 2))) a b p (i : Int) 0 0 = turnstileref24_Times.l0 (m * (b.length + 2) + (a.length + b.length + J + 2)) a b q ((i + 1 : Nat) : Int) := e
    rw [e']
    refine ih (i + 1) q (by omega) h1 h2 (fun n hn => h3 n (by omega)) ?_
    rw [h4, bv_dig, Int.add_mul, Int.mul_assoc]
theorem bv_zeros : ∀ n, bv (List.replicate n 0) = 0
  | 0 => rfl
  | n + 1 => by rw [List.replicate_succ, bv, bv_zeros n]; rfl
theorem Times_ok {a b : List Int} (ha : Nm a) (hb : Nm b) (hl : a.length + b.length ≤ 1000000) (k : Nat) : ∃ r, turnstileref24_Times.f (a.length * (b.length + 2) + (a.length + b.length + k + 2)) a b = some r ∧ Nm r ∧ bv r = bv a * bv b ∧ r.length ≤ a.length + b.length := by
  unfold turnstileref24_Times.f
  have e : wrap64 ((a.length : Int) + (b.length : Int)) = ((a.length + b.length : Nat) : Int) := by unfold wrap64; omega
  rw [e, if_pos (by omega), Int.toNat_natCast, if_pos (by omega)]
  refine times_out ha.dg hb.dg hl k a.length 0 (List.replicate (a.length + b.length) 0) (by omega) (by simp) (fun x hx => ?_) (fun n hn => ?_) (by rw [bv_zeros]; simp [bv])
  · rw [List.eq_of_mem_replicate hx]; omega
  · unfold dig
    rw [List.getD_eq_getElem?_getD, List.getElem?_replicate]
    split <;> rfl
/-! ### minus -/
theorem minus_step {a b s : List Int} {w : Int} {i : Nat} (ha : Dg a) (hb : Dg b) (hw : 0 ≤ w ∧ w ≤ 1) (hs : s.length < 17592186044416) (hi : i < a.length) (hl : a.length ≤ 1000000) (k : Nat) :
    turnstileref24_minus.l0 (k + 1) a b s w (i : Int) = turnstileref24_minus.l0 k a b (s ++ [(dig a i + 4294967296 - w - dig b i) % 4294967296]) (1 - (dig a i + 4294967296 - w - dig b i) / 4294967296) ((i + 1 : Nat) : Int) := by
  have ra := dig_range ha i
  have rb := dig_range hb i
  have wi : wrap64 ((i : Int) + 1) = ((i + 1 : Nat) : Int) := by unfold wrap64; omega
  have wr : ∀ x : Int, 0 ≤ x → x < 4294967296 * 3 → IntKind.u64.wrap x = x := fun x h0 h1 => wr_id (by unfold U; omega)
  have e1 : IntKind.u64.wrap (IntKind.u64.wrap (dig a i + 4294967296) - w) = dig a i + 4294967296 - w := by rw [wr (dig a i + 4294967296) (by omega) (by omega), wr _ (by omega) (by omega)]
  rw [turnstileref24_minus.l0, if_pos (by omega), if_pos (by omega), rd_dig (l := a) hi, e1, wi]
  by_cases q : (i : Int) < (b.length : Int)
  · rw [if_pos q, if_pos (by omega), rd_dig (l := b) (by omega), wr (dig a i + 4294967296 - w - dig b i) (by omega) (by omega), Int.tmod_eq_emod_of_nonneg (by omega), Int.tdiv_eq_ediv_of_nonneg (by omega),
      wr ((dig a i + 4294967296 - w - dig b i) / 4294967296) (by omega) (by omega), wr (1 - _) (by omega) (by omega)]
  · have z : dig b i = 0 := dig_out (by omega)
    rw [if_neg q, if_pos (by omega), z, Int.sub_zero, Int.tmod_eq_emod_of_nonneg (by omega), Int.tdiv_eq_ediv_of_nonneg (by omega),
      wr ((dig a i + 4294967296 - w) / 4294967296) (by omega) (by omega), wr (1 - _) (by omega) (by omega)]
theorem minus_go {a b : List Int} (ha : Nm a) (hb : Nm b) (hle : bv b ≤ bv a) (hl : a.length ≤ 1000000) (j : Nat) : ∀ (m i : Nat) (s : List Int) (w : Int), i + m = a.length → s.length = i → Dg s → (0 ≤ w ∧ w ≤ 1) → bv s - 4294967296 ^ i * w = bv (a.take i) - bv (b.take i) →
    ∃ r, turnstileref24_minus.l0 (m + (a.length + j + 2)) a b s w (i : Int) = some r ∧ Nm r ∧ bv r = bv a - bv b ∧ r.length ≤ a.length := by
  intro m
  induction m with
  | zero =>
    intro i s w hi hs hd hw hv
    have hlb : b.length ≤ a.length := by
      rcases Nat.lt_or_ge a.length b.length with d | d
      · have := Nm_short ha.dg hb d
        omega
      · exact d
    rw [List.take_of_length_le (by omega), List.take_of_length_le (by omega)] at hv
    have rs := bv_range s hd
    rw [hs] at rs
    have w0 : w = 0 := by
      rcases (show w = 0 ∨ w = 1 by omega) with e | e
      · exact e
      · rw [e] at hv
        omega
    rw [w0] at hv ⊢
    rw [show 0 + (a.length + j + 2) = (a.length + j + 1) + 1 by omega, turnstileref24_minus.l0, if_neg (by omega)]
    obtain ⟨r, e, h1, h2, h3⟩ := strip_m hd (by omega) j s.length (Nat.le_refl _)
    rw [show a.length + j + 1 = s.length + j + 1 by omega]
    exact ⟨r, e, h1, by rw [h2, List.take_length]; omega, by omega⟩
  | succ m ih =>
    intro i s w hi hs hd hw hv
    have ra := dig_range ha.dg i
    have rb := dig_range hb.dg i
    rw [show m + 1 + (a.length + j + 2) = (m + (a.length + j + 2)) + 1 by omega, minus_step ha.dg hb.dg hw (by omega) (by omega) hl]
    refine ih (i + 1) _ _ (by omega) (by rw [List.length_append, List.length_singleton, hs]) (fun y hy => ?_) (by omega) ?_
    · rcases List.mem_append.1 hy with hy | hy
      · exact hd y hy
      · rw [List.mem_singleton.1 hy]; omega
    · rw [bv_dig a i, bv_dig b i, bv_snoc, hs, Int.pow_succ]
      generalize hV : dig a i + 4294967296 - w - dig b i = V
      have k1 := carry_eq (4294967296 ^ i) V
      have k2 : (4294967296 : Int) ^ i * V = 4294967296 ^ i * dig a i + 4294967296 ^ i * 4294967296 - 4294967296 ^ i * w - 4294967296 ^ i * dig b i := by rw [← hV, Int.mul_sub, Int.mul_sub, Int.mul_add]
      rw [Int.mul_sub, Int.mul_one]
      omega
theorem minus_ok {a b : List Int} (ha : Nm a) (hb : Nm b) (hle : bv b ≤ bv a) (hl : a.length ≤ 1000000) (k : Nat) : ∃ r, turnstileref24_minus.f (2 * a.length + k + 2) a b = some r ∧ Nm r ∧ bv r = bv a - bv b ∧ r.length ≤ a.length := by
  unfold turnstileref24_minus.f
  have h := minus_go ha hb hle hl k a.length 0 [] 0 (by omega) rfl Dg.nil (by omega) (by simp [bv])
  rw [show a.length + (a.length + k + 2) = 2 * a.length + k + 2 by omega] at h
  exact h
end Go.Proofs.Ytdoifmefhofnnaa.M
