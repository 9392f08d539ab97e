/- The document's comparisons of weights: with rounds enough and few digits (turnstileref24). -/
import Derived.Test.YtdoifmefhofnnaaMBig
import Derived.Test.YtdoifmefhofnnaaMAudL
import Derived.Test.YtdoifmefhofnnaaDx30
import Derived.Test.YtdoifmefhofnnaaDx32
namespace Go.Proofs.Ytdoifmefhofnnaa.M
set_option linter.unusedVariables false
set_option linter.unusedSimpArgs false
open Go.RowKit Go.Proofs.Ytdoifmefhofnnaa.D Go.Proofs.YtdoifmefhofnnaaW.PrintWords Go.Proofs.YtdoifmefhofnnaaW.PrintMore
theorem len_of {l : List Int} {n : Nat} (h : Nm l) (hv : bv l < 4294967296 ^ n) : l.length ≤ n := by
  rcases Nat.lt_or_ge n l.length with d | d
  · have h1 := h.top (fun e => by rw [e] at d; simp at d)
    have h2 := pow_mono' (show n ≤ l.length - 1 by omega)
    omega
  · exact d
theorem Of_k {k : Nat} (hk : 100 ≤ k) {x : Int} (h : U x) : ∃ l, turnstileref24_Of.f k x = some l ∧ Nm l ∧ bv l = x ∧ l.length ≤ 2 := by
  have := Of_ok h (k - 3)
  rw [show k - 3 + 3 = k by omega] at this
  exact this
theorem Times_k {k : Nat} (hk : 100 ≤ k) {a b : List Int} (ha : Nm a) (hb : Nm b) (la : a.length ≤ 4) (lb : b.length ≤ 2) : ∃ r, turnstileref24_Times.f k a b = some r ∧ Nm r ∧ bv r = bv a * bv b ∧ r.length ≤ 6 := by
  have hm : a.length * (b.length + 2) ≤ 4 * 4 := Nat.mul_le_mul la (by omega)
  obtain ⟨r, e, h1, h2, h3⟩ := Times_ok ha hb (by omega) (k - a.length * (b.length + 2) - (a.length + b.length + 2))
  rw [show a.length * (b.length + 2) + (a.length + b.length + (k - a.length * (b.length + 2) - (a.length + b.length + 2)) + 2) = k by omega] at e
  exact ⟨r, e, h1, h2, by omega⟩
theorem Plus_k {k : Nat} (hk : 100 ≤ k) {a b : List Int} (ha : Nm a) (hb : Nm b) (la : a.length ≤ 8) (lb : b.length ≤ 8) : ∃ r, turnstileref24_Plus.f k a b = some r ∧ Nm r ∧ bv r = bv a + bv b ∧ r.length ≤ 9 := by
  obtain ⟨r, e, h1, h2, h3⟩ := Plus_ok ha hb 8 la lb (by omega) (k - 20)
  rw [show 2 * 8 + (k - 20) + 4 = k by omega] at e
  exact ⟨r, e, h1, h2, h3⟩
theorem AtMost_k {k : Nat} (hk : 100 ≤ k) {a b : List Int} (ha : Nm a) (hb : Nm b) (la : a.length ≤ 20) : turnstileref24_AtMost.f k a b = some (decide (bv a ≤ bv b)) := AtMost_ok ha hb (by omega) k (by omega)
theorem minus_k {k : Nat} (hk : 100 ≤ k) {a b : List Int} (ha : Nm a) (hb : Nm b) (hle : bv b ≤ bv a) (la : a.length ≤ 20) : ∃ r, turnstileref24_minus.f k a b = some r ∧ Nm r ∧ bv r = bv a - bv b ∧ r.length ≤ a.length := by
  have := minus_ok ha hb hle (by omega) (k - 2 * a.length - 2)
  rw [show 2 * a.length + (k - 2 * a.length - 2) + 2 = k by omega] at this
  exact this
/-- Whether one beginning weighs at most as much as another. -/
theorem weighs_k {k : Nat} (hk : 100 ≤ k) {t0 t1 : Int} {A0 A1 G : List Int} (u0 : U t0) (u1 : U t1) (n0 : Nm A0) (n1 : Nm A1) (nG : Nm G) (l0 : A0.length ≤ 4) (l1 : A1.length ≤ 4) (lG : G.length ≤ 2) :
    turnstileref24_weighs.f k t0 A0 t1 A1 G = some (decide (t0 + bv A1 * bv G ≤ t1 + bv A0 * bv G)) := by
  obtain ⟨o0, e0, a0, b0, c0⟩ := Of_k hk u0
  obtain ⟨o1, e1, a1, b1, c1⟩ := Of_k hk u1
  obtain ⟨m1, f1, p1, q1, r1⟩ := Times_k hk n1 nG l1 lG
  obtain ⟨m0, f0, p0, q0, r0⟩ := Times_k hk n0 nG l0 lG
  obtain ⟨s0, g0, x0, y0, z0⟩ := Plus_k hk a0 p1 (by omega) (by omega)
  obtain ⟨s1, g1, x1, y1, z1⟩ := Plus_k hk a1 p0 (by omega) (by omega)
  unfold turnstileref24_weighs.f
  rw [e0, Option.bind_some, f1, Option.bind_some, g0, Option.bind_some, e1, Option.bind_some, f0, Option.bind_some, g1, Option.bind_some, AtMost_k hk x0 x1 (by omega), Option.bind_some, y0, y1, b0, b1, q0, q1]
/-! ### The document's Flow -/
theorem step_iff {gap slack t a u : Int} : (step gap slack t a u).2 = true ↔ base t a + (u - 1) * gap ≤ a + slack := by
  unfold step
  split
  · simp
    omega
  · simp
    omega
theorem step_val {gap slack t a u : Int} (h : (step gap slack t a u).2 = true) : (step gap slack t a u).1 = base t a + (u - 1) * gap + gap := by
  rw [step_iff] at h
  unfold step
  rw [if_neg (by omega)]
/-- One event: the weights are known, the answer is the step's. -/
theorem fj2 {k : Nat} (hk : 100 ≤ k) (l : List S31) (i : Int) (x0 gp sl x3 x4 : Int) {G C ah : List Int} {tt At u t : Int} (nG : Nm G) (lG : G.length ≤ 2) (nC : Nm C) (nA : Nm ah) (lC : C.length ≤ 3) (lA : ah.length ≤ 3) (ut : U tt) (uA : U At) (us : U sl) (uu : U u) (u1 : u ≠ 0)
    (hw : tt - bv ah * bv G + bv C * bv G = base t At) (hc : bv C + u < 79228162514264337593543950336) :
    (¬ (step (bv G) sl t At u).2 = true ∧ turnstileref24_flow.j2 (k + 1) l G C i x0 gp sl x3 x4 tt ah At u = some ([], false)) ∨
    ((step (bv G) sl t At u).2 = true ∧ ∃ C', Nm C' ∧ bv C' = bv C + u ∧ C'.length ≤ 3 ∧ turnstileref24_flow.j2 (k + 1) l G C i x0 gp sl x3 x4 tt ah At u = turnstileref24_flow.l0 k l G C' (wrap64 (i + 1)) x0 gp sl x3 x4 tt ah) := by
  have hu0 := uu.1
  have hu1 := uu.2
  have w1 : IntKind.u64.wrap (u - 1) = u - 1 := wr_id (by unfold U; omega)
  obtain ⟨a1, e1, n1, v1, c1⟩ := Of_k hk (show U (u - 1) by unfold U; omega)
  obtain ⟨a2, e2, n2, v2, c2⟩ := Plus_k hk nC n1 (by omega) (by omega)
  obtain ⟨a3, e3, n3, v3, c3⟩ := Of_k hk uu
  obtain ⟨a4, e4, n4, v4, c4⟩ := Plus_k hk nC n3 (by omega) (by omega)
  obtain ⟨a5, e5, n5, v5, c5⟩ := Of_k hk ut
  have r1 := bv_range C nC.dg
  have l2 : a2.length ≤ 3 := len_of n2 (by rw [v2, v1]; omega)
  have l4 : a4.length ≤ 3 := len_of n4 (by rw [v4, v3]; omega)
  obtain ⟨a6, e6, n6, v6, c6⟩ := Times_k hk n2 nG (by omega) lG
  obtain ⟨a7, e7, n7, v7, c7⟩ := Plus_k hk n5 n6 (by omega) (by omega)
  obtain ⟨a8, e8, n8, v8, c8⟩ := Of_k hk uA
  obtain ⟨a9, e9, n9, v9, c9⟩ := Of_k hk us
  obtain ⟨b1, f1, m1, w2, d1⟩ := Plus_k hk n8 n9 (by omega) (by omega)
  obtain ⟨b2, f2, m2, w3, d2⟩ := Times_k hk nA nG (by omega) lG
  have l5 : b1.length ≤ 3 := len_of m1 (by rw [w2, v8, v9]; have := uA.2; have := us.2; omega)
  obtain ⟨b3, f3, m3, w4, d3⟩ := Plus_k hk m1 m2 (by omega) (by omega)
  have J : turnstileref24_flow.j2 (k + 1) l G C i x0 gp sl x3 x4 tt ah At u = if (decide (bv a7 ≤ bv b3)) = true then turnstileref24_flow.l0 k l G a4 (wrap64 (i + 1)) x0 gp sl x3 x4 tt ah else some ([], false) := by
    rw [turnstileref24_flow.j2, w1, e1, Option.bind_some, e2, Option.bind_some, e3, Option.bind_some, e4, Option.bind_some, e5, Option.bind_some, e6, Option.bind_some, e7, Option.bind_some, e8, Option.bind_some, e9, Option.bind_some, f1, Option.bind_some, f2, Option.bind_some, f3, Option.bind_some, AtMost_k hk n7 m3 (by omega), Option.bind_some]
  have key : bv a7 ≤ bv b3 ↔ (step (bv G) sl t At u).2 = true := by
    rw [step_iff, ← hw, v7, v6, v5, v2, v1, w4, w2, w3, v8, v9, Int.add_mul]
    generalize bv C * bv G = m1
    generalize bv ah * bv G = m2
    generalize (u - 1) * bv G = m3
    constructor <;> intro _ <;> omega
  rw [J]
  by_cases c : bv a7 ≤ bv b3
  · right
    exact ⟨key.1 c, a4, n4, by rw [v4, v3], l4, by rw [if_pos (decide_eq_true c)]⟩
  · left
    exact ⟨fun q => c (key.2 q), by rw [if_neg (by simpa using c)]⟩
theorem rd31 (l : List S31) (i : Nat) (h : i < l.length) : rd_T31 l (i : Int) = l[i] := by
  unfold rd_T31
  rw [Int.toNat_natCast, List.getD_eq_getElem?_getD, List.getElem?_eq_getElem h]
  rfl
/-- What is known ahead of event i: the greatest weight so far, and the units so far. -/
structure FI (G ah C : List Int) (tt t : Int) (i : Nat) : Prop where
  nC : Nm C
  nA : Nm ah
  ut : U tt
  le : bv ah ≤ bv C
  lt : bv C ≤ i * 18446744073709551616
  zero : i = 0 → t = 0 ∧ bv C = 0
  pos : 0 < i → t = tt - bv ah * bv G + bv C * bv G
theorem flow_go {gp sl x0 x3 x4 : Int} {G : List Int} (nG : Nm G) (lG : G.length ≤ 2) (us : U sl) (l : List S31) (hq : ∀ y ∈ l, q31 y) (hl : l.length ≤ 1048577) (K : Nat) : ∀ (m i : Nat) (C ah : List Int) (tt t : Int), i + m = l.length → FI G ah C tt t i →
    ∃ R, turnstileref24_flow.l0 (3 * m + (K + 101)) l G C (i : Int) x0 gp sl x3 x4 tt ah = some R ∧ R.2 = (run (bv G) sl (l.drop i) t).2 ∧ (R.2 = true → bv R.1 = (run (bv G) sl (l.drop i) t).1 ∧ Nm R.1 ∧ R.1.length ≤ 9) := by
  intro m
  induction m with
  | zero =>
    intro i C ah tt t h F
    have e0 : l.drop i = [] := List.drop_of_length_le (by omega)
    rw [e0, show 3 * 0 + (K + 101) = (K + 100) + 1 by omega, turnstileref24_flow.l0, if_neg (by omega)]
    by_cases z : (l.length : Int) = 0
    · rw [if_pos z]
      exact ⟨_, rfl, rfl, fun _ => ⟨by rw [(F.zero (by omega)).1]; rfl, Nm.nil, by simp⟩⟩
    · rw [if_neg z]
      have hlt := F.lt
      have lC : C.length ≤ 3 := len_of F.nC (by omega)
      have lA : ah.length ≤ 3 := len_of F.nA (by have := F.le; omega)
      obtain ⟨a1, e1, n1, v1, c1⟩ := Of_k (show 100 ≤ K + 100 by omega) F.ut
      obtain ⟨a2, e2, n2, v2, c2⟩ := Times_k (show 100 ≤ K + 100 by omega) F.nC nG (by omega) lG
      obtain ⟨a3, e3, n3, v3, c3⟩ := Plus_k (show 100 ≤ K + 100 by omega) n1 n2 (by omega) (by omega)
      obtain ⟨a4, e4, n4, v4, c4⟩ := Times_k (show 100 ≤ K + 100 by omega) F.nA nG (by omega) lG
      have hm : bv ah * bv G ≤ bv C * bv G := Int.mul_le_mul_of_nonneg_right F.le (bv_range G nG.dg).1
      have ut0 := F.ut.1
      obtain ⟨a5, e5, n5, v5, c5⟩ := minus_k (show 100 ≤ K + 100 by omega) n3 n4 (by rw [v4, v3, v2, v1]; generalize bv C * bv G = q at *; generalize bv ah * bv G = q2 at *; omega) (by omega)
      rw [e1, Option.bind_some, e2, Option.bind_some, e3, Option.bind_some, e4, Option.bind_some, e5, Option.bind_some]
      refine ⟨_, rfl, rfl, fun _ => ⟨?_, n5, by simp only; omega⟩⟩
      have hp := F.pos (by omega)
      show bv a5 = t
      rw [v5, v3, v4, v2, v1, hp]
      generalize bv C * bv G = q
      generalize bv ah * bv G = q2
      omega
  | succ m ih =>
    intro i C ah tt t h F
    have hi : i < l.length := by omega
    have hqe := hq _ (List.getElem_mem hi)
    have uA : U (l[i]'hi).f0 := U_wf hqe.1
    have uu : U (l[i]'hi).f1 := U_wf hqe.2
    have hlt := F.lt
    have hi2 : i ≤ 1048576 := by omega
    have bC : bv C ≤ 19342813113834066795298816 := by clear hqe ih; omega
    have lC : C.length ≤ 3 := len_of F.nC (by clear hqe ih; omega)
    have lA : ah.length ≤ 3 := len_of F.nA (by have := F.le; clear hqe ih; omega)
    have ed : l.drop i = l[i]'hi :: l.drop (i + 1) := List.drop_eq_getElem_cons hi
    rw [ed, show 3 * (m + 1) + (K + 101) = (3 * m + (K + 101) + 2) + 1 by omega, turnstileref24_flow.l0, if_pos (by omega), if_pos (by omega), rd31 l i hi]
    by_cases z : (l[i]'hi).f1 = 0
    · rw [if_pos z, run_c0 _ t z]
      exact ⟨_, rfl, rfl, fun q => by cases q⟩
    rw [if_neg z]
    have wi : wrap64 ((i : Int) + 1) = ((i + 1 : Nat) : Int) := by clear hqe ih hlt bC F; unfold wrap64; omega
    have uu1 := uu.2
    have uu0 := uu.1
    have hcu : bv C + (l[i]'hi).f1 < 79228162514264337593543950336 := by clear hqe ih hlt F; omega
    -- the event with the greatest weight, told
    have one : ∀ (tt' : Int) (ah' : List Int), Nm ah' → U tt' → bv ah' ≤ bv C → tt' - bv ah' * bv G + bv C * bv G = base t (l[i]'hi).f0 →
        ∃ R, turnstileref24_flow.j2 (3 * m + (K + 101) + 1) l G C (i : Int) x0 gp sl x3 x4 tt' ah' (l[i]'hi).f0 (l[i]'hi).f1 = some R ∧ R.2 = (run (bv G) sl (l[i]'hi :: l.drop (i + 1)) t).2 ∧ (R.2 = true → bv R.1 = (run (bv G) sl (l[i]'hi :: l.drop (i + 1)) t).1 ∧ Nm R.1 ∧ R.1.length ≤ 9) := by
      intro tt' ah' nA' ut' le' hw
      have lA' : ah'.length ≤ 3 := len_of nA' (by clear hqe ih hlt F; omega)
      rcases fj2 (show 100 ≤ 3 * m + (K + 101) by omega) l (i : Int) x0 gp sl x3 x4 nG lG F.nC nA' lC lA' ut' uA us uu z hw hcu with ⟨d, e⟩ | ⟨d, C', nC', vC', _, e⟩
      · rw [e, run_c2 _ t z d]
        exact ⟨_, rfl, rfl, fun q => by cases q⟩
      · rw [e, run_c1 _ t z d, wi]
        refine ih (i + 1) C' ah' tt' _ (by omega) ⟨nC', nA', ut', by rw [vC']; omega, ?_, fun q => absurd q (by omega), fun _ => ?_⟩
        · rw [vC']
          clear hqe ih F hw e
          omega
        · rw [step_val d, ← hw, vC', Int.add_mul, Int.sub_mul]
          generalize bv C * bv G = q
          generalize bv ah' * bv G = q2
          generalize (l[i]'hi).f1 * bv G = q3
          omega
    have z0 : 0 ≤ (l[i]'hi).f0 := uA.1
    by_cases i0 : (i : Int) = 0
    · rw [if_pos i0, turnstileref24_flow.j1, if_pos rfl]
      refine one _ C F.nC uA (Int.le_refl _) ?_
      rw [(F.zero (by omega)).1]
      unfold base
      generalize bv C * bv G = q
      split <;> omega
    · have hp := F.pos (by omega)
      rw [if_neg i0, weighs_k (by omega) F.ut uA F.nA F.nC nG (by omega) (by omega) lG, Option.bind_some, turnstileref24_flow.j1]
      by_cases c : tt + bv C * bv G ≤ (l[i]'hi).f0 + bv ah * bv G
      · rw [if_pos (decide_eq_true c)]
        refine one _ C F.nC uA (Int.le_refl _) ?_
        rw [hp]
        unfold base
        generalize bv C * bv G = q at *
        generalize bv ah * bv G = q2 at *
        split <;> omega
      · rw [if_neg (by simpa using c)]
        refine one tt ah F.nA F.ut F.le ?_
        rw [hp]
        unfold base
        generalize bv C * bv G = q at *
        generalize bv ah * bv G = q2 at *
        split <;> omega
/-- The document's Flow answers what the walk of tats does. -/
theorem RefFlow {gp sl x0 x3 x4 : Int} (ug : U gp) (us : U sl) (l : List S31) (hq : ∀ y ∈ l, q31 y) (hl : l.length ≤ 1048577) (K : Nat) :
    ∃ R, turnstileref24_flow.f (3 * l.length + (K + 101)) x0 gp sl x3 x4 l = some R ∧ R.2 = (run gp sl l 0).2 ∧ (R.2 = true → bv R.1 = (run gp sl l 0).1 ∧ Nm R.1 ∧ R.1.length ≤ 9) := by
  obtain ⟨G, e, nG, vG, lG⟩ := Of_k (show 100 ≤ 3 * l.length + (K + 101) by omega) ug
  have F : FI G [] [] 0 0 0 := ⟨Nm.nil, Nm.nil, ⟨by decide, by decide⟩, Int.le_refl _, by simp [bv], fun _ => ⟨rfl, rfl⟩, fun h => absurd h (by omega)⟩
  obtain ⟨R, e2, h1, h2⟩ := flow_go (gp := gp) (x0 := x0) (x3 := x3) (x4 := x4) nG lG us l hq hl K l.length 0 [] [] 0 0 (by omega) F
  rw [vG, List.drop_zero] at h1 h2
  refine ⟨R, ?_, h1, h2⟩
  unfold turnstileref24_flow.f
  rw [e, Option.bind_some]
  exact e2
end Go.Proofs.Ytdoifmefhofnnaa.M
