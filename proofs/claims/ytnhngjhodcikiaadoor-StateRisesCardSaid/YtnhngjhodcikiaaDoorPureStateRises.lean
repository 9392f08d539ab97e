/- StateRises, plainly: what a record changes in a state, and that all else stays. -/
import Derived.Test.YtnhngjhodcikiaaDoorFSStateRises
import Derived.Test.YtnhngjhodcikiaaDoorMStep
namespace Go.Proofs.YtnhngjhodcikiaaDoor.Pure
set_option linter.unusedVariables false
set_option linter.unusedSimpArgs false
open Go.RowKit Go.Proofs.YtnhngjhodcikiaaDoor.F Go.Proofs.YtnhngjhodcikiaaDoor.M Go.Proofs.YtnhngjhodcikiaaDoorW.PrintWords Go.Proofs.YtnhngjhodcikiaaDoorW.PrintLast Go.Proofs.YtnhngjhodcikiaaDoorW.PrintMore
/-- What came of a step that was taken: the row, and whether the key was and is there. -/
def Came (l m : List S56) (at_ : Nat) (was is : Bool) : Prop :=
  at_ ≤ l.length ∧ at_ ≤ m.length ∧ (if was then at_ + 1 else at_) ≤ l.length ∧ (if is then at_ + 1 else at_) ≤ m.length ∧ l.length - (if was then at_ + 1 else at_) = m.length - (if is then at_ + 1 else at_) ∧
    (∀ p, p < at_ → rd_T56 l (p : Nat) = rd_T56 m (p : Nat)) ∧ (∀ p, (if was then at_ + 1 else at_) + p < l.length → rd_T56 l (((if was then at_ + 1 else at_) + p : Nat) : Int) = rd_T56 m (((if is then at_ + 1 else at_) + p : Nat) : Int))
section
variable (a0 a1 b0 b1 : Int) (l m : List S56) (r0 r1 : Int) (r2 : ByteArray) (r3 r4 r5 r6 r7 r8 r9 r10 : Int)
theorem w64 {i n : Nat} (h : i ≤ n) (hn : n ≤ 9223372036854775806) : wrap64 (i : Int) = (i : Int) := by unfold wrap64; omega
theorem w1 {i n : Nat} (h : i ≤ n) (hn : n ≤ 9223372036854775806) : wrap64 ((i : Int) + 1) = ((i + 1 : Nat) : Int) := by unfold wrap64; omega
theorem ws {i j n : Nat} (h : i + j ≤ n) (hn : n ≤ 9223372036854775806) : wrap64 ((i : Int) + (j : Int)) = ((i + j : Nat) : Int) := by unfold wrap64; omega
theorem wd {i n : Nat} (h : i ≤ n) (hn : n ≤ 9223372036854775806) : wrap64 ((n : Int) - (i : Int)) = ((n - i : Nat) : Int) := by unfold wrap64; omega
/-- What is asked of the entry itself. -/
def Asks (at_ : Nat) (was is : Bool) : Prop :=
  (r0 = 1 → was = false ∧ is = true ∧ at_ < m.length ∧ rd_T56 m (at_ : Nat) = (⟨r2, (⟨r3, r4, r5, r6, r7⟩ : S35), (⟨0, 0, 0⟩ : S37)⟩ : S56)) ∧ (r0 = 2 → was = true ∧ is = false) ∧
    (r0 ≠ 1 → r0 ≠ 2 → was = true ∧ is = true ∧ at_ < m.length ∧ at_ < l.length ∧ (rd_T56 m (at_ : Nat)).f1 = (rd_T56 l (at_ : Nat)).f1 ∧ (rd_T56 m (at_ : Nat)).f2 = (⟨r8, r9, r10⟩ : S37) ∧
      policy_Covers.f (rd_T56 l (at_ : Nat)).f1.f0 (rd_T56 l (at_ : Nat)).f1.f1 (rd_T56 l (at_ : Nat)).f1.f2 (rd_T56 l (at_ : Nat)).f1.f3 (rd_T56 l (at_ : Nat)).f1.f4 r8 r9 r10 (rd_T56 l (at_ : Nat)).f2.f0 (rd_T56 l (at_ : Nat)).f2.f1 (rd_T56 l (at_ : Nat)).f2.f2 = some true)
theorem l1_go (hl : l.length ≤ 9223372036854775806) (hm : m.length ≤ 9223372036854775806) (at_ : Nat) (was is : Bool) (hC : Came l m at_ was is) (hA : Asks l m r0 r2 r3 r4 r5 r6 r7 r8 r9 r10 at_ was is) (from_ to_ : Nat) (hf : from_ = if was then at_ + 1 else at_) (ht : to_ = if is then at_ + 1 else at_) :
    ∀ (d i k : Nat), l.length - from_ - i = d → from_ + i ≤ l.length → d + 1 ≤ k → turnstilelaw13_StateRises.l1 k (at_ : Int) was is (from_ : Int) (to_ : Int) (i : Int) a0 a1 l r0 r1 r2 r3 r4 r5 r6 r7 r8 r9 r10 b0 b1 m = some true := by
  obtain ⟨c1, c2, c3, c4, c5, c6, c7⟩ := hC
  rw [← hf] at c3 c5 c7
  rw [← ht] at c4 c5 c7
  intro d
  induction d with
  | zero =>
    intro i k hd hi hk
    obtain ⟨k, rfl⟩ : ∃ m, k = m + 1 := ⟨k - 1, by omega⟩
    simp only [turnstilelaw13_StateRises.l1]
    rw [ws hi hl, if_neg (by omega)]
    by_cases h1 : r0 = 1
    · obtain ⟨w, s, g1, g2⟩ := hA.1 h1
      rw [if_pos h1, w, s, if_neg (by simp), if_pos rfl, if_pos (by omega), if_pos (by omega), g2]
      simp
    · rw [if_neg h1]
      by_cases h2 : r0 = 2
      · obtain ⟨w, s⟩ := hA.2.1 h2
        rw [if_pos h2, w, s]
        simp
      · obtain ⟨w, s, g1, g2, g3, g4, g5⟩ := hA.2.2 h1 h2
        rw [if_neg h2, w, s, if_pos rfl, if_pos rfl, if_pos (by omega), if_pos (by omega), if_pos (by omega), g3, g4, if_pos (by simp), if_pos (by simp), g5]
        rfl
  | succ d ih =>
    intro i k hd hi hk
    obtain ⟨k, rfl⟩ : ∃ m, k = m + 1 := ⟨k - 1, by omega⟩
    have e := c7 i (by omega)
    have hti : to_ + i < m.length := by omega
    simp only [turnstilelaw13_StateRises.l1]
    rw [ws hi hl, ws (Nat.le_of_lt hti) hm, if_pos (by omega), if_pos (by omega), if_pos (by omega), if_pos (by omega), e, w1 (n := l.length) (by omega) hl]
    have hn := ih (i + 1) k (by omega) (by omega) (by omega)
    generalize rd_T56 m ((to_ + i : Nat) : Int) = E
    simpa using hn
theorem l0_go (hl : l.length ≤ 9223372036854775806) (hm : m.length ≤ 9223372036854775806) (at_ : Nat) (was is : Bool) (hC : Came l m at_ was is) (hA : Asks l m r0 r2 r3 r4 r5 r6 r7 r8 r9 r10 at_ was is) (from_ to_ : Nat) (hf : from_ = if was then at_ + 1 else at_) (ht : to_ = if is then at_ + 1 else at_) :
    ∀ (d i k : Nat), at_ - i = d → i ≤ at_ → d + l.length + 2 ≤ k → turnstilelaw13_StateRises.l0 k (at_ : Int) was is (from_ : Int) (to_ : Int) (i : Int) a0 a1 l r0 r1 r2 r3 r4 r5 r6 r7 r8 r9 r10 b0 b1 m = some true := by
  have hC' := hC
  obtain ⟨c1, c2, c3, c4, c5, c6, c7⟩ := hC'
  intro d
  induction d with
  | zero =>
    intro i k hd hi hk
    obtain ⟨k, rfl⟩ : ∃ m, k = m + 1 := ⟨k - 1, by omega⟩
    simp only [turnstilelaw13_StateRises.l0]
    rw [if_neg (by omega)]
    exact l1_go a0 a1 b0 b1 l m r0 r1 r2 r3 r4 r5 r6 r7 r8 r9 r10 hl hm at_ was is hC hA from_ to_ hf ht (l.length - from_) 0 k (by omega) (by rw [hf]; exact c3) (by omega)
  | succ d ih =>
    intro i k hd hi hk
    obtain ⟨k, rfl⟩ : ∃ m, k = m + 1 := ⟨k - 1, by omega⟩
    have e := c6 i (by omega)
    simp only [turnstilelaw13_StateRises.l0]
    rw [if_pos (by omega), if_pos (by omega), if_pos (by omega), if_pos (by omega), e, w1 (n := l.length) (by omega) hl]
    have hn := ih (i + 1) k (by omega) (by omega) (by omega)
    generalize rd_T56 m (i : Nat) = E
    simpa using hn
theorem j0_go (hl : l.length ≤ 9223372036854775806) (hm : m.length ≤ 9223372036854775806) (hC : Came l m (state_Find.at_ l r2) (state_Find.is_ l r2) (state_Find.is_ m r2)) (he : state_Find.at_ m r2 = state_Find.at_ l r2) (hA : Asks l m r0 r2 r3 r4 r5 r6 r7 r8 r9 r10 (state_Find.at_ l r2) (state_Find.is_ l r2) (state_Find.is_ m r2)) (k : Nat) (hk : 2 * l.length + 20 ≤ k) :
    turnstilelaw13_StateRises.j0 k false a0 a1 l r0 r1 r2 r3 r4 r5 r6 r7 r8 r9 r10 b0 b1 m = some true := by
  obtain ⟨k, rfl⟩ : ∃ m, k = m + 5 := ⟨k - 5, by omega⟩
  have hC' := hC
  obtain ⟨c1, c2, c3, c4, c5, c6, c7⟩ := hC'
  have fin := l0_go a0 a1 b0 b1 l m r0 r1 r2 r3 r4 r5 r6 r7 r8 r9 r10 hl hm _ _ _ hC hA _ _ rfl rfl (state_Find.at_ l r2) 0 k (by omega) (Nat.zero_le _) (by omega)
  simp only [turnstilelaw13_StateRises.j0, state_Find.f, Option.bind_some, Bool.false_eq_true, if_false, he]
  generalize state_Find.at_ l r2 = at_ at *
  generalize state_Find.is_ l r2 = was at *
  generalize state_Find.is_ m r2 = is at *
  rw [if_pos trivial, if_neg (by omega), if_neg (by omega), decide_eq_false (by omega)]
  simp only [turnstilelaw13_StateRises.j1, Bool.false_eq_true, if_false]
  have st : ∀ x y : Nat, x = (if was then at_ + 1 else at_) → y = (if is then at_ + 1 else at_) → turnstilelaw13_StateRises.j3 (k + 2) (at_ : Int) was is (x : Int) (y : Int) a0 a1 l r0 r1 r2 r3 r4 r5 r6 r7 r8 r9 r10 b0 b1 m = some true := by
    intro x y hx hy
    rw [← hx] at c3 c5 fin
    rw [← hy] at c4 c5 fin
    simp only [turnstilelaw13_StateRises.j3]
    rw [if_neg (by omega), if_neg (by omega), wd c3 hl, wd c4 hm, show ((((l.length - x : Nat) : Int)) != ((m.length - y : Nat) : Int)) = false by rw [c5]; simp]
    simp only [turnstilelaw13_StateRises.j4, Bool.false_eq_true, if_false]
    exact fin
  have s2 : ∀ x : Nat, x = (if was then at_ + 1 else at_) → turnstilelaw13_StateRises.j2 (k + 3) (at_ : Int) was is (x : Int) (at_ : Int) a0 a1 l r0 r1 r2 r3 r4 r5 r6 r7 r8 r9 r10 b0 b1 m = some true := by
    intro x hx
    simp only [turnstilelaw13_StateRises.j2]
    cases is
    · rw [if_neg (by simp)]
      exact st x at_ hx (by simp)
    · rw [if_pos rfl, w1 c1 hl]
      exact st x (at_ + 1) hx (by simp)
  cases was
  · rw [if_neg (by simp)]
    exact s2 at_ (by simp)
  · rw [if_pos rfl, w1 c1 hl]
    exact s2 (at_ + 1) (by simp)
theorem err_case (k : Nat) (x : Int) (h1 : 1 ≤ x) (h3 : x ≤ 3) (hAp : state_Apply.f k a0 a1 l (IntKind.u64.wrap (a0 + 1)) r0 r1 r2 r3 r4 r5 r6 r7 r8 r9 r10 = some (0, 0, [], x)) : turnstilelaw13_StateRises.f k a0 a1 l r0 r1 r2 r3 r4 r5 r6 r7 r8 r9 r10 = some true := by
  simp only [turnstilelaw13_StateRises.f, turnstilelaw13_lives.f, Option.bind_some, if_true, hAp]
  rw [if_pos (by omega), if_neg (by omega)]
  simp only [List.length_nil]
  rw [if_pos (by omega), if_pos h3]
  by_cases c1 : x = 1
  · rw [if_pos c1]
  · rw [if_neg c1]
    by_cases c3 : x = 3
    · rw [if_pos c3]
    · rw [if_neg c3]
      have : x = 2 := by omega
      rw [this]
      rfl
theorem ok_case (k : Nat) (hl : l.length ≤ 9223372036854775806) (hm : m.length ≤ 9223372036854775806) (hv : valB a0 l = true) (hvm : valB (IntKind.u64.wrap (a0 + 1)) m = true)
    (hAp : state_Apply.f k a0 a1 l (IntKind.u64.wrap (a0 + 1)) r0 r1 r2 r3 r4 r5 r6 r7 r8 r9 r10 = some (IntKind.u64.wrap (a0 + 1), mx a1 r1, m, 0)) (hC : Came l m (state_Find.at_ l r2) (state_Find.is_ l r2) (state_Find.is_ m r2)) (he : state_Find.at_ m r2 = state_Find.at_ l r2) (hA : Asks l m r0 r2 r3 r4 r5 r6 r7 r8 r9 r10 (state_Find.at_ l r2) (state_Find.is_ l r2) (state_Find.is_ m r2)) (hk : 2 * l.length + 20 ≤ k) :
    turnstilelaw13_StateRises.f k a0 a1 l r0 r1 r2 r3 r4 r5 r6 r7 r8 r9 r10 = some true := by
  have fin := fun b1 => j0_go a0 a1 (IntKind.u64.wrap (a0 + 1)) b1 l m r0 r1 r2 r3 r4 r5 r6 r7 r8 r9 r10 hl hm hC he hA k hk
  simp only [turnstilelaw13_StateRises.f, turnstilelaw13_lives.f, Option.bind_some, if_true, hAp, valid_B, hv, hvm]
  rw [if_pos (by decide)]
  unfold mx
  by_cases c : a1 < r1
  · simp only [if_pos c]
    rw [if_neg (by omega), if_neg (by omega), if_neg (by omega), show (r1 != r1) = false by simp]
    exact fin r1
  · simp only [if_neg c]
    rw [if_neg (by omega), if_pos trivial]
    exact fin a1
/-- Apply of a state that is none, or of a record that is none, and so on: what it answers, once the step is known. -/
theorem ap_bad (k : Nat) (n : Int) (hv : valB a0 l = false) : state_Apply.f k a0 a1 l n r0 r1 r2 r3 r4 r5 r6 r7 r8 r9 r10 = some (0, 0, [], 1) := by
  unfold state_Apply.f
  rw [valid_B, hv]
  rfl
theorem ap_err (k : Nat) (n x y z : Int) (w : List S56) (hv : valB a0 l = true) (hx : x ≠ 0) (hs : state_step.f k a0 a1 l n r0 r1 r2 r3 r4 r5 r6 r7 r8 r9 r10 = some (x, y, z, w)) : state_Apply.f k a0 a1 l n r0 r1 r2 r3 r4 r5 r6 r7 r8 r9 r10 = some (0, 0, [], x) := by
  unfold state_Apply.f
  rw [valid_B, hv, Option.bind_some, if_pos rfl, hs]
  simp [state_Apply.out, hx]
theorem ap_ok (k : Nat) (n y z : Int) (w : List S56) (hv : valB a0 l = true) (hs : state_step.f k a0 a1 l n r0 r1 r2 r3 r4 r5 r6 r7 r8 r9 r10 = some (0, y, z, w)) : state_Apply.f k a0 a1 l n r0 r1 r2 r3 r4 r5 r6 r7 r8 r9 r10 = some (y, z, w, 0) := by
  unfold state_Apply.f
  rw [valid_B, hv, Option.bind_some, if_pos rfl, hs]
  simp [state_Apply.out]
theorem main (hl : l.length ≤ 9223372036854775000) (h0 : 0 ≤ a0) : turnstilelaw13_StateRises.f (2 * l.length + 40) a0 a1 l r0 r1 r2 r3 r4 r5 r6 r7 r8 r9 r10 = some true := by
  cases hv : valB a0 l
  · exact err_case a0 a1 l r0 r1 r2 r3 r4 r5 r6 r7 r8 r9 r10 _ 1 (by decide) (by decide) (ap_bad a0 a1 l r0 r1 r2 r3 r4 r5 r6 r7 r8 r9 r10 _ _ hv)
  · obtain ⟨v1, v2, v3, v4⟩ := (val_iff a0 l).1 hv
    obtain ⟨b, hb, hb2⟩ := rec_tot (2 * l.length + 39) r0 r1 r2 r3 r4 r5 r6 r7 r8 r9 r10
    have fault : ∀ x : Int, 1 ≤ x → x ≤ 3 → state_step.f (2 * l.length + 40) a0 a1 l (IntKind.u64.wrap (a0 + 1)) r0 r1 r2 r3 r4 r5 r6 r7 r8 r9 r10 = some (x, a0, a1, l) → turnstilelaw13_StateRises.f (2 * l.length + 40) a0 a1 l r0 r1 r2 r3 r4 r5 r6 r7 r8 r9 r10 = some true := fun x h1 h3 hs =>
      err_case a0 a1 l r0 r1 r2 r3 r4 r5 r6 r7 r8 r9 r10 _ x h1 h3 (ap_err a0 a1 l r0 r1 r2 r3 r4 r5 r6 r7 r8 r9 r10 _ _ x _ _ _ hv (by omega) hs)
    cases b
    · exact fault 1 (by decide) (by decide) (by unfold state_step.f; rw [hb, Option.bind_some, if_neg (by simp)])
    · obtain ⟨k1, k2, k3, k4⟩ := hb2 rfl
      by_cases hn : IntKind.u64.wrap (a0 + 1) ≤ 4611686018427387904
      · have hin : ∀ X, X = state_step.f (2 * l.length + 40) a0 a1 l (IntKind.u64.wrap (a0 + 1)) r0 r1 r2 r3 r4 r5 r6 r7 r8 r9 r10 → X = (if state_Find.is_ l r2 = (r0 == 1) then some (3, a0, a1, l)
            else if r0 = 1 then (if l.length < 4096 then some (0, IntKind.u64.wrap (a0 + 1), mx a1 r1, ins l (state_Find.at_ l r2) (⟨r2, (⟨r3, r4, r5, r6, r7⟩ : S35), (⟨0, 0, 0⟩ : S37)⟩ : S56)) else some (3, a0, a1, l))
            else if r0 = 2 then some (0, IntKind.u64.wrap (a0 + 1), mx a1 r1, del l (state_Find.at_ l r2))
            else if r0 = 3 then ((policy_Fits.f (l.getD (state_Find.at_ l r2) z56).f1.f0 (l.getD (state_Find.at_ l r2) z56).f1.f1 (l.getD (state_Find.at_ l r2) z56).f1.f2 (l.getD (state_Find.at_ l r2) z56).f1.f3 (l.getD (state_Find.at_ l r2) z56).f1.f4 r8 r9 r10).bind fun b => if b = true then ((policy_Covers.f (l.getD (state_Find.at_ l r2) z56).f1.f0 (l.getD (state_Find.at_ l r2) z56).f1.f1 (l.getD (state_Find.at_ l r2) z56).f1.f2 (l.getD (state_Find.at_ l r2) z56).f1.f3 (l.getD (state_Find.at_ l r2) z56).f1.f4 r8 r9 r10 (l.getD (state_Find.at_ l r2) z56).f2.f0 (l.getD (state_Find.at_ l r2) z56).f2.f1 (l.getD (state_Find.at_ l r2) z56).f2.f2).bind fun b => if b = true then some (0, IntKind.u64.wrap (a0 + 1), mx a1 r1, l.set (state_Find.at_ l r2) (⟨(l.getD (state_Find.at_ l r2) z56).f0, (l.getD (state_Find.at_ l r2) z56).f1, (⟨r8, r9, r10⟩ : S37)⟩ : S56)) else some (3, a0, a1, l)) else some (3, a0, a1, l))
            else some (0, IntKind.u64.wrap (a0 + 1), mx a1 r1, l)) := by
          intro X hX
          rw [hX]
          unfold state_step.f
          rw [hb, Option.bind_some, if_pos rfl, if_pos rfl, if_pos hn]
          rfl
        have hst := hin _ rfl
        clear hin
        by_cases ht : state_Find.is_ l r2 = (r0 == 1)
        · rw [if_pos ht] at hst
          exact fault 3 (by decide) (by decide) hst
        · rw [if_neg ht] at hst
          by_cases e1 : r0 = 1
          · rw [if_pos e1] at hst
            by_cases hlen : l.length < 4096
            · rw [if_pos hlen] at hst
              have hf : state_Find.is_ l r2 = false := by
                cases e : state_Find.is_ l r2
                · rfl
                · exact absurd e (by rw [e1] at ht; simpa using ht)
              obtain ⟨g1, g2⟩ := ins_find (l := l) (key := r2) (⟨r2, (⟨r3, r4, r5, r6, r7⟩ : S35), (⟨0, 0, 0⟩ : S37)⟩ : S56) rfl v4 hf
              have hR := ins_rise (l := l) (key := r2) (⟨r2, (⟨r3, r4, r5, r6, r7⟩ : S35), (⟨0, 0, 0⟩ : S37)⟩ : S56) rfl v4 hf
              have ha := (find_spec r2 v4).1
              have hlen2 := ins_len (⟨r2, (⟨r3, r4, r5, r6, r7⟩ : S35), (⟨0, 0, 0⟩ : S37)⟩ : S56) ha
              refine ok_case a0 a1 l (ins l (state_Find.at_ l r2) (⟨r2, (⟨r3, r4, r5, r6, r7⟩ : S35), (⟨0, 0, 0⟩ : S37)⟩ : S56)) r0 r1 r2 r3 r4 r5 r6 r7 r8 r9 r10 _ (by omega) (by omega) hv ((val_iff _ _).2 ⟨hn, by omega, fun E hE => ?_, hR⟩) (ap_ok a0 a1 l r0 r1 r2 r3 r4 r5 r6 r7 r8 r9 r10 _ _ _ _ _ hv hst) ?_ g1 ?_ (by omega)
              · unfold ins at hE
                rcases List.mem_append.1 hE with h | h
                · rcases List.mem_append.1 h with h | h
                  · exact v3 _ (List.mem_of_mem_take h)
                  · rw [List.mem_singleton] at h
                    subst h
                    unfold selfB fitB
                    rw [k4 e1, decide_eq_true k1, decide_eq_true k2]
                    simp
                · exact v3 _ (List.mem_of_mem_drop h)
              · rw [hf, g2]
                refine ⟨ha, by omega, by simpa using ha, by simp; omega, by simp; omega, fun p hp => (ins_lo _ ha hp).symm, fun p hp => ?_⟩
                simp only [Bool.false_eq_true, if_false, if_true] at hp ⊢
                rw [show state_Find.at_ l r2 + 1 + p = (state_Find.at_ l r2 + p) + 1 by omega]
                exact (ins_hi _ ha (by omega)).symm
              · rw [hf, g2]
                exact ⟨fun _ => ⟨rfl, rfl, by omega, ins_at _ ha⟩, fun h2 => by omega, fun h1 _ => absurd e1 h1⟩
            · rw [if_neg hlen] at hst
              exact fault 3 (by decide) (by decide) hst
          · rw [if_neg e1] at hst
            have hf : state_Find.is_ l r2 = true := by
              have : (r0 == 1) = false := beq_eq_false_iff_ne.mpr e1
              rw [this] at ht
              simpa using ht
            obtain ⟨ha, hkey⟩ := is_here hf
            by_cases e2 : r0 = 2
            · rw [if_pos e2] at hst
              obtain ⟨g1, g2⟩ := del_find v4 hf
              have hR := del_rise v4 ha
              have hlen2 := del_len ha
              refine ok_case a0 a1 l (del l (state_Find.at_ l r2)) r0 r1 r2 r3 r4 r5 r6 r7 r8 r9 r10 _ (by omega) (by omega) hv ((val_iff _ _).2 ⟨hn, by omega, fun E hE => ?_, hR⟩) (ap_ok a0 a1 l r0 r1 r2 r3 r4 r5 r6 r7 r8 r9 r10 _ _ _ _ _ hv hst) ?_ g1 ?_ (by omega)
              · unfold del at hE
                rcases List.mem_append.1 hE with h | h
                · exact v3 _ (List.mem_of_mem_take h)
                · exact v3 _ (List.mem_of_mem_drop h)
              · rw [hf, g2]
                refine ⟨by omega, by omega, by simp; omega, by simp; omega, by simp; omega, fun p hp => (del_lo ha hp).symm, fun p hp => ?_⟩
                simp only [Bool.false_eq_true, if_false, if_true] at hp ⊢
                rw [show state_Find.at_ l r2 + 1 + p = (state_Find.at_ l r2 + p) + 1 by omega]
                exact (del_hi ha (by omega)).symm
              · rw [hf, g2]
                exact ⟨fun h1 => absurd h1 e1, fun _ => ⟨rfl, rfl⟩, fun _ h2 => absurd e2 h2⟩
            · have e3 : r0 = 3 := by omega
              rw [if_neg e2, if_pos e3, fits_B, Option.bind_some] at hst
              cases hfit : fitB (l.getD (state_Find.at_ l r2) z56).f1.f0 (l.getD (state_Find.at_ l r2) z56).f1.f1 (l.getD (state_Find.at_ l r2) z56).f1.f2 (l.getD (state_Find.at_ l r2) z56).f1.f3 (l.getD (state_Find.at_ l r2) z56).f1.f4 r8 r9 r10
              · rw [hfit, if_neg (by simp)] at hst
                exact fault 3 (by decide) (by decide) hst
              · rw [hfit, if_pos rfl] at hst
                obtain ⟨b, hc⟩ := cov_tot (l.getD (state_Find.at_ l r2) z56).f1.f0 (l.getD (state_Find.at_ l r2) z56).f1.f1 (l.getD (state_Find.at_ l r2) z56).f1.f2 (l.getD (state_Find.at_ l r2) z56).f1.f3 (l.getD (state_Find.at_ l r2) z56).f1.f4 r8 r9 r10 (l.getD (state_Find.at_ l r2) z56).f2.f0 (l.getD (state_Find.at_ l r2) z56).f2.f1 (l.getD (state_Find.at_ l r2) z56).f2.f2
                rw [hc, Option.bind_some] at hst
                cases b
                · rw [if_neg (by simp)] at hst
                  exact fault 3 (by decide) (by decide) hst
                · rw [if_pos rfl] at hst
                  rw [rd_D] at hst hc hfit
                  obtain ⟨g1, g2⟩ := set_find (⟨(rd_T56 l ((state_Find.at_ l r2 : Nat) : Int)).f0, (rd_T56 l ((state_Find.at_ l r2 : Nat) : Int)).f1, (⟨r8, r9, r10⟩ : S37)⟩ : S56) v4 hf rfl
                  have hR := set_rise (⟨(rd_T56 l ((state_Find.at_ l r2 : Nat) : Int)).f0, (rd_T56 l ((state_Find.at_ l r2 : Nat) : Int)).f1, (⟨r8, r9, r10⟩ : S37)⟩ : S56) v4 ha rfl
                  refine ok_case a0 a1 l (l.set (state_Find.at_ l r2) (⟨(rd_T56 l ((state_Find.at_ l r2 : Nat) : Int)).f0, (rd_T56 l ((state_Find.at_ l r2 : Nat) : Int)).f1, (⟨r8, r9, r10⟩ : S37)⟩ : S56)) r0 r1 r2 r3 r4 r5 r6 r7 r8 r9 r10 _ (by omega) (by rw [List.length_set]; omega) hv ((val_iff _ _).2 ⟨hn, by rw [List.length_set]; omega, fun E hE => ?_, hR⟩) (ap_ok a0 a1 l r0 r1 r2 r3 r4 r5 r6 r7 r8 r9 r10 _ _ _ _ _ hv hst) ?_ g1 ?_ (by omega)
                  · rcases List.mem_or_eq_of_mem_set hE with h | h
                    · exact v3 _ h
                    · subst h
                      have hs := v3 _ (List.getElem_mem ha)
                      rw [← rd_get ha] at hs
                      unfold selfB at hs ⊢
                      simp only [Bool.and_eq_true] at hs ⊢
                      exact ⟨hs.1, hfit⟩
                  · rw [hf, g2]
                    refine ⟨by omega, by rw [List.length_set]; omega, by simp; omega, by rw [List.length_set]; simp; omega, by rw [List.length_set], fun p hp => (set_ne _ (by omega)).symm, fun p hp => ?_⟩
                    simp only [if_true] at hp ⊢
                    exact (set_ne _ (by omega)).symm
                  · rw [hf, g2]
                    refine ⟨fun h1 => absurd h1 e1, fun h2 => absurd h2 e2, fun _ _ => ⟨rfl, rfl, by rw [List.length_set]; exact ha, ha, ?_, ?_, hc⟩⟩
                    · rw [set_at _ ha]
                    · rw [set_at _ ha]
      · exact fault 2 (by decide) (by decide) (by unfold state_step.f; rw [hb, Option.bind_some, if_pos rfl, if_pos rfl, if_neg hn])
end
/-- The statement. -/
theorem StateRises : StateRises.Pure := by
  intro x0 x1 hq hr
  simp only [q27] at hq
  refine ⟨_, main x0.f0 x0.f1 x0.f2 x1.f0 x1.f1 x1.f2 x1.f3.f0 x1.f3.f1 x1.f3.f2 x1.f3.f3 x1.f3.f4 x1.f4.f0 x1.f4.f1 x1.f4.f2 (by omega) ?_⟩
  have h := hq.1
  simp [Lit.wf, IntKind.min, IntKind.max, IntKind.signed, IntKind.bits] at h
  omega
end Go.Proofs.YtnhngjhodcikiaaDoor.Pure
