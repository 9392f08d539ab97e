/- The audit's numbers of 192 bits as whole numbers; a Flow's walk over events. -/
import Derived.Test.YtdoifmefhofnnaaMUtil
import Derived.Test.YtdoifmefhofnnaaDx15
import Derived.Test.YtdoifmefhofnnaaDx17
import Derived.Test.YtdoifmefhofnnaaDx18
import Derived.Test.YtdoifmefhofnnaaDx19
import Derived.Test.YtdoifmefhofnnaaDx22
import Derived.Test.YtdoifmefhofnnaaDo
namespace Go.Proofs.Ytdoifmefhofnnaa.M
set_option linter.unusedVariables false
open Go.RowKit Go.Proofs.Ytdoifmefhofnnaa.D Go.Proofs.YtdoifmefhofnnaaW.PrintWords Go.Proofs.YtdoifmefhofnnaaW.PrintMore
def T3 (n : Int) : Int × Int × Int := (n % 18446744073709551616, (n / 18446744073709551616) % 18446744073709551616, n / 340282366920938463463374607431768211456)
/-- Small numbers: below 2^132. -/
def Sm (n : Int) : Prop := 0 ≤ n ∧ n < 5444517870735015415413993718908291383296
theorem T3_of {x : Int} (h : U x) : T3 x = (x, 0, 0) := by
  unfold U at h; unfold T3
  rw [show x % 18446744073709551616 = x by omega, show x / 18446744073709551616 % 18446744073709551616 = 0 by omega, show x / 340282366920938463463374607431768211456 = 0 by omega]
theorem of3 {x : Int} (h : U x) : audit_of.f x = some (T3 x) := by rw [T3_of h]; rfl
theorem times3 {a b : Int} (ha : U a) (hb : U b) : audit_times.f a b = some (T3 (a * b)) := by
  unfold audit_times.f
  rw [Mul64 ha hb]
  have := V_mul ha hb
  generalize a * b = n at *
  simp only [Option.bind_some]
  unfold W T3
  simp only [Option.some.injEq, Prod.mk.injEq]
  refine ⟨trivial, ?_, ?_⟩ <;> omega
theorem add64c_le {x y c : Int} (hx : U x) (hy : U y) (hc : 0 ≤ c ∧ c ≤ 1) : 0 ≤ add64c x y c ∧ add64c x y c ≤ 1 := by
  unfold U at *; unfold add64c; omega
theorem add64s_int {x y c : Int} (hx : 0 ≤ x) (hy : 0 ≤ y) (hc : 0 ≤ c) : add64s x y c = (x + y + c) % 18446744073709551616 := by unfold add64s; omega
theorem add64c_int {x y c : Int} (hx : 0 ≤ x) (hy : 0 ≤ y) (hc : 0 ≤ c) : add64c x y c = (x + y + c) / 18446744073709551616 := by unfold add64c; omega
theorem plus3 {a b : Int} (ha : Sm a) (hb : Sm b) : audit_plus.f (T3 a).1 (T3 a).2.1 (T3 a).2.2 (T3 b).1 (T3 b).2.1 (T3 b).2.2 = some (T3 (a + b)) := by
  unfold Sm at ha hb
  have u1 : U (T3 a).1 := by unfold T3 U; simp only; omega
  have u2 : U (T3 b).1 := by unfold T3 U; simp only; omega
  have u3 : U (T3 a).2.1 := by unfold T3 U; simp only; omega
  have u4 : U (T3 b).2.1 := by unfold T3 U; simp only; omega
  have c0 := add64c_le u1 u2 (c := 0) (by omega)
  have c1 := add64c_le u3 u4 c0
  unfold audit_plus.f
  rw [if_pos c0.2, if_pos c1.2]
  rw [add64c_int u3.1 u4.1 c0.1] at c1 ⊢
  rw [add64s_int u1.1 u2.1 (Int.le_refl 0), add64s_int u3.1 u4.1 c0.1]
  rw [add64c_int u1.1 u2.1 (Int.le_refl 0)] at c0 c1 ⊢
  rw [add64s_int (by unfold T3; simp only; omega) (by unfold T3; simp only; omega) c1.1]
  clear c0 c1 u1 u2 u3 u4
  have ea : a = a % 18446744073709551616 + 18446744073709551616 * ((a / 18446744073709551616) % 18446744073709551616) + 340282366920938463463374607431768211456 * (a / 340282366920938463463374607431768211456) := by omega
  have eb : b = b % 18446744073709551616 + 18446744073709551616 * ((b / 18446744073709551616) % 18446744073709551616) + 340282366920938463463374607431768211456 * (b / 340282366920938463463374607431768211456) := by omega
  have ha2 : 0 ≤ a / 340282366920938463463374607431768211456 ∧ a / 340282366920938463463374607431768211456 < 16 := by omega
  have hb2 : 0 ≤ b / 340282366920938463463374607431768211456 ∧ b / 340282366920938463463374607431768211456 < 16 := by omega
  have ha0 : 0 ≤ a % 18446744073709551616 ∧ a % 18446744073709551616 < 18446744073709551616 := by omega
  have hb0 : 0 ≤ b % 18446744073709551616 ∧ b % 18446744073709551616 < 18446744073709551616 := by omega
  have ha1 : 0 ≤ (a / 18446744073709551616) % 18446744073709551616 ∧ (a / 18446744073709551616) % 18446744073709551616 < 18446744073709551616 := by omega
  have hb1 : 0 ≤ (b / 18446744073709551616) % 18446744073709551616 ∧ (b / 18446744073709551616) % 18446744073709551616 < 18446744073709551616 := by omega
  unfold T3
  simp only [Option.some.injEq, Prod.mk.injEq]
  generalize a % 18446744073709551616 = x0 at *
  generalize (a / 18446744073709551616) % 18446744073709551616 = x1 at *
  generalize a / 340282366920938463463374607431768211456 = x2 at *
  generalize b % 18446744073709551616 = y0 at *
  generalize (b / 18446744073709551616) % 18446744073709551616 = y1 at *
  generalize b / 340282366920938463463374607431768211456 = y2 at *
  subst ea
  subst eb
  clear ha hb
  refine ⟨?_, ?_, ?_⟩ <;> omega
theorem above3 {a b : Int} (ha : Sm a) (hb : Sm b) : audit_above.f (T3 a).1 (T3 a).2.1 (T3 a).2.2 (T3 b).1 (T3 b).2.1 (T3 b).2.2 = some (decide (b < a)) := by
  unfold Sm at ha hb
  unfold audit_above.f T3
  simp only
  split
  · split
    · split
      · rw [decide_eq_false (by omega)]
      · congr 1; apply decide_eq_decide.mpr; omega
    · congr 1; apply decide_eq_decide.mpr; omega
  · congr 1; apply decide_eq_decide.mpr; omega
/-- One event. -/
def base (t a : Int) : Int := if t < a then a else t
def step (gap slack t a u : Int) : Int × Bool := if a + slack < base t a + (u - 1) * gap then (base t a, false) else (base t a + (u - 1) * gap + gap, true)
def Lo (t : Int) : Prop := 0 ≤ t ∧ t < 73786976294838206464
theorem flow1 {gap slack t a u p3 p4 : Int} (hg : U gap) (hs : U slack) (ht : Lo t) (ha : U a) (hu : U u) (h1 : u ≠ 0) (k : Nat) :
    audit_flow_1.f (k + 1) (T3 t).1 (T3 t).2.1 (T3 t).2.2 a u 1 gap slack p3 p4 = some ((T3 (step gap slack t a u).1).1, (T3 (step gap slack t a u).1).2.1, (T3 (step gap slack t a u).1).2.2, (step gap slack t a u).2) := by
  have hm := V_mul (a := u - 1) (b := gap) (by unfold U at *; omega) hg
  have hb : base t a < 73786976294838206464 ∧ 0 ≤ base t a := by unfold base Lo U at *; split <;> omega
  have q1 : U (u - 1) := by unfold U at *; omega
  have core : audit_flow_1.j0 (k + 1) 1 gap slack p3 p4 (T3 (base t a)).1 (T3 (base t a)).2.1 (T3 (base t a)).2.2 a u (T3 a).1 (T3 a).2.1 (T3 a).2.2 = some ((T3 (step gap slack t a u).1).1, (T3 (step gap slack t a u).1).2.1, (T3 (step gap slack t a u).1).2.2, (step gap slack t a u).2) := by
    simp only [audit_flow_1.j0]
    unfold step
    generalize base t a = B at *
    rw [wr_id q1, times3 q1 hg]
    generalize (u - 1) * gap = m at *
    simp only [Option.bind_some]
    rw [plus3 (by unfold Sm; omega) (by unfold Sm; omega)]
    simp only [Option.bind_some]
    rw [of3 hs]
    simp only [Option.bind_some]
    rw [plus3 (by unfold Sm U at *; omega) (by unfold Sm U at *; omega)]
    simp only [Option.bind_some]
    rw [above3 (by unfold Sm U at *; omega) (by unfold Sm U at *; omega)]
    simp only [Option.bind_some]
    by_cases c : a + slack < B + m
    · rw [if_pos (by simpa using c), if_pos c]
    · rw [if_neg (by simpa using c), if_neg c, of3 hg]
      simp only [Option.bind_some]
      rw [plus3 (by unfold Sm U at *; omega) (by unfold Sm U at *; omega)]
      simp only [Option.bind_some]
  unfold audit_flow_1.f
  rw [of3 ha]
  simp only [Option.bind_some]
  rw [above3 (by unfold Sm U at *; omega) (by unfold Sm Lo at *; omega)]
  simp only [Option.bind_some]
  by_cases c : t < a
  · rw [if_pos (by simpa using c)]
    have e : base t a = a := by unfold base; rw [if_pos c]
    rw [e] at core
    exact core
  · rw [if_neg (by simpa using c)]
    have e : base t a = t := by unfold base; rw [if_neg c]
    rw [e] at core
    exact core
/-- The tat behind events, and whether they keep to the policy. -/
def run (gap slack : Int) : List S31 → Int → Int × Bool
  | [], t => (t, true)
  | e :: es, t => if e.f1 = 0 then (t, false) else (if (step gap slack t e.f0 e.f1).2 = true then run gap slack es (step gap slack t e.f0 e.f1).1 else (t, false))
theorem step_Lo {gap slack t a u : Int} (hg : U gap) (hs : U slack) (ha : U a) (h : (step gap slack t a u).2 = true) (hu : U u) (h1 : u ≠ 0) (ht : Lo t) : Lo (step gap slack t a u).1 := by
  have hm := V_mul (a := u - 1) (b := gap) (by unfold U at *; omega) hg
  have hb : Lo (base t a) := by unfold base Lo U at *; split <;> omega
  unfold step at h ⊢
  by_cases c : a + slack < base t a + (u - 1) * gap
  · rw [if_pos c] at h
    cases h
  · rw [if_neg c]
    simp only
    generalize (u - 1) * gap = m at *
    unfold Lo U at *
    omega
theorem over3 {gap slack p3 p4 : Int} (hg : U gap) (hs : U slack) (k : Nat) : ∀ (l : List S31) (t : Int), (∀ y ∈ l, q31 y) → Lo t → audit_flow.over (k + 1) 1 gap slack p3 p4 l (T3 t).1 (T3 t).2.1 (T3 t).2.2 = some ((T3 (run gap slack l t).1).1, (T3 (run gap slack l t).1).2.1, (T3 (run gap slack l t).1).2.2, (run gap slack l t).2)
  | [], t, _, _ => rfl
  | e :: es, t, hq, ht => by
    have he := hq e (List.mem_cons_self ..)
    have ha : U e.f0 := U_wf he.1
    have hu : U e.f1 := U_wf he.2
    unfold audit_flow.over run
    by_cases c : e.f1 = 0
    · rw [if_pos c, if_pos c]
    · rw [if_neg c, if_neg c, flow1 hg hs ht ha hu c k]
      simp only [Option.bind_some]
      by_cases d : (step gap slack t e.f0 e.f1).2 = true
      · rw [if_pos d, if_pos d]
        exact over3 hg hs k es _ (fun y hy => hq y (List.mem_cons_of_mem _ hy)) (step_Lo hg hs ha d hu c ht)
      · rw [if_neg d, if_neg d]
theorem flowF {gap slack p3 p4 : Int} (hg : U gap) (hs : U slack) (k : Nat) (l : List S31) (hq : ∀ y ∈ l, q31 y) (hl : l.length ≤ 4611686018427387904) : audit_flow.f (k + 1) 1 gap slack p3 p4 l = some ((T3 (run gap slack l 0).1).1, (T3 (run gap slack l 0).1).2.1, (T3 (run gap slack l 0).1).2.2, (run gap slack l 0).2) := by
  unfold audit_flow.f
  rw [if_pos hl]
  exact over3 hg hs k l 0 hq (by unfold Lo; omega)
end Go.Proofs.Ytdoifmefhofnnaa.M
