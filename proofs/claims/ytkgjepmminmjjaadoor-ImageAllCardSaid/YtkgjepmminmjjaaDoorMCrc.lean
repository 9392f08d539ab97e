/- The sum CRC-32C, plainly: bits, and four bits at once; one byte turned turns the sum. -/
import Derived.Test.YtkgjepmminmjjaaDoorMBase
namespace Go.Proofs.YtkgjepmminmjjaaDoor.M
/-- One step of the sum. -/
def stepN (x : Nat) : Nat := if x % 2 = 1 then x / 2 ^^^ 2197175160 else x / 2
theorem stepN_xor (a b : Nat) : stepN (a ^^^ b) = stepN a ^^^ stepN b := by
  unfold stepN
  have h1 : (a ^^^ b) / 2 = a / 2 ^^^ b / 2 := by
    have := Nat.xor_div_two_pow (a := a) (b := b) (n := 1); simpa using this
  have h2 : (a ^^^ b) % 2 = a % 2 ^^^ b % 2 := by
    have := Nat.xor_mod_two_pow (a := a) (b := b) (n := 1); simpa using this
  have h3 : ∀ x y z : Nat, (x ^^^ z) ^^^ (y ^^^ z) = x ^^^ y := by
    intro x y z
    rw [Nat.xor_assoc, Nat.xor_comm y z, ← Nat.xor_assoc z z y, Nat.xor_self, Nat.zero_xor]
  rw [h1, h2]
  rcases Nat.mod_two_eq_zero_or_one a with ha | ha <;> rcases Nat.mod_two_eq_zero_or_one b with hb | hb <;> simp only [ha, hb]
  · simp
  · simp [Nat.xor_assoc]
  · simp only [show (1 ^^^ 0 = 1) = True by simp, if_true, show ((0 : Nat) = 1) = False by simp, if_false]
    rw [Nat.xor_assoc, Nat.xor_comm (b / 2), ← Nat.xor_assoc]
  · simp [h3]
theorem stepN_lt {x : Nat} (h : x < 4294967296) : stepN x < 4294967296 := by
  unfold stepN
  split
  · exact Nat.xor_lt_two_pow (n := 32) (by omega) (by decide)
  · omega
def stepsN : Nat → Nat → Nat
  | 0, x => x
  | n + 1, x => stepsN n (stepN x)
theorem stepsN_lt : ∀ (n : Nat) {x : Nat}, x < 4294967296 → stepsN n x < 4294967296
  | 0, _, h => h
  | n + 1, _, h => stepsN_lt n (stepN_lt h)
theorem stepsN_xor : ∀ (n : Nat) (a b : Nat), stepsN n (a ^^^ b) = stepsN n a ^^^ stepsN n b
  | 0, _, _ => rfl
  | n + 1, a, b => by simp only [stepsN, stepN_xor, stepsN_xor n]
theorem stepsN_add : ∀ (m n x : Nat), stepsN (m + n) x = stepsN n (stepsN m x)
  | 0, n, x => by simp [stepsN]
  | m + 1, n, x => by rw [Nat.add_right_comm]; simp only [stepsN, stepsN_add m n]
/-- Four steps of each number of four bits. -/
def hvL : List Nat := [0, 274646895, 549293790, 820201905, 1098587580, 1361435347, 1640403810, 1905808397, 2197175160, 2460548119, 2722870694, 2987750089, 3280807620, 3553878443, 3811616794, 4084100981]
def hv (i : Nat) : Nat := hvL.getD i 0
theorem hv_steps (l : Nat) (h : l < 16) : stepsN 4 l = hv l := by
  have : ∀ l, l < 16 → stepsN 4 l = hv l := by decide +kernel
  exact this l h
theorem steps4_high (h : Nat) : stepsN 4 (h * 16) = h := by
  have e : ∀ k : Nat, stepN (k * 2) = k := fun k => by unfold stepN; rw [if_neg (by omega)]; omega
  have e1 : h * 16 = h * 8 * 2 := by omega
  have e2 : h * 8 = h * 4 * 2 := by omega
  have e3 : h * 4 = h * 2 * 2 := by omega
  simp only [stepsN]
  rw [e1, e, e2, e, e3, e, e]
theorem split16 (x : Nat) : x / 16 * 16 ^^^ x % 16 = x := by
  apply Nat.eq_of_testBit_eq
  intro i
  have e1 : x % 16 = x % 2 ^ 4 := rfl
  have e2 : x / 16 * 16 = (x >>> 4) <<< 4 := by rw [Nat.shiftLeft_eq, Nat.shiftRight_eq_div_pow]
  rw [Nat.testBit_xor, e1, e2, Nat.testBit_mod_two_pow, Nat.testBit_shiftLeft, Nat.testBit_shiftRight]
  by_cases h : 4 ≤ i
  · have h4 : ¬ i < 4 := by omega
    simp [h, h4, show 4 + (i - 4) = i by omega]
  · have h4 : i < 4 := by omega
    simp [h, h4]
/-- The program's step of four bits. -/
theorem nibble (x : Nat) : x / 16 ^^^ hv (x % 16) = stepsN 4 x := by
  have h := stepsN_xor 4 (x / 16 * 16) (x % 16)
  rw [split16, steps4_high, hv_steps _ (Nat.mod_lt _ (by decide))] at h
  exact h.symm
/-- One byte. -/
def byteN (x c : Nat) : Nat := stepsN 8 (x ^^^ c)
def crcN (x : Nat) (l : List Nat) : Nat := l.foldl byteN x
theorem byteN_lt {x c : Nat} (h : x < 4294967296) (hc : c < 256) : byteN x c < 4294967296 := stepsN_lt 8 (Nat.xor_lt_two_pow (n := 32) h (by omega))
theorem byte_twice (x : Nat) : stepsN 4 (stepsN 4 x) = stepsN 8 x := (stepsN_add 4 4 x).symm
theorem crcN_lt : ∀ (l : List Nat) {x : Nat}, x < 4294967296 → (∀ c ∈ l, c < 256) → crcN x l < 4294967296
  | [], _, h, _ => h
  | c :: l, _, h, hl => crcN_lt l (byteN_lt h (hl c (by simp))) (fun d hd => hl d (by simp [hd]))
end Go.Proofs.YtkgjepmminmjjaaDoor.M
