/- What package image's functions compute, plainly: a state's bytes, and back. -/
import Derived.Test.YtkgjepmminmjjaaDoorMLook
import Derived.Test.YtkgjepmminmjjaaDoorMRec
import Derived.Test.YtkgjepmminmjjaaDoorMCrc
import Derived.Test.YtkgjepmminmjjaaDoorEx16
import Derived.Test.YtkgjepmminmjjaaDoorEx17
import Derived.Test.YtkgjepmminmjjaaDoorEx24
namespace Go.Proofs.YtkgjepmminmjjaaDoor.M
set_option linter.unusedVariables false
set_option linter.unusedSimpArgs false
open Go.RowKit Go.Proofs.YtkgjepmminmjjaaDoor.E Go.Proofs.YtkgjepmminmjjaaDoorW.PrintWords Go.Proofs.YtkgjepmminmjjaaDoorW.PrintLast Go.Proofs.YtkgjepmminmjjaaDoorW.PrintMore Go.Proofs.YtkgjepmminmjjaaDoorW.PrintShort
/-! ### The sum -/
theorem tab_hv : ∀ k, k < 16 → (tabL.getD k 0).toNat = hv k := by decide +kernel
theorem nib_steps (x : Nat) : crc_Add.nib x = stepsN 4 x := by
  unfold crc_Add.nib
  rw [tab_hv _ (Nat.mod_lt _ (by decide)), nibble]
theorem byte_N (x c : Nat) : crc_Add.byte x c = byteN x c := by
  unfold crc_Add.byte byteN
  rw [nib_steps, nib_steps, byte_twice]
theorem bytes_N : ∀ (l : List Int) (x : Nat), crc_Add.bytes x l = crcN x (l.map Int.toNat)
  | [], _ => rfl
  | c :: l, x => by
    have ih := bytes_N l (crc_Add.byte x c.toNat)
    rw [byte_N] at ih
    unfold crc_Add.bytes crcN at *
    rw [List.foldl_cons, List.map_cons, List.foldl_cons, byte_N]
    exact ih
/-- The sum of bytes. -/
def crcI (l : List Int) : Int := ((4294967295 ^^^ crcN 4294967295 (l.map Int.toNat) : Nat) : Int)
theorem By_nat {l : List Int} (h : By l) : ∀ c ∈ l.map Int.toNat, c < 256 := fun c hc => by
  obtain ⟨x, hx, rfl⟩ := List.mem_map.1 hc
  have := h x hx
  omega
theorem crcI_range {l : List Int} (h : By l) : 0 ≤ crcI l ∧ crcI l < 4294967296 := by
  have h1 := crcN_lt (l.map Int.toNat) (x := 4294967295) (by decide) (By_nat h)
  have h2 := Nat.xor_lt_two_pow (n := 32) (x := 4294967295) (y := crcN 4294967295 (l.map Int.toNat)) (by decide) h1
  unfold crcI
  omega
theorem sum_I {l : List Int} (h : By l) (hl : l.length ≤ 4611686018427387904) : crc_Sum.f l = some (crcI l) := by
  unfold crc_Sum.f crc_Add.f
  rw [if_pos ⟨by decide, by decide, hl, all_By h⟩, Option.bind_some, bytes_N]
  rfl
/-! ### Bytes of numbers -/
theorem PU32 {l : List Int} {a : Int} (h0 : 0 ≤ a) (h1 : a < 4294967296) (hl : l.length ≤ 70368744177664) : pack_PutU32.f l a = some (l ++ putN 4 a) := by
  unfold pack_PutU32.f pack_put.f
  have e : IntKind.u64.wrap a = a := wr_id ⟨h0, by omega⟩
  rw [e, if_pos h0, if_pos (by decide), if_pos (by omega)]
  rfl
/-- Numbers of 64 bits. -/
structure EU (E : S79) : Prop where
  gap : U E.f1.f1
  slack : U E.f1.f2
  lim : U E.f1.f3
  span : U E.f1.f4
  tat : U E.f2.f0
  ix : U E.f2.f1
  cnt : U E.f2.f2
/-- What an entry of a state is. -/
def VE (E : S79) : Prop := 1 ≤ E.f0.size ∧ E.f0.size ≤ 64 ∧ ((E.f1.f0 = 1 ∧ E.f1.f3 = 0 ∧ E.f1.f4 = 0 ∧ E.f2.f1 = 0 ∧ E.f2.f2 = 0) ∨ (E.f1.f0 = 2 ∧ E.f1.f1 = 0 ∧ E.f1.f2 = 0 ∧ E.f2.f0 = 0))
def nums (E : S79) : List Int := if E.f1.f0 = 2 then [E.f1.f3, E.f1.f4, E.f2.f1, E.f2.f2] else [E.f1.f1, E.f1.f2, E.f2.f0]
def puts : List Int → List Int
  | [] => []
  | x :: r => putN 8 x ++ puts r
def encE (E : S79) : List Int := putN 2 E.f0.size ++ (bytesOf E.f0 ++ (E.f1.f0 % 256 :: puts (nums E)))
def encs : List S79 → List Int
  | [] => []
  | E :: l => encE E ++ encs l
def bodyS (a b : Int) (l : List S79) : List Int := [84, 73, 48, 49] ++ (putN 8 a ++ (putN 8 b ++ (putN 4 l.length ++ encs l)))
def fin (x : List Int) : List Int := x ++ putN 4 (crcI x)
def imgS (a b : Int) (l : List S79) : List Int := fin (bodyS a b l)
theorem puts_len : ∀ l : List Int, (puts l).length = 8 * l.length
  | [] => rfl
  | x :: r => by rw [puts, List.length_append, putN_length, puts_len r, List.length_cons]; omega
theorem By_puts : ∀ l : List Int, By (puts l)
  | [] => By.nil
  | x :: r => (By_putN 8 x).append (By_puts r)
theorem nums_len (E : S79) : (nums E).length ≤ 4 := by unfold nums; split <;> simp
theorem encE_len (E : S79) (h : E.f0.size ≤ 64) : (encE E).length ≤ 99 := by
  have := nums_len E
  unfold encE
  rw [List.length_append, List.length_append, List.length_cons, putN_length, bytesOf_length, puts_len]
  omega
theorem By_encE (E : S79) : By (encE E) := by
  refine (By_putN 2 _).append ((By_bytesOf _).append ?_)
  intro x hx
  rcases List.mem_cons.1 hx with rfl | hx
  · omega
  · exact By_puts _ x hx
theorem By_encs : ∀ l : List S79, By (encs l)
  | [] => By.nil
  | E :: l => (By_encE E).append (By_encs l)
theorem encs_len : ∀ l : List S79, (∀ E ∈ l, E.f0.size ≤ 64) → (encs l).length ≤ 99 * l.length
  | [], _ => by simp [encs]
  | E :: l, h => by
    have h1 := encE_len E (h E (by simp))
    have h2 := encs_len l (fun F hF => h F (by simp [hF]))
    rw [encs, List.length_append, List.length_cons]
    omega
theorem By_body (a b : Int) (l : List S79) : By (bodyS a b l) := by
  refine By.append ?_ ((By_putN 8 a).append ((By_putN 8 b).append ((By_putN 4 _).append (By_encs l))))
  intro x hx
  simp at hx
  omega
theorem body_len (a b : Int) (l : List S79) : (bodyS a b l).length = 24 + (encs l).length := by
  unfold bodyS
  simp only [List.length_append, putN_length, List.length_cons, List.length_nil]
  omega
theorem By_fin {x : List Int} (h : By x) : By (fin x) := h.append (By_putN 4 _)
/-! ### Encode -/
theorem l1_go (xs : List Int) (rows : List (List Int)) (l : List S79) (n j : Int) (hx : ∀ x ∈ xs, U x) (hr : rows.length < 5864062014805) :
    ∀ (m i k : Nat) (x8 : List Int), xs.length - i = m → i ≤ xs.length → xs.length ≤ 4 → x8.length + 8 * m ≤ 1000 →
      image_Encode.l1 (m + 1 + k) rows x8 l n j xs (xs.length : Int) (i : Int) = image_Encode.l0 k (rows ++ [x8 ++ puts (xs.drop i)]) l n (wrap64 (j + 1))
  | 0, i, k, x8, hm, hi, h4, hl => by
    rw [show 0 + 1 + k = k + 1 by omega]
    unfold image_Encode.l1
    rw [if_neg (by omega), if_pos hr, List.drop_eq_nil_of_le (by omega), puts, List.append_nil]
  | m + 1, i, k, x8, hm, hi, h4, hl => by
    have hlt : i < xs.length := by omega
    rw [show m + 1 + 1 + k = (m + 1 + k) + 1 by omega]
    unfold image_Encode.l1
    have e : rd xs (i : Int) = xs[i] := by unfold rd; simp [List.getD_eq_getElem?_getD, List.getElem?_eq_getElem hlt]
    have hw : wrap64 ((i : Int) + 1) = ((i + 1 : Nat) : Int) := by unfold wrap64; omega
    rw [if_pos (by omega), if_pos (by omega), if_pos (by omega), e, PU64 (hx _ (List.getElem_mem hlt)) (by omega), Option.bind_some, hw,
      l1_go xs rows l n j hx hr m (i + 1) k _ (by omega) (by omega) h4 (by rw [List.length_append, putN_length]; omega), List.drop_eq_getElem_cons hlt, puts, List.append_assoc]
theorem l2_go (rows : List (List Int)) (hr : rows.length ≤ 4611686018427387904) (hb : By rows.flatten) (ht : rows.flatten.length ≤ 70368744177664) :
    ∀ (m i k : Nat), rows.length - i = m → i ≤ rows.length → m < k → image_Encode.l2 k ((rows.take i).flatten) rows (rows.length : Int) (i : Int) = some (fin rows.flatten, 0)
  | 0, i, k, hm, hi, hk => by
    obtain ⟨k, rfl⟩ : ∃ q, k = q + 1 := ⟨k - 1, by omega⟩
    have e : i = rows.length := by omega
    subst e
    unfold image_Encode.l2
    have hc := crcI_range hb
    rw [if_neg (by omega), List.take_length, sum_I hb (by omega), Option.bind_some, PU32 hc.1 hc.2 ht]
    rfl
  | m + 1, i, k, hm, hi, hk => by
    obtain ⟨k, rfl⟩ : ∃ q, k = q + 1 := ⟨k - 1, by omega⟩
    have hlt : i < rows.length := by omega
    have e : rd_L7 rows (i : Int) = rows[i] := by unfold rd_L7; simp [List.getD_eq_getElem?_getD, List.getElem?_eq_getElem hlt]
    have hw : wrap64 ((i : Int) + 1) = ((i + 1 : Nat) : Int) := by unfold wrap64; omega
    have hs : (rows.take i).flatten ++ rows[i] = (rows.take (i + 1)).flatten := by
      rw [List.take_add_one, List.getElem?_eq_getElem hlt, List.flatten_append]
      simp
    have hl : ((rows.take (i + 1)).flatten).length ≤ rows.flatten.length := by
      have h := congrArg List.length (congrArg List.flatten (List.take_append_drop (i + 1) rows))
      rw [List.flatten_append, List.length_append] at h
      omega
    rw [← hs, List.length_append] at hl
    unfold image_Encode.l2
    rw [if_pos (by omega), if_pos (by omega), if_pos (by omega), e, if_pos (by omega), hs, hw]
    exact l2_go rows hr hb ht m (i + 1) k (by omega) (by omega) (by omega)
theorem kind_num {E : S79} (h : VE E) (hu : EU E) : (∀ x ∈ nums E, U x) ∧ (E.f1.f0 = 1 ∨ E.f1.f0 = 2) := by
  obtain ⟨_, _, h⟩ := h
  refine ⟨fun x hx => ?_, by omega⟩
  unfold nums at hx
  split at hx
  · simp at hx
    rcases hx with rfl | rfl | rfl | rfl
    · exact hu.lim
    · exact hu.span
    · exact hu.ix
    · exact hu.cnt
  · simp at hx
    rcases hx with rfl | rfl | rfl
    · exact hu.gap
    · exact hu.slack
    · exact hu.tat
theorem l0_go (l : List S79) (hl : l.length ≤ 4096) (hv : ∀ E ∈ l, VE E) (hu : ∀ E ∈ l, EU E) (r0 : List Int) (hb0 : By r0) (h0 : r0.length ≤ 1000) :
    ∀ (d j k : Nat), l.length - j = d → j ≤ l.length → 7 * d + l.length + 5 ≤ k →
      image_Encode.l0 k ([r0] ++ (l.take j).map encE) l (l.length : Int) (j : Int) = some (fin (r0 ++ encs l), 0)
  | 0, j, k, hd, hj, hk => by
    obtain ⟨k, rfl⟩ : ∃ q, k = q + 1 := ⟨k - 1, by omega⟩
    have e : j = l.length := by omega
    subst e
    have hf : ∀ m : List S79, (m.map encE).flatten = encs m := by
      intro m
      induction m with
      | nil => rfl
      | cons E m ih => rw [List.map_cons, List.flatten_cons, ih]; rfl
    have ef : ([r0] ++ l.map encE).flatten = r0 ++ encs l := by rw [List.flatten_append, hf]; simp
    have hen := encs_len l (fun E hE => (hv E hE).2.1)
    unfold image_Encode.l0
    rw [if_neg (by omega), List.take_length]
    have h := l2_go ([r0] ++ l.map encE) (by simp; omega) (by rw [ef]; exact hb0.append (By_encs l)) (by rw [ef, List.length_append]; omega) ([r0] ++ l.map encE).length 0 k (by omega) (by omega) (by simp; omega)
    rw [ef] at h
    exact h
  | d + 1, j, k, hd, hj, hk => by
    have hlt : j < l.length := by omega
    have e : rd_T79 l (j : Int) = l[j] := by unfold rd_T79; simp [List.getD_eq_getElem?_getD, List.getElem?_eq_getElem hlt]
    obtain ⟨E, hE⟩ : ∃ E, l[j] = E := ⟨_, rfl⟩
    have hm : E ∈ l := by rw [← hE]; exact List.getElem_mem hlt
    have hV := hv E hm
    have hN := kind_num hV (hu E hm)
    have hn4 := nums_len E
    have hw : wrap64 ((j : Int) + 1) = ((j + 1 : Nat) : Int) := by unfold wrap64; omega
    obtain ⟨k, rfl⟩ : ∃ q, k = ((nums E).length + 1 + q) + 1 + 1 := ⟨k - 3 - (nums E).length, by omega⟩
    have hsz := hV.2.1
    have step : ∀ x8, x8 = (putN 2 E.f0.size ++ bytesOf E.f0) ++ [E.f1.f0 % 256] → image_Encode.j1 (((nums E).length + 1 + k) + 1) ([r0] ++ (l.take j).map encE) x8 (nums E) l (l.length : Int) (j : Int) = some (fin (r0 ++ encs l), 0) := by
      intro x8 h8
      have h8l : x8.length ≤ 67 := by rw [h8, List.length_append, List.length_append, putN_length, bytesOf_length, List.length_singleton]; omega
      unfold image_Encode.j1
      have h1 := l1_go (nums E) ([r0] ++ (l.take j).map encE) l (l.length : Int) (j : Int) hN.1 (by simp; omega) (nums E).length 0 k x8 (by omega) (by omega) hn4 (by omega)
      rw [show ((0 : Nat) : Int) = 0 from rfl] at h1
      rw [h1, hw, List.drop_zero]
      have hx : x8 ++ puts (nums E) = encE E := by rw [h8]; unfold encE; simp
      have ht : [r0] ++ (l.take j).map encE ++ [x8 ++ puts (nums E)] = [r0] ++ (l.take (j + 1)).map encE := by
        rw [hx, List.take_add_one, List.getElem?_eq_getElem hlt, hE]
        simp
      rw [ht]
      exact l0_go l hl hv hu r0 hb0 h0 d (j + 1) k (by omega) (by omega) (by omega)
    unfold image_Encode.l0
    rw [if_pos (by omega), if_pos (by omega), if_pos (by omega), e, hE, PText (l := []) hsz (by simp), Option.bind_some]
    dsimp only
    rw [if_pos (by decide), if_pos rfl, if_pos (by simp [putN_length, bytesOf_length]; omega), Option.bind_some]
    by_cases h2 : E.f1.f0 = 2
    · have hnm : nums E = [E.f1.f3, E.f1.f4, E.f2.f1, E.f2.f2] := by unfold nums; rw [if_pos h2]
      rw [if_pos h2, ← hnm]
      exact step _ (by simp)
    · have hnm : nums E = [E.f1.f1, E.f1.f2, E.f2.f0] := by unfold nums; rw [if_neg h2]
      rw [if_neg h2, ← hnm]
      exact step _ (by simp)
theorem enc_ok {a b : Int} {l : List S79} (ha : U a) (hb : U b) (hl : l.length ≤ 4096) (hv : ∀ E ∈ l, VE E) (hu : ∀ E ∈ l, EU E) (hV : valB a l = true) (k : Nat) (hk : 8 * l.length + 5 ≤ k) :
    image_Encode.f k a b l = some (imgS a b l, 0) := by
  unfold image_Encode.f
  have hm : (l.length : Int) % 4294967296 = l.length := by omega
  rw [valid_B, hV, Option.bind_some, if_pos rfl, PU64 ha (by decide), Option.bind_some, PU64 hb (by simp [putN_length]), Option.bind_some, hm, PU32 (by omega) (by omega) (by simp [putN_length]), Option.bind_some]
  have h := l0_go l hl hv hu ([84, 73, 48, 49] ++ putN 8 a ++ putN 8 b ++ putN 4 (l.length : Int))
    (((By.append (by intro x hx; simp at hx; omega) (By_putN 8 a)).append (By_putN 8 b)).append (By_putN 4 _)) (by simp [putN_length]) l.length 0 k (by omega) (by omega) (by omega)
  rw [show ((0 : Nat) : Int) = 0 from rfl, List.take_zero] at h
  unfold imgS bodyS
  simpa [List.append_assoc] using h
theorem enc_no {a b : Int} {l : List S79} (hV : valB a l = false) (k : Nat) : image_Encode.f k a b l = some ([], 1) := by
  unfold image_Encode.f
  rw [valid_B, hV, Option.bind_some, if_neg (by decide)]
end Go.Proofs.YtkgjepmminmjjaaDoor.M
