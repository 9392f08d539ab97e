import Derived.Test.YtkgjepmminmjjaaDoorWAll
import Derived.Laws.BitsLemmas
import Derived.Laws.Wrap64
import Derived.Test.YtkgjepmminmjjaaDoorEx14
import Derived.Test.YtkgjepmminmjjaaDoorEx15
import Derived.Test.YtkgjepmminmjjaaDoorEx16
import Derived.Test.YtkgjepmminmjjaaDoorEx17
import Derived.Test.YtkgjepmminmjjaaDoorEx19
import Derived.Test.YtkgjepmminmjjaaDoorEx20
import Derived.Test.YtkgjepmminmjjaaDoorEx21
/- Plain lemmas on 64-bit numbers, as the printed functions spell them. -/
namespace Go.Proofs.YtkgjepmminmjjaaDoor.M
open Go.RowKit Go.Proofs.YtkgjepmminmjjaaDoorW.PrintWords Go.Proofs.YtkgjepmminmjjaaDoorW.PrintLast Go.Proofs.YtkgjepmminmjjaaDoorW.PrintMore

/-- A number of 64 bits. -/
def U (x : Int) : Prop := 0 ≤ x ∧ x < 18446744073709551616
theorem U_wf {x : Int} (h : (Lit.int .u64 x).wf = true) : U x := by
  simp [Lit.wf, IntKind.min, IntKind.max, IntKind.signed, IntKind.bits] at h
  unfold U; omega
theorem wr (n : Int) : IntKind.u64.wrap n = n % 18446744073709551616 := IntKind.wrap_u64 n
theorem U_wr (n : Int) : U (IntKind.u64.wrap n) := by rw [wr]; unfold U; omega
theorem wr_id {n : Int} (h : U n) : IntKind.u64.wrap n = n := by rw [wr]; unfold U at h; omega
theorem hk64 (n : Int) (h0 : 0 ≤ n) (h1 : n < 2 ^ 64) : IntKind.u64.wrap n = n := by
  apply wr_id; unfold U; simp at h1; omega
theorem and32 {x : Int} (h : U x) : Go.bits .and .u64 x 4294967295 = x % 4294967296 := by
  have := bits_mask .u64 64 (by decide) hk64 32 (by decide) x h.1 (by unfold U at h; simp; omega)
  simpa using this
theorem tdiv_of {a b : Int} (h : 0 ≤ a) : Int.tdiv a b = a / b := Int.tdiv_eq_ediv_of_nonneg h
theorem tmod_of {a b : Int} (h : 0 ≤ a) : Int.tmod a b = a % b := Int.tmod_eq_emod_of_nonneg h
theorem mul_lt {a b A B : Int} (ha : 0 ≤ a) (hb : 0 ≤ b) (hA : a ≤ A) (hB : b ≤ B) : 0 ≤ a * b ∧ a * b ≤ A * B :=
  ⟨Int.mul_nonneg ha hb, Int.mul_le_mul hA hB hb (by omega)⟩
end Go.Proofs.YtkgjepmminmjjaaDoor.M
/- What package record's functions compute, plainly: what a record is, its bytes, and back. -/
namespace Go.Proofs.YtkgjepmminmjjaaDoor.M
set_option linter.unusedVariables false
set_option linter.unusedSimpArgs false
open Go.RowKit Go.Proofs.YtkgjepmminmjjaaDoor.E Go.Proofs.YtkgjepmminmjjaaDoorW.PrintWords Go.Proofs.YtkgjepmminmjjaaDoorW.PrintLast Go.Proofs.YtkgjepmminmjjaaDoorW.PrintMore Go.Proofs.YtkgjepmminmjjaaDoorW.PrintShort
/-- A record, and a policy and a level in it. -/
structure Rec where
  kind : Int
  floor : Int
  key : ByteArray
  pk : Int
  gap : Int
  slack : Int
  lim : Int
  span : Int
  tat : Int
  ix : Int
  cnt : Int
def Rec.zero : Rec := ⟨0, 0, ⟨#[]⟩, 0, 0, 0, 0, 0, 0, 0, 0⟩
/-- What 'Decode' answers of a record and a fault. -/
def Rec.out (r : Rec) (e : Int) : Int × Int × ByteArray × Int × Int × Int × Int × Int × Int × Int × Int × Int := (r.kind, r.floor, r.key, r.pk, r.gap, r.slack, r.lim, r.span, r.tat, r.ix, r.cnt, e)
theorem bool_iff {a b : Bool} (h : a = true ↔ b = true) : a = b := by cases a <;> cases b <;> simp_all
theorem some_iff {a b : Bool} (h : a = true ↔ b = true) : some a = some b := by rw [bool_iff h]
def pvv (kind gap slack lim span : Int) : Bool := decide ((kind = 1 ∧ 1 ≤ gap ∧ lim = 0 ∧ span = 0) ∨ (kind = 2 ∧ 1 ≤ span ∧ gap = 0 ∧ slack = 0))
theorem pvv_iff {kind gap slack lim span : Int} : pvv kind gap slack lim span = true ↔ ((kind = 1 ∧ 1 ≤ gap ∧ lim = 0 ∧ span = 0) ∨ (kind = 2 ∧ 1 ≤ span ∧ gap = 0 ∧ slack = 0)) := by unfold pvv; simp
theorem PVv (kind gap slack lim span : Int) : policy_Valid.f kind gap slack lim span = some (pvv kind gap slack lim span) := by
  unfold policy_Valid.f policy_of.ok policy_rules_1.f policy_rules_7.f
  by_cases h1 : kind = 1
  · rw [if_pos h1]
    by_cases h2 : gap ≥ 1
    · rw [if_pos h2]
      by_cases h3 : lim = 0
      · rw [if_pos h3]; exact some_iff (by rw [pvv_iff, beq_iff_eq]; omega)
      · rw [if_neg h3]; exact some_iff (by rw [pvv_iff]; simp; omega)
    · rw [if_neg h2]; exact some_iff (by rw [pvv_iff]; simp; omega)
  · rw [if_neg h1]
    by_cases h4 : kind = 2
    · rw [if_pos h4]
      by_cases h2 : span ≥ 1
      · rw [if_pos h2]
        by_cases h3 : gap = 0
        · rw [if_pos h3]; exact some_iff (by rw [pvv_iff, beq_iff_eq]; omega)
        · rw [if_neg h3]; exact some_iff (by rw [pvv_iff]; simp; omega)
      · rw [if_neg h2]; exact some_iff (by rw [pvv_iff]; simp; omega)
    · rw [if_neg h4]; exact some_iff (by rw [pvv_iff]; simp; omega)
/-- What a record is. -/
def RV (r : Rec) : Prop := 1 ≤ r.key.size ∧ r.key.size ≤ 64 ∧
  ((r.kind = 1 ∧ ((r.pk = 1 ∧ 1 ≤ r.gap ∧ r.lim = 0 ∧ r.span = 0) ∨ (r.pk = 2 ∧ 1 ≤ r.span ∧ r.gap = 0 ∧ r.slack = 0)) ∧ r.tat = 0 ∧ r.ix = 0 ∧ r.cnt = 0) ∨
   (r.kind = 2 ∧ (r.pk = 0 ∧ r.gap = 0 ∧ r.slack = 0 ∧ r.lim = 0 ∧ r.span = 0) ∧ r.tat = 0 ∧ r.ix = 0 ∧ r.cnt = 0) ∨
   (r.kind = 3 ∧ (r.pk = 0 ∧ r.gap = 0 ∧ r.slack = 0 ∧ r.lim = 0 ∧ r.span = 0) ∧ (r.tat = 0 ∨ r.ix = 0 ∧ r.cnt = 0)))
instance (r : Rec) : Decidable (RV r) := by unfold RV; infer_instance
def vrec (r : Rec) (k : Nat) : Option Bool := record_Valid.f k r.kind r.floor r.key r.pk r.gap r.slack r.lim r.span r.tat r.ix r.cnt
theorem RValid (r : Rec) (k : Nat) : vrec r (k + 1) = some (decide (RV r)) := by
  unfold vrec record_Valid.f
  by_cases h1 : (r.key.size : Int) < 1
  · rw [if_pos h1]
    simp only [record_Valid.j0, if_true]
    exact some_iff (by rw [decide_eq_true_iff]; unfold RV; simp only [Bool.false_eq_true, false_iff]; omega)
  · rw [if_neg h1]
    simp only [record_Valid.j0]
    by_cases h2 : (r.key.size : Int) > 64
    · rw [if_pos (decide_eq_true h2)]
      exact some_iff (by rw [decide_eq_true_iff]; unfold RV; simp only [Bool.false_eq_true, false_iff]; omega)
    · rw [if_neg (by simpa using h2)]
      by_cases k1 : r.kind = 1
      · rw [if_pos k1, PVv, Option.bind_some]
        by_cases p : pvv r.pk r.gap r.slack r.lim r.span = true
        · rw [if_pos p]
          rw [pvv_iff] at p
          refine some_iff ?_
          rw [decide_eq_true_iff]; unfold RV; simp only [Bool.and_eq_true, beq_iff_eq]; omega
        · rw [if_neg p]
          rw [pvv_iff] at p
          refine some_iff ?_
          rw [decide_eq_true_iff]; unfold RV; simp only [Bool.false_eq_true, false_iff]; omega
      · rw [if_neg k1]
        by_cases n : (r.pk == 0 && (r.gap == 0 && (r.slack == 0 && (r.lim == 0 && (r.span == 0))))) = true
        · simp only [if_pos n]
          simp only [Bool.and_eq_true, beq_iff_eq] at n
          by_cases k2 : r.kind = 2
          · rw [if_pos k2]
            refine some_iff ?_
            rw [decide_eq_true_iff]; unfold RV; simp only [Bool.and_eq_true, beq_iff_eq]; omega
          · rw [if_neg k2]
            by_cases k3 : r.kind = 3
            · rw [if_pos k3]
              by_cases t0 : r.tat = 0
              · rw [if_pos t0]
                refine some_iff ?_
                rw [decide_eq_true_iff]; unfold RV; simp only [true_iff]; omega
              · rw [if_neg t0]
                by_cases i0 : r.ix = 0
                · rw [if_pos i0]
                  refine some_iff ?_
                  rw [decide_eq_true_iff]; unfold RV; simp only [beq_iff_eq]; omega
                · rw [if_neg i0]
                  refine some_iff ?_
                  rw [decide_eq_true_iff]; unfold RV; simp only [Bool.false_eq_true, false_iff]; omega
            · rw [if_neg k3]
              refine some_iff ?_
              rw [decide_eq_true_iff]; unfold RV; simp only [Bool.false_eq_true, false_iff]; omega
        · simp only [if_neg n]
          have e : some false = some (decide (RV r)) := by
            refine some_iff ?_
            simp only [Bool.and_eq_true, beq_iff_eq] at n
            rw [decide_eq_true_iff]; unfold RV; simp only [Bool.false_eq_true, false_iff]; omega
          by_cases k2 : r.kind = 2
          · rw [if_pos k2]; exact e
          · rw [if_neg k2]
            by_cases k3 : r.kind = 3
            · rw [if_pos k3]; exact e
            · rw [if_neg k3]; exact e
/-! ### Bytes -/
def By (l : List Int) : Prop := ∀ x ∈ l, 0 ≤ x ∧ x < 256
theorem By.append {a b : List Int} (ha : By a) (hb : By b) : By (a ++ b) := fun x hx => (List.mem_append.1 hx).elim (ha x) (hb x)
theorem By.left {a b : List Int} (h : By (a ++ b)) : By a := fun x hx => h x (List.mem_append.2 (Or.inl hx))
theorem By.right {a b : List Int} (h : By (a ++ b)) : By b := fun x hx => h x (List.mem_append.2 (Or.inr hx))
theorem By.nil : By [] := fun x hx => by cases hx
theorem By_putN : ∀ (n : Nat) (x : Int), By (putN n x)
  | 0, _ => By.nil
  | n + 1, x => fun y hy => by
    rcases List.mem_cons.1 hy with rfl | h
    · omega
    · exact By_putN n _ y h
theorem By_bytesOf (s : ByteArray) : By (bytesOf s) := fun x hx => by
  obtain ⟨b, _, rfl⟩ := List.mem_map.1 hx
  have := b.toNat_lt
  omega
theorem le_putN : ∀ (n : Nat) (x : Int), 0 ≤ x → x < 256 ^ n → le (putN n x) = x
  | 0, x, h0, h1 => by simp at h1; simp [putN, le]; omega
  | n + 1, x, h0, h1 => by
    simp only [putN, le]
    rw [le_putN n (x / 256) (by omega) (by rw [Int.pow_succ] at h1; omega)]
    omega
theorem putN_le : ∀ (t : List Int), By t → putN t.length (le t) = t
  | [], _ => rfl
  | b :: t, h => by
    have hb := h b (List.mem_cons_self ..)
    simp only [List.length_cons, putN, le]
    have e1 : (b + 256 * le t) % 256 = b := by omega
    have e2 : (b + 256 * le t) / 256 = le t := by omega
    rw [e1, e2, putN_le t (fun x hx => h x (List.mem_cons_of_mem _ hx))]
theorem le_U {t : List Int} (h : By t) (n : t.length = 8) : U (le t) := by
  have := le_range t h
  rw [n] at this
  exact ⟨this.1, by have := this.2; omega⟩
theorem str_bytes (s : ByteArray) : strOfNums (bytesOf s) = s := by
  cases s with
  | mk a =>
    unfold strOfNums bytesOf
    congr 1
    rw [List.map_map]
    have : (fun (n : Int) => UInt8.ofNat n.toNat) ∘ (fun (b : UInt8) => (b.toNat : Int)) = id := by
      funext b
      simp
    rw [this, List.map_id]
theorem bytes_str (t : List Int) (h : By t) : bytesOf (strOfNums t) = t := by
  unfold strOfNums bytesOf
  simp only [List.map_map]
  induction t with
  | nil => rfl
  | cons b t ih =>
    have hb := h b (List.mem_cons_self ..)
    simp only [List.map_cons, Function.comp]
    rw [show List.map ((fun (b : UInt8) => (b.toNat : Int)) ∘ fun (n : Int) => UInt8.ofNat n.toNat) t = t from ih (fun x hx => h x (List.mem_cons_of_mem _ hx))]
    congr 1
    rw [UInt8.toNat_ofNat']
    omega
theorem str_size (t : List Int) : (strOfNums t).size = t.length := strOfNums_size t
/-! ### Encode -/
def tail (r : Rec) : List Int :=
  if r.kind = 1 then r.pk % 256 :: (if r.pk = 2 then putN 8 r.lim ++ putN 8 r.span else putN 8 r.gap ++ putN 8 r.slack)
  else if r.kind = 3 then putN 8 r.tat ++ (putN 8 r.ix ++ putN 8 r.cnt) else []
/-- A record's bytes. -/
def enc (r : Rec) : List Int := r.kind % 256 :: (putN 8 r.floor ++ (putN 2 r.key.size ++ (bytesOf r.key ++ tail r)))
structure Rec.Un (r : Rec) : Prop where
  floor : U r.floor
  gap : U r.gap
  slack : U r.slack
  lim : U r.lim
  span : U r.span
  tat : U r.tat
  ix : U r.ix
  cnt : U r.cnt
theorem PU64 {l : List Int} {a : Int} (h : U a) (hl : l.length ≤ 5000) : pack_PutU64.f l a = some (l ++ putN 8 a) := by
  unfold pack_PutU64.f pack_put.f
  rw [if_pos h.1, if_pos (by omega), if_pos (by omega)]
  rfl
def encf (r : Rec) (k : Nat) : Option (List Int × Int) := record_Encode.f k r.kind r.floor r.key r.pk r.gap r.slack r.lim r.span r.tat r.ix r.cnt
theorem l0_nil (k : Nat) (l : List Int) : record_Encode.j0 (k + 2) l [] = some (l, 0) := by
  simp [record_Encode.j0, record_Encode.l0]
theorem l0_step {k : Nat} {l xs : List Int} {n i j x : Int} (hj : wrap64 (i + 1) = j) (h0 : 0 ≤ i) (h1 : i < n) (hn : (xs.length : Int) = n) (hx : rd xs i = x) (ux : U x) (hl : l.length ≤ 5000) :
    record_Encode.l0 (k + 1) l xs n i = record_Encode.l0 k (l ++ putN 8 x) xs n j := by
  rw [record_Encode.l0, if_pos h1, if_pos h0, if_pos (by omega), hx, PU64 ux hl, Option.bind_some, hj]
theorem l0_end {k : Nat} {l xs : List Int} {n i : Int} (h1 : ¬ i < n) : record_Encode.l0 (k + 1) l xs n i = some (l, 0) := by
  rw [record_Encode.l0, if_neg h1]
theorem l0_two (k : Nat) (l : List Int) {a b : Int} (ha : U a) (hb : U b) (hl : l.length ≤ 1000) : record_Encode.j0 (k + 4) l [a, b] = some (l ++ (putN 8 a ++ putN 8 b), 0) := by
  have n1 : (l ++ putN 8 a).length ≤ 5000 := by simp [putN_length]; omega
  rw [record_Encode.j0, l0_step (j := 1) (x := a) (by unfold wrap64; omega) (by omega) (by simp) rfl rfl ha (by omega),
    l0_step (j := 2) (x := b) (by unfold wrap64; omega) (by omega) (by simp) rfl rfl hb n1, l0_end (by simp), List.append_assoc]
theorem l0_three (k : Nat) (l : List Int) {a b c : Int} (ha : U a) (hb : U b) (hc : U c) (hl : l.length ≤ 1000) : record_Encode.j0 (k + 5) l [a, b, c] = some (l ++ (putN 8 a ++ (putN 8 b ++ putN 8 c)), 0) := by
  have n1 : (l ++ putN 8 a).length ≤ 5000 := by simp [putN_length]; omega
  have n2 : (l ++ putN 8 a ++ putN 8 b).length ≤ 5000 := by simp [putN_length]; omega
  rw [record_Encode.j0, l0_step (j := 1) (x := a) (by unfold wrap64; omega) (by omega) (by simp) rfl rfl ha (by omega),
    l0_step (j := 2) (x := b) (by unfold wrap64; omega) (by omega) (by simp) rfl rfl hb n1,
    l0_step (j := 3) (x := c) (by unfold wrap64; omega) (by omega) (by simp) rfl rfl hc n2, l0_end (by simp), List.append_assoc, List.append_assoc]
theorem PText {l : List Int} {s : ByteArray} (h : s.size ≤ 64) (hl : l.length ≤ 1000) : pack_PutText.f l s = some (l ++ (putN 2 s.size ++ bytesOf s), 0) := by
  unfold pack_PutText.f pack_put.f
  have e : IntKind.u64.wrap (s.size : Int) = s.size := wr_id ⟨by omega, by omega⟩
  rw [if_neg (by omega), e, if_pos (by omega), if_pos (by omega), if_pos (by omega), Option.bind_some, if_pos (by simp [putN_length]; omega)]
  simp
theorem REncode (r : Rec) (hu : r.Un) (k : Nat) : encf r (k + 6) = some (if RV r then (enc r, 0) else ([], 1)) := by
  have hv := RValid r (k + 5)
  unfold vrec at hv
  unfold encf record_Encode.f
  rw [hv, Option.bind_some]
  by_cases h : RV r
  · rw [if_pos (decide_eq_true h), if_pos h]
    obtain ⟨h1, h2, h3⟩ := h
    have n0 : ([r.kind % 256] ++ putN 8 r.floor).length = 9 := by simp [putN_length]
    rw [PU64 hu.floor (by simp), Option.bind_some, PText h2 (by omega), Option.bind_some]
    simp only [Int.le_refl, if_true]
    have n1 : ([r.kind % 256] ++ putN 8 r.floor ++ (putN 2 r.key.size ++ bytesOf r.key)).length ≤ 80 := by simp [bytesOf_length, putN_length]; omega
    have n2 : ([r.kind % 256] ++ putN 8 r.floor ++ (putN 2 r.key.size ++ bytesOf r.key) ++ [r.pk % 256]).length ≤ 1000 := by rw [List.length_append]; simp only [List.length_cons, List.length_nil]; omega
    rw [if_pos (show ([r.kind % 256] ++ putN 8 r.floor ++ (putN 2 r.key.size ++ bytesOf r.key)).length < 140737488355328 by omega)]
    simp only [Option.bind_some]
    by_cases k1 : r.kind = 1
    · rw [if_pos k1]
      by_cases p2 : r.pk = 2
      · rw [if_pos p2, l0_two (k + 2) _ hu.lim hu.span n2]
        unfold enc tail
        rw [if_pos k1, if_pos p2]
        simp
      · rw [if_neg p2, l0_two (k + 2) _ hu.gap hu.slack n2]
        unfold enc tail
        rw [if_pos k1, if_neg p2]
        simp
    · rw [if_neg k1]
      by_cases k3 : r.kind = 3
      · rw [if_pos k3, l0_three (k + 1) _ hu.tat hu.ix hu.cnt (by omega)]
        unfold enc tail
        rw [if_neg k1, if_pos k3]
        simp
      · rw [if_neg k3, l0_nil (k + 4)]
        unfold enc tail
        rw [if_neg k1, if_neg k3]
        simp
  · rw [if_neg (by simpa using h), if_neg h]
/-! ### Decode -/
theorem U8_ok (b : Int) (xs : List Int) : pack_Reader_U8.f (b :: xs) 0 = some (b, xs, 0) := by
  unfold pack_Reader_U8.f pk_take
  simp [le]
theorem U8_bad (xs : List Int) {e : Int} (h : 0 ≤ e) (h0 : e ≠ 0) : pack_Reader_U8.f xs e = some (0, xs, e) := by
  unfold pack_Reader_U8.f pk_take
  simp [le, h, h0]
theorem U8_nil : pack_Reader_U8.f [] 0 = some (0, [], 2) := by
  unfold pack_Reader_U8.f pk_take
  simp [le]
theorem U64_ok (t xs : List Int) (n : t.length = 8) : pack_Reader_U64.f (t ++ xs) 0 = some (le t, xs, 0) := by
  unfold pack_Reader_U64.f pk_take
  rw [if_pos (Int.le_refl 0), if_pos rfl, if_neg (by simp [putN_length]; omega)]
  simp only
  rw [List.take_left' n, List.drop_left' n]
theorem U64_bad (xs : List Int) {e : Int} (h : 0 ≤ e) (h0 : e ≠ 0) : pack_Reader_U64.f xs e = some (0, xs, e) := by
  unfold pack_Reader_U64.f pk_take
  simp [le, h, h0]
theorem U64_short (xs : List Int) (n : xs.length < 8) : pack_Reader_U64.f xs 0 = some (0, xs, 2) := by
  unfold pack_Reader_U64.f pk_take
  simp [le, n]
theorem split_at (xs : List Int) (n : Nat) : xs.length < n ∨ ∃ t r, xs = t ++ r ∧ t.length = n := by
  by_cases h : xs.length < n
  · exact Or.inl h
  · exact Or.inr ⟨xs.take n, xs.drop n, (List.take_append_drop n xs).symm, by rw [List.length_take]; omega⟩
theorem Text_ok (t u xs : List Int) (n : t.length = 2) (m : (u.length : Int) = le t) : pack_Reader_Text.f (t ++ (u ++ xs)) 0 = some (strOfNums u, xs, 0) := by
  unfold pack_Reader_Text.f pk_text
  have e : pk_take (t ++ (u ++ xs)) 0 2 = (t, true, u ++ xs, 0) := by
    unfold pk_take
    rw [if_pos rfl, if_neg (by simp [putN_length]; omega), List.take_left' n, List.drop_left' n]
  have e2 : pk_take (u ++ xs) 0 (le t).toNat = (u, true, xs, 0) := by
    unfold pk_take
    rw [if_pos rfl, if_neg (by simp [putN_length]; omega), List.take_left' (by omega), List.drop_left' (by omega)]
  rw [if_pos (Int.le_refl 0), e]
  simp only [e2, if_true]
theorem Text_bad (xs : List Int) {e : Int} (h : 0 ≤ e) (h0 : e ≠ 0) : pack_Reader_Text.f xs e = some (strOfNums [], xs, e) := by
  unfold pack_Reader_Text.f pk_text pk_take
  simp [h, h0]
theorem Text_short (xs : List Int) (n : xs.length < 2) : ∃ ys, pack_Reader_Text.f xs 0 = some (strOfNums [], ys, 2) := by
  unfold pack_Reader_Text.f pk_text pk_take
  simp [n]
theorem Text_short2 (t u : List Int) (n : t.length = 2) (m : (u.length : Int) < le t) : ∃ ys, pack_Reader_Text.f (t ++ u) 0 = some (strOfNums [], ys, 2) := by
  have e : pk_take (t ++ u) 0 2 = (t, true, u, 0) := by
    unfold pk_take
    rw [if_pos rfl, if_neg (by simp [putN_length]; omega), List.take_left' n, List.drop_left' n]
  have e2 : pk_take u 0 (le t).toNat = ([], false, u, 2) := by
    unfold pk_take
    rw [if_pos rfl, if_pos (by omega)]
  unfold pack_Reader_Text.f pk_text
  rw [if_pos (Int.le_refl 0), e]
  simp only [e2]
  exact ⟨_, rfl⟩
end Go.Proofs.YtkgjepmminmjjaaDoor.M
/- Records from bytes: 'Decode' of a record's bytes, and of what is none. -/
namespace Go.Proofs.YtkgjepmminmjjaaDoor.M
set_option linter.unusedVariables false
set_option linter.unusedSimpArgs false
open Go.RowKit Go.Proofs.YtkgjepmminmjjaaDoor.E Go.Proofs.YtkgjepmminmjjaaDoorW.PrintWords Go.Proofs.YtkgjepmminmjjaaDoorW.PrintLast Go.Proofs.YtkgjepmminmjjaaDoorW.PrintMore Go.Proofs.YtkgjepmminmjjaaDoorW.PrintShort
theorem wb {b : Int} (h0 : 0 ≤ b) (h1 : b < 256) : wrap64 b = b := by unfold wrap64; omega
theorem Err_eq (xs : List Int) (e : Int) : pack_Reader_Err.f xs e = some (e, xs, e) := rfl
theorem Left_eq (xs : List Int) (e : Int) : pack_Reader_Left.f xs e = some ((xs.length : Int), xs, e) := rfl
/-- What bytes can carry. -/
structure Raw (r : Rec) : Prop where
  kind : r.kind = 1 ∨ r.kind = 2 ∨ r.kind = 3
  floor : U r.floor
  key : r.key.size < 65536
  pol : r.kind = 1 → 0 ≤ r.pk ∧ r.pk < 256 ∧ (r.pk = 2 → r.gap = 0 ∧ r.slack = 0 ∧ U r.lim ∧ U r.span) ∧ (r.pk ≠ 2 → r.lim = 0 ∧ r.span = 0 ∧ U r.gap ∧ U r.slack)
  nopol : r.kind ≠ 1 → r.pk = 0 ∧ r.gap = 0 ∧ r.slack = 0 ∧ r.lim = 0 ∧ r.span = 0
  lev : r.kind = 3 → U r.tat ∧ U r.ix ∧ U r.cnt
  nolev : r.kind ≠ 3 → r.tat = 0 ∧ r.ix = 0 ∧ r.cnt = 0
theorem Raw_of {r : Rec} (hu : r.Un) (h : RV r) : Raw r := by
  obtain ⟨h1, h2, h3⟩ := h
  exact ⟨by omega, hu.floor, by omega, fun k => by
    refine ⟨by omega, by omega, fun p => ⟨by omega, by omega, hu.lim, hu.span⟩, fun p => ⟨by omega, by omega, hu.gap, hu.slack⟩⟩, fun k => by omega, fun k => ⟨hu.tat, hu.ix, hu.cnt⟩, fun k => by omega⟩
theorem Raw_un {r : Rec} (h : Raw r) : r.Un := by
  have u0 : U 0 := ⟨by decide, by decide⟩
  have zl : ∀ {x : Int}, x = 0 → U x := fun e => e ▸ u0
  by_cases k1 : r.kind = 1
  · obtain ⟨a, b, c, d⟩ := h.pol k1
    obtain ⟨t, i, n⟩ := h.nolev (by omega)
    by_cases p : r.pk = 2
    · obtain ⟨c1, c2, c3, c4⟩ := c p
      exact ⟨h.floor, zl c1, zl c2, c3, c4, zl t, zl i, zl n⟩
    · obtain ⟨c1, c2, c3, c4⟩ := d p
      exact ⟨h.floor, c3, c4, zl c1, zl c2, zl t, zl i, zl n⟩
  · obtain ⟨p1, p2, p3, p4, p5⟩ := h.nopol k1
    by_cases k3 : r.kind = 3
    · obtain ⟨t, i, n⟩ := h.lev k3
      exact ⟨h.floor, zl p2, zl p3, zl p4, zl p5, t, i, n⟩
    · obtain ⟨t, i, n⟩ := h.nolev k3
      exact ⟨h.floor, zl p2, zl p3, zl p4, zl p5, zl t, zl i, zl n⟩
/-- What 'Decode' answers where the bytes have the form. -/
def decOut (r : Rec) (rest : List Int) : Int × Int × ByteArray × Int × Int × Int × Int × Int × Int × Int × Int × Int := if rest.length > 0 ∨ ¬ RV r then Rec.zero.out 3 else r.out 0
theorem j1_ok (r : Rec) (rest : List Int) (k : Nat) : record_Decode.j1 (k + 2) rest 0 r.kind r.floor r.key r.pk r.gap r.slack r.lim r.span r.tat r.ix r.cnt = some (decOut r rest) := by
  have hv := RValid r k
  unfold vrec at hv
  unfold decOut
  rw [record_Decode.j1, Err_eq, Option.bind_some, if_pos (by simp), if_pos rfl, Left_eq, Option.bind_some]
  by_cases h : rest.length > 0
  · rw [if_pos (by simpa using h), if_pos (Or.inl h)]; rfl
  · rw [if_neg (by simpa using h), hv, Option.bind_some]
    by_cases v : RV r
    · rw [if_pos (decide_eq_true v), if_neg (fun q => q.elim h (fun n => n v))]; rfl
    · rw [if_neg (by simpa using v), if_pos (Or.inr v)]; rfl
theorem j1_bad (rest : List Int) (k : Nat) (a0 a1 : Int) (a2 : ByteArray) (a3 a4 a5 a6 a7 a8 a9 a10 : Int) : record_Decode.j1 (k + 1) rest 2 a0 a1 a2 a3 a4 a5 a6 a7 a8 a9 a10 = some (Rec.zero.out 2) := by
  rw [record_Decode.j1, Err_eq, Option.bind_some, if_pos (by simp), if_neg (by simp)]
  rfl
def dec (k : Nat) (xs : List Int) := record_Decode.f k xs
theorem all_By {l : List Int} (h : By l) : l.all (fun x => decide (0 ≤ x) && decide (x < 256)) = true := by
  rw [List.all_eq_true]
  intro x hx
  have := h x hx
  simp; omega
/-- The first byte is a kind: what 'Decode' does then. -/
theorem dec_kind {b : Int} {xs : List Int} (h : By (b :: xs)) (hl : (b :: xs).length ≤ 140737488355328) (hb : b = 1 ∨ b = 2 ∨ b = 3) (k : Nat) :
    dec k (b :: xs) = record_Decode.j0 k false xs 0 b 0 (⟨#[]⟩ : ByteArray) 0 0 0 0 0 0 0 0 := by
  unfold dec record_Decode.f pack_NewReader.f
  rw [if_pos hl, if_pos (all_By h), Option.bind_some, U8_ok, Option.bind_some, Err_eq, Option.bind_some, wb (by omega) (by omega)]
  simp only [Int.le_refl, if_true]
  rw [if_neg (by omega)]
  congr 1
  simp; omega
theorem dec_odd {b : Int} {xs : List Int} (h : By (b :: xs)) (hl : (b :: xs).length ≤ 140737488355328) (hb : ¬ (b = 1 ∨ b = 2 ∨ b = 3)) (k : Nat) : dec (k + 1) (b :: xs) = some (Rec.zero.out 3) := by
  have hx := h b (List.mem_cons_self ..)
  unfold dec record_Decode.f pack_NewReader.f
  rw [if_pos hl, if_pos (all_By h), Option.bind_some, U8_ok, Option.bind_some, Err_eq, Option.bind_some, wb (by omega) (by omega)]
  simp only [Int.le_refl, if_true]
  by_cases h1 : b < 1
  · rw [if_pos h1]
    simp only [record_Decode.j0, if_true]
    rfl
  · rw [if_neg h1]
    simp only [record_Decode.j0]
    rw [if_pos (by simp; omega)]
    rfl
theorem dec_nil (k : Nat) : dec k [] = some (Rec.zero.out 2) := by
  unfold dec record_Decode.f pack_NewReader.f
  rw [if_pos (by simp), if_pos (by simp), Option.bind_some, U8_nil, Option.bind_some, Err_eq, Option.bind_some]
  simp only
  rw [if_pos (by simp), if_neg (by simp)]
  rfl
theorem pow8 {x : Int} (h : U x) : x < 256 ^ 8 := by have := h.2; omega
theorem By_tail (r : Rec) : By (tail r) := by
  unfold tail
  split
  · intro x hx
    rcases List.mem_cons.1 hx with rfl | hx
    · omega
    · split at hx
      · exact (By_putN _ _).append (By_putN _ _) x hx
      · exact (By_putN _ _).append (By_putN _ _) x hx
  · split
    · exact (By_putN _ _).append ((By_putN _ _).append (By_putN _ _))
    · exact By.nil
theorem By_enc (r : Rec) : By (enc r) := by
  intro x hx
  unfold enc at hx
  rcases List.mem_cons.1 hx with rfl | hx
  · omega
  · exact ((By_putN _ _).append ((By_putN _ _).append ((By_bytesOf _).append (By_tail r)))) x hx
/-- The head of a record's bytes is read. -/
theorem head_ok {r : Rec} (h : Raw r) (rest : List Int) (k : Nat) :
    pack_Reader_U64.f (putN 8 r.floor ++ (putN 2 r.key.size ++ (bytesOf r.key ++ rest))) 0 = some (r.floor, putN 2 r.key.size ++ (bytesOf r.key ++ rest), 0) ∧
    pack_Reader_Text.f (putN 2 r.key.size ++ (bytesOf r.key ++ rest)) 0 = some (r.key, rest, 0) := by
  refine ⟨?_, ?_⟩
  · rw [U64_ok _ _ (putN_length 8 _), le_putN 8 _ h.floor.1 (pow8 h.floor)]
  · have hk := h.key
    rw [Text_ok _ _ _ (putN_length 2 _) (by rw [bytesOf_length, le_putN 2 _ (by omega) (by omega)]), str_bytes]
theorem U64_put {x : Int} (h : U x) (rest : List Int) : pack_Reader_U64.f (putN 8 x ++ rest) 0 = some (x, rest, 0) := by
  rw [U64_ok _ _ (putN_length 8 _), le_putN 8 _ h.1 (pow8 h)]
theorem Rec.ext' {r : Rec} {a0 a1 : Int} {a2 : ByteArray} {a3 a4 a5 a6 a7 a8 a9 a10 : Int} (h0 : r.kind = a0) (h1 : r.floor = a1) (h2 : r.key = a2) (h3 : r.pk = a3) (h4 : r.gap = a4) (h5 : r.slack = a5) (h6 : r.lim = a6) (h7 : r.span = a7) (h8 : r.tat = a8) (h9 : r.ix = a9) (h10 : r.cnt = a10) (rest : List Int) (k : Nat) :
    record_Decode.j1 (k + 2) rest 0 a0 a1 a2 a3 a4 a5 a6 a7 a8 a9 a10 = some (decOut r rest) := by
  subst h0 h1 h2 h3 h4 h5 h6 h7 h8 h9 h10
  exact j1_ok r rest k
/-- 'Decode' of a record's bytes, and more behind them. -/
theorem Dec_enc {r : Rec} (h : Raw r) (rest : List Int) (hr : By rest) (hl : (enc r ++ rest).length ≤ 140737488355328) (k : Nat) : dec (k + 3) (enc r ++ rest) = some (decOut r rest) := by
  have hk : r.kind % 256 = r.kind := by have := h.kind; omega
  have hB : By (enc r ++ rest) := (By_enc r).append hr
  unfold enc at hl hB ⊢
  rw [hk] at hl hB ⊢
  simp only [List.cons_append, List.append_assoc] at hl hB ⊢
  rw [dec_kind hB hl h.kind, record_Decode.j0, if_neg (by simp)]
  obtain ⟨e1, e2⟩ := head_ok h (tail r ++ rest) k
  rw [e1, Option.bind_some, e2, Option.bind_some]
  simp only
  unfold tail
  by_cases k1 : r.kind = 1
  · simp only [if_pos k1]
    obtain ⟨p0, p1, p2, p3⟩ := h.pol k1
    obtain ⟨t, i, n⟩ := h.nolev (by omega)
    have pm : r.pk % 256 = r.pk := by omega
    rw [pm, List.cons_append, U8_ok, Option.bind_some]
    simp only [wb p0 p1]
    by_cases p : r.pk = 2
    · obtain ⟨c1, c2, c3, c4⟩ := p2 p
      simp only [if_pos p, List.append_assoc]
      rw [U64_put c3, Option.bind_some]
      simp only
      rw [U64_put c4, Option.bind_some]
      exact Rec.ext' rfl rfl rfl rfl c1 c2 rfl rfl t i n rest k
    · obtain ⟨c1, c2, c3, c4⟩ := p3 p
      simp only [if_neg p, List.append_assoc]
      rw [U64_put c3, Option.bind_some]
      simp only
      rw [U64_put c4, Option.bind_some]
      exact Rec.ext' rfl rfl rfl rfl rfl rfl c1 c2 t i n rest k
  · simp only [if_neg k1]
    obtain ⟨p1, p2, p3, p4, p5⟩ := h.nopol k1
    by_cases k3 : r.kind = 3
    · simp only [if_pos k3, List.append_assoc]
      obtain ⟨t, i, n⟩ := h.lev k3
      rw [U64_put t, Option.bind_some]
      simp only
      rw [U64_put i, Option.bind_some]
      simp only
      rw [U64_put n, Option.bind_some]
      exact Rec.ext' rfl rfl rfl p1 p2 p3 p4 p5 rfl rfl rfl rest k
    · simp only [if_neg k3, List.nil_append]
      obtain ⟨t, i, n⟩ := h.nolev k3
      exact Rec.ext' rfl rfl rfl p1 p2 p3 p4 p5 t i n rest k
/-- A number, or too few bytes for one. -/
theorem U64_cases (xs : List Int) (h : By xs) : pack_Reader_U64.f xs 0 = some (0, xs, 2) ∨ ∃ x ys, U x ∧ By ys ∧ xs = putN 8 x ++ ys ∧ pack_Reader_U64.f xs 0 = some (x, ys, 0) := by
  rcases split_at xs 8 with hs | ⟨t, ys, rfl, n⟩
  · exact Or.inl (U64_short xs hs)
  · refine Or.inr ⟨le t, ys, le_U h.left n, h.right, ?_, U64_ok t ys n⟩
    have := putN_le t h.left
    rw [n] at this
    rw [this]
theorem Text_cases (xs : List Int) (h : By xs) : (∃ s ys, pack_Reader_Text.f xs 0 = some (s, ys, 2)) ∨ ∃ s ys, s.size < 65536 ∧ By ys ∧ xs = putN 2 s.size ++ (bytesOf s ++ ys) ∧ pack_Reader_Text.f xs 0 = some (s, ys, 0) := by
  rcases split_at xs 2 with hs | ⟨t, ys, rfl, n⟩
  · obtain ⟨ys, e⟩ := Text_short xs hs
    exact Or.inl ⟨_, ys, e⟩
  · have hr := le_range t h.left
    rw [n] at hr
    rcases split_at ys (le t).toNat with hs | ⟨u, zs, rfl, m⟩
    · obtain ⟨ws, e⟩ := Text_short2 t ys n (by omega)
      exact Or.inl ⟨_, ws, e⟩
    · have hm : (u.length : Int) = le t := by omega
      refine Or.inr ⟨strOfNums u, zs, by rw [str_size]; omega, h.right.right, ?_, Text_ok t u zs n hm⟩
      have e := putN_le t h.left
      rw [n] at e
      rw [str_size, hm, e, bytes_str u h.right.left]
theorem sticky64 (xs : List Int) : pack_Reader_U64.f xs 2 = some (0, xs, 2) := U64_bad xs (by decide) (by decide)
theorem sticky8 (xs : List Int) : pack_Reader_U8.f xs 2 = some (0, xs, 2) := U8_bad xs (by decide) (by decide)
theorem stickyT (xs : List Int) : pack_Reader_Text.f xs 2 = some (strOfNums [], xs, 2) := Text_bad xs (by decide) (by decide)
/-- Bytes are too few, begin with no kind, or are a record's bytes and more. -/
theorem Dec_form (xs : List Int) (h : By xs) (hl : xs.length ≤ 140737488355328) (k : Nat) :
    dec (k + 3) xs = some (Rec.zero.out 2) ∨ (∃ b ys, xs = b :: ys ∧ ¬ (b = 1 ∨ b = 2 ∨ b = 3) ∧ dec (k + 3) xs = some (Rec.zero.out 3)) ∨ ∃ r rest, Raw r ∧ By rest ∧ xs = enc r ++ rest := by
  cases xs with
  | nil => exact Or.inl (dec_nil _)
  | cons b ys =>
  by_cases hb : ¬ (b = 1 ∨ b = 2 ∨ b = 3)
  · exact Or.inr (Or.inl ⟨b, ys, rfl, hb, dec_odd h hl hb _⟩)
  · have hb : b = 1 ∨ b = 2 ∨ b = 3 := Classical.not_not.1 hb
    have hy : By ys := fun x hx => h x (List.mem_cons_of_mem _ hx)
    have bm : b % 256 = b := by omega
    have u0 : U 0 := ⟨by decide, by decide⟩
    have D := dec_kind h hl hb (k + 3)
    rw [record_Decode.j0, if_neg (by simp)] at D
    have late : ∀ {zs : List Int} {a1 : Int} {a2 : ByteArray}, ((if b = 1 then ((pack_Reader_U8.f zs 2).bind fun bt272 => ((pack_Reader_U64.f bt272.2.1 bt272.2.2).bind fun bt275 => ((pack_Reader_U64.f bt275.2.1 bt275.2.2).bind fun bt278 => (if (wrap64 (bt272.1)) = 2 then (record_Decode.j1 (k + 2) bt278.2.1 bt278.2.2 b a1 a2 (wrap64 (bt272.1)) 0 0 bt275.1 bt278.1 0 0 0) else (record_Decode.j1 (k + 2) bt278.2.1 bt278.2.2 b a1 a2 (wrap64 (bt272.1)) bt275.1 bt278.1 0 0 0 0 0))))) else (if b = 3 then ((pack_Reader_U64.f zs 2).bind fun bt281 => ((pack_Reader_U64.f bt281.2.1 bt281.2.2).bind fun bt284 => ((pack_Reader_U64.f bt284.2.1 bt284.2.2).bind fun bt287 => (record_Decode.j1 (k + 2) bt287.2.1 bt287.2.2 b a1 a2 0 0 0 0 0 bt281.1 bt284.1 bt287.1)))) else (record_Decode.j1 (k + 2) zs 2 b a1 a2 0 0 0 0 0 0 0 0))) : Option _) = some (Rec.zero.out 2) := by
      intro zs a1 a2
      simp only [sticky8, sticky64, Option.bind_some, j1_bad, ite_self]
    rcases U64_cases ys hy with e | ⟨fl, y1, ufl, by1, rfl, e⟩
    · rw [e, Option.bind_some] at D
      simp only at D
      rw [stickyT, Option.bind_some] at D
      exact Or.inl (D.trans late)
    rw [e, Option.bind_some] at D
    simp only at D
    rcases Text_cases y1 by1 with ⟨s, zs, e⟩ | ⟨s, y2, hs, by2, rfl, e⟩
    · rw [e, Option.bind_some] at D
      exact Or.inl (D.trans late)
    rw [e, Option.bind_some] at D
    simp only at D
    by_cases k1 : b = 1
    · rw [if_pos k1] at D
      cases y2 with
      | nil =>
        rw [U8_nil, Option.bind_some] at D
        simp only [sticky64, Option.bind_some, j1_bad, ite_self] at D
        exact Or.inl D
      | cons p y3 =>
        have hp := by2 p (List.mem_cons_self ..)
        have by3 : By y3 := fun x hx => by2 x (List.mem_cons_of_mem _ hx)
        rw [U8_ok, Option.bind_some] at D
        simp only [wb hp.1 hp.2] at D
        rcases U64_cases y3 by3 with e | ⟨a, y4, ua, by4, rfl, e⟩
        · rw [e, Option.bind_some] at D
          simp only [sticky64, Option.bind_some, j1_bad, ite_self] at D
          exact Or.inl D
        rw [e, Option.bind_some] at D
        simp only at D
        rcases U64_cases y4 by4 with e | ⟨c, y5, uc, by5, rfl, e⟩
        · rw [e, Option.bind_some] at D
          simp only [j1_bad, ite_self] at D
          exact Or.inl D
        by_cases p2 : p = 2
        · refine Or.inr (Or.inr ⟨⟨1, fl, s, p, 0, 0, a, c, 0, 0, 0⟩, y5, ⟨Or.inl rfl, ufl, hs, fun _ => ⟨hp.1, hp.2, fun _ => ⟨rfl, rfl, ua, uc⟩, fun q => absurd p2 q⟩, fun q => absurd rfl q, fun q => absurd (show (1 : Int) = 3 from q) (by decide), fun _ => ⟨rfl, rfl, rfl⟩⟩, by5, ?_⟩)
          unfold enc tail
          have pm : p % 256 = p := by omega
          simp only [if_true, if_pos p2, pm, List.cons_append, List.append_assoc]
          rw [k1]
          rfl
        · refine Or.inr (Or.inr ⟨⟨1, fl, s, p, a, c, 0, 0, 0, 0, 0⟩, y5, ⟨Or.inl rfl, ufl, hs, fun _ => ⟨hp.1, hp.2, fun q => absurd q p2, fun _ => ⟨rfl, rfl, ua, uc⟩⟩, fun q => absurd rfl q, fun q => absurd (show (1 : Int) = 3 from q) (by decide), fun _ => ⟨rfl, rfl, rfl⟩⟩, by5, ?_⟩)
          unfold enc tail
          have pm : p % 256 = p := by omega
          simp only [if_true, if_neg p2, pm, List.cons_append, List.append_assoc]
          rw [k1]
          rfl
    · rw [if_neg k1] at D
      by_cases k3 : b = 3
      · rw [if_pos k3] at D
        rcases U64_cases y2 by2 with e | ⟨t, y3, ut, by3, rfl, e⟩
        · rw [e, Option.bind_some] at D
          simp only [sticky64, Option.bind_some, j1_bad, ite_self] at D
          exact Or.inl D
        rw [e, Option.bind_some] at D
        simp only at D
        rcases U64_cases y3 by3 with e | ⟨i, y4, ui, by4, rfl, e⟩
        · rw [e, Option.bind_some] at D
          simp only [sticky64, Option.bind_some, j1_bad, ite_self] at D
          exact Or.inl D
        rw [e, Option.bind_some] at D
        simp only at D
        rcases U64_cases y4 by4 with e | ⟨n, y5, un, by5, rfl, e⟩
        · rw [e, Option.bind_some] at D
          simp only [j1_bad] at D
          exact Or.inl D
        refine Or.inr (Or.inr ⟨⟨3, fl, s, 0, 0, 0, 0, 0, t, i, n⟩, y5, ⟨Or.inr (Or.inr rfl), ufl, hs, fun q => absurd (show (3 : Int) = 1 from q) (by decide), fun _ => ⟨rfl, rfl, rfl, rfl, rfl⟩, fun _ => ⟨ut, ui, un⟩, fun q => absurd rfl q⟩, by5, ?_⟩)
        unfold enc tail
        rw [k3]
        simp
      · have k2 : b = 2 := by omega
        refine Or.inr (Or.inr ⟨⟨2, fl, s, 0, 0, 0, 0, 0, 0, 0, 0⟩, y2, ⟨Or.inr (Or.inl rfl), ufl, hs, fun q => absurd (show (2 : Int) = 1 from q) (by decide), fun _ => ⟨rfl, rfl, rfl, rfl, rfl⟩, fun q => absurd (show (2 : Int) = 3 from q) (by decide), fun _ => ⟨rfl, rfl, rfl⟩⟩, by2, ?_⟩)
        unfold enc tail
        rw [k2]
        simp
/-! ### What the laws ask besides -/
theorem same_go (l : List Int) (hl : l.length ≤ 9223372036854775807) : ∀ (m k i : Nat), l.length - i ≤ m → m < k → i ≤ l.length → turnstilelaw11_same.l0 k l l (i : Int) = some true
  | _, 0, _, _, h, _ => absurd h (by omega)
  | m, k + 1, i, h1, h2, h3 => by
    rw [turnstilelaw11_same.l0]
    by_cases h : (i : Int) < (l.length : Int)
    · rw [if_pos h, if_pos (by omega), if_pos h, if_pos rfl, show wrap64 ((i : Int) + 1) = ((i + 1 : Nat) : Int) by unfold wrap64; omega]
      exact same_go l hl (m - 1) k (i + 1) (by omega) (by omega) (by omega)
    · rw [if_neg h]
theorem same_self (l : List Int) (hl : l.length ≤ 9223372036854775807) (k : Nat) (hk : l.length < k) : turnstilelaw11_same.f k l l = some true := by
  unfold turnstilelaw11_same.f
  rw [if_pos rfl]
  exact same_go l hl l.length k 0 (by omega) hk (by omega)
theorem awake14 : turnstilelaw11_awake.f 14 = some true := by decide +kernel
theorem awake_at (k : Nat) : turnstilelaw11_awake.f (k + 14) = some true := by
  induction k with
  | zero => exact awake14
  | succ k ih => rw [show k + 1 + 14 = k + 14 + 1 by omega]; exact turnstilelaw11_awake.mono (k + 14) true ih
theorem enc_len {r : Rec} (h : RV r) : 12 ≤ (enc r).length ∧ (enc r).length ≤ 99 := by
  obtain ⟨h1, h2, h3⟩ := h
  have ht : (tail r).length ≤ 24 := by
    unfold tail
    split
    · split <;> simp [putN_length]
    · split <;> simp [putN_length]
  unfold enc
  simp only [List.length_cons, List.length_append, putN_length, bytesOf_length]
  omega
end Go.Proofs.YtkgjepmminmjjaaDoor.M
