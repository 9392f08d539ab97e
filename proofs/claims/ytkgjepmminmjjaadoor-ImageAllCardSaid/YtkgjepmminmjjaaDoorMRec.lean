/- Numbers and texts in bytes, and back: what package pack computes, plainly. -/
import Derived.Test.YtkgjepmminmjjaaDoorMBase
import Derived.Test.YtkgjepmminmjjaaDoorEx16
import Derived.Test.YtkgjepmminmjjaaDoorEx20
namespace Go.Proofs.YtkgjepmminmjjaaDoor.M
set_option linter.unusedVariables false
set_option linter.unusedSimpArgs false
open Go.RowKit Go.Proofs.YtkgjepmminmjjaaDoor.E Go.Proofs.YtkgjepmminmjjaaDoorW.PrintWords Go.Proofs.YtkgjepmminmjjaaDoorW.PrintLast Go.Proofs.YtkgjepmminmjjaaDoorW.PrintMore Go.Proofs.YtkgjepmminmjjaaDoorW.PrintShort
def By (l : List Int) : Prop := ∀ x ∈ l, 0 ≤ x ∧ x < 256
theorem By.append {a b : List Int} (ha : By a) (hb : By b) : By (a ++ b) := fun x hx => (List.mem_append.1 hx).elim (ha x) (hb x)
theorem By.left {a b : List Int} (h : By (a ++ b)) : By a := fun x hx => h x (List.mem_append.2 (Or.inl hx))
theorem By.right {a b : List Int} (h : By (a ++ b)) : By b := fun x hx => h x (List.mem_append.2 (Or.inr hx))
theorem By.nil : By [] := fun x hx => by cases hx
theorem By_putN : ∀ (n : Nat) (x : Int), By (putN n x)
  | 0, _ => By.nil
  | n + 1, x => fun y hy => by
    rcases List.mem_cons.1 hy with rfl | h
    · omega
    · exact By_putN n _ y h
theorem By_bytesOf (s : ByteArray) : By (bytesOf s) := fun x hx => by
  obtain ⟨b, _, rfl⟩ := List.mem_map.1 hx
  have := b.toNat_lt
  omega
theorem le_putN : ∀ (n : Nat) (x : Int), 0 ≤ x → x < 256 ^ n → le (putN n x) = x
  | 0, x, h0, h1 => by simp at h1; simp [putN, le]; omega
  | n + 1, x, h0, h1 => by
    simp only [putN, le]
    rw [le_putN n (x / 256) (by omega) (by rw [Int.pow_succ] at h1; omega)]
    omega
theorem putN_le : ∀ (t : List Int), By t → putN t.length (le t) = t
  | [], _ => rfl
  | b :: t, h => by
    have hb := h b (List.mem_cons_self ..)
    simp only [List.length_cons, putN, le]
    have e1 : (b + 256 * le t) % 256 = b := by omega
    have e2 : (b + 256 * le t) / 256 = le t := by omega
    rw [e1, e2, putN_le t (fun x hx => h x (List.mem_cons_of_mem _ hx))]
theorem le_U {t : List Int} (h : By t) (n : t.length = 8) : U (le t) := by
  have := le_range t h
  rw [n] at this
  exact ⟨this.1, by have := this.2; omega⟩
theorem str_bytes (s : ByteArray) : strOfNums (bytesOf s) = s := by
  cases s with
  | mk a =>
    unfold strOfNums bytesOf
    congr 1
    rw [List.map_map]
    have : (fun (n : Int) => UInt8.ofNat n.toNat) ∘ (fun (b : UInt8) => (b.toNat : Int)) = id := by
      funext b
      simp
    rw [this, List.map_id]
theorem bytes_str (t : List Int) (h : By t) : bytesOf (strOfNums t) = t := by
  unfold strOfNums bytesOf
  simp only [List.map_map]
  induction t with
  | nil => rfl
  | cons b t ih =>
    have hb := h b (List.mem_cons_self ..)
    simp only [List.map_cons, Function.comp]
    rw [show List.map ((fun (b : UInt8) => (b.toNat : Int)) ∘ fun (n : Int) => UInt8.ofNat n.toNat) t = t from ih (fun x hx => h x (List.mem_cons_of_mem _ hx))]
    congr 1
    rw [UInt8.toNat_ofNat']
    omega
theorem str_size (t : List Int) : (strOfNums t).size = t.length := strOfNums_size t
/-! ### Encode -/
theorem PU64 {l : List Int} {a : Int} (h : U a) (hl : l.length ≤ 5000) : pack_PutU64.f l a = some (l ++ putN 8 a) := by
  unfold pack_PutU64.f pack_put.f
  rw [if_pos h.1, if_pos (by omega), if_pos (by omega)]
  rfl
theorem PText {l : List Int} {s : ByteArray} (h : s.size ≤ 64) (hl : l.length ≤ 1000) : pack_PutText.f l s = some (l ++ (putN 2 s.size ++ bytesOf s), 0) := by
  unfold pack_PutText.f pack_put.f
  have e : IntKind.u64.wrap (s.size : Int) = s.size := wr_id ⟨by omega, by omega⟩
  rw [if_neg (by omega), e, if_pos (by omega), if_pos (by omega), if_pos (by omega), Option.bind_some, if_pos (by simp [putN_length]; omega)]
  simp
theorem U64_ok (t xs : List Int) (n : t.length = 8) : pack_Reader_U64.f (t ++ xs) 0 = some (le t, xs, 0) := by
  unfold pack_Reader_U64.f pk_take
  rw [if_pos (Int.le_refl 0), if_pos rfl, if_neg (by simp [putN_length]; omega)]
  simp only
  rw [List.take_left' n, List.drop_left' n]
theorem U64_bad (xs : List Int) {e : Int} (h : 0 ≤ e) (h0 : e ≠ 0) : pack_Reader_U64.f xs e = some (0, xs, e) := by
  unfold pack_Reader_U64.f pk_take
  simp [le, h, h0]
theorem U64_short (xs : List Int) (n : xs.length < 8) : pack_Reader_U64.f xs 0 = some (0, xs, 2) := by
  unfold pack_Reader_U64.f pk_take
  simp [le, n]
theorem split_at (xs : List Int) (n : Nat) : xs.length < n ∨ ∃ t r, xs = t ++ r ∧ t.length = n := by
  by_cases h : xs.length < n
  · exact Or.inl h
  · exact Or.inr ⟨xs.take n, xs.drop n, (List.take_append_drop n xs).symm, by rw [List.length_take]; omega⟩
theorem Text_ok (t u xs : List Int) (n : t.length = 2) (m : (u.length : Int) = le t) : pack_Reader_Text.f (t ++ (u ++ xs)) 0 = some (strOfNums u, xs, 0) := by
  unfold pack_Reader_Text.f pk_text
  have e : pk_take (t ++ (u ++ xs)) 0 2 = (t, true, u ++ xs, 0) := by
    unfold pk_take
    rw [if_pos rfl, if_neg (by simp [putN_length]; omega), List.take_left' n, List.drop_left' n]
  have e2 : pk_take (u ++ xs) 0 (le t).toNat = (u, true, xs, 0) := by
    unfold pk_take
    rw [if_pos rfl, if_neg (by simp [putN_length]; omega), List.take_left' (by omega), List.drop_left' (by omega)]
  rw [if_pos (Int.le_refl 0), e]
  simp only [e2, if_true]
theorem Text_short (xs : List Int) (n : xs.length < 2) : ∃ ys, pack_Reader_Text.f xs 0 = some (strOfNums [], ys, 2) := by
  unfold pack_Reader_Text.f pk_text pk_take
  simp [n]
theorem Text_short2 (t u : List Int) (n : t.length = 2) (m : (u.length : Int) < le t) : ∃ ys, pack_Reader_Text.f (t ++ u) 0 = some (strOfNums [], ys, 2) := by
  have e : pk_take (t ++ u) 0 2 = (t, true, u, 0) := by
    unfold pk_take
    rw [if_pos rfl, if_neg (by simp [putN_length]; omega), List.take_left' n, List.drop_left' n]
  have e2 : pk_take u 0 (le t).toNat = ([], false, u, 2) := by
    unfold pk_take
    rw [if_pos rfl, if_pos (by omega)]
  unfold pack_Reader_Text.f pk_text
  rw [if_pos (Int.le_refl 0), e]
  simp only [e2]
  exact ⟨_, rfl⟩
theorem all_By {l : List Int} (h : By l) : l.all (fun x => decide (0 ≤ x) && decide (x < 256)) = true := by
  rw [List.all_eq_true]
  intro x hx
  have := h x hx
  simp; omega
theorem pow8 {x : Int} (h : U x) : x < 256 ^ 8 := by have := h.2; omega
theorem U64_put {x : Int} (h : U x) (rest : List Int) : pack_Reader_U64.f (putN 8 x ++ rest) 0 = some (x, rest, 0) := by
  rw [U64_ok _ _ (putN_length 8 _), le_putN 8 _ h.1 (pow8 h)]
theorem U64_cases (xs : List Int) (h : By xs) : pack_Reader_U64.f xs 0 = some (0, xs, 2) ∨ ∃ x ys, U x ∧ By ys ∧ xs = putN 8 x ++ ys ∧ pack_Reader_U64.f xs 0 = some (x, ys, 0) := by
  rcases split_at xs 8 with hs | ⟨t, ys, rfl, n⟩
  · exact Or.inl (U64_short xs hs)
  · refine Or.inr ⟨le t, ys, le_U h.left n, h.right, ?_, U64_ok t ys n⟩
    have := putN_le t h.left
    rw [n] at this
    rw [this]
theorem Text_cases (xs : List Int) (h : By xs) : (∃ s ys, pack_Reader_Text.f xs 0 = some (s, ys, 2)) ∨ ∃ s ys, s.size < 65536 ∧ By ys ∧ xs = putN 2 s.size ++ (bytesOf s ++ ys) ∧ pack_Reader_Text.f xs 0 = some (s, ys, 0) := by
  rcases split_at xs 2 with hs | ⟨t, ys, rfl, n⟩
  · obtain ⟨ys, e⟩ := Text_short xs hs
    exact Or.inl ⟨_, ys, e⟩
  · have hr := le_range t h.left
    rw [n] at hr
    rcases split_at ys (le t).toNat with hs | ⟨u, zs, rfl, m⟩
    · obtain ⟨ws, e⟩ := Text_short2 t ys n (by omega)
      exact Or.inl ⟨_, ws, e⟩
    · have hm : (u.length : Int) = le t := by omega
      refine Or.inr ⟨strOfNums u, zs, by rw [str_size]; omega, h.right.right, ?_, Text_ok t u zs n hm⟩
      have e := putN_le t h.left
      rw [n] at e
      rw [str_size, hm, e, bytes_str u h.right.left]
end Go.Proofs.YtkgjepmminmjjaaDoor.M
