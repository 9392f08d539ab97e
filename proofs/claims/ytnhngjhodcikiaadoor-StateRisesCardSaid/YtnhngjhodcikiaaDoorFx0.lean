/- Written by the session's own program hyb.py: what functions of the program compute; Lean checks it. -/
import Derived.Test.YtnhngjhodcikiaaDoorProg
import Derived.Below
import Derived.Deep.Draws
import Derived.Deep.AppendLies
import Derived.Maps.AppendAt
import Derived.OwnWalk
import Derived.Laws.BytesArg
import Derived.Laws.MakeOwn
import Derived.Laws.OwnMore
import Derived.Deep.OwnRows
import Derived.Tactics
import Derived.Lib.ConvBytes
import Derived.Laws.Slices
import Derived.WalkKit
import Derived.KernelRfl
import Derived.RowKit3
import Derived.Deep.LoopGhost
import Derived.Deep.QuietTactic
import Derived.BigQuiet
import Derived.WideLaws
import Derived.Deep.DeepCutAuto
import Derived.Deep.CutBlock
import Derived.Deep.RegionHeld3
import Derived.Laws.Rows
import Derived.Lib.AppendStr
import Derived.ArgAppend
import Derived.Laws.IdiomCopy
import Derived.OrdersHeld
import Derived.Laws.BitsLemmas
import Derived.RowKit
import Derived.Laws.Externs
import Derived.Test.YtnhngjhodcikiaaDoorWAll
import Derived.Test.YtnhngjhodcikiaaDoorWShort
namespace Go.Proofs.YtnhngjhodcikiaaDoor.F
open Go.RowKit Go.Proofs.YtnhngjhodcikiaaDoorW.PrintWords Go.Proofs.YtnhngjhodcikiaaDoorW.PrintLast Go.Proofs.YtnhngjhodcikiaaDoorW.PrintMore Go.Proofs.YtnhngjhodcikiaaDoorW.PrintShort
attribute [local go_sem] max2_int min2_int max_two min_two max_three min_three max_four min_four   -- for this text's walks alone
set_option linter.unusedVariables false
set_option linter.unusedSimpArgs false




def add64s (x y c : Int) : Int := ((x.toNat + y.toNat + c.toNat) % 18446744073709551616 : Nat)
def add64c (x y c : Int) : Int := ((x.toNat + y.toNat + c.toNat) / 18446744073709551616 : Nat)
def sub64s (x y b : Int) : Int := ((x.toNat + 18446744073709551616 - y.toNat - b.toNat) % 18446744073709551616 : Nat)
def sub64b (x y b : Int) : Int := ((if x.toNat < y.toNat + b.toNat then 1 else 0) : Nat)

def add64E : Array Value → Sem Value := fun args => do
  let (x, y, c) ← Extern.MathBitsCarry.three "Add64" args
  pure (Extern.MathBitsCarry.pair ((x + y + c) % Extern.MathBitsCarry.m64) ((x + y + c) / Extern.MathBitsCarry.m64))
theorem run_add64E {P : Program} (x y c : Int) (hc : c ≤ 1) (w : World) :
    (add64E #[.int .u64 x, .int .u64 y, .int .u64 c]).run P w = .ok (.tuple #[.int .u64 (add64s x y c), .int .u64 (add64c x y c)]) w := by
  have h : ¬ (1 < c.toNat) := by omega
  change Sem.run P (do
    let t ← (do
      if c.toNat > 1 then unsupported (.noEntry ("extern/math/bits." ++ "Add64" ++ ": a carry that is neither 0 nor 1"))
      pure (x.toNat, y.toNat, c.toNat))
    pure (Extern.MathBitsCarry.pair ((t.1 + t.2.1 + t.2.2) % Extern.MathBitsCarry.m64) ((t.1 + t.2.1 + t.2.2) / Extern.MathBitsCarry.m64))) w = _
  rw [if_neg h]
  rfl
theorem run_Add64 (x y c : Int) (hc : c ≤ 1) (w : World) :
    (callFunc 82 #[.int .u64 x, .int .u64 y, .int .u64 c]).run Tryd.prog w = .ok (.value (.tuple #[.int .u64 (add64s x y c), .int .u64 (add64c x y c)])) w := by
  rw [run_callFunc_extern Tryd.func82 (by kernel_rfl) (by kernel_rfl) (by kernel_rfl) (e := add64E) (by kernel_rfl), run_add64E x y c hc]
  rfl

def sub64E : Array Value → Sem Value := fun args => do
  let (x, y, b) ← Extern.MathBitsCarry.three "Sub64" args
  pure (Extern.MathBitsCarry.pair ((x + Extern.MathBitsCarry.m64 - y - b) % Extern.MathBitsCarry.m64) (if x < y + b then 1 else 0))
theorem run_sub64E {P : Program} (x y c : Int) (hc : c ≤ 1) (w : World) :
    (sub64E #[.int .u64 x, .int .u64 y, .int .u64 c]).run P w = .ok (.tuple #[.int .u64 (sub64s x y c), .int .u64 (sub64b x y c)]) w := by
  have h : ¬ (1 < c.toNat) := by omega
  change Sem.run P (do
    let t ← (do
      if c.toNat > 1 then unsupported (.noEntry ("extern/math/bits." ++ "Sub64" ++ ": a carry that is neither 0 nor 1"))
      pure (x.toNat, y.toNat, c.toNat))
    pure (Extern.MathBitsCarry.pair ((t.1 + Extern.MathBitsCarry.m64 - t.2.1 - t.2.2) % Extern.MathBitsCarry.m64) (if t.1 < t.2.1 + t.2.2 then 1 else 0))) w = _
  rw [if_neg h]
  rfl
theorem run_Sub64 (x y c : Int) (hc : c ≤ 1) (w : World) :
    (callFunc 84 #[.int .u64 x, .int .u64 y, .int .u64 c]).run Tryd.prog w = .ok (.value (.tuple #[.int .u64 (sub64s x y c), .int .u64 (sub64b x y c)])) w := by
  rw [run_callFunc_extern Tryd.func84 (by kernel_rfl) (by kernel_rfl) (by kernel_rfl) (e := sub64E) (by kernel_rfl), run_sub64E x y c hc]
  rfl

theorem info56 : (Tryd.prog.info? 56).map (fun i => (i.zero, i.size, i.bytes)) = some (some (.agg #[(.string ⟨#[]⟩), (.int .i64 0), (.int .u64 0), (.int .u64 0), (.int .u64 0), (.int .u64 0), (.int .u64 0), (.int .u64 0), (.int .u64 0)]), 9, 80) := by kernel_rfl
-- the values' own types
/-! #### struct type 35 -/
structure S35 where
  f0 : Int
  f1 : Int
  f2 : Int
  f3 : Int
  f4 : Int
def z35 : S35 := ⟨(0 : Int), (0 : Int), (0 : Int), (0 : Int), (0 : Int)⟩
def k35 : Kd S35 := Kd.iso (Kd.pair (Kd.int .i64) (Kd.pair (Kd.int .u64) (Kd.pair (Kd.int .u64) (Kd.pair (Kd.int .u64) (Kd.int .u64))))) (fun x : S35 => (x.f0, x.f1, x.f2, x.f3, x.f4))
theorem k35_open {w : World} {x : S35} {cs : List Value} (h : k35.K w x cs) : cs = [.int .i64 x.f0, .int .u64 x.f1, .int .u64 x.f2, .int .u64 x.f3, .int .u64 x.f4] := by
  obtain ⟨_, _, rfl, rfl, ⟨_, _, rfl, rfl, ⟨_, _, rfl, rfl, ⟨_, _, rfl, rfl, rfl⟩⟩⟩⟩ := h
  exact rfl
theorem k35_openM {w : World} {base : Nat} {ok : Nat → Prop} {x : S35} {cs : List Value} (h : k35.M w base ok x cs) : cs = [.int .i64 x.f0, .int .u64 x.f1, .int .u64 x.f2, .int .u64 x.f3, .int .u64 x.f4] := by
  obtain ⟨_, _, rfl, rfl, ⟨_, _, rfl, rfl, ⟨_, _, rfl, rfl, ⟨_, _, rfl, rfl, rfl⟩⟩⟩⟩ := h
  exact rfl
theorem k35_mk (w : World) (x : S35)  : k35.K w x [.int .i64 x.f0, .int .u64 x.f1, .int .u64 x.f2, .int .u64 x.f3, .int .u64 x.f4] := ⟨[.int .i64 x.f0], [.int .u64 x.f1, .int .u64 x.f2, .int .u64 x.f3, .int .u64 x.f4], rfl, rfl, ⟨[.int .u64 x.f1], [.int .u64 x.f2, .int .u64 x.f3, .int .u64 x.f4], rfl, rfl, ⟨[.int .u64 x.f2], [.int .u64 x.f3, .int .u64 x.f4], rfl, rfl, ⟨[.int .u64 x.f3], [.int .u64 x.f4], rfl, rfl, rfl⟩⟩⟩⟩
theorem k35_mkM (w : World) (base : Nat) (ok : Nat → Prop) (x : S35)  : k35.M w base ok x [.int .i64 x.f0, .int .u64 x.f1, .int .u64 x.f2, .int .u64 x.f3, .int .u64 x.f4] := ⟨[.int .i64 x.f0], [.int .u64 x.f1, .int .u64 x.f2, .int .u64 x.f3, .int .u64 x.f4], rfl, rfl, ⟨[.int .u64 x.f1], [.int .u64 x.f2, .int .u64 x.f3, .int .u64 x.f4], rfl, rfl, ⟨[.int .u64 x.f2], [.int .u64 x.f3, .int .u64 x.f4], rfl, rfl, ⟨[.int .u64 x.f3], [.int .u64 x.f4], rfl, rfl, rfl⟩⟩⟩⟩
def rd_T35 (xs : List S35) (i : Int) : S35 := xs.getD i.toNat z35
theorem at_T35 {w : World} {A : Option Addr} {n : Nat} {xs : List S35} (h : Kd.C k35 w A n xs) (i : Int) (h0 : 0 ≤ i) (h1 : i < n) : ∃ ad , A = some ad ∧ w.cell? (ad.add (i.toNat * 5)) = some (.int .i64 (rd_T35 xs i).f0) ∧ w.cell? ⟨(ad.add (i.toNat * 5)).block, (ad.add (i.toNat * 5)).off + 1, none⟩ = some (.int .u64 (rd_T35 xs i).f1) ∧ w.cell? ⟨(ad.add (i.toNat * 5)).block, (ad.add (i.toNat * 5)).off + 2, none⟩ = some (.int .u64 (rd_T35 xs i).f2) ∧ w.cell? ⟨(ad.add (i.toNat * 5)).block, (ad.add (i.toNat * 5)).off + 3, none⟩ = some (.int .u64 (rd_T35 xs i).f3) ∧ w.cell? ⟨(ad.add (i.toNat * 5)).block, (ad.add (i.toNat * 5)).off + 4, none⟩ = some (.int .u64 (rd_T35 xs i).f4) := by
  obtain ⟨ad, c, e, _, hK, hc0⟩ := Kd.C_get h z35 i h0 h1
  have hc : ∀ j u, c[j]? = some u → w.cell? (ad.add (i.toNat * 5 + j)) = some u := hc0
  obtain rfl := k35_open hK
  exact ⟨ad, e, hc 0 _ rfl, by rw [← add_field _ _ 1 (by omega)]; exact hc 1 _ rfl, by rw [← add_field _ _ 2 (by omega)]; exact hc 2 _ rfl, by rw [← add_field _ _ 3 (by omega)]; exact hc 3 _ rfl, by rw [← add_field _ _ 4 (by omega)]; exact hc 4 _ rfl⟩

/-! #### struct type 37 -/
structure S37 where
  f0 : Int
  f1 : Int
  f2 : Int
def z37 : S37 := ⟨(0 : Int), (0 : Int), (0 : Int)⟩
def k37 : Kd S37 := Kd.iso (Kd.pair (Kd.int .u64) (Kd.pair (Kd.int .u64) (Kd.int .u64))) (fun x : S37 => (x.f0, x.f1, x.f2))
theorem k37_open {w : World} {x : S37} {cs : List Value} (h : k37.K w x cs) : cs = [.int .u64 x.f0, .int .u64 x.f1, .int .u64 x.f2] := by
  obtain ⟨_, _, rfl, rfl, ⟨_, _, rfl, rfl, rfl⟩⟩ := h
  exact rfl
theorem k37_openM {w : World} {base : Nat} {ok : Nat → Prop} {x : S37} {cs : List Value} (h : k37.M w base ok x cs) : cs = [.int .u64 x.f0, .int .u64 x.f1, .int .u64 x.f2] := by
  obtain ⟨_, _, rfl, rfl, ⟨_, _, rfl, rfl, rfl⟩⟩ := h
  exact rfl
theorem k37_mk (w : World) (x : S37)  : k37.K w x [.int .u64 x.f0, .int .u64 x.f1, .int .u64 x.f2] := ⟨[.int .u64 x.f0], [.int .u64 x.f1, .int .u64 x.f2], rfl, rfl, ⟨[.int .u64 x.f1], [.int .u64 x.f2], rfl, rfl, rfl⟩⟩
theorem k37_mkM (w : World) (base : Nat) (ok : Nat → Prop) (x : S37)  : k37.M w base ok x [.int .u64 x.f0, .int .u64 x.f1, .int .u64 x.f2] := ⟨[.int .u64 x.f0], [.int .u64 x.f1, .int .u64 x.f2], rfl, rfl, ⟨[.int .u64 x.f1], [.int .u64 x.f2], rfl, rfl, rfl⟩⟩
def rd_T37 (xs : List S37) (i : Int) : S37 := xs.getD i.toNat z37
theorem at_T37 {w : World} {A : Option Addr} {n : Nat} {xs : List S37} (h : Kd.C k37 w A n xs) (i : Int) (h0 : 0 ≤ i) (h1 : i < n) : ∃ ad , A = some ad ∧ w.cell? (ad.add (i.toNat * 3)) = some (.int .u64 (rd_T37 xs i).f0) ∧ w.cell? ⟨(ad.add (i.toNat * 3)).block, (ad.add (i.toNat * 3)).off + 1, none⟩ = some (.int .u64 (rd_T37 xs i).f1) ∧ w.cell? ⟨(ad.add (i.toNat * 3)).block, (ad.add (i.toNat * 3)).off + 2, none⟩ = some (.int .u64 (rd_T37 xs i).f2) := by
  obtain ⟨ad, c, e, _, hK, hc0⟩ := Kd.C_get h z37 i h0 h1
  have hc : ∀ j u, c[j]? = some u → w.cell? (ad.add (i.toNat * 3 + j)) = some u := hc0
  obtain rfl := k37_open hK
  exact ⟨ad, e, hc 0 _ rfl, by rw [← add_field _ _ 1 (by omega)]; exact hc 1 _ rfl, by rw [← add_field _ _ 2 (by omega)]; exact hc 2 _ rfl⟩

/-! #### struct type 56 -/
structure S56 where
  f0 : ByteArray
  f1 : S35
  f2 : S37
def z56 : S56 := ⟨(⟨#[]⟩ : ByteArray), z35, z37⟩
def k56 : Kd S56 := Kd.iso (Kd.pair Kd.string (Kd.pair k35 k37)) (fun x : S56 => (x.f0, x.f1, x.f2))
theorem k56_open {w : World} {x : S56} {cs : List Value} (h : k56.K w x cs) : cs = [.string x.f0, .int .i64 x.f1.f0, .int .u64 x.f1.f1, .int .u64 x.f1.f2, .int .u64 x.f1.f3, .int .u64 x.f1.f4, .int .u64 x.f2.f0, .int .u64 x.f2.f1, .int .u64 x.f2.f2] := by
  obtain ⟨_, _, rfl, rfl, ⟨_, _, rfl, s1, s6⟩⟩ := h
  obtain rfl := k35_open s1
  obtain rfl := k37_open s6
  exact rfl
theorem k56_openM {w : World} {base : Nat} {ok : Nat → Prop} {x : S56} {cs : List Value} (h : k56.M w base ok x cs) : cs = [.string x.f0, .int .i64 x.f1.f0, .int .u64 x.f1.f1, .int .u64 x.f1.f2, .int .u64 x.f1.f3, .int .u64 x.f1.f4, .int .u64 x.f2.f0, .int .u64 x.f2.f1, .int .u64 x.f2.f2] := by
  obtain ⟨_, _, rfl, rfl, ⟨_, _, rfl, s1, s6⟩⟩ := h
  obtain rfl := k35_openM s1
  obtain rfl := k37_openM s6
  exact rfl
theorem k56_mk (w : World) (x : S56)  : k56.K w x [.string x.f0, .int .i64 x.f1.f0, .int .u64 x.f1.f1, .int .u64 x.f1.f2, .int .u64 x.f1.f3, .int .u64 x.f1.f4, .int .u64 x.f2.f0, .int .u64 x.f2.f1, .int .u64 x.f2.f2] := ⟨[.string x.f0], [.int .i64 x.f1.f0, .int .u64 x.f1.f1, .int .u64 x.f1.f2, .int .u64 x.f1.f3, .int .u64 x.f1.f4, .int .u64 x.f2.f0, .int .u64 x.f2.f1, .int .u64 x.f2.f2], rfl, rfl, ⟨[.int .i64 x.f1.f0, .int .u64 x.f1.f1, .int .u64 x.f1.f2, .int .u64 x.f1.f3, .int .u64 x.f1.f4], [.int .u64 x.f2.f0, .int .u64 x.f2.f1, .int .u64 x.f2.f2], rfl, (k35_mk w x.f1 ), (k37_mk w x.f2 )⟩⟩
theorem k56_mkM (w : World) (base : Nat) (ok : Nat → Prop) (x : S56)  : k56.M w base ok x [.string x.f0, .int .i64 x.f1.f0, .int .u64 x.f1.f1, .int .u64 x.f1.f2, .int .u64 x.f1.f3, .int .u64 x.f1.f4, .int .u64 x.f2.f0, .int .u64 x.f2.f1, .int .u64 x.f2.f2] := ⟨[.string x.f0], [.int .i64 x.f1.f0, .int .u64 x.f1.f1, .int .u64 x.f1.f2, .int .u64 x.f1.f3, .int .u64 x.f1.f4, .int .u64 x.f2.f0, .int .u64 x.f2.f1, .int .u64 x.f2.f2], rfl, rfl, ⟨[.int .i64 x.f1.f0, .int .u64 x.f1.f1, .int .u64 x.f1.f2, .int .u64 x.f1.f3, .int .u64 x.f1.f4], [.int .u64 x.f2.f0, .int .u64 x.f2.f1, .int .u64 x.f2.f2], rfl, (k35_mkM w base ok x.f1 ), (k37_mkM w base ok x.f2 )⟩⟩
def rd_T56 (xs : List S56) (i : Int) : S56 := xs.getD i.toNat z56
theorem at_T56 {w : World} {A : Option Addr} {n : Nat} {xs : List S56} (h : Kd.C k56 w A n xs) (i : Int) (h0 : 0 ≤ i) (h1 : i < n) : ∃ ad , A = some ad ∧ w.cell? (ad.add (i.toNat * 9)) = some (.string (rd_T56 xs i).f0) ∧ w.cell? ⟨(ad.add (i.toNat * 9)).block, (ad.add (i.toNat * 9)).off + 1, none⟩ = some (.int .i64 (rd_T56 xs i).f1.f0) ∧ w.cell? ⟨(ad.add (i.toNat * 9)).block, (ad.add (i.toNat * 9)).off + 2, none⟩ = some (.int .u64 (rd_T56 xs i).f1.f1) ∧ w.cell? ⟨(ad.add (i.toNat * 9)).block, (ad.add (i.toNat * 9)).off + 3, none⟩ = some (.int .u64 (rd_T56 xs i).f1.f2) ∧ w.cell? ⟨(ad.add (i.toNat * 9)).block, (ad.add (i.toNat * 9)).off + 4, none⟩ = some (.int .u64 (rd_T56 xs i).f1.f3) ∧ w.cell? ⟨(ad.add (i.toNat * 9)).block, (ad.add (i.toNat * 9)).off + 5, none⟩ = some (.int .u64 (rd_T56 xs i).f1.f4) ∧ w.cell? ⟨(ad.add (i.toNat * 9)).block, (ad.add (i.toNat * 9)).off + 6, none⟩ = some (.int .u64 (rd_T56 xs i).f2.f0) ∧ w.cell? ⟨(ad.add (i.toNat * 9)).block, (ad.add (i.toNat * 9)).off + 7, none⟩ = some (.int .u64 (rd_T56 xs i).f2.f1) ∧ w.cell? ⟨(ad.add (i.toNat * 9)).block, (ad.add (i.toNat * 9)).off + 8, none⟩ = some (.int .u64 (rd_T56 xs i).f2.f2) := by
  obtain ⟨ad, c, e, _, hK, hc0⟩ := Kd.C_get h z56 i h0 h1
  have hc : ∀ j u, c[j]? = some u → w.cell? (ad.add (i.toNat * 9 + j)) = some u := hc0
  obtain rfl := k56_open hK
  exact ⟨ad, e, hc 0 _ rfl, by rw [← add_field _ _ 1 (by omega)]; exact hc 1 _ rfl, by rw [← add_field _ _ 2 (by omega)]; exact hc 2 _ rfl, by rw [← add_field _ _ 3 (by omega)]; exact hc 3 _ rfl, by rw [← add_field _ _ 4 (by omega)]; exact hc 4 _ rfl, by rw [← add_field _ _ 5 (by omega)]; exact hc 5 _ rfl, by rw [← add_field _ _ 6 (by omega)]; exact hc 6 _ rfl, by rw [← add_field _ _ 7 (by omega)]; exact hc 7 _ rfl, by rw [← add_field _ _ 8 (by omega)]; exact hc 8 _ rfl⟩

def rd_L6 (xs : List (List S56)) (i : Int) : (List S56) := xs.getD i.toNat ([] : List S56)
theorem at_L6 {w : World} {A : Option Addr} {n : Nat} {xs : List (List S56)} (h : Kd.C (Kd.slice 56 k56) w A n xs) (i : Int) (h0 : 0 ≤ i) (h1 : i < n) : ∃ ad A0 c0, A = some ad ∧ w.cell? (ad.add i.toNat) = some (.slice A0 (rd_L6 xs i).length c0) ∧ (rd_L6 xs i).length ≤ c0 ∧ k56.C w A0 (rd_L6 xs i).length (rd_L6 xs i) := by
  obtain ⟨ad, c, e, _, hK, hc0⟩ := Kd.C_get h ([] : List S56) i h0 h1
  have hc : ∀ j u, c[j]? = some u → w.cell? (ad.add (i.toNat * 1 + j)) = some u := hc0
  obtain ⟨A0, c0, rfl, l0, g0⟩ := hK
  exact ⟨ad, A0, c0, e, by have hq := hc 0 _ rfl; rwa [Nat.mul_one, Nat.add_zero] at hq, l0, g0⟩

/-! #### struct type 27 -/
structure S27 where
  f0 : Int
  f1 : Int
  f2 : (List S56)
def z27 : S27 := ⟨(0 : Int), (0 : Int), ([] : List S56)⟩
def k27 : Kd S27 := Kd.iso (Kd.pair (Kd.int .u64) (Kd.pair (Kd.int .u64) (Kd.slice 56 k56))) (fun x : S27 => (x.f0, x.f1, x.f2))
theorem k27_open {w : World} {x : S27} {cs : List Value} (h : k27.K w x cs) : ∃ A2 c2, cs = [.int .u64 x.f0, .int .u64 x.f1, .slice A2 x.f2.length c2] ∧ x.f2.length ≤ c2 ∧ k56.C w A2 x.f2.length x.f2 := by
  obtain ⟨_, _, rfl, rfl, ⟨_, _, rfl, rfl, ⟨A2, c2, rfl, l2, g2⟩⟩⟩ := h
  exact ⟨A2, c2, rfl, l2, g2⟩
theorem k27_openM {w : World} {base : Nat} {ok : Nat → Prop} {x : S27} {cs : List Value} (h : k27.M w base ok x cs) : ∃ v2, cs = [.int .u64 x.f0, .int .u64 x.f1, v2] ∧ k56.R 56 w base ok v2 x.f2 := by
  obtain ⟨_, _, rfl, rfl, ⟨_, _, rfl, rfl, ⟨v2, rfl, g2⟩⟩⟩ := h
  exact ⟨v2, rfl, g2⟩
theorem k27_mk (w : World) (x : S27) {A2 : Option Addr} {c2 : Nat} (l2 : x.f2.length ≤ c2) (g2 : k56.C w A2 x.f2.length x.f2) : k27.K w x [.int .u64 x.f0, .int .u64 x.f1, .slice A2 x.f2.length c2] := ⟨[.int .u64 x.f0], [.int .u64 x.f1, .slice A2 x.f2.length c2], rfl, rfl, ⟨[.int .u64 x.f1], [.slice A2 x.f2.length c2], rfl, rfl, ⟨A2, c2, rfl, l2, g2⟩⟩⟩
theorem k27_mkM (w : World) (base : Nat) (ok : Nat → Prop) (x : S27) {v2 : Value} (g2 : k56.R 56 w base ok v2 x.f2) : k27.M w base ok x [.int .u64 x.f0, .int .u64 x.f1, v2] := ⟨[.int .u64 x.f0], [.int .u64 x.f1, v2], rfl, rfl, ⟨[.int .u64 x.f1], [v2], rfl, rfl, ⟨v2, rfl, g2⟩⟩⟩
def rd_T27 (xs : List S27) (i : Int) : S27 := xs.getD i.toNat z27
theorem at_T27 {w : World} {A : Option Addr} {n : Nat} {xs : List S27} (h : Kd.C k27 w A n xs) (i : Int) (h0 : 0 ≤ i) (h1 : i < n) : ∃ ad A2 c2, A = some ad ∧ w.cell? (ad.add (i.toNat * 3)) = some (.int .u64 (rd_T27 xs i).f0) ∧ w.cell? ⟨(ad.add (i.toNat * 3)).block, (ad.add (i.toNat * 3)).off + 1, none⟩ = some (.int .u64 (rd_T27 xs i).f1) ∧ w.cell? ⟨(ad.add (i.toNat * 3)).block, (ad.add (i.toNat * 3)).off + 2, none⟩ = some (.slice A2 (rd_T27 xs i).f2.length c2) ∧ (rd_T27 xs i).f2.length ≤ c2 ∧ k56.C w A2 (rd_T27 xs i).f2.length (rd_T27 xs i).f2 := by
  obtain ⟨ad, c, e, _, hK, hc0⟩ := Kd.C_get h z27 i h0 h1
  have hc : ∀ j u, c[j]? = some u → w.cell? (ad.add (i.toNat * 3 + j)) = some u := hc0
  obtain ⟨A2, c2, rfl, l2, g2⟩ := k27_open hK
  exact ⟨ad, A2, c2, e, hc 0 _ rfl, by rw [← add_field _ _ 1 (by omega)]; exact hc 1 _ rfl, by rw [← add_field _ _ 2 (by omega)]; exact hc 2 _ rfl, l2, g2⟩

def rd_L8 (xs : List (List S27)) (i : Int) : (List S27) := xs.getD i.toNat ([] : List S27)
theorem at_L8 {w : World} {A : Option Addr} {n : Nat} {xs : List (List S27)} (h : Kd.C (Kd.slice 27 k27) w A n xs) (i : Int) (h0 : 0 ≤ i) (h1 : i < n) : ∃ ad A0 c0, A = some ad ∧ w.cell? (ad.add i.toNat) = some (.slice A0 (rd_L8 xs i).length c0) ∧ (rd_L8 xs i).length ≤ c0 ∧ k27.C w A0 (rd_L8 xs i).length (rd_L8 xs i) := by
  obtain ⟨ad, c, e, _, hK, hc0⟩ := Kd.C_get h ([] : List S27) i h0 h1
  have hc : ∀ j u, c[j]? = some u → w.cell? (ad.add (i.toNat * 1 + j)) = some u := hc0
  obtain ⟨A0, c0, rfl, l0, g0⟩ := hK
  exact ⟨ad, A0, c0, e, by have hq := hc 0 _ rfl; rwa [Nat.mul_one, Nat.add_zero] at hq, l0, g0⟩

/-! #### struct type 39 -/
structure S39 where
  f0 : Int
  f1 : Int
  f2 : ByteArray
  f3 : S35
  f4 : S37
def z39 : S39 := ⟨(0 : Int), (0 : Int), (⟨#[]⟩ : ByteArray), z35, z37⟩
def k39 : Kd S39 := Kd.iso (Kd.pair (Kd.int .i64) (Kd.pair (Kd.int .u64) (Kd.pair Kd.string (Kd.pair k35 k37)))) (fun x : S39 => (x.f0, x.f1, x.f2, x.f3, x.f4))
theorem k39_open {w : World} {x : S39} {cs : List Value} (h : k39.K w x cs) : cs = [.int .i64 x.f0, .int .u64 x.f1, .string x.f2, .int .i64 x.f3.f0, .int .u64 x.f3.f1, .int .u64 x.f3.f2, .int .u64 x.f3.f3, .int .u64 x.f3.f4, .int .u64 x.f4.f0, .int .u64 x.f4.f1, .int .u64 x.f4.f2] := by
  obtain ⟨_, _, rfl, rfl, ⟨_, _, rfl, rfl, ⟨_, _, rfl, rfl, ⟨_, _, rfl, s3, s8⟩⟩⟩⟩ := h
  obtain rfl := k35_open s3
  obtain rfl := k37_open s8
  exact rfl
theorem k39_openM {w : World} {base : Nat} {ok : Nat → Prop} {x : S39} {cs : List Value} (h : k39.M w base ok x cs) : cs = [.int .i64 x.f0, .int .u64 x.f1, .string x.f2, .int .i64 x.f3.f0, .int .u64 x.f3.f1, .int .u64 x.f3.f2, .int .u64 x.f3.f3, .int .u64 x.f3.f4, .int .u64 x.f4.f0, .int .u64 x.f4.f1, .int .u64 x.f4.f2] := by
  obtain ⟨_, _, rfl, rfl, ⟨_, _, rfl, rfl, ⟨_, _, rfl, rfl, ⟨_, _, rfl, s3, s8⟩⟩⟩⟩ := h
  obtain rfl := k35_openM s3
  obtain rfl := k37_openM s8
  exact rfl
theorem k39_mk (w : World) (x : S39)  : k39.K w x [.int .i64 x.f0, .int .u64 x.f1, .string x.f2, .int .i64 x.f3.f0, .int .u64 x.f3.f1, .int .u64 x.f3.f2, .int .u64 x.f3.f3, .int .u64 x.f3.f4, .int .u64 x.f4.f0, .int .u64 x.f4.f1, .int .u64 x.f4.f2] := ⟨[.int .i64 x.f0], [.int .u64 x.f1, .string x.f2, .int .i64 x.f3.f0, .int .u64 x.f3.f1, .int .u64 x.f3.f2, .int .u64 x.f3.f3, .int .u64 x.f3.f4, .int .u64 x.f4.f0, .int .u64 x.f4.f1, .int .u64 x.f4.f2], rfl, rfl, ⟨[.int .u64 x.f1], [.string x.f2, .int .i64 x.f3.f0, .int .u64 x.f3.f1, .int .u64 x.f3.f2, .int .u64 x.f3.f3, .int .u64 x.f3.f4, .int .u64 x.f4.f0, .int .u64 x.f4.f1, .int .u64 x.f4.f2], rfl, rfl, ⟨[.string x.f2], [.int .i64 x.f3.f0, .int .u64 x.f3.f1, .int .u64 x.f3.f2, .int .u64 x.f3.f3, .int .u64 x.f3.f4, .int .u64 x.f4.f0, .int .u64 x.f4.f1, .int .u64 x.f4.f2], rfl, rfl, ⟨[.int .i64 x.f3.f0, .int .u64 x.f3.f1, .int .u64 x.f3.f2, .int .u64 x.f3.f3, .int .u64 x.f3.f4], [.int .u64 x.f4.f0, .int .u64 x.f4.f1, .int .u64 x.f4.f2], rfl, (k35_mk w x.f3 ), (k37_mk w x.f4 )⟩⟩⟩⟩
theorem k39_mkM (w : World) (base : Nat) (ok : Nat → Prop) (x : S39)  : k39.M w base ok x [.int .i64 x.f0, .int .u64 x.f1, .string x.f2, .int .i64 x.f3.f0, .int .u64 x.f3.f1, .int .u64 x.f3.f2, .int .u64 x.f3.f3, .int .u64 x.f3.f4, .int .u64 x.f4.f0, .int .u64 x.f4.f1, .int .u64 x.f4.f2] := ⟨[.int .i64 x.f0], [.int .u64 x.f1, .string x.f2, .int .i64 x.f3.f0, .int .u64 x.f3.f1, .int .u64 x.f3.f2, .int .u64 x.f3.f3, .int .u64 x.f3.f4, .int .u64 x.f4.f0, .int .u64 x.f4.f1, .int .u64 x.f4.f2], rfl, rfl, ⟨[.int .u64 x.f1], [.string x.f2, .int .i64 x.f3.f0, .int .u64 x.f3.f1, .int .u64 x.f3.f2, .int .u64 x.f3.f3, .int .u64 x.f3.f4, .int .u64 x.f4.f0, .int .u64 x.f4.f1, .int .u64 x.f4.f2], rfl, rfl, ⟨[.string x.f2], [.int .i64 x.f3.f0, .int .u64 x.f3.f1, .int .u64 x.f3.f2, .int .u64 x.f3.f3, .int .u64 x.f3.f4, .int .u64 x.f4.f0, .int .u64 x.f4.f1, .int .u64 x.f4.f2], rfl, rfl, ⟨[.int .i64 x.f3.f0, .int .u64 x.f3.f1, .int .u64 x.f3.f2, .int .u64 x.f3.f3, .int .u64 x.f3.f4], [.int .u64 x.f4.f0, .int .u64 x.f4.f1, .int .u64 x.f4.f2], rfl, (k35_mkM w base ok x.f3 ), (k37_mkM w base ok x.f4 )⟩⟩⟩⟩
def rd_T39 (xs : List S39) (i : Int) : S39 := xs.getD i.toNat z39
theorem at_T39 {w : World} {A : Option Addr} {n : Nat} {xs : List S39} (h : Kd.C k39 w A n xs) (i : Int) (h0 : 0 ≤ i) (h1 : i < n) : ∃ ad , A = some ad ∧ w.cell? (ad.add (i.toNat * 11)) = some (.int .i64 (rd_T39 xs i).f0) ∧ w.cell? ⟨(ad.add (i.toNat * 11)).block, (ad.add (i.toNat * 11)).off + 1, none⟩ = some (.int .u64 (rd_T39 xs i).f1) ∧ w.cell? ⟨(ad.add (i.toNat * 11)).block, (ad.add (i.toNat * 11)).off + 2, none⟩ = some (.string (rd_T39 xs i).f2) ∧ w.cell? ⟨(ad.add (i.toNat * 11)).block, (ad.add (i.toNat * 11)).off + 3, none⟩ = some (.int .i64 (rd_T39 xs i).f3.f0) ∧ w.cell? ⟨(ad.add (i.toNat * 11)).block, (ad.add (i.toNat * 11)).off + 4, none⟩ = some (.int .u64 (rd_T39 xs i).f3.f1) ∧ w.cell? ⟨(ad.add (i.toNat * 11)).block, (ad.add (i.toNat * 11)).off + 5, none⟩ = some (.int .u64 (rd_T39 xs i).f3.f2) ∧ w.cell? ⟨(ad.add (i.toNat * 11)).block, (ad.add (i.toNat * 11)).off + 6, none⟩ = some (.int .u64 (rd_T39 xs i).f3.f3) ∧ w.cell? ⟨(ad.add (i.toNat * 11)).block, (ad.add (i.toNat * 11)).off + 7, none⟩ = some (.int .u64 (rd_T39 xs i).f3.f4) ∧ w.cell? ⟨(ad.add (i.toNat * 11)).block, (ad.add (i.toNat * 11)).off + 8, none⟩ = some (.int .u64 (rd_T39 xs i).f4.f0) ∧ w.cell? ⟨(ad.add (i.toNat * 11)).block, (ad.add (i.toNat * 11)).off + 9, none⟩ = some (.int .u64 (rd_T39 xs i).f4.f1) ∧ w.cell? ⟨(ad.add (i.toNat * 11)).block, (ad.add (i.toNat * 11)).off + 10, none⟩ = some (.int .u64 (rd_T39 xs i).f4.f2) := by
  obtain ⟨ad, c, e, _, hK, hc0⟩ := Kd.C_get h z39 i h0 h1
  have hc : ∀ j u, c[j]? = some u → w.cell? (ad.add (i.toNat * 11 + j)) = some u := hc0
  obtain rfl := k39_open hK
  exact ⟨ad, e, hc 0 _ rfl, by rw [← add_field _ _ 1 (by omega)]; exact hc 1 _ rfl, by rw [← add_field _ _ 2 (by omega)]; exact hc 2 _ rfl, by rw [← add_field _ _ 3 (by omega)]; exact hc 3 _ rfl, by rw [← add_field _ _ 4 (by omega)]; exact hc 4 _ rfl, by rw [← add_field _ _ 5 (by omega)]; exact hc 5 _ rfl, by rw [← add_field _ _ 6 (by omega)]; exact hc 6 _ rfl, by rw [← add_field _ _ 7 (by omega)]; exact hc 7 _ rfl, by rw [← add_field _ _ 8 (by omega)]; exact hc 8 _ rfl, by rw [← add_field _ _ 9 (by omega)]; exact hc 9 _ rfl, by rw [← add_field _ _ 10 (by omega)]; exact hc 10 _ rfl⟩

def rd_L10 (xs : List (List S39)) (i : Int) : (List S39) := xs.getD i.toNat ([] : List S39)
theorem at_L10 {w : World} {A : Option Addr} {n : Nat} {xs : List (List S39)} (h : Kd.C (Kd.slice 39 k39) w A n xs) (i : Int) (h0 : 0 ≤ i) (h1 : i < n) : ∃ ad A0 c0, A = some ad ∧ w.cell? (ad.add i.toNat) = some (.slice A0 (rd_L10 xs i).length c0) ∧ (rd_L10 xs i).length ≤ c0 ∧ k39.C w A0 (rd_L10 xs i).length (rd_L10 xs i) := by
  obtain ⟨ad, c, e, _, hK, hc0⟩ := Kd.C_get h ([] : List S39) i h0 h1
  have hc : ∀ j u, c[j]? = some u → w.cell? (ad.add (i.toNat * 1 + j)) = some u := hc0
  obtain ⟨A0, c0, rfl, l0, g0⟩ := hK
  exact ⟨ad, A0, c0, e, by have hq := hc 0 _ rfl; rwa [Nat.mul_one, Nat.add_zero] at hq, l0, g0⟩

end Go.Proofs.YtnhngjhodcikiaaDoor.F
