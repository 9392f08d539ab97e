/- Written by the session's own program hyb.py: what functions of the program compute; Lean checks it. -/
import Derived.Test.YtkgjepmminmjjaaDoorEx0
import Derived.Test.YtkgjepmminmjjaaDoorEx1
import Derived.Test.YtkgjepmminmjjaaDoorEx2
import Derived.Test.YtkgjepmminmjjaaDoorEx15
import Derived.Test.YtkgjepmminmjjaaDoorEx21
import Derived.Test.YtkgjepmminmjjaaDoorWErr
namespace Go.Proofs.YtkgjepmminmjjaaDoor.E
open Go.RowKit Go.Proofs.YtkgjepmminmjjaaDoorW.PrintWords Go.Proofs.YtkgjepmminmjjaaDoorW.PrintLast Go.Proofs.YtkgjepmminmjjaaDoorW.PrintMore Go.Proofs.YtkgjepmminmjjaaDoorW.PrintShort
attribute [local go_sem] run_Add64 run_Sub64
attribute [local go_sem] max2_int min2_int max_two min_two max_three min_three max_four min_four   -- for this text's walks alone
set_option linter.unusedVariables false
set_option linter.unusedSimpArgs false

attribute [local go_sem high] eqA28 eqA30
/-! ### turnstilelaw11_RecordValid: function 7 -/
mutual
def turnstilelaw11_RecordValid.j0 : Nat → Bool → Bool → Int → Int → ByteArray → Int → Int → Int → Int → Int → Int → Int → Int → Option (Bool)
  | 0, _, _, _, _, _, _, _, _, _, _, _, _, _ => none
  | k + 1, x4, x5, x545000, x545001, x545002, x545003, x545004, x545005, x545006, x545007, x545008, x545009, x545010 => if x545003 = 2 then (if x545007 > 0 then (if x545004 = 0 then (turnstilelaw11_RecordValid.j1 k x4 x5 (x545005 == 0) x545000 x545001 x545002 x545003 x545004 x545005 x545006 x545007 x545008 x545009 x545010) else (turnstilelaw11_RecordValid.j1 k x4 x5 false x545000 x545001 x545002 x545003 x545004 x545005 x545006 x545007 x545008 x545009 x545010)) else (turnstilelaw11_RecordValid.j1 k x4 x5 false x545000 x545001 x545002 x545003 x545004 x545005 x545006 x545007 x545008 x545009 x545010)) else (turnstilelaw11_RecordValid.j1 k x4 x5 false x545000 x545001 x545002 x545003 x545004 x545005 x545006 x545007 x545008 x545009 x545010)
def turnstilelaw11_RecordValid.j1 : Nat → Bool → Bool → Bool → Int → Int → ByteArray → Int → Int → Int → Int → Int → Int → Int → Int → Option (Bool)
  | 0, _, _, _, _, _, _, _, _, _, _, _, _, _, _ => none
  | k + 1, x4, x5, x6, x545000, x545001, x545002, x545003, x545004, x545005, x545006, x545007, x545008, x545009, x545010 => if x545008 = 0 then (turnstilelaw11_RecordValid.j2 k x4 x5 x6 (x545003 == 0 && (x545004 == 0 && (x545005 == 0 && (x545006 == 0 && (x545007 == 0))))) (x545008 == 0 && (x545009 == 0 && (x545010 == 0))) true x545000 x545001 x545002 x545003 x545004 x545005 x545006 x545007 x545008 x545009 x545010) else (if x545009 = 0 then (turnstilelaw11_RecordValid.j2 k x4 x5 x6 (x545003 == 0 && (x545004 == 0 && (x545005 == 0 && (x545006 == 0 && (x545007 == 0))))) (x545008 == 0 && (x545009 == 0 && (x545010 == 0))) (x545010 == 0) x545000 x545001 x545002 x545003 x545004 x545005 x545006 x545007 x545008 x545009 x545010) else (turnstilelaw11_RecordValid.j2 k x4 x5 x6 (x545003 == 0 && (x545004 == 0 && (x545005 == 0 && (x545006 == 0 && (x545007 == 0))))) (x545008 == 0 && (x545009 == 0 && (x545010 == 0))) false x545000 x545001 x545002 x545003 x545004 x545005 x545006 x545007 x545008 x545009 x545010))
def turnstilelaw11_RecordValid.j2 : Nat → Bool → Bool → Bool → Bool → Bool → Bool → Int → Int → ByteArray → Int → Int → Int → Int → Int → Int → Int → Int → Option (Bool)
  | 0, _, _, _, _, _, _, _, _, _, _, _, _, _, _, _, _, _ => none
  | k + 1, x4, x5, x6, x7, x8, x9, x545000, x545001, x545002, x545003, x545004, x545005, x545006, x545007, x545008, x545009, x545010 => if x4 = true then (if x545000 = 1 then (if x5 = true then (if x8 = true then (turnstilelaw11_RecordValid.j3 k true x545000 x545001 x545002 x545003 x545004 x545005 x545006 x545007 x545008 x545009 x545010) else (if x545000 = 2 then (if x7 = true then (if x545000 = 3 then (turnstilelaw11_RecordValid.j3 k x9 x545000 x545001 x545002 x545003 x545004 x545005 x545006 x545007 x545008 x545009 x545010) else (turnstilelaw11_RecordValid.j3 k false x545000 x545001 x545002 x545003 x545004 x545005 x545006 x545007 x545008 x545009 x545010)) else (if x545000 = 3 then (turnstilelaw11_RecordValid.j3 k false x545000 x545001 x545002 x545003 x545004 x545005 x545006 x545007 x545008 x545009 x545010) else (turnstilelaw11_RecordValid.j3 k false x545000 x545001 x545002 x545003 x545004 x545005 x545006 x545007 x545008 x545009 x545010))) else (if x545000 = 3 then (if x7 = true then (turnstilelaw11_RecordValid.j3 k x9 x545000 x545001 x545002 x545003 x545004 x545005 x545006 x545007 x545008 x545009 x545010) else (turnstilelaw11_RecordValid.j3 k false x545000 x545001 x545002 x545003 x545004 x545005 x545006 x545007 x545008 x545009 x545010)) else (turnstilelaw11_RecordValid.j3 k false x545000 x545001 x545002 x545003 x545004 x545005 x545006 x545007 x545008 x545009 x545010)))) else (if x6 = true then (if x8 = true then (turnstilelaw11_RecordValid.j3 k true x545000 x545001 x545002 x545003 x545004 x545005 x545006 x545007 x545008 x545009 x545010) else (if x545000 = 2 then (if x7 = true then (if x545000 = 3 then (turnstilelaw11_RecordValid.j3 k x9 x545000 x545001 x545002 x545003 x545004 x545005 x545006 x545007 x545008 x545009 x545010) else (turnstilelaw11_RecordValid.j3 k false x545000 x545001 x545002 x545003 x545004 x545005 x545006 x545007 x545008 x545009 x545010)) else (if x545000 = 3 then (turnstilelaw11_RecordValid.j3 k false x545000 x545001 x545002 x545003 x545004 x545005 x545006 x545007 x545008 x545009 x545010) else (turnstilelaw11_RecordValid.j3 k false x545000 x545001 x545002 x545003 x545004 x545005 x545006 x545007 x545008 x545009 x545010))) else (if x545000 = 3 then (if x7 = true then (turnstilelaw11_RecordValid.j3 k x9 x545000 x545001 x545002 x545003 x545004 x545005 x545006 x545007 x545008 x545009 x545010) else (turnstilelaw11_RecordValid.j3 k false x545000 x545001 x545002 x545003 x545004 x545005 x545006 x545007 x545008 x545009 x545010)) else (turnstilelaw11_RecordValid.j3 k false x545000 x545001 x545002 x545003 x545004 x545005 x545006 x545007 x545008 x545009 x545010)))) else (if x545000 = 2 then (if x7 = true then (if x8 = true then (turnstilelaw11_RecordValid.j3 k true x545000 x545001 x545002 x545003 x545004 x545005 x545006 x545007 x545008 x545009 x545010) else (if x545000 = 3 then (turnstilelaw11_RecordValid.j3 k x9 x545000 x545001 x545002 x545003 x545004 x545005 x545006 x545007 x545008 x545009 x545010) else (turnstilelaw11_RecordValid.j3 k false x545000 x545001 x545002 x545003 x545004 x545005 x545006 x545007 x545008 x545009 x545010))) else (if x545000 = 3 then (turnstilelaw11_RecordValid.j3 k false x545000 x545001 x545002 x545003 x545004 x545005 x545006 x545007 x545008 x545009 x545010) else (turnstilelaw11_RecordValid.j3 k false x545000 x545001 x545002 x545003 x545004 x545005 x545006 x545007 x545008 x545009 x545010))) else (if x545000 = 3 then (if x7 = true then (turnstilelaw11_RecordValid.j3 k x9 x545000 x545001 x545002 x545003 x545004 x545005 x545006 x545007 x545008 x545009 x545010) else (turnstilelaw11_RecordValid.j3 k false x545000 x545001 x545002 x545003 x545004 x545005 x545006 x545007 x545008 x545009 x545010)) else (turnstilelaw11_RecordValid.j3 k false x545000 x545001 x545002 x545003 x545004 x545005 x545006 x545007 x545008 x545009 x545010))))) else (if x545000 = 2 then (if x7 = true then (if x8 = true then (turnstilelaw11_RecordValid.j3 k true x545000 x545001 x545002 x545003 x545004 x545005 x545006 x545007 x545008 x545009 x545010) else (if x545000 = 3 then (turnstilelaw11_RecordValid.j3 k x9 x545000 x545001 x545002 x545003 x545004 x545005 x545006 x545007 x545008 x545009 x545010) else (turnstilelaw11_RecordValid.j3 k false x545000 x545001 x545002 x545003 x545004 x545005 x545006 x545007 x545008 x545009 x545010))) else (if x545000 = 3 then (turnstilelaw11_RecordValid.j3 k false x545000 x545001 x545002 x545003 x545004 x545005 x545006 x545007 x545008 x545009 x545010) else (turnstilelaw11_RecordValid.j3 k false x545000 x545001 x545002 x545003 x545004 x545005 x545006 x545007 x545008 x545009 x545010))) else (if x545000 = 3 then (if x7 = true then (turnstilelaw11_RecordValid.j3 k x9 x545000 x545001 x545002 x545003 x545004 x545005 x545006 x545007 x545008 x545009 x545010) else (turnstilelaw11_RecordValid.j3 k false x545000 x545001 x545002 x545003 x545004 x545005 x545006 x545007 x545008 x545009 x545010)) else (turnstilelaw11_RecordValid.j3 k false x545000 x545001 x545002 x545003 x545004 x545005 x545006 x545007 x545008 x545009 x545010)))) else (turnstilelaw11_RecordValid.j3 k false x545000 x545001 x545002 x545003 x545004 x545005 x545006 x545007 x545008 x545009 x545010)
def turnstilelaw11_RecordValid.j3 : Nat → Bool → Int → Int → ByteArray → Int → Int → Int → Int → Int → Int → Int → Int → Option (Bool)
  | 0, _, _, _, _, _, _, _, _, _, _, _, _ => none
  | k + 1, x10, x545000, x545001, x545002, x545003, x545004, x545005, x545006, x545007, x545008, x545009, x545010 => (record_Valid.f k x545000 x545001 x545002 x545003 x545004 x545005 x545006 x545007 x545008 x545009 x545010).bind fun t546 => (some (t546 == x10))
def turnstilelaw11_RecordValid.j4 : Nat → Bool → Bool → Int → Int → ByteArray → Int → Int → Int → Int → Int → Int → Int → Int → Option (Bool)
  | 0, _, _, _, _, _, _, _, _, _, _, _, _, _ => none
  | k + 1, x4, x5, x545000, x545001, x545002, x545003, x545004, x545005, x545006, x545007, x545008, x545009, x545010 => if x545003 = 2 then (if x545007 > 0 then (if x545004 = 0 then (turnstilelaw11_RecordValid.j5 k x4 x5 (x545005 == 0) x545000 x545001 x545002 x545003 x545004 x545005 x545006 x545007 x545008 x545009 x545010) else (turnstilelaw11_RecordValid.j5 k x4 x5 false x545000 x545001 x545002 x545003 x545004 x545005 x545006 x545007 x545008 x545009 x545010)) else (turnstilelaw11_RecordValid.j5 k x4 x5 false x545000 x545001 x545002 x545003 x545004 x545005 x545006 x545007 x545008 x545009 x545010)) else (turnstilelaw11_RecordValid.j5 k x4 x5 false x545000 x545001 x545002 x545003 x545004 x545005 x545006 x545007 x545008 x545009 x545010)
def turnstilelaw11_RecordValid.j5 : Nat → Bool → Bool → Bool → Int → Int → ByteArray → Int → Int → Int → Int → Int → Int → Int → Int → Option (Bool)
  | 0, _, _, _, _, _, _, _, _, _, _, _, _, _, _ => none
  | k + 1, x4, x5, x6, x545000, x545001, x545002, x545003, x545004, x545005, x545006, x545007, x545008, x545009, x545010 => if x545008 = 0 then (turnstilelaw11_RecordValid.j6 k x4 x5 x6 (x545003 == 0 && (x545004 == 0 && (x545005 == 0 && (x545006 == 0 && (x545007 == 0))))) (x545008 == 0 && (x545009 == 0 && (x545010 == 0))) true x545000 x545001 x545002 x545003 x545004 x545005 x545006 x545007 x545008 x545009 x545010) else (if x545009 = 0 then (turnstilelaw11_RecordValid.j6 k x4 x5 x6 (x545003 == 0 && (x545004 == 0 && (x545005 == 0 && (x545006 == 0 && (x545007 == 0))))) (x545008 == 0 && (x545009 == 0 && (x545010 == 0))) (x545010 == 0) x545000 x545001 x545002 x545003 x545004 x545005 x545006 x545007 x545008 x545009 x545010) else (turnstilelaw11_RecordValid.j6 k x4 x5 x6 (x545003 == 0 && (x545004 == 0 && (x545005 == 0 && (x545006 == 0 && (x545007 == 0))))) (x545008 == 0 && (x545009 == 0 && (x545010 == 0))) false x545000 x545001 x545002 x545003 x545004 x545005 x545006 x545007 x545008 x545009 x545010))
def turnstilelaw11_RecordValid.j6 : Nat → Bool → Bool → Bool → Bool → Bool → Bool → Int → Int → ByteArray → Int → Int → Int → Int → Int → Int → Int → Int → Option (Bool)
  | 0, _, _, _, _, _, _, _, _, _, _, _, _, _, _, _, _, _ => none
  | k + 1, x4, x5, x6, x7, x8, x9, x545000, x545001, x545002, x545003, x545004, x545005, x545006, x545007, x545008, x545009, x545010 => if x4 = true then (if x545000 = 1 then (if x5 = true then (if x8 = true then (turnstilelaw11_RecordValid.j7 k true x545000 x545001 x545002 x545003 x545004 x545005 x545006 x545007 x545008 x545009 x545010) else (if x545000 = 2 then (if x7 = true then (if x545000 = 3 then (turnstilelaw11_RecordValid.j7 k x9 x545000 x545001 x545002 x545003 x545004 x545005 x545006 x545007 x545008 x545009 x545010) else (turnstilelaw11_RecordValid.j7 k false x545000 x545001 x545002 x545003 x545004 x545005 x545006 x545007 x545008 x545009 x545010)) else (if x545000 = 3 then (turnstilelaw11_RecordValid.j7 k false x545000 x545001 x545002 x545003 x545004 x545005 x545006 x545007 x545008 x545009 x545010) else (turnstilelaw11_RecordValid.j7 k false x545000 x545001 x545002 x545003 x545004 x545005 x545006 x545007 x545008 x545009 x545010))) else (if x545000 = 3 then (if x7 = true then (turnstilelaw11_RecordValid.j7 k x9 x545000 x545001 x545002 x545003 x545004 x545005 x545006 x545007 x545008 x545009 x545010) else (turnstilelaw11_RecordValid.j7 k false x545000 x545001 x545002 x545003 x545004 x545005 x545006 x545007 x545008 x545009 x545010)) else (turnstilelaw11_RecordValid.j7 k false x545000 x545001 x545002 x545003 x545004 x545005 x545006 x545007 x545008 x545009 x545010)))) else (if x6 = true then (if x8 = true then (turnstilelaw11_RecordValid.j7 k true x545000 x545001 x545002 x545003 x545004 x545005 x545006 x545007 x545008 x545009 x545010) else (if x545000 = 2 then (if x7 = true then (if x545000 = 3 then (turnstilelaw11_RecordValid.j7 k x9 x545000 x545001 x545002 x545003 x545004 x545005 x545006 x545007 x545008 x545009 x545010) else (turnstilelaw11_RecordValid.j7 k false x545000 x545001 x545002 x545003 x545004 x545005 x545006 x545007 x545008 x545009 x545010)) else (if x545000 = 3 then (turnstilelaw11_RecordValid.j7 k false x545000 x545001 x545002 x545003 x545004 x545005 x545006 x545007 x545008 x545009 x545010) else (turnstilelaw11_RecordValid.j7 k false x545000 x545001 x545002 x545003 x545004 x545005 x545006 x545007 x545008 x545009 x545010))) else (if x545000 = 3 then (if x7 = true then (turnstilelaw11_RecordValid.j7 k x9 x545000 x545001 x545002 x545003 x545004 x545005 x545006 x545007 x545008 x545009 x545010) else (turnstilelaw11_RecordValid.j7 k false x545000 x545001 x545002 x545003 x545004 x545005 x545006 x545007 x545008 x545009 x545010)) else (turnstilelaw11_RecordValid.j7 k false x545000 x545001 x545002 x545003 x545004 x545005 x545006 x545007 x545008 x545009 x545010)))) else (if x545000 = 2 then (if x7 = true then (if x8 = true then (turnstilelaw11_RecordValid.j7 k true x545000 x545001 x545002 x545003 x545004 x545005 x545006 x545007 x545008 x545009 x545010) else (if x545000 = 3 then (turnstilelaw11_RecordValid.j7 k x9 x545000 x545001 x545002 x545003 x545004 x545005 x545006 x545007 x545008 x545009 x545010) else (turnstilelaw11_RecordValid.j7 k false x545000 x545001 x545002 x545003 x545004 x545005 x545006 x545007 x545008 x545009 x545010))) else (if x545000 = 3 then (turnstilelaw11_RecordValid.j7 k false x545000 x545001 x545002 x545003 x545004 x545005 x545006 x545007 x545008 x545009 x545010) else (turnstilelaw11_RecordValid.j7 k false x545000 x545001 x545002 x545003 x545004 x545005 x545006 x545007 x545008 x545009 x545010))) else (if x545000 = 3 then (if x7 = true then (turnstilelaw11_RecordValid.j7 k x9 x545000 x545001 x545002 x545003 x545004 x545005 x545006 x545007 x545008 x545009 x545010) else (turnstilelaw11_RecordValid.j7 k false x545000 x545001 x545002 x545003 x545004 x545005 x545006 x545007 x545008 x545009 x545010)) else (turnstilelaw11_RecordValid.j7 k false x545000 x545001 x545002 x545003 x545004 x545005 x545006 x545007 x545008 x545009 x545010))))) else (if x545000 = 2 then (if x7 = true then (if x8 = true then (turnstilelaw11_RecordValid.j7 k true x545000 x545001 x545002 x545003 x545004 x545005 x545006 x545007 x545008 x545009 x545010) else (if x545000 = 3 then (turnstilelaw11_RecordValid.j7 k x9 x545000 x545001 x545002 x545003 x545004 x545005 x545006 x545007 x545008 x545009 x545010) else (turnstilelaw11_RecordValid.j7 k false x545000 x545001 x545002 x545003 x545004 x545005 x545006 x545007 x545008 x545009 x545010))) else (if x545000 = 3 then (turnstilelaw11_RecordValid.j7 k false x545000 x545001 x545002 x545003 x545004 x545005 x545006 x545007 x545008 x545009 x545010) else (turnstilelaw11_RecordValid.j7 k false x545000 x545001 x545002 x545003 x545004 x545005 x545006 x545007 x545008 x545009 x545010))) else (if x545000 = 3 then (if x7 = true then (turnstilelaw11_RecordValid.j7 k x9 x545000 x545001 x545002 x545003 x545004 x545005 x545006 x545007 x545008 x545009 x545010) else (turnstilelaw11_RecordValid.j7 k false x545000 x545001 x545002 x545003 x545004 x545005 x545006 x545007 x545008 x545009 x545010)) else (turnstilelaw11_RecordValid.j7 k false x545000 x545001 x545002 x545003 x545004 x545005 x545006 x545007 x545008 x545009 x545010)))) else (turnstilelaw11_RecordValid.j7 k false x545000 x545001 x545002 x545003 x545004 x545005 x545006 x545007 x545008 x545009 x545010)
def turnstilelaw11_RecordValid.j7 : Nat → Bool → Int → Int → ByteArray → Int → Int → Int → Int → Int → Int → Int → Int → Option (Bool)
  | 0, _, _, _, _, _, _, _, _, _, _, _, _ => none
  | k + 1, x10, x545000, x545001, x545002, x545003, x545004, x545005, x545006, x545007, x545008, x545009, x545010 => (record_Valid.f k x545000 x545001 x545002 x545003 x545004 x545005 x545006 x545007 x545008 x545009 x545010).bind fun t547 => (some (t547 == x10))
end
def turnstilelaw11_RecordValid.f (k : Nat) (a0_0 : Int) (a0_1 : Int) (a0_2 : ByteArray) (a0_3 : Int) (a0_4 : Int) (a0_5 : Int) (a0_6 : Int) (a0_7 : Int) (a0_8 : Int) (a0_9 : Int) (a0_10 : Int) : Option (Bool) := (turnstilelaw11_awake.f k).bind fun t545 => (if t545 = true then (if (a0_2.size : Int) ≥ 1 then (if a0_3 = 1 then (if a0_4 > 0 then (if a0_6 = 0 then (turnstilelaw11_RecordValid.j0 k (decide ((a0_2.size : Int) ≤ 64)) (a0_7 == 0) a0_0 a0_1 a0_2 a0_3 a0_4 a0_5 a0_6 a0_7 a0_8 a0_9 a0_10) else (turnstilelaw11_RecordValid.j0 k (decide ((a0_2.size : Int) ≤ 64)) false a0_0 a0_1 a0_2 a0_3 a0_4 a0_5 a0_6 a0_7 a0_8 a0_9 a0_10)) else (turnstilelaw11_RecordValid.j0 k (decide ((a0_2.size : Int) ≤ 64)) false a0_0 a0_1 a0_2 a0_3 a0_4 a0_5 a0_6 a0_7 a0_8 a0_9 a0_10)) else (turnstilelaw11_RecordValid.j0 k (decide ((a0_2.size : Int) ≤ 64)) false a0_0 a0_1 a0_2 a0_3 a0_4 a0_5 a0_6 a0_7 a0_8 a0_9 a0_10)) else (if a0_3 = 1 then (if a0_4 > 0 then (if a0_6 = 0 then (turnstilelaw11_RecordValid.j4 k false (a0_7 == 0) a0_0 a0_1 a0_2 a0_3 a0_4 a0_5 a0_6 a0_7 a0_8 a0_9 a0_10) else (turnstilelaw11_RecordValid.j4 k false false a0_0 a0_1 a0_2 a0_3 a0_4 a0_5 a0_6 a0_7 a0_8 a0_9 a0_10)) else (turnstilelaw11_RecordValid.j4 k false false a0_0 a0_1 a0_2 a0_3 a0_4 a0_5 a0_6 a0_7 a0_8 a0_9 a0_10)) else (turnstilelaw11_RecordValid.j4 k false false a0_0 a0_1 a0_2 a0_3 a0_4 a0_5 a0_6 a0_7 a0_8 a0_9 a0_10))) else (some false))
theorem turnstilelaw11_RecordValid.mono_l : ∀ k, (∀ y0 y1 y2 y3 y4 y5 y6 y7 y8 y9 y10 y11 y12, LeO (turnstilelaw11_RecordValid.j0 k y0 y1 y2 y3 y4 y5 y6 y7 y8 y9 y10 y11 y12) (turnstilelaw11_RecordValid.j0 (k + 1) y0 y1 y2 y3 y4 y5 y6 y7 y8 y9 y10 y11 y12)) ∧ (∀ y0 y1 y2 y3 y4 y5 y6 y7 y8 y9 y10 y11 y12 y13, LeO (turnstilelaw11_RecordValid.j1 k y0 y1 y2 y3 y4 y5 y6 y7 y8 y9 y10 y11 y12 y13) (turnstilelaw11_RecordValid.j1 (k + 1) y0 y1 y2 y3 y4 y5 y6 y7 y8 y9 y10 y11 y12 y13)) ∧ (∀ y0 y1 y2 y3 y4 y5 y6 y7 y8 y9 y10 y11 y12 y13 y14 y15 y16, LeO (turnstilelaw11_RecordValid.j2 k y0 y1 y2 y3 y4 y5 y6 y7 y8 y9 y10 y11 y12 y13 y14 y15 y16) (turnstilelaw11_RecordValid.j2 (k + 1) y0 y1 y2 y3 y4 y5 y6 y7 y8 y9 y10 y11 y12 y13 y14 y15 y16)) ∧ (∀ y0 y1 y2 y3 y4 y5 y6 y7 y8 y9 y10 y11, LeO (turnstilelaw11_RecordValid.j3 k y0 y1 y2 y3 y4 y5 y6 y7 y8 y9 y10 y11) (turnstilelaw11_RecordValid.j3 (k + 1) y0 y1 y2 y3 y4 y5 y6 y7 y8 y9 y10 y11)) ∧ (∀ y0 y1 y2 y3 y4 y5 y6 y7 y8 y9 y10 y11 y12, LeO (turnstilelaw11_RecordValid.j4 k y0 y1 y2 y3 y4 y5 y6 y7 y8 y9 y10 y11 y12) (turnstilelaw11_RecordValid.j4 (k + 1) y0 y1 y2 y3 y4 y5 y6 y7 y8 y9 y10 y11 y12)) ∧ (∀ y0 y1 y2 y3 y4 y5 y6 y7 y8 y9 y10 y11 y12 y13, LeO (turnstilelaw11_RecordValid.j5 k y0 y1 y2 y3 y4 y5 y6 y7 y8 y9 y10 y11 y12 y13) (turnstilelaw11_RecordValid.j5 (k + 1) y0 y1 y2 y3 y4 y5 y6 y7 y8 y9 y10 y11 y12 y13)) ∧ (∀ y0 y1 y2 y3 y4 y5 y6 y7 y8 y9 y10 y11 y12 y13 y14 y15 y16, LeO (turnstilelaw11_RecordValid.j6 k y0 y1 y2 y3 y4 y5 y6 y7 y8 y9 y10 y11 y12 y13 y14 y15 y16) (turnstilelaw11_RecordValid.j6 (k + 1) y0 y1 y2 y3 y4 y5 y6 y7 y8 y9 y10 y11 y12 y13 y14 y15 y16)) ∧ (∀ y0 y1 y2 y3 y4 y5 y6 y7 y8 y9 y10 y11, LeO (turnstilelaw11_RecordValid.j7 k y0 y1 y2 y3 y4 y5 y6 y7 y8 y9 y10 y11) (turnstilelaw11_RecordValid.j7 (k + 1) y0 y1 y2 y3 y4 y5 y6 y7 y8 y9 y10 y11))
  | 0 => ⟨fun _ _ _ _ _ _ _ _ _ _ _ _ _ r h => by simp [turnstilelaw11_RecordValid.j0] at h, fun _ _ _ _ _ _ _ _ _ _ _ _ _ _ r h => by simp [turnstilelaw11_RecordValid.j1] at h, fun _ _ _ _ _ _ _ _ _ _ _ _ _ _ _ _ _ r h => by simp [turnstilelaw11_RecordValid.j2] at h, fun _ _ _ _ _ _ _ _ _ _ _ _ r h => by simp [turnstilelaw11_RecordValid.j3] at h, fun _ _ _ _ _ _ _ _ _ _ _ _ _ r h => by simp [turnstilelaw11_RecordValid.j4] at h, fun _ _ _ _ _ _ _ _ _ _ _ _ _ _ r h => by simp [turnstilelaw11_RecordValid.j5] at h, fun _ _ _ _ _ _ _ _ _ _ _ _ _ _ _ _ _ r h => by simp [turnstilelaw11_RecordValid.j6] at h, fun _ _ _ _ _ _ _ _ _ _ _ _ r h => by simp [turnstilelaw11_RecordValid.j7] at h⟩
  | k + 1 => by
    obtain ⟨ih0, ih1, ih2, ih3, ih4, ih5, ih6, ih7⟩ := turnstilelaw11_RecordValid.mono_l k
    refine ⟨?_, ?_, ?_, ?_, ?_, ?_, ?_, ?_⟩
    · intro y0 y1 y2 y3 y4 y5 y6 y7 y8 y9 y10 y11 y12
      unfold turnstilelaw11_RecordValid.j0
      repeat' first
      | (with_reducible exact ih0 _ _ _ _ _ _ _ _ _ _ _ _ _)
      | (with_reducible exact ih1 _ _ _ _ _ _ _ _ _ _ _ _ _ _)
      | (with_reducible exact ih2 _ _ _ _ _ _ _ _ _ _ _ _ _ _ _ _ _)
      | (with_reducible exact ih3 _ _ _ _ _ _ _ _ _ _ _ _)
      | (with_reducible exact ih4 _ _ _ _ _ _ _ _ _ _ _ _ _)
      | (with_reducible exact ih5 _ _ _ _ _ _ _ _ _ _ _ _ _ _)
      | (with_reducible exact ih6 _ _ _ _ _ _ _ _ _ _ _ _ _ _ _ _ _)
      | (with_reducible exact ih7 _ _ _ _ _ _ _ _ _ _ _ _)
      | (with_reducible exact record_Valid.mono _ _ _ _ _ _ _ _ _ _ _ _)
      | (with_reducible exact turnstilelaw11_awake.mono _)
      | (with_reducible exact LeO.refl _)
      | (with_reducible exact LeO.none _)
      | (with_reducible refine LeO.ite ?_ ?_)
      | (with_reducible refine LeO.bind ?_ (fun _ => ?_))
      | exact ih0 _ _ _ _ _ _ _ _ _ _ _ _ _
      | exact ih1 _ _ _ _ _ _ _ _ _ _ _ _ _ _
      | exact ih2 _ _ _ _ _ _ _ _ _ _ _ _ _ _ _ _ _
      | exact ih3 _ _ _ _ _ _ _ _ _ _ _ _
      | exact ih4 _ _ _ _ _ _ _ _ _ _ _ _ _
      | exact ih5 _ _ _ _ _ _ _ _ _ _ _ _ _ _
      | exact ih6 _ _ _ _ _ _ _ _ _ _ _ _ _ _ _ _ _
      | exact ih7 _ _ _ _ _ _ _ _ _ _ _ _
      | exact record_Valid.mono _ _ _ _ _ _ _ _ _ _ _ _
      | exact turnstilelaw11_awake.mono _
      | exact LeO.none _
      | refine LeO.ite ?_ ?_
      | refine LeO.bind ?_ (fun _ => ?_)
    · intro y0 y1 y2 y3 y4 y5 y6 y7 y8 y9 y10 y11 y12 y13
      unfold turnstilelaw11_RecordValid.j1
      repeat' first
      | (with_reducible exact ih0 _ _ _ _ _ _ _ _ _ _ _ _ _)
      | (with_reducible exact ih1 _ _ _ _ _ _ _ _ _ _ _ _ _ _)
      | (with_reducible exact ih2 _ _ _ _ _ _ _ _ _ _ _ _ _ _ _ _ _)
      | (with_reducible exact ih3 _ _ _ _ _ _ _ _ _ _ _ _)
      | (with_reducible exact ih4 _ _ _ _ _ _ _ _ _ _ _ _ _)
      | (with_reducible exact ih5 _ _ _ _ _ _ _ _ _ _ _ _ _ _)
      | (with_reducible exact ih6 _ _ _ _ _ _ _ _ _ _ _ _ _ _ _ _ _)
      | (with_reducible exact ih7 _ _ _ _ _ _ _ _ _ _ _ _)
      | (with_reducible exact record_Valid.mono _ _ _ _ _ _ _ _ _ _ _ _)
      | (with_reducible exact turnstilelaw11_awake.mono _)
      | (with_reducible exact LeO.refl _)
      | (with_reducible exact LeO.none _)
      | (with_reducible refine LeO.ite ?_ ?_)
      | (with_reducible refine LeO.bind ?_ (fun _ => ?_))
      | exact ih0 _ _ _ _ _ _ _ _ _ _ _ _ _
      | exact ih1 _ _ _ _ _ _ _ _ _ _ _ _ _ _
      | exact ih2 _ _ _ _ _ _ _ _ _ _ _ _ _ _ _ _ _
      | exact ih3 _ _ _ _ _ _ _ _ _ _ _ _
      | exact ih4 _ _ _ _ _ _ _ _ _ _ _ _ _
      | exact ih5 _ _ _ _ _ _ _ _ _ _ _ _ _ _
      | exact ih6 _ _ _ _ _ _ _ _ _ _ _ _ _ _ _ _ _
      | exact ih7 _ _ _ _ _ _ _ _ _ _ _ _
      | exact record_Valid.mono _ _ _ _ _ _ _ _ _ _ _ _
      | exact turnstilelaw11_awake.mono _
      | exact LeO.none _
      | refine LeO.ite ?_ ?_
      | refine LeO.bind ?_ (fun _ => ?_)
    · intro y0 y1 y2 y3 y4 y5 y6 y7 y8 y9 y10 y11 y12 y13 y14 y15 y16
      unfold turnstilelaw11_RecordValid.j2
      repeat' first
      | (with_reducible exact ih0 _ _ _ _ _ _ _ _ _ _ _ _ _)
      | (with_reducible exact ih1 _ _ _ _ _ _ _ _ _ _ _ _ _ _)
      | (with_reducible exact ih2 _ _ _ _ _ _ _ _ _ _ _ _ _ _ _ _ _)
      | (with_reducible exact ih3 _ _ _ _ _ _ _ _ _ _ _ _)
      | (with_reducible exact ih4 _ _ _ _ _ _ _ _ _ _ _ _ _)
      | (with_reducible exact ih5 _ _ _ _ _ _ _ _ _ _ _ _ _ _)
      | (with_reducible exact ih6 _ _ _ _ _ _ _ _ _ _ _ _ _ _ _ _ _)
      | (with_reducible exact ih7 _ _ _ _ _ _ _ _ _ _ _ _)
      | (with_reducible exact record_Valid.mono _ _ _ _ _ _ _ _ _ _ _ _)
      | (with_reducible exact turnstilelaw11_awake.mono _)
      | (with_reducible exact LeO.refl _)
      | (with_reducible exact LeO.none _)
      | (with_reducible refine LeO.ite ?_ ?_)
      | (with_reducible refine LeO.bind ?_ (fun _ => ?_))
      | exact ih0 _ _ _ _ _ _ _ _ _ _ _ _ _
      | exact ih1 _ _ _ _ _ _ _ _ _ _ _ _ _ _
      | exact ih2 _ _ _ _ _ _ _ _ _ _ _ _ _ _ _ _ _
      | exact ih3 _ _ _ _ _ _ _ _ _ _ _ _
      | exact ih4 _ _ _ _ _ _ _ _ _ _ _ _ _
      | exact ih5 _ _ _ _ _ _ _ _ _ _ _ _ _ _
      | exact ih6 _ _ _ _ _ _ _ _ _ _ _ _ _ _ _ _ _
      | exact ih7 _ _ _ _ _ _ _ _ _ _ _ _
      | exact record_Valid.mono _ _ _ _ _ _ _ _ _ _ _ _
      | exact turnstilelaw11_awake.mono _
      | exact LeO.none _
      | refine LeO.ite ?_ ?_
      | refine LeO.bind ?_ (fun _ => ?_)
    · intro y0 y1 y2 y3 y4 y5 y6 y7 y8 y9 y10 y11
      unfold turnstilelaw11_RecordValid.j3
      repeat' first
      | (with_reducible exact ih0 _ _ _ _ _ _ _ _ _ _ _ _ _)
      | (with_reducible exact ih1 _ _ _ _ _ _ _ _ _ _ _ _ _ _)
      | (with_reducible exact ih2 _ _ _ _ _ _ _ _ _ _ _ _ _ _ _ _ _)
      | (with_reducible exact ih3 _ _ _ _ _ _ _ _ _ _ _ _)
      | (with_reducible exact ih4 _ _ _ _ _ _ _ _ _ _ _ _ _)
      | (with_reducible exact ih5 _ _ _ _ _ _ _ _ _ _ _ _ _ _)
      | (with_reducible exact ih6 _ _ _ _ _ _ _ _ _ _ _ _ _ _ _ _ _)
      | (with_reducible exact ih7 _ _ _ _ _ _ _ _ _ _ _ _)
      | (with_reducible exact record_Valid.mono _ _ _ _ _ _ _ _ _ _ _ _)
      | (with_reducible exact turnstilelaw11_awake.mono _)
      | (with_reducible exact LeO.refl _)
      | (with_reducible exact LeO.none _)
      | (with_reducible refine LeO.ite ?_ ?_)
      | (with_reducible refine LeO.bind ?_ (fun _ => ?_))
      | exact ih0 _ _ _ _ _ _ _ _ _ _ _ _ _
      | exact ih1 _ _ _ _ _ _ _ _ _ _ _ _ _ _
      | exact ih2 _ _ _ _ _ _ _ _ _ _ _ _ _ _ _ _ _
      | exact ih3 _ _ _ _ _ _ _ _ _ _ _ _
      | exact ih4 _ _ _ _ _ _ _ _ _ _ _ _ _
      | exact ih5 _ _ _ _ _ _ _ _ _ _ _ _ _ _
      | exact ih6 _ _ _ _ _ _ _ _ _ _ _ _ _ _ _ _ _
      | exact ih7 _ _ _ _ _ _ _ _ _ _ _ _
      | exact record_Valid.mono _ _ _ _ _ _ _ _ _ _ _ _
      | exact turnstilelaw11_awake.mono _
      | exact LeO.none _
      | refine LeO.ite ?_ ?_
      | refine LeO.bind ?_ (fun _ => ?_)
    · intro y0 y1 y2 y3 y4 y5 y6 y7 y8 y9 y10 y11 y12
      unfold turnstilelaw11_RecordValid.j4
      repeat' first
      | (with_reducible exact ih0 _ _ _ _ _ _ _ _ _ _ _ _ _)
      | (with_reducible exact ih1 _ _ _ _ _ _ _ _ _ _ _ _ _ _)
      | (with_reducible exact ih2 _ _ _ _ _ _ _ _ _ _ _ _ _ _ _ _ _)
      | (with_reducible exact ih3 _ _ _ _ _ _ _ _ _ _ _ _)
      | (with_reducible exact ih4 _ _ _ _ _ _ _ _ _ _ _ _ _)
      | (with_reducible exact ih5 _ _ _ _ _ _ _ _ _ _ _ _ _ _)
      | (with_reducible exact ih6 _ _ _ _ _ _ _ _ _ _ _ _ _ _ _ _ _)
      | (with_reducible exact ih7 _ _ _ _ _ _ _ _ _ _ _ _)
      | (with_reducible exact record_Valid.mono _ _ _ _ _ _ _ _ _ _ _ _)
      | (with_reducible exact turnstilelaw11_awake.mono _)
      | (with_reducible exact LeO.refl _)
      | (with_reducible exact LeO.none _)
      | (with_reducible refine LeO.ite ?_ ?_)
      | (with_reducible refine LeO.bind ?_ (fun _ => ?_))
      | exact ih0 _ _ _ _ _ _ _ _ _ _ _ _ _
      | exact ih1 _ _ _ _ _ _ _ _ _ _ _ _ _ _
      | exact ih2 _ _ _ _ _ _ _ _ _ _ _ _ _ _ _ _ _
      | exact ih3 _ _ _ _ _ _ _ _ _ _ _ _
      | exact ih4 _ _ _ _ _ _ _ _ _ _ _ _ _
      | exact ih5 _ _ _ _ _ _ _ _ _ _ _ _ _ _
      | exact ih6 _ _ _ _ _ _ _ _ _ _ _ _ _ _ _ _ _
      | exact ih7 _ _ _ _ _ _ _ _ _ _ _ _
      | exact record_Valid.mono _ _ _ _ _ _ _ _ _ _ _ _
      | exact turnstilelaw11_awake.mono _
      | exact LeO.none _
      | refine LeO.ite ?_ ?_
      | refine LeO.bind ?_ (fun _ => ?_)
    · intro y0 y1 y2 y3 y4 y5 y6 y7 y8 y9 y10 y11 y12 y13
      unfold turnstilelaw11_RecordValid.j5
      repeat' first
      | (with_reducible exact ih0 _ _ _ _ _ _ _ _ _ _ _ _ _)
      | (with_reducible exact ih1 _ _ _ _ _ _ _ _ _ _ _ _ _ _)
      | (with_reducible exact ih2 _ _ _ _ _ _ _ _ _ _ _ _ _ _ _ _ _)
      | (with_reducible exact ih3 _ _ _ _ _ _ _ _ _ _ _ _)
      | (with_reducible exact ih4 _ _ _ _ _ _ _ _ _ _ _ _ _)
      | (with_reducible exact ih5 _ _ _ _ _ _ _ _ _ _ _ _ _ _)
      | (with_reducible exact ih6 _ _ _ _ _ _ _ _ _ _ _ _ _ _ _ _ _)
      | (with_reducible exact ih7 _ _ _ _ _ _ _ _ _ _ _ _)
      | (with_reducible exact record_Valid.mono _ _ _ _ _ _ _ _ _ _ _ _)
      | (with_reducible exact turnstilelaw11_awake.mono _)
      | (with_reducible exact LeO.refl _)
      | (with_reducible exact LeO.none _)
      | (with_reducible refine LeO.ite ?_ ?_)
      | (with_reducible refine LeO.bind ?_ (fun _ => ?_))
      | exact ih0 _ _ _ _ _ _ _ _ _ _ _ _ _
      | exact ih1 _ _ _ _ _ _ _ _ _ _ _ _ _ _
      | exact ih2 _ _ _ _ _ _ _ _ _ _ _ _ _ _ _ _ _
      | exact ih3 _ _ _ _ _ _ _ _ _ _ _ _
      | exact ih4 _ _ _ _ _ _ _ _ _ _ _ _ _
      | exact ih5 _ _ _ _ _ _ _ _ _ _ _ _ _ _
      | exact ih6 _ _ _ _ _ _ _ _ _ _ _ _ _ _ _ _ _
      | exact ih7 _ _ _ _ _ _ _ _ _ _ _ _
      | exact record_Valid.mono _ _ _ _ _ _ _ _ _ _ _ _
      | exact turnstilelaw11_awake.mono _
      | exact LeO.none _
      | refine LeO.ite ?_ ?_
      | refine LeO.bind ?_ (fun _ => ?_)
    · intro y0 y1 y2 y3 y4 y5 y6 y7 y8 y9 y10 y11 y12 y13 y14 y15 y16
      unfold turnstilelaw11_RecordValid.j6
      repeat' first
      | (with_reducible exact ih0 _ _ _ _ _ _ _ _ _ _ _ _ _)
      | (with_reducible exact ih1 _ _ _ _ _ _ _ _ _ _ _ _ _ _)
      | (with_reducible exact ih2 _ _ _ _ _ _ _ _ _ _ _ _ _ _ _ _ _)
      | (with_reducible exact ih3 _ _ _ _ _ _ _ _ _ _ _ _)
      | (with_reducible exact ih4 _ _ _ _ _ _ _ _ _ _ _ _ _)
      | (with_reducible exact ih5 _ _ _ _ _ _ _ _ _ _ _ _ _ _)
      | (with_reducible exact ih6 _ _ _ _ _ _ _ _ _ _ _ _ _ _ _ _ _)
      | (with_reducible exact ih7 _ _ _ _ _ _ _ _ _ _ _ _)
      | (with_reducible exact record_Valid.mono _ _ _ _ _ _ _ _ _ _ _ _)
      | (with_reducible exact turnstilelaw11_awake.mono _)
      | (with_reducible exact LeO.refl _)
      | (with_reducible exact LeO.none _)
      | (with_reducible refine LeO.ite ?_ ?_)
      | (with_reducible refine LeO.bind ?_ (fun _ => ?_))
      | exact ih0 _ _ _ _ _ _ _ _ _ _ _ _ _
      | exact ih1 _ _ _ _ _ _ _ _ _ _ _ _ _ _
      | exact ih2 _ _ _ _ _ _ _ _ _ _ _ _ _ _ _ _ _
      | exact ih3 _ _ _ _ _ _ _ _ _ _ _ _
      | exact ih4 _ _ _ _ _ _ _ _ _ _ _ _ _
      | exact ih5 _ _ _ _ _ _ _ _ _ _ _ _ _ _
      | exact ih6 _ _ _ _ _ _ _ _ _ _ _ _ _ _ _ _ _
      | exact ih7 _ _ _ _ _ _ _ _ _ _ _ _
      | exact record_Valid.mono _ _ _ _ _ _ _ _ _ _ _ _
      | exact turnstilelaw11_awake.mono _
      | exact LeO.none _
      | refine LeO.ite ?_ ?_
      | refine LeO.bind ?_ (fun _ => ?_)
    · intro y0 y1 y2 y3 y4 y5 y6 y7 y8 y9 y10 y11
      unfold turnstilelaw11_RecordValid.j7
      repeat' first
      | (with_reducible exact ih0 _ _ _ _ _ _ _ _ _ _ _ _ _)
      | (with_reducible exact ih1 _ _ _ _ _ _ _ _ _ _ _ _ _ _)
      | (with_reducible exact ih2 _ _ _ _ _ _ _ _ _ _ _ _ _ _ _ _ _)
      | (with_reducible exact ih3 _ _ _ _ _ _ _ _ _ _ _ _)
      | (with_reducible exact ih4 _ _ _ _ _ _ _ _ _ _ _ _ _)
      | (with_reducible exact ih5 _ _ _ _ _ _ _ _ _ _ _ _ _ _)
      | (with_reducible exact ih6 _ _ _ _ _ _ _ _ _ _ _ _ _ _ _ _ _)
      | (with_reducible exact ih7 _ _ _ _ _ _ _ _ _ _ _ _)
      | (with_reducible exact record_Valid.mono _ _ _ _ _ _ _ _ _ _ _ _)
      | (with_reducible exact turnstilelaw11_awake.mono _)
      | (with_reducible exact LeO.refl _)
      | (with_reducible exact LeO.none _)
      | (with_reducible refine LeO.ite ?_ ?_)
      | (with_reducible refine LeO.bind ?_ (fun _ => ?_))
      | exact ih0 _ _ _ _ _ _ _ _ _ _ _ _ _
      | exact ih1 _ _ _ _ _ _ _ _ _ _ _ _ _ _
      | exact ih2 _ _ _ _ _ _ _ _ _ _ _ _ _ _ _ _ _
      | exact ih3 _ _ _ _ _ _ _ _ _ _ _ _
      | exact ih4 _ _ _ _ _ _ _ _ _ _ _ _ _
      | exact ih5 _ _ _ _ _ _ _ _ _ _ _ _ _ _
      | exact ih6 _ _ _ _ _ _ _ _ _ _ _ _ _ _ _ _ _
      | exact ih7 _ _ _ _ _ _ _ _ _ _ _ _
      | exact record_Valid.mono _ _ _ _ _ _ _ _ _ _ _ _
      | exact turnstilelaw11_awake.mono _
      | exact LeO.none _
      | refine LeO.ite ?_ ?_
      | refine LeO.bind ?_ (fun _ => ?_)
theorem turnstilelaw11_RecordValid.mono : ∀ a0 a1 a2 a3 a4 a5 a6 a7 a8 a9 a10 k, LeO (turnstilelaw11_RecordValid.f k a0 a1 a2 a3 a4 a5 a6 a7 a8 a9 a10) (turnstilelaw11_RecordValid.f (k + 1) a0 a1 a2 a3 a4 a5 a6 a7 a8 a9 a10) := by
  intro a0 a1 a2 a3 a4 a5 a6 a7 a8 a9 a10 k
  obtain ⟨ih0, ih1, ih2, ih3, ih4, ih5, ih6, ih7⟩ := turnstilelaw11_RecordValid.mono_l k
  unfold turnstilelaw11_RecordValid.f
  repeat' first
      | (with_reducible exact ih0 _ _ _ _ _ _ _ _ _ _ _ _ _)
      | (with_reducible exact ih1 _ _ _ _ _ _ _ _ _ _ _ _ _ _)
      | (with_reducible exact ih2 _ _ _ _ _ _ _ _ _ _ _ _ _ _ _ _ _)
      | (with_reducible exact ih3 _ _ _ _ _ _ _ _ _ _ _ _)
      | (with_reducible exact ih4 _ _ _ _ _ _ _ _ _ _ _ _ _)
      | (with_reducible exact ih5 _ _ _ _ _ _ _ _ _ _ _ _ _ _)
      | (with_reducible exact ih6 _ _ _ _ _ _ _ _ _ _ _ _ _ _ _ _ _)
      | (with_reducible exact ih7 _ _ _ _ _ _ _ _ _ _ _ _)
      | (with_reducible exact record_Valid.mono _ _ _ _ _ _ _ _ _ _ _ _)
      | (with_reducible exact turnstilelaw11_awake.mono _)
      | (with_reducible exact LeO.refl _)
      | (with_reducible exact LeO.none _)
      | (with_reducible refine LeO.ite ?_ ?_)
      | (with_reducible refine LeO.bind ?_ (fun _ => ?_))
      | exact ih0 _ _ _ _ _ _ _ _ _ _ _ _ _
      | exact ih1 _ _ _ _ _ _ _ _ _ _ _ _ _ _
      | exact ih2 _ _ _ _ _ _ _ _ _ _ _ _ _ _ _ _ _
      | exact ih3 _ _ _ _ _ _ _ _ _ _ _ _
      | exact ih4 _ _ _ _ _ _ _ _ _ _ _ _ _
      | exact ih5 _ _ _ _ _ _ _ _ _ _ _ _ _ _
      | exact ih6 _ _ _ _ _ _ _ _ _ _ _ _ _ _ _ _ _
      | exact ih7 _ _ _ _ _ _ _ _ _ _ _ _
      | exact record_Valid.mono _ _ _ _ _ _ _ _ _ _ _ _
      | exact turnstilelaw11_awake.mono _
      | exact LeO.none _
      | refine LeO.ite ?_ ?_
      | refine LeO.bind ?_ (fun _ => ?_)
set_option maxHeartbeats 8000000 in
set_option maxRecDepth 100000 in
theorem turnstilelaw11_RecordValid.calls (k : Nat) [Errs] (a0_0 : Int) (a0_1 : Int) (a0_2 : ByteArray) (a0_3 : Int) (a0_4 : Int) (a0_5 : Int) (a0_6 : Int) (a0_7 : Int) (a0_8 : Int) (a0_9 : Int) (a0_10 : Int) (r : Bool) (w : World) (hE : Sent w) (h : turnstilelaw11_RecordValid.f k a0_0 a0_1 a0_2 a0_3 a0_4 a0_5 a0_6 a0_7 a0_8 a0_9 a0_10 = some r) :
    Calls Tryd.prog 7 #[.agg #[.int .i64 a0_0, .int .u64 a0_1, .string a0_2, .int .i64 a0_3, .int .u64 a0_4, .int .u64 a0_5, .int .u64 a0_6, .int .u64 a0_7, .int .u64 a0_8, .int .u64 a0_9, .int .u64 a0_10]] w fun e w' => e = .returned (.bool r) ∧ Below w.heap.size w w' := by
  have hu32 := Tryd.underlying32
  have hu28 := Tryd.underlying28
  have hu30 := Tryd.underlying30
  have HERR := Aside0.mk hE
  clear hE
  have HB := Aside0.mk (Below.refl w.heap.size w)
  have H : ((turnstilelaw11_awake.f k).bind fun t545 => (if t545 = true then (if (a0_2.size : Int) ≥ 1 then (if a0_3 = 1 then (if a0_4 > 0 then (if a0_6 = 0 then (turnstilelaw11_RecordValid.j0 k (decide ((a0_2.size : Int) ≤ 64)) (a0_7 == 0) a0_0 a0_1 a0_2 a0_3 a0_4 a0_5 a0_6 a0_7 a0_8 a0_9 a0_10) else (turnstilelaw11_RecordValid.j0 k (decide ((a0_2.size : Int) ≤ 64)) false a0_0 a0_1 a0_2 a0_3 a0_4 a0_5 a0_6 a0_7 a0_8 a0_9 a0_10)) else (turnstilelaw11_RecordValid.j0 k (decide ((a0_2.size : Int) ≤ 64)) false a0_0 a0_1 a0_2 a0_3 a0_4 a0_5 a0_6 a0_7 a0_8 a0_9 a0_10)) else (turnstilelaw11_RecordValid.j0 k (decide ((a0_2.size : Int) ≤ 64)) false a0_0 a0_1 a0_2 a0_3 a0_4 a0_5 a0_6 a0_7 a0_8 a0_9 a0_10)) else (if a0_3 = 1 then (if a0_4 > 0 then (if a0_6 = 0 then (turnstilelaw11_RecordValid.j4 k false (a0_7 == 0) a0_0 a0_1 a0_2 a0_3 a0_4 a0_5 a0_6 a0_7 a0_8 a0_9 a0_10) else (turnstilelaw11_RecordValid.j4 k false false a0_0 a0_1 a0_2 a0_3 a0_4 a0_5 a0_6 a0_7 a0_8 a0_9 a0_10)) else (turnstilelaw11_RecordValid.j4 k false false a0_0 a0_1 a0_2 a0_3 a0_4 a0_5 a0_6 a0_7 a0_8 a0_9 a0_10)) else (turnstilelaw11_RecordValid.j4 k false false a0_0 a0_1 a0_2 a0_3 a0_4 a0_5 a0_6 a0_7 a0_8 a0_9 a0_10))) else (some false))) = some r := h
  clear h
  replace H := Option.bind_eq_some_iff.mp H
  obtain ⟨t545, A20, H⟩ := H
  replace H : (if t545 = true then (if (a0_2.size : Int) ≥ 1 then (if a0_3 = 1 then (if a0_4 > 0 then (if a0_6 = 0 then (turnstilelaw11_RecordValid.j0 k (decide ((a0_2.size : Int) ≤ 64)) (a0_7 == 0) a0_0 a0_1 a0_2 a0_3 a0_4 a0_5 a0_6 a0_7 a0_8 a0_9 a0_10) else (turnstilelaw11_RecordValid.j0 k (decide ((a0_2.size : Int) ≤ 64)) false a0_0 a0_1 a0_2 a0_3 a0_4 a0_5 a0_6 a0_7 a0_8 a0_9 a0_10)) else (turnstilelaw11_RecordValid.j0 k (decide ((a0_2.size : Int) ≤ 64)) false a0_0 a0_1 a0_2 a0_3 a0_4 a0_5 a0_6 a0_7 a0_8 a0_9 a0_10)) else (turnstilelaw11_RecordValid.j0 k (decide ((a0_2.size : Int) ≤ 64)) false a0_0 a0_1 a0_2 a0_3 a0_4 a0_5 a0_6 a0_7 a0_8 a0_9 a0_10)) else (if a0_3 = 1 then (if a0_4 > 0 then (if a0_6 = 0 then (turnstilelaw11_RecordValid.j4 k false (a0_7 == 0) a0_0 a0_1 a0_2 a0_3 a0_4 a0_5 a0_6 a0_7 a0_8 a0_9 a0_10) else (turnstilelaw11_RecordValid.j4 k false false a0_0 a0_1 a0_2 a0_3 a0_4 a0_5 a0_6 a0_7 a0_8 a0_9 a0_10)) else (turnstilelaw11_RecordValid.j4 k false false a0_0 a0_1 a0_2 a0_3 a0_4 a0_5 a0_6 a0_7 a0_8 a0_9 a0_10)) else (turnstilelaw11_RecordValid.j4 k false false a0_0 a0_1 a0_2 a0_3 a0_4 a0_5 a0_6 a0_7 a0_8 a0_9 a0_10))) else (some false)) = some r := H
  have A2 := Aside0.mk A20
  clear A20
  by_cases c3 : t545 = true
  · subst c3
    have H1 : (if (a0_2.size : Int) ≥ 1 then (if a0_3 = 1 then (if a0_4 > 0 then (if a0_6 = 0 then (turnstilelaw11_RecordValid.j0 k (decide ((a0_2.size : Int) ≤ 64)) (a0_7 == 0) a0_0 a0_1 a0_2 a0_3 a0_4 a0_5 a0_6 a0_7 a0_8 a0_9 a0_10) else (turnstilelaw11_RecordValid.j0 k (decide ((a0_2.size : Int) ≤ 64)) false a0_0 a0_1 a0_2 a0_3 a0_4 a0_5 a0_6 a0_7 a0_8 a0_9 a0_10)) else (turnstilelaw11_RecordValid.j0 k (decide ((a0_2.size : Int) ≤ 64)) false a0_0 a0_1 a0_2 a0_3 a0_4 a0_5 a0_6 a0_7 a0_8 a0_9 a0_10)) else (turnstilelaw11_RecordValid.j0 k (decide ((a0_2.size : Int) ≤ 64)) false a0_0 a0_1 a0_2 a0_3 a0_4 a0_5 a0_6 a0_7 a0_8 a0_9 a0_10)) else (if a0_3 = 1 then (if a0_4 > 0 then (if a0_6 = 0 then (turnstilelaw11_RecordValid.j4 k false (a0_7 == 0) a0_0 a0_1 a0_2 a0_3 a0_4 a0_5 a0_6 a0_7 a0_8 a0_9 a0_10) else (turnstilelaw11_RecordValid.j4 k false false a0_0 a0_1 a0_2 a0_3 a0_4 a0_5 a0_6 a0_7 a0_8 a0_9 a0_10)) else (turnstilelaw11_RecordValid.j4 k false false a0_0 a0_1 a0_2 a0_3 a0_4 a0_5 a0_6 a0_7 a0_8 a0_9 a0_10)) else (turnstilelaw11_RecordValid.j4 k false false a0_0 a0_1 a0_2 a0_3 a0_4 a0_5 a0_6 a0_7 a0_8 a0_9 a0_10))) = some r := by rw [if_pos rfl] at H; exact H
    clear H
    have H := H1
    clear H1
    by_cases c4 : (a0_2.size : Int) ≥ 1
    · rw [if_pos c4] at H
      have c4b0 : decide (1 ≤ (a0_2.size : Int)) = true := decide_eq_true c4
      have c4b1 : decide (1 ≤ a0_2.size) = true := decide_eq_true (by omega)
      clear c4
      have HC5 := Aside0.mk H
      clear H
      go_enter Tryd.func7, Tryd.ntmps7
      go_upto_region 5 with (first | ((with_reducible refine gate_dst (N := 1) rfl ?_); (try (refine gate_guard (by rfl) ?_; dsimp only)); refine bx 1 #[.int .i64 a0_0, .int .u64 a0_1, .string a0_2, .int .i64 a0_3, .int .u64 a0_4, .int .u64 a0_5, .int .u64 a0_6, .int .u64 a0_7, .int .u64 a0_8, .int .u64 a0_9, .int .u64 a0_10] 32 ?_; intro gb544 hg w6 hbox hb; have n0_ := bs HB hb; have n1_ := Aside0.mk (hbox); have n2_ := sz HB hg; have n3_ := sz HB hg; clear HB; have HB := n0_; have BK544 := n1_; have GW544 := n2_; have GE544 := n3_; clear n0_ n1_ n2_ n3_; clear hb hbox hg) | ((with_reducible refine gate_callee (f := 13) rfl ?_); refine gl (some 11) Tryd.func13 #[] ?_; (with_reducible refine (turnstilelaw11_awake.calls k  true _ ?side1 A2.out).mono ?_); (case side1 => exact (HERR.out.below (bw HB))); rintro e w7 ⟨rfl, hb⟩; refine ⟨_, rfl, ?_⟩; have n0_ := bb BK544 hb; have n1_ := bs HB hb; clear BK544; clear HB; have BK544 := n0_; have HB := n1_; clear n0_ n1_; (try clear hb); (try clear hb2); (try clear hk); (try clear hi); obtain ⟨hcz8_0, hcz8_1, hcz8_2, hcz8_3, hcz8_4, hcz8_5, hcz8_6, hcz8_7, hcz8_8, hcz8_9, hcz8_10, hfz8_0, hfz8_1, hfz8_2, hfz8_3, hfz8_4, hfz8_5, hfz8_6, hfz8_7, hfz8_8, hfz8_9, hfz8_10⟩ := bc11 BK544))
      (try simp only [Act.put, List.setIfInBounds_toArray, List.set_cons_zero, List.set_cons_succ])
      go_cut [4, 5] (fun v4 v5 wc => ∃ (kq : Nat) (x4_4 : Bool) (x5_4 : Bool), v4 = .bool x4_4 ∧ v5 = .bool x5_4 ∧ Aside0 (turnstilelaw11_RecordValid.j0 kq x4_4 x5_4 a0_0 a0_1 a0_2 a0_3 a0_4 a0_5 a0_6 a0_7 a0_8 a0_9 a0_10 = some r) ∧ Aside0 (kq ≤ k) ∧ Aside0 (wc.heap[gb544]? = some (.cells #[.int .i64 a0_0, .int .u64 a0_1, .string a0_2, .int .i64 a0_3, .int .u64 a0_4, .int .u64 a0_5, .int .u64 a0_6, .int .u64 a0_7, .int .u64 a0_8, .int .u64 a0_9, .int .u64 a0_10] 32 (0, 0))) ∧ Aside0 (Below w.heap.size w wc))
      case first =>
        have H := HC5.out
        clear HC5
        by_cases c9 : a0_3 = 1
        · rw [if_pos c9] at H
          have c9b0 : (a0_3 == 1) = true := beq_iff_eq.mpr c9
          have c9b1 : (a0_3 != 1) = false := bne_eq_false_iff_eq.mpr c9
          clear c9
          (first | rw [c9b0] | (simp only [i64_w, i32_w]; rw [c9b0]) | skip)
          by_cases c10 : a0_4 > 0
          · rw [if_pos c10] at H
            have c10b0 : decide (0 < a0_4) = true := decide_eq_true c10
            clear c10
            by_cases c11 : a0_6 = 0
            · rw [if_pos c11] at H
              have c11b0 : (a0_6 == 0) = true := beq_iff_eq.mpr c11
              have c11b1 : (a0_6 != 0) = false := bne_eq_false_iff_eq.mpr c11
              clear c11
              have H' := Aside0.mk H
              clear H
              obtain ⟨hcz12_0, hcz12_1, hcz12_2, hcz12_3, hcz12_4, hcz12_5, hcz12_6, hcz12_7, hcz12_8, hcz12_9, hcz12_10, hfz12_0, hfz12_1, hfz12_2, hfz12_3, hfz12_4, hfz12_5, hfz12_6, hfz12_7, hfz12_8, hfz12_9, hfz12_10⟩ := bc11 BK544
              go_wp2
              go_meet
              case rel => exact ⟨_, (decide ((a0_2.size : Int) ≤ 64)), ((a0_7 == 0)), rs, rs, H', ⟨by first | omega | exact Nat.le_refl _⟩, ⟨bk BK544⟩, ⟨bw HB⟩⟩
            · rw [if_neg c11] at H
              have c11b0 : (a0_6 == 0) = false := beq_eq_false_iff_ne.mpr c11
              have c11b1 : (a0_6 != 0) = true := bne_iff_ne.mpr c11
              have H' := Aside0.mk H
              clear H
              obtain ⟨hcz13_0, hcz13_1, hcz13_2, hcz13_3, hcz13_4, hcz13_5, hcz13_6, hcz13_7, hcz13_8, hcz13_9, hcz13_10, hfz13_0, hfz13_1, hfz13_2, hfz13_3, hfz13_4, hfz13_5, hfz13_6, hfz13_7, hfz13_8, hfz13_9, hfz13_10⟩ := bc11 BK544
              go_wp2
              go_meet
              case rel => exact ⟨_, (decide ((a0_2.size : Int) ≤ 64)), (false), rs, rs, H', ⟨by first | omega | exact Nat.le_refl _⟩, ⟨bk BK544⟩, ⟨bw HB⟩⟩
          · rw [if_neg c10] at H
            have c10b0 : decide (0 < a0_4) = false := decide_eq_false c10
            clear c10
            have H' := Aside0.mk H
            clear H
            obtain ⟨hcz14_0, hcz14_1, hcz14_2, hcz14_3, hcz14_4, hcz14_5, hcz14_6, hcz14_7, hcz14_8, hcz14_9, hcz14_10, hfz14_0, hfz14_1, hfz14_2, hfz14_3, hfz14_4, hfz14_5, hfz14_6, hfz14_7, hfz14_8, hfz14_9, hfz14_10⟩ := bc11 BK544
            go_wp2
            go_meet
            case rel => exact ⟨_, (decide ((a0_2.size : Int) ≤ 64)), (false), rs, rs, H', ⟨by first | omega | exact Nat.le_refl _⟩, ⟨bk BK544⟩, ⟨bw HB⟩⟩
        · rw [if_neg c9] at H
          have c9b0 : (a0_3 == 1) = false := beq_eq_false_iff_ne.mpr c9
          have c9b1 : (a0_3 != 1) = true := bne_iff_ne.mpr c9
          (first | rw [c9b0] | (simp only [i64_w, i32_w]; rw [c9b0]) | skip)
          have H' := Aside0.mk H
          clear H
          obtain ⟨hcz15_0, hcz15_1, hcz15_2, hcz15_3, hcz15_4, hcz15_5, hcz15_6, hcz15_7, hcz15_8, hcz15_9, hcz15_10, hfz15_0, hfz15_1, hfz15_2, hfz15_3, hfz15_4, hfz15_5, hfz15_6, hfz15_7, hfz15_8, hfz15_9, hfz15_10⟩ := bc11 BK544
          go_wp2
          go_meet
          case rel => exact ⟨_, (decide ((a0_2.size : Int) ≤ 64)), (false), rs, rs, H', ⟨by first | omega | exact Nat.le_refl _⟩, ⟨bk BK544⟩, ⟨bw HB⟩⟩
      case rest => as_aux_lemma =>
        clear HC5
        try clear c1
        try clear p2
        try clear c3
        try clear c4
        try clear c4b0
        try clear c4b1
        try clear c7
        try clear c9
        try clear c9b0
        try clear c9b1
        try clear c10
        try clear c10b0
        try clear c11
        try clear c11b0
        try clear c11b1
        try clear c13
        try clear hcz12_0
        try clear hcz12_1
        try clear hcz12_10
        try clear hcz12_2
        try clear hcz12_3
        try clear hcz12_4
        try clear hcz12_5
        try clear hcz12_6
        try clear hcz12_7
        try clear hcz12_8
        try clear hcz12_9
        try clear hcz13_0
        try clear hcz13_1
        try clear hcz13_10
        try clear hcz13_2
        try clear hcz13_3
        try clear hcz13_4
        try clear hcz13_5
        try clear hcz13_6
        try clear hcz13_7
        try clear hcz13_8
        try clear hcz13_9
        try clear hcz14_0
        try clear hcz14_1
        try clear hcz14_10
        try clear hcz14_2
        try clear hcz14_3
        try clear hcz14_4
        try clear hcz14_5
        try clear hcz14_6
        try clear hcz14_7
        try clear hcz14_8
        try clear hcz14_9
        try clear hcz15_0
        try clear hcz15_1
        try clear hcz15_10
        try clear hcz15_2
        try clear hcz15_3
        try clear hcz15_4
        try clear hcz15_5
        try clear hcz15_6
        try clear hcz15_7
        try clear hcz15_8
        try clear hcz15_9
        try clear hcz8_0
        try clear hcz8_1
        try clear hcz8_10
        try clear hcz8_2
        try clear hcz8_3
        try clear hcz8_4
        try clear hcz8_5
        try clear hcz8_6
        try clear hcz8_7
        try clear hcz8_8
        try clear hcz8_9
        try clear hfz12_0
        try clear hfz12_1
        try clear hfz12_10
        try clear hfz12_2
        try clear hfz12_3
        try clear hfz12_4
        try clear hfz12_5
        try clear hfz12_6
        try clear hfz12_7
        try clear hfz12_8
        try clear hfz12_9
        try clear hfz13_0
        try clear hfz13_1
        try clear hfz13_10
        try clear hfz13_2
        try clear hfz13_3
        try clear hfz13_4
        try clear hfz13_5
        try clear hfz13_6
        try clear hfz13_7
        try clear hfz13_8
        try clear hfz13_9
        try clear hfz14_0
        try clear hfz14_1
        try clear hfz14_10
        try clear hfz14_2
        try clear hfz14_3
        try clear hfz14_4
        try clear hfz14_5
        try clear hfz14_6
        try clear hfz14_7
        try clear hfz14_8
        try clear hfz14_9
        try clear hfz15_0
        try clear hfz15_1
        try clear hfz15_10
        try clear hfz15_2
        try clear hfz15_3
        try clear hfz15_4
        try clear hfz15_5
        try clear hfz15_6
        try clear hfz15_7
        try clear hfz15_8
        try clear hfz15_9
        try clear hfz8_0
        try clear hfz8_1
        try clear hfz8_10
        try clear hfz8_2
        try clear hfz8_3
        try clear hfz8_4
        try clear hfz8_5
        try clear hfz8_6
        try clear hfz8_7
        try clear hfz8_8
        try clear hfz8_9
        obtain ⟨kq, x4_4, x5_4, rfl, rfl, HA, HJ4, BK544, HB⟩ := hcut
        cases kq with
        | zero => exact absurd HA.out (by simp [turnstilelaw11_RecordValid.j0])
        | succ kj4 =>
          have H := HA.out
          clear HA
          simp only [turnstilelaw11_RecordValid.j0] at H
          have HC16 := Aside0.mk H
          clear H
          go_upto_region 6 with (fail)
          go_cut [6] (fun v6 wc => ∃ (kq : Nat) (x6_15 : Bool), v6 = .bool x6_15 ∧ Aside0 (turnstilelaw11_RecordValid.j1 kq x4_4 x5_4 x6_15 a0_0 a0_1 a0_2 a0_3 a0_4 a0_5 a0_6 a0_7 a0_8 a0_9 a0_10 = some r) ∧ Aside0 (kq ≤ kj4) ∧ Aside0 (wc.heap[gb544]? = some (.cells #[.int .i64 a0_0, .int .u64 a0_1, .string a0_2, .int .i64 a0_3, .int .u64 a0_4, .int .u64 a0_5, .int .u64 a0_6, .int .u64 a0_7, .int .u64 a0_8, .int .u64 a0_9, .int .u64 a0_10] 32 (0, 0))) ∧ Aside0 (Below w.heap.size w wc))
          case first =>
            have H := HC16.out
            clear HC16
            by_cases c17 : a0_3 = 2
            · rw [if_pos c17] at H
              have c17b0 : (a0_3 == 2) = true := beq_iff_eq.mpr c17
              have c17b1 : (a0_3 != 2) = false := bne_eq_false_iff_eq.mpr c17
              clear c17
              (first | rw [c17b0] | (simp only [i64_w, i32_w]; rw [c17b0]) | skip)
              by_cases c18 : a0_7 > 0
              · rw [if_pos c18] at H
                have c18b0 : decide (0 < a0_7) = true := decide_eq_true c18
                clear c18
                by_cases c19 : a0_4 = 0
                · rw [if_pos c19] at H
                  have c19b0 : (a0_4 == 0) = true := beq_iff_eq.mpr c19
                  have c19b1 : (a0_4 != 0) = false := bne_eq_false_iff_eq.mpr c19
                  clear c19
                  have H' := Aside0.mk H
                  clear H
                  obtain ⟨hcz20_0, hcz20_1, hcz20_2, hcz20_3, hcz20_4, hcz20_5, hcz20_6, hcz20_7, hcz20_8, hcz20_9, hcz20_10, hfz20_0, hfz20_1, hfz20_2, hfz20_3, hfz20_4, hfz20_5, hfz20_6, hfz20_7, hfz20_8, hfz20_9, hfz20_10⟩ := bc11 BK544
                  go_wp2
                  go_meet
                  case rel => exact ⟨_, ((a0_5 == 0)), rs, H', ⟨by have := HJ4.out; first | omega | exact Nat.le_refl _⟩, ⟨bk BK544⟩, ⟨bw HB⟩⟩
                · rw [if_neg c19] at H
                  have c19b0 : (a0_4 == 0) = false := beq_eq_false_iff_ne.mpr c19
                  have c19b1 : (a0_4 != 0) = true := bne_iff_ne.mpr c19
                  have H' := Aside0.mk H
                  clear H
                  obtain ⟨hcz21_0, hcz21_1, hcz21_2, hcz21_3, hcz21_4, hcz21_5, hcz21_6, hcz21_7, hcz21_8, hcz21_9, hcz21_10, hfz21_0, hfz21_1, hfz21_2, hfz21_3, hfz21_4, hfz21_5, hfz21_6, hfz21_7, hfz21_8, hfz21_9, hfz21_10⟩ := bc11 BK544
                  go_wp2
                  go_meet
                  case rel => exact ⟨_, (false), rs, H', ⟨by have := HJ4.out; first | omega | exact Nat.le_refl _⟩, ⟨bk BK544⟩, ⟨bw HB⟩⟩
              · rw [if_neg c18] at H
                have c18b0 : decide (0 < a0_7) = false := decide_eq_false c18
                clear c18
                have H' := Aside0.mk H
                clear H
                obtain ⟨hcz22_0, hcz22_1, hcz22_2, hcz22_3, hcz22_4, hcz22_5, hcz22_6, hcz22_7, hcz22_8, hcz22_9, hcz22_10, hfz22_0, hfz22_1, hfz22_2, hfz22_3, hfz22_4, hfz22_5, hfz22_6, hfz22_7, hfz22_8, hfz22_9, hfz22_10⟩ := bc11 BK544
                go_wp2
                go_meet
                case rel => exact ⟨_, (false), rs, H', ⟨by have := HJ4.out; first | omega | exact Nat.le_refl _⟩, ⟨bk BK544⟩, ⟨bw HB⟩⟩
            · rw [if_neg c17] at H
              have c17b0 : (a0_3 == 2) = false := beq_eq_false_iff_ne.mpr c17
              have c17b1 : (a0_3 != 2) = true := bne_iff_ne.mpr c17
              (first | rw [c17b0] | (simp only [i64_w, i32_w]; rw [c17b0]) | skip)
              have H' := Aside0.mk H
              clear H
              obtain ⟨hcz23_0, hcz23_1, hcz23_2, hcz23_3, hcz23_4, hcz23_5, hcz23_6, hcz23_7, hcz23_8, hcz23_9, hcz23_10, hfz23_0, hfz23_1, hfz23_2, hfz23_3, hfz23_4, hfz23_5, hfz23_6, hfz23_7, hfz23_8, hfz23_9, hfz23_10⟩ := bc11 BK544
              go_wp2
              go_meet
              case rel => exact ⟨_, (false), rs, H', ⟨by have := HJ4.out; first | omega | exact Nat.le_refl _⟩, ⟨bk BK544⟩, ⟨bw HB⟩⟩
          case rest => as_aux_lemma =>
            clear HC16
            try clear c1
            try clear p2
            try clear c3
            try clear c4
            try clear c4b0
            try clear c4b1
            try clear c7
            try clear c9
            try clear c9b0
            try clear c9b1
            try clear c10
            try clear c10b0
            try clear c11
            try clear c11b0
            try clear c11b1
            try clear c13
            try clear c17
            try clear c17b0
            try clear c17b1
            try clear c18
            try clear c18b0
            try clear c19
            try clear c19b0
            try clear c19b1
            try clear hcz12_0
            try clear hcz12_1
            try clear hcz12_10
            try clear hcz12_2
            try clear hcz12_3
            try clear hcz12_4
            try clear hcz12_5
            try clear hcz12_6
            try clear hcz12_7
            try clear hcz12_8
            try clear hcz12_9
            try clear hcz13_0
            try clear hcz13_1
            try clear hcz13_10
            try clear hcz13_2
            try clear hcz13_3
            try clear hcz13_4
            try clear hcz13_5
            try clear hcz13_6
            try clear hcz13_7
            try clear hcz13_8
            try clear hcz13_9
            try clear hcz14_0
            try clear hcz14_1
            try clear hcz14_10
            try clear hcz14_2
            try clear hcz14_3
            try clear hcz14_4
            try clear hcz14_5
            try clear hcz14_6
            try clear hcz14_7
            try clear hcz14_8
            try clear hcz14_9
            try clear hcz15_0
            try clear hcz15_1
            try clear hcz15_10
            try clear hcz15_2
            try clear hcz15_3
            try clear hcz15_4
            try clear hcz15_5
            try clear hcz15_6
            try clear hcz15_7
            try clear hcz15_8
            try clear hcz15_9
            try clear hcz20_0
            try clear hcz20_1
            try clear hcz20_10
            try clear hcz20_2
            try clear hcz20_3
            try clear hcz20_4
            try clear hcz20_5
            try clear hcz20_6
            try clear hcz20_7
            try clear hcz20_8
            try clear hcz20_9
            try clear hcz21_0
            try clear hcz21_1
            try clear hcz21_10
            try clear hcz21_2
            try clear hcz21_3
            try clear hcz21_4
            try clear hcz21_5
            try clear hcz21_6
            try clear hcz21_7
            try clear hcz21_8
            try clear hcz21_9
            try clear hcz22_0
            try clear hcz22_1
            try clear hcz22_10
            try clear hcz22_2
            try clear hcz22_3
            try clear hcz22_4
            try clear hcz22_5
            try clear hcz22_6
            try clear hcz22_7
            try clear hcz22_8
            try clear hcz22_9
            try clear hcz23_0
            try clear hcz23_1
            try clear hcz23_10
            try clear hcz23_2
            try clear hcz23_3
            try clear hcz23_4
            try clear hcz23_5
            try clear hcz23_6
            try clear hcz23_7
            try clear hcz23_8
            try clear hcz23_9
            try clear hcz8_0
            try clear hcz8_1
            try clear hcz8_10
            try clear hcz8_2
            try clear hcz8_3
            try clear hcz8_4
            try clear hcz8_5
            try clear hcz8_6
            try clear hcz8_7
            try clear hcz8_8
            try clear hcz8_9
            try clear hfz12_0
            try clear hfz12_1
            try clear hfz12_10
            try clear hfz12_2
            try clear hfz12_3
            try clear hfz12_4
            try clear hfz12_5
            try clear hfz12_6
            try clear hfz12_7
            try clear hfz12_8
            try clear hfz12_9
            try clear hfz13_0
            try clear hfz13_1
            try clear hfz13_10
            try clear hfz13_2
            try clear hfz13_3
            try clear hfz13_4
            try clear hfz13_5
            try clear hfz13_6
            try clear hfz13_7
            try clear hfz13_8
            try clear hfz13_9
            try clear hfz14_0
            try clear hfz14_1
            try clear hfz14_10
            try clear hfz14_2
            try clear hfz14_3
            try clear hfz14_4
            try clear hfz14_5
            try clear hfz14_6
            try clear hfz14_7
            try clear hfz14_8
            try clear hfz14_9
            try clear hfz15_0
            try clear hfz15_1
            try clear hfz15_10
            try clear hfz15_2
            try clear hfz15_3
            try clear hfz15_4
            try clear hfz15_5
            try clear hfz15_6
            try clear hfz15_7
            try clear hfz15_8
            try clear hfz15_9
            try clear hfz20_0
            try clear hfz20_1
            try clear hfz20_10
            try clear hfz20_2
            try clear hfz20_3
            try clear hfz20_4
            try clear hfz20_5
            try clear hfz20_6
            try clear hfz20_7
            try clear hfz20_8
            try clear hfz20_9
            try clear hfz21_0
            try clear hfz21_1
            try clear hfz21_10
            try clear hfz21_2
            try clear hfz21_3
            try clear hfz21_4
            try clear hfz21_5
            try clear hfz21_6
            try clear hfz21_7
            try clear hfz21_8
            try clear hfz21_9
            try clear hfz22_0
            try clear hfz22_1
            try clear hfz22_10
            try clear hfz22_2
            try clear hfz22_3
            try clear hfz22_4
            try clear hfz22_5
            try clear hfz22_6
            try clear hfz22_7
            try clear hfz22_8
            try clear hfz22_9
            try clear hfz23_0
            try clear hfz23_1
            try clear hfz23_10
            try clear hfz23_2
            try clear hfz23_3
            try clear hfz23_4
            try clear hfz23_5
            try clear hfz23_6
            try clear hfz23_7
            try clear hfz23_8
            try clear hfz23_9
            try clear hfz8_0
            try clear hfz8_1
            try clear hfz8_10
            try clear hfz8_2
            try clear hfz8_3
            try clear hfz8_4
            try clear hfz8_5
            try clear hfz8_6
            try clear hfz8_7
            try clear hfz8_8
            try clear hfz8_9
            try clear p2
            obtain ⟨kq, x6_15, rfl, HA, HJ15, BK544, HB⟩ := hcut
            cases kq with
            | zero => exact absurd HA.out (by simp [turnstilelaw11_RecordValid.j1])
            | succ kj15 =>
              have H := HA.out
              clear HA
              simp only [turnstilelaw11_RecordValid.j1] at H
              have HC24 := Aside0.mk H
              clear H
              obtain ⟨hcz25_0, hcz25_1, hcz25_2, hcz25_3, hcz25_4, hcz25_5, hcz25_6, hcz25_7, hcz25_8, hcz25_9, hcz25_10, hfz25_0, hfz25_1, hfz25_2, hfz25_3, hfz25_4, hfz25_5, hfz25_6, hfz25_7, hfz25_8, hfz25_9, hfz25_10⟩ := bc11 BK544
              go_upto_region 9 with (fail)
              go_cut [7, 8, 9] (fun v7 v8 v9 wc => ∃ (kq : Nat) (x7_23 : Bool) (x8_23 : Bool) (x9_23 : Bool), v7 = .bool x7_23 ∧ v8 = .bool x8_23 ∧ v9 = .bool x9_23 ∧ Aside0 (turnstilelaw11_RecordValid.j2 kq x4_4 x5_4 x6_15 x7_23 x8_23 x9_23 a0_0 a0_1 a0_2 a0_3 a0_4 a0_5 a0_6 a0_7 a0_8 a0_9 a0_10 = some r) ∧ Aside0 (kq ≤ kj15) ∧ Aside0 (wc.heap[gb544]? = some (.cells #[.int .i64 a0_0, .int .u64 a0_1, .string a0_2, .int .i64 a0_3, .int .u64 a0_4, .int .u64 a0_5, .int .u64 a0_6, .int .u64 a0_7, .int .u64 a0_8, .int .u64 a0_9, .int .u64 a0_10] 32 (0, 0))) ∧ Aside0 (Below w.heap.size w wc))
              case first =>
                have H := HC24.out
                clear HC24
                by_cases c26 : a0_8 = 0
                · rw [if_pos c26] at H
                  have c26b0 : (a0_8 == 0) = true := beq_iff_eq.mpr c26
                  have c26b1 : (a0_8 != 0) = false := bne_eq_false_iff_eq.mpr c26
                  clear c26
                  (first | rw [c26b0] | (simp only [i64_w, i32_w]; rw [c26b0]) | skip)
                  (try rw [show (true && (a0_9 == 0 && (a0_10 == 0))) = (a0_8 == 0 && (a0_9 == 0 && (a0_10 == 0))) from by rw [c26b0]])
                  have H' := Aside0.mk H
                  clear H
                  obtain ⟨hcz27_0, hcz27_1, hcz27_2, hcz27_3, hcz27_4, hcz27_5, hcz27_6, hcz27_7, hcz27_8, hcz27_9, hcz27_10, hfz27_0, hfz27_1, hfz27_2, hfz27_3, hfz27_4, hfz27_5, hfz27_6, hfz27_7, hfz27_8, hfz27_9, hfz27_10⟩ := bc11 BK544
                  go_wp2
                  go_meet
                  case rel => exact ⟨_, ((a0_3 == 0 && (a0_4 == 0 && (a0_5 == 0 && (a0_6 == 0 && (a0_7 == 0)))))), ((a0_8 == 0 && (a0_9 == 0 && (a0_10 == 0)))), (true), rs, rs, rs, H', ⟨by have := HJ4.out; have := HJ15.out; first | omega | exact Nat.le_refl _⟩, ⟨bk BK544⟩, ⟨bw HB⟩⟩
                · rw [if_neg c26] at H
                  have c26b0 : (a0_8 == 0) = false := beq_eq_false_iff_ne.mpr c26
                  have c26b1 : (a0_8 != 0) = true := bne_iff_ne.mpr c26
                  (first | rw [c26b0] | (simp only [i64_w, i32_w]; rw [c26b0]) | skip)
                  (try rw [show (false && (a0_9 == 0 && (a0_10 == 0))) = (a0_8 == 0 && (a0_9 == 0 && (a0_10 == 0))) from by rw [c26b0]])
                  by_cases c28 : a0_9 = 0
                  · rw [if_pos c28] at H
                    have c28b0 : (a0_9 == 0) = true := beq_iff_eq.mpr c28
                    have c28b1 : (a0_9 != 0) = false := bne_eq_false_iff_eq.mpr c28
                    clear c28
                    have H' := Aside0.mk H
                    clear H
                    obtain ⟨hcz29_0, hcz29_1, hcz29_2, hcz29_3, hcz29_4, hcz29_5, hcz29_6, hcz29_7, hcz29_8, hcz29_9, hcz29_10, hfz29_0, hfz29_1, hfz29_2, hfz29_3, hfz29_4, hfz29_5, hfz29_6, hfz29_7, hfz29_8, hfz29_9, hfz29_10⟩ := bc11 BK544
                    go_wp2
                    go_meet
                    case rel => exact ⟨_, ((a0_3 == 0 && (a0_4 == 0 && (a0_5 == 0 && (a0_6 == 0 && (a0_7 == 0)))))), ((a0_8 == 0 && (a0_9 == 0 && (a0_10 == 0)))), ((a0_10 == 0)), rs, rs, rs, H', ⟨by have := HJ4.out; have := HJ15.out; first | omega | exact Nat.le_refl _⟩, ⟨bk BK544⟩, ⟨bw HB⟩⟩
                  · rw [if_neg c28] at H
                    have c28b0 : (a0_9 == 0) = false := beq_eq_false_iff_ne.mpr c28
                    have c28b1 : (a0_9 != 0) = true := bne_iff_ne.mpr c28
                    have H' := Aside0.mk H
                    clear H
                    obtain ⟨hcz30_0, hcz30_1, hcz30_2, hcz30_3, hcz30_4, hcz30_5, hcz30_6, hcz30_7, hcz30_8, hcz30_9, hcz30_10, hfz30_0, hfz30_1, hfz30_2, hfz30_3, hfz30_4, hfz30_5, hfz30_6, hfz30_7, hfz30_8, hfz30_9, hfz30_10⟩ := bc11 BK544
                    go_wp2
                    go_meet
                    case rel => exact ⟨_, ((a0_3 == 0 && (a0_4 == 0 && (a0_5 == 0 && (a0_6 == 0 && (a0_7 == 0)))))), ((a0_8 == 0 && (a0_9 == 0 && (a0_10 == 0)))), (false), rs, rs, rs, H', ⟨by have := HJ4.out; have := HJ15.out; first | omega | exact Nat.le_refl _⟩, ⟨bk BK544⟩, ⟨bw HB⟩⟩
              case rest => as_aux_lemma =>
                clear HC24
                try clear c1
                try clear c2
                try clear p2
                try clear c3
                try clear c4
                try clear c4b0
                try clear c4b1
                try clear c7
                try clear c9
                try clear c9b0
                try clear c9b1
                try clear c10
                try clear c10b0
                try clear c11
                try clear c11b0
                try clear c11b1
                try clear c13
                try clear c17
                try clear c17b0
                try clear c17b1
                try clear c18
                try clear c18b0
                try clear c19
                try clear c19b0
                try clear c19b1
                try clear c26
                try clear c26b0
                try clear c26b1
                try clear c28
                try clear c28b0
                try clear c28b1
                try clear hcz12_0
                try clear hcz12_1
                try clear hcz12_10
                try clear hcz12_2
                try clear hcz12_3
                try clear hcz12_4
                try clear hcz12_5
                try clear hcz12_6
                try clear hcz12_7
                try clear hcz12_8
                try clear hcz12_9
                try clear hcz13_0
                try clear hcz13_1
                try clear hcz13_10
                try clear hcz13_2
                try clear hcz13_3
                try clear hcz13_4
                try clear hcz13_5
                try clear hcz13_6
                try clear hcz13_7
                try clear hcz13_8
                try clear hcz13_9
                try clear hcz14_0
                try clear hcz14_1
                try clear hcz14_10
                try clear hcz14_2
                try clear hcz14_3
                try clear hcz14_4
                try clear hcz14_5
                try clear hcz14_6
                try clear hcz14_7
                try clear hcz14_8
                try clear hcz14_9
                try clear hcz15_0
                try clear hcz15_1
                try clear hcz15_10
                try clear hcz15_2
                try clear hcz15_3
                try clear hcz15_4
                try clear hcz15_5
                try clear hcz15_6
                try clear hcz15_7
                try clear hcz15_8
                try clear hcz15_9
                try clear hcz20_0
                try clear hcz20_1
                try clear hcz20_10
                try clear hcz20_2
                try clear hcz20_3
                try clear hcz20_4
                try clear hcz20_5
                try clear hcz20_6
                try clear hcz20_7
                try clear hcz20_8
                try clear hcz20_9
                try clear hcz21_0
                try clear hcz21_1
                try clear hcz21_10
                try clear hcz21_2
                try clear hcz21_3
                try clear hcz21_4
                try clear hcz21_5
                try clear hcz21_6
                try clear hcz21_7
                try clear hcz21_8
                try clear hcz21_9
                try clear hcz22_0
                try clear hcz22_1
                try clear hcz22_10
                try clear hcz22_2
                try clear hcz22_3
                try clear hcz22_4
                try clear hcz22_5
                try clear hcz22_6
                try clear hcz22_7
                try clear hcz22_8
                try clear hcz22_9
                try clear hcz23_0
                try clear hcz23_1
                try clear hcz23_10
                try clear hcz23_2
                try clear hcz23_3
                try clear hcz23_4
                try clear hcz23_5
                try clear hcz23_6
                try clear hcz23_7
                try clear hcz23_8
                try clear hcz23_9
                try clear hcz25_0
                try clear hcz25_1
                try clear hcz25_10
                try clear hcz25_2
                try clear hcz25_3
                try clear hcz25_4
                try clear hcz25_5
                try clear hcz25_6
                try clear hcz25_7
                try clear hcz25_8
                try clear hcz25_9
                try clear hcz27_0
                try clear hcz27_1
                try clear hcz27_10
                try clear hcz27_2
                try clear hcz27_3
                try clear hcz27_4
                try clear hcz27_5
                try clear hcz27_6
                try clear hcz27_7
                try clear hcz27_8
                try clear hcz27_9
                try clear hcz29_0
                try clear hcz29_1
                try clear hcz29_10
                try clear hcz29_2
                try clear hcz29_3
                try clear hcz29_4
                try clear hcz29_5
                try clear hcz29_6
                try clear hcz29_7
                try clear hcz29_8
                try clear hcz29_9
                try clear hcz30_0
                try clear hcz30_1
                try clear hcz30_10
                try clear hcz30_2
                try clear hcz30_3
                try clear hcz30_4
                try clear hcz30_5
                try clear hcz30_6
                try clear hcz30_7
                try clear hcz30_8
                try clear hcz30_9
                try clear hcz8_0
                try clear hcz8_1
                try clear hcz8_10
                try clear hcz8_2
                try clear hcz8_3
                try clear hcz8_4
                try clear hcz8_5
                try clear hcz8_6
                try clear hcz8_7
                try clear hcz8_8
                try clear hcz8_9
                try clear hfz12_0
                try clear hfz12_1
                try clear hfz12_10
                try clear hfz12_2
                try clear hfz12_3
                try clear hfz12_4
                try clear hfz12_5
                try clear hfz12_6
                try clear hfz12_7
                try clear hfz12_8
                try clear hfz12_9
                try clear hfz13_0
                try clear hfz13_1
                try clear hfz13_10
                try clear hfz13_2
                try clear hfz13_3
                try clear hfz13_4
                try clear hfz13_5
                try clear hfz13_6
                try clear hfz13_7
                try clear hfz13_8
                try clear hfz13_9
                try clear hfz14_0
                try clear hfz14_1
                try clear hfz14_10
                try clear hfz14_2
                try clear hfz14_3
                try clear hfz14_4
                try clear hfz14_5
                try clear hfz14_6
                try clear hfz14_7
                try clear hfz14_8
                try clear hfz14_9
                try clear hfz15_0
                try clear hfz15_1
                try clear hfz15_10
                try clear hfz15_2
                try clear hfz15_3
                try clear hfz15_4
                try clear hfz15_5
                try clear hfz15_6
                try clear hfz15_7
                try clear hfz15_8
                try clear hfz15_9
                try clear hfz20_0
                try clear hfz20_1
                try clear hfz20_10
                try clear hfz20_2
                try clear hfz20_3
                try clear hfz20_4
                try clear hfz20_5
                try clear hfz20_6
                try clear hfz20_7
                try clear hfz20_8
                try clear hfz20_9
                try clear hfz21_0
                try clear hfz21_1
                try clear hfz21_10
                try clear hfz21_2
                try clear hfz21_3
                try clear hfz21_4
                try clear hfz21_5
                try clear hfz21_6
                try clear hfz21_7
                try clear hfz21_8
                try clear hfz21_9
                try clear hfz22_0
                try clear hfz22_1
                try clear hfz22_10
                try clear hfz22_2
                try clear hfz22_3
                try clear hfz22_4
                try clear hfz22_5
                try clear hfz22_6
                try clear hfz22_7
                try clear hfz22_8
                try clear hfz22_9
                try clear hfz23_0
                try clear hfz23_1
                try clear hfz23_10
                try clear hfz23_2
                try clear hfz23_3
                try clear hfz23_4
                try clear hfz23_5
                try clear hfz23_6
                try clear hfz23_7
                try clear hfz23_8
                try clear hfz23_9
                try clear hfz25_0
                try clear hfz25_1
                try clear hfz25_10
                try clear hfz25_2
                try clear hfz25_3
                try clear hfz25_4
                try clear hfz25_5
                try clear hfz25_6
                try clear hfz25_7
                try clear hfz25_8
                try clear hfz25_9
                try clear hfz27_0
                try clear hfz27_1
                try clear hfz27_10
                try clear hfz27_2
                try clear hfz27_3
                try clear hfz27_4
                try clear hfz27_5
                try clear hfz27_6
                try clear hfz27_7
                try clear hfz27_8
                try clear hfz27_9
                try clear hfz29_0
                try clear hfz29_1
                try clear hfz29_10
                try clear hfz29_2
                try clear hfz29_3
                try clear hfz29_4
                try clear hfz29_5
                try clear hfz29_6
                try clear hfz29_7
                try clear hfz29_8
                try clear hfz29_9
                try clear hfz30_0
                try clear hfz30_1
                try clear hfz30_10
                try clear hfz30_2
                try clear hfz30_3
                try clear hfz30_4
                try clear hfz30_5
                try clear hfz30_6
                try clear hfz30_7
                try clear hfz30_8
                try clear hfz30_9
                try clear hfz8_0
                try clear hfz8_1
                try clear hfz8_10
                try clear hfz8_2
                try clear hfz8_3
                try clear hfz8_4
                try clear hfz8_5
                try clear hfz8_6
                try clear hfz8_7
                try clear hfz8_8
                try clear hfz8_9
                try clear p2
                obtain ⟨kq, x7_23, x8_23, x9_23, rfl, rfl, rfl, HA, HJ23, BK544, HB⟩ := hcut
                cases kq with
                | zero => exact absurd HA.out (by simp [turnstilelaw11_RecordValid.j2])
                | succ kj23 =>
                  have H := HA.out
                  clear HA
                  simp only [turnstilelaw11_RecordValid.j2] at H
                  have HC31 := Aside0.mk H
                  clear H
                  go_upto_region 10 with (fail)
                  go_cut [10] (fun v10 wc => ∃ (kq : Nat) (x10_30 : Bool), v10 = .bool x10_30 ∧ Aside0 (turnstilelaw11_RecordValid.j3 kq x10_30 a0_0 a0_1 a0_2 a0_3 a0_4 a0_5 a0_6 a0_7 a0_8 a0_9 a0_10 = some r) ∧ Aside0 (kq ≤ kj23) ∧ Aside0 (wc.heap[gb544]? = some (.cells #[.int .i64 a0_0, .int .u64 a0_1, .string a0_2, .int .i64 a0_3, .int .u64 a0_4, .int .u64 a0_5, .int .u64 a0_6, .int .u64 a0_7, .int .u64 a0_8, .int .u64 a0_9, .int .u64 a0_10] 32 (0, 0))) ∧ Aside0 (Below w.heap.size w wc))
                  case first =>
                    have H := HC31.out
                    clear HC31
                    by_cases c32 : x4_4 = true
                    · subst c32
                      have H1 : (if a0_0 = 1 then (if x5_4 = true then (if x8_23 = true then (turnstilelaw11_RecordValid.j3 kj23 true a0_0 a0_1 a0_2 a0_3 a0_4 a0_5 a0_6 a0_7 a0_8 a0_9 a0_10) else (if a0_0 = 2 then (if x7_23 = true then (if a0_0 = 3 then (turnstilelaw11_RecordValid.j3 kj23 x9_23 a0_0 a0_1 a0_2 a0_3 a0_4 a0_5 a0_6 a0_7 a0_8 a0_9 a0_10) else (turnstilelaw11_RecordValid.j3 kj23 false a0_0 a0_1 a0_2 a0_3 a0_4 a0_5 a0_6 a0_7 a0_8 a0_9 a0_10)) else (if a0_0 = 3 then (turnstilelaw11_RecordValid.j3 kj23 false a0_0 a0_1 a0_2 a0_3 a0_4 a0_5 a0_6 a0_7 a0_8 a0_9 a0_10) else (turnstilelaw11_RecordValid.j3 kj23 false a0_0 a0_1 a0_2 a0_3 a0_4 a0_5 a0_6 a0_7 a0_8 a0_9 a0_10))) else (if a0_0 = 3 then (if x7_23 = true then (turnstilelaw11_RecordValid.j3 kj23 x9_23 a0_0 a0_1 a0_2 a0_3 a0_4 a0_5 a0_6 a0_7 a0_8 a0_9 a0_10) else (turnstilelaw11_RecordValid.j3 kj23 false a0_0 a0_1 a0_2 a0_3 a0_4 a0_5 a0_6 a0_7 a0_8 a0_9 a0_10)) else (turnstilelaw11_RecordValid.j3 kj23 false a0_0 a0_1 a0_2 a0_3 a0_4 a0_5 a0_6 a0_7 a0_8 a0_9 a0_10)))) else (if x6_15 = true then (if x8_23 = true then (turnstilelaw11_RecordValid.j3 kj23 true a0_0 a0_1 a0_2 a0_3 a0_4 a0_5 a0_6 a0_7 a0_8 a0_9 a0_10) else (if a0_0 = 2 then (if x7_23 = true then (if a0_0 = 3 then (turnstilelaw11_RecordValid.j3 kj23 x9_23 a0_0 a0_1 a0_2 a0_3 a0_4 a0_5 a0_6 a0_7 a0_8 a0_9 a0_10) else (turnstilelaw11_RecordValid.j3 kj23 false a0_0 a0_1 a0_2 a0_3 a0_4 a0_5 a0_6 a0_7 a0_8 a0_9 a0_10)) else (if a0_0 = 3 then (turnstilelaw11_RecordValid.j3 kj23 false a0_0 a0_1 a0_2 a0_3 a0_4 a0_5 a0_6 a0_7 a0_8 a0_9 a0_10) else (turnstilelaw11_RecordValid.j3 kj23 false a0_0 a0_1 a0_2 a0_3 a0_4 a0_5 a0_6 a0_7 a0_8 a0_9 a0_10))) else (if a0_0 = 3 then (if x7_23 = true then (turnstilelaw11_RecordValid.j3 kj23 x9_23 a0_0 a0_1 a0_2 a0_3 a0_4 a0_5 a0_6 a0_7 a0_8 a0_9 a0_10) else (turnstilelaw11_RecordValid.j3 kj23 false a0_0 a0_1 a0_2 a0_3 a0_4 a0_5 a0_6 a0_7 a0_8 a0_9 a0_10)) else (turnstilelaw11_RecordValid.j3 kj23 false a0_0 a0_1 a0_2 a0_3 a0_4 a0_5 a0_6 a0_7 a0_8 a0_9 a0_10)))) else (if a0_0 = 2 then (if x7_23 = true then (if x8_23 = true then (turnstilelaw11_RecordValid.j3 kj23 true a0_0 a0_1 a0_2 a0_3 a0_4 a0_5 a0_6 a0_7 a0_8 a0_9 a0_10) else (if a0_0 = 3 then (turnstilelaw11_RecordValid.j3 kj23 x9_23 a0_0 a0_1 a0_2 a0_3 a0_4 a0_5 a0_6 a0_7 a0_8 a0_9 a0_10) else (turnstilelaw11_RecordValid.j3 kj23 false a0_0 a0_1 a0_2 a0_3 a0_4 a0_5 a0_6 a0_7 a0_8 a0_9 a0_10))) else (if a0_0 = 3 then (turnstilelaw11_RecordValid.j3 kj23 false a0_0 a0_1 a0_2 a0_3 a0_4 a0_5 a0_6 a0_7 a0_8 a0_9 a0_10) else (turnstilelaw11_RecordValid.j3 kj23 false a0_0 a0_1 a0_2 a0_3 a0_4 a0_5 a0_6 a0_7 a0_8 a0_9 a0_10))) else (if a0_0 = 3 then (if x7_23 = true then (turnstilelaw11_RecordValid.j3 kj23 x9_23 a0_0 a0_1 a0_2 a0_3 a0_4 a0_5 a0_6 a0_7 a0_8 a0_9 a0_10) else (turnstilelaw11_RecordValid.j3 kj23 false a0_0 a0_1 a0_2 a0_3 a0_4 a0_5 a0_6 a0_7 a0_8 a0_9 a0_10)) else (turnstilelaw11_RecordValid.j3 kj23 false a0_0 a0_1 a0_2 a0_3 a0_4 a0_5 a0_6 a0_7 a0_8 a0_9 a0_10))))) else (if a0_0 = 2 then (if x7_23 = true then (if x8_23 = true then (turnstilelaw11_RecordValid.j3 kj23 true a0_0 a0_1 a0_2 a0_3 a0_4 a0_5 a0_6 a0_7 a0_8 a0_9 a0_10) else (if a0_0 = 3 then (turnstilelaw11_RecordValid.j3 kj23 x9_23 a0_0 a0_1 a0_2 a0_3 a0_4 a0_5 a0_6 a0_7 a0_8 a0_9 a0_10) else (turnstilelaw11_RecordValid.j3 kj23 false a0_0 a0_1 a0_2 a0_3 a0_4 a0_5 a0_6 a0_7 a0_8 a0_9 a0_10))) else (if a0_0 = 3 then (turnstilelaw11_RecordValid.j3 kj23 false a0_0 a0_1 a0_2 a0_3 a0_4 a0_5 a0_6 a0_7 a0_8 a0_9 a0_10) else (turnstilelaw11_RecordValid.j3 kj23 false a0_0 a0_1 a0_2 a0_3 a0_4 a0_5 a0_6 a0_7 a0_8 a0_9 a0_10))) else (if a0_0 = 3 then (if x7_23 = true then (turnstilelaw11_RecordValid.j3 kj23 x9_23 a0_0 a0_1 a0_2 a0_3 a0_4 a0_5 a0_6 a0_7 a0_8 a0_9 a0_10) else (turnstilelaw11_RecordValid.j3 kj23 false a0_0 a0_1 a0_2 a0_3 a0_4 a0_5 a0_6 a0_7 a0_8 a0_9 a0_10)) else (turnstilelaw11_RecordValid.j3 kj23 false a0_0 a0_1 a0_2 a0_3 a0_4 a0_5 a0_6 a0_7 a0_8 a0_9 a0_10)))) = some r := by rw [if_pos rfl] at H; exact H
                      clear H
                      have H := H1
                      clear H1
                      by_cases c33 : a0_0 = 1
                      · rw [if_pos c33] at H
                        have c33b0 : (a0_0 == 1) = true := beq_iff_eq.mpr c33
                        have c33b1 : (a0_0 != 1) = false := bne_eq_false_iff_eq.mpr c33
                        clear c33
                        (first | rw [c33b0] | (simp only [i64_w, i32_w]; rw [c33b0]) | skip)
                        by_cases c34 : x5_4 = true
                        · subst c34
                          have H1 : (if x8_23 = true then (turnstilelaw11_RecordValid.j3 kj23 true a0_0 a0_1 a0_2 a0_3 a0_4 a0_5 a0_6 a0_7 a0_8 a0_9 a0_10) else (if a0_0 = 2 then (if x7_23 = true then (if a0_0 = 3 then (turnstilelaw11_RecordValid.j3 kj23 x9_23 a0_0 a0_1 a0_2 a0_3 a0_4 a0_5 a0_6 a0_7 a0_8 a0_9 a0_10) else (turnstilelaw11_RecordValid.j3 kj23 false a0_0 a0_1 a0_2 a0_3 a0_4 a0_5 a0_6 a0_7 a0_8 a0_9 a0_10)) else (if a0_0 = 3 then (turnstilelaw11_RecordValid.j3 kj23 false a0_0 a0_1 a0_2 a0_3 a0_4 a0_5 a0_6 a0_7 a0_8 a0_9 a0_10) else (turnstilelaw11_RecordValid.j3 kj23 false a0_0 a0_1 a0_2 a0_3 a0_4 a0_5 a0_6 a0_7 a0_8 a0_9 a0_10))) else (if a0_0 = 3 then (if x7_23 = true then (turnstilelaw11_RecordValid.j3 kj23 x9_23 a0_0 a0_1 a0_2 a0_3 a0_4 a0_5 a0_6 a0_7 a0_8 a0_9 a0_10) else (turnstilelaw11_RecordValid.j3 kj23 false a0_0 a0_1 a0_2 a0_3 a0_4 a0_5 a0_6 a0_7 a0_8 a0_9 a0_10)) else (turnstilelaw11_RecordValid.j3 kj23 false a0_0 a0_1 a0_2 a0_3 a0_4 a0_5 a0_6 a0_7 a0_8 a0_9 a0_10)))) = some r := by rw [if_pos rfl] at H; exact H
                          clear H
                          have H := H1
                          clear H1
                          by_cases c35 : x8_23 = true
                          · subst c35
                            have H1 : (turnstilelaw11_RecordValid.j3 kj23 true a0_0 a0_1 a0_2 a0_3 a0_4 a0_5 a0_6 a0_7 a0_8 a0_9 a0_10) = some r := by rw [if_pos rfl] at H; exact H
                            clear H
                            have H := H1
                            clear H1
                            have H' := Aside0.mk H
                            clear H
                            obtain ⟨hcz36_0, hcz36_1, hcz36_2, hcz36_3, hcz36_4, hcz36_5, hcz36_6, hcz36_7, hcz36_8, hcz36_9, hcz36_10, hfz36_0, hfz36_1, hfz36_2, hfz36_3, hfz36_4, hfz36_5, hfz36_6, hfz36_7, hfz36_8, hfz36_9, hfz36_10⟩ := bc11 BK544
                            go_wp2
                            go_meet
                            case rel => exact ⟨_, (true), rs, H', ⟨by have := HJ4.out; have := HJ15.out; have := HJ23.out; first | omega | exact Nat.le_refl _⟩, ⟨bk BK544⟩, ⟨bw HB⟩⟩
                          · replace c35 := Bool.eq_false_iff.mpr c35
                            subst c35
                            have H1 : (if a0_0 = 2 then (if x7_23 = true then (if a0_0 = 3 then (turnstilelaw11_RecordValid.j3 kj23 x9_23 a0_0 a0_1 a0_2 a0_3 a0_4 a0_5 a0_6 a0_7 a0_8 a0_9 a0_10) else (turnstilelaw11_RecordValid.j3 kj23 false a0_0 a0_1 a0_2 a0_3 a0_4 a0_5 a0_6 a0_7 a0_8 a0_9 a0_10)) else (if a0_0 = 3 then (turnstilelaw11_RecordValid.j3 kj23 false a0_0 a0_1 a0_2 a0_3 a0_4 a0_5 a0_6 a0_7 a0_8 a0_9 a0_10) else (turnstilelaw11_RecordValid.j3 kj23 false a0_0 a0_1 a0_2 a0_3 a0_4 a0_5 a0_6 a0_7 a0_8 a0_9 a0_10))) else (if a0_0 = 3 then (if x7_23 = true then (turnstilelaw11_RecordValid.j3 kj23 x9_23 a0_0 a0_1 a0_2 a0_3 a0_4 a0_5 a0_6 a0_7 a0_8 a0_9 a0_10) else (turnstilelaw11_RecordValid.j3 kj23 false a0_0 a0_1 a0_2 a0_3 a0_4 a0_5 a0_6 a0_7 a0_8 a0_9 a0_10)) else (turnstilelaw11_RecordValid.j3 kj23 false a0_0 a0_1 a0_2 a0_3 a0_4 a0_5 a0_6 a0_7 a0_8 a0_9 a0_10))) = some r := by rw [if_neg (show ¬ (false = true) by decide)] at H; exact H
                            clear H
                            have H := H1
                            clear H1
                            by_cases c37 : a0_0 = 2
                            · rw [if_pos c37] at H
                              have c37b0 : (a0_0 == 2) = true := beq_iff_eq.mpr c37
                              have c37b1 : (a0_0 != 2) = false := bne_eq_false_iff_eq.mpr c37
                              clear c37
                              by_cases c38 : x7_23 = true
                              · subst c38
                                have H1 : (if a0_0 = 3 then (turnstilelaw11_RecordValid.j3 kj23 x9_23 a0_0 a0_1 a0_2 a0_3 a0_4 a0_5 a0_6 a0_7 a0_8 a0_9 a0_10) else (turnstilelaw11_RecordValid.j3 kj23 false a0_0 a0_1 a0_2 a0_3 a0_4 a0_5 a0_6 a0_7 a0_8 a0_9 a0_10)) = some r := by rw [if_pos rfl] at H; exact H
                                clear H
                                have H := H1
                                clear H1
                                by_cases c39 : a0_0 = 3
                                · rw [if_pos c39] at H
                                  have c39b0 : (a0_0 == 3) = true := beq_iff_eq.mpr c39
                                  have c39b1 : (a0_0 != 3) = false := bne_eq_false_iff_eq.mpr c39
                                  clear c39
                                  have H' := Aside0.mk H
                                  clear H
                                  obtain ⟨hcz40_0, hcz40_1, hcz40_2, hcz40_3, hcz40_4, hcz40_5, hcz40_6, hcz40_7, hcz40_8, hcz40_9, hcz40_10, hfz40_0, hfz40_1, hfz40_2, hfz40_3, hfz40_4, hfz40_5, hfz40_6, hfz40_7, hfz40_8, hfz40_9, hfz40_10⟩ := bc11 BK544
                                  go_wp2
                                  go_meet
                                  case rel => exact ⟨_, (x9_23), rs, H', ⟨by have := HJ4.out; have := HJ15.out; have := HJ23.out; first | omega | exact Nat.le_refl _⟩, ⟨bk BK544⟩, ⟨bw HB⟩⟩
                                · rw [if_neg c39] at H
                                  have c39b0 : (a0_0 == 3) = false := beq_eq_false_iff_ne.mpr c39
                                  have c39b1 : (a0_0 != 3) = true := bne_iff_ne.mpr c39
                                  have H' := Aside0.mk H
                                  clear H
                                  obtain ⟨hcz41_0, hcz41_1, hcz41_2, hcz41_3, hcz41_4, hcz41_5, hcz41_6, hcz41_7, hcz41_8, hcz41_9, hcz41_10, hfz41_0, hfz41_1, hfz41_2, hfz41_3, hfz41_4, hfz41_5, hfz41_6, hfz41_7, hfz41_8, hfz41_9, hfz41_10⟩ := bc11 BK544
                                  go_wp2
                                  go_meet
                                  case rel => exact ⟨_, (false), rs, H', ⟨by have := HJ4.out; have := HJ15.out; have := HJ23.out; first | omega | exact Nat.le_refl _⟩, ⟨bk BK544⟩, ⟨bw HB⟩⟩
                              · replace c38 := Bool.eq_false_iff.mpr c38
                                subst c38
                                have H1 : (if a0_0 = 3 then (turnstilelaw11_RecordValid.j3 kj23 false a0_0 a0_1 a0_2 a0_3 a0_4 a0_5 a0_6 a0_7 a0_8 a0_9 a0_10) else (turnstilelaw11_RecordValid.j3 kj23 false a0_0 a0_1 a0_2 a0_3 a0_4 a0_5 a0_6 a0_7 a0_8 a0_9 a0_10)) = some r := by rw [if_neg (show ¬ (false = true) by decide)] at H; exact H
                                clear H
                                have H := H1
                                clear H1
                                by_cases c42 : a0_0 = 3
                                · rw [if_pos c42] at H
                                  have c42b0 : (a0_0 == 3) = true := beq_iff_eq.mpr c42
                                  have c42b1 : (a0_0 != 3) = false := bne_eq_false_iff_eq.mpr c42
                                  clear c42
                                  have H' := Aside0.mk H
                                  clear H
                                  obtain ⟨hcz43_0, hcz43_1, hcz43_2, hcz43_3, hcz43_4, hcz43_5, hcz43_6, hcz43_7, hcz43_8, hcz43_9, hcz43_10, hfz43_0, hfz43_1, hfz43_2, hfz43_3, hfz43_4, hfz43_5, hfz43_6, hfz43_7, hfz43_8, hfz43_9, hfz43_10⟩ := bc11 BK544
                                  go_wp2
                                  go_meet
                                  case rel => exact ⟨_, (false), rs, H', ⟨by have := HJ4.out; have := HJ15.out; have := HJ23.out; first | omega | exact Nat.le_refl _⟩, ⟨bk BK544⟩, ⟨bw HB⟩⟩
                                · rw [if_neg c42] at H
                                  have c42b0 : (a0_0 == 3) = false := beq_eq_false_iff_ne.mpr c42
                                  have c42b1 : (a0_0 != 3) = true := bne_iff_ne.mpr c42
                                  have H' := Aside0.mk H
                                  clear H
                                  obtain ⟨hcz44_0, hcz44_1, hcz44_2, hcz44_3, hcz44_4, hcz44_5, hcz44_6, hcz44_7, hcz44_8, hcz44_9, hcz44_10, hfz44_0, hfz44_1, hfz44_2, hfz44_3, hfz44_4, hfz44_5, hfz44_6, hfz44_7, hfz44_8, hfz44_9, hfz44_10⟩ := bc11 BK544
                                  go_wp2
                                  go_meet
                                  case rel => exact ⟨_, (false), rs, H', ⟨by have := HJ4.out; have := HJ15.out; have := HJ23.out; first | omega | exact Nat.le_refl _⟩, ⟨bk BK544⟩, ⟨bw HB⟩⟩
                            · rw [if_neg c37] at H
                              have c37b0 : (a0_0 == 2) = false := beq_eq_false_iff_ne.mpr c37
                              have c37b1 : (a0_0 != 2) = true := bne_iff_ne.mpr c37
                              by_cases c45 : a0_0 = 3
                              · rw [if_pos c45] at H
                                have c45b0 : (a0_0 == 3) = true := beq_iff_eq.mpr c45
                                have c45b1 : (a0_0 != 3) = false := bne_eq_false_iff_eq.mpr c45
                                clear c45
                                by_cases c46 : x7_23 = true
                                · subst c46
                                  have H1 : (turnstilelaw11_RecordValid.j3 kj23 x9_23 a0_0 a0_1 a0_2 a0_3 a0_4 a0_5 a0_6 a0_7 a0_8 a0_9 a0_10) = some r := by rw [if_pos rfl] at H; exact H
                                  clear H
                                  have H := H1
                                  clear H1
                                  have H' := Aside0.mk H
                                  clear H
                                  obtain ⟨hcz47_0, hcz47_1, hcz47_2, hcz47_3, hcz47_4, hcz47_5, hcz47_6, hcz47_7, hcz47_8, hcz47_9, hcz47_10, hfz47_0, hfz47_1, hfz47_2, hfz47_3, hfz47_4, hfz47_5, hfz47_6, hfz47_7, hfz47_8, hfz47_9, hfz47_10⟩ := bc11 BK544
                                  go_wp2
                                  go_meet
                                  case rel => exact ⟨_, (x9_23), rs, H', ⟨by have := HJ4.out; have := HJ15.out; have := HJ23.out; first | omega | exact Nat.le_refl _⟩, ⟨bk BK544⟩, ⟨bw HB⟩⟩
                                · replace c46 := Bool.eq_false_iff.mpr c46
                                  subst c46
                                  have H1 : (turnstilelaw11_RecordValid.j3 kj23 false a0_0 a0_1 a0_2 a0_3 a0_4 a0_5 a0_6 a0_7 a0_8 a0_9 a0_10) = some r := by rw [if_neg (show ¬ (false = true) by decide)] at H; exact H
                                  clear H
                                  have H := H1
                                  clear H1
                                  have H' := Aside0.mk H
                                  clear H
                                  obtain ⟨hcz48_0, hcz48_1, hcz48_2, hcz48_3, hcz48_4, hcz48_5, hcz48_6, hcz48_7, hcz48_8, hcz48_9, hcz48_10, hfz48_0, hfz48_1, hfz48_2, hfz48_3, hfz48_4, hfz48_5, hfz48_6, hfz48_7, hfz48_8, hfz48_9, hfz48_10⟩ := bc11 BK544
                                  go_wp2
                                  go_meet
                                  case rel => exact ⟨_, (false), rs, H', ⟨by have := HJ4.out; have := HJ15.out; have := HJ23.out; first | omega | exact Nat.le_refl _⟩, ⟨bk BK544⟩, ⟨bw HB⟩⟩
                              · rw [if_neg c45] at H
                                have c45b0 : (a0_0 == 3) = false := beq_eq_false_iff_ne.mpr c45
                                have c45b1 : (a0_0 != 3) = true := bne_iff_ne.mpr c45
                                have H' := Aside0.mk H
                                clear H
                                obtain ⟨hcz49_0, hcz49_1, hcz49_2, hcz49_3, hcz49_4, hcz49_5, hcz49_6, hcz49_7, hcz49_8, hcz49_9, hcz49_10, hfz49_0, hfz49_1, hfz49_2, hfz49_3, hfz49_4, hfz49_5, hfz49_6, hfz49_7, hfz49_8, hfz49_9, hfz49_10⟩ := bc11 BK544
                                go_wp2
                                go_meet
                                case rel => exact ⟨_, (false), rs, H', ⟨by have := HJ4.out; have := HJ15.out; have := HJ23.out; first | omega | exact Nat.le_refl _⟩, ⟨bk BK544⟩, ⟨bw HB⟩⟩
                        · replace c34 := Bool.eq_false_iff.mpr c34
                          subst c34
                          have H1 : (if x6_15 = true then (if x8_23 = true then (turnstilelaw11_RecordValid.j3 kj23 true a0_0 a0_1 a0_2 a0_3 a0_4 a0_5 a0_6 a0_7 a0_8 a0_9 a0_10) else (if a0_0 = 2 then (if x7_23 = true then (if a0_0 = 3 then (turnstilelaw11_RecordValid.j3 kj23 x9_23 a0_0 a0_1 a0_2 a0_3 a0_4 a0_5 a0_6 a0_7 a0_8 a0_9 a0_10) else (turnstilelaw11_RecordValid.j3 kj23 false a0_0 a0_1 a0_2 a0_3 a0_4 a0_5 a0_6 a0_7 a0_8 a0_9 a0_10)) else (if a0_0 = 3 then (turnstilelaw11_RecordValid.j3 kj23 false a0_0 a0_1 a0_2 a0_3 a0_4 a0_5 a0_6 a0_7 a0_8 a0_9 a0_10) else (turnstilelaw11_RecordValid.j3 kj23 false a0_0 a0_1 a0_2 a0_3 a0_4 a0_5 a0_6 a0_7 a0_8 a0_9 a0_10))) else (if a0_0 = 3 then (if x7_23 = true then (turnstilelaw11_RecordValid.j3 kj23 x9_23 a0_0 a0_1 a0_2 a0_3 a0_4 a0_5 a0_6 a0_7 a0_8 a0_9 a0_10) else (turnstilelaw11_RecordValid.j3 kj23 false a0_0 a0_1 a0_2 a0_3 a0_4 a0_5 a0_6 a0_7 a0_8 a0_9 a0_10)) else (turnstilelaw11_RecordValid.j3 kj23 false a0_0 a0_1 a0_2 a0_3 a0_4 a0_5 a0_6 a0_7 a0_8 a0_9 a0_10)))) else (if a0_0 = 2 then (if x7_23 = true then (if x8_23 = true then (turnstilelaw11_RecordValid.j3 kj23 true a0_0 a0_1 a0_2 a0_3 a0_4 a0_5 a0_6 a0_7 a0_8 a0_9 a0_10) else (if a0_0 = 3 then (turnstilelaw11_RecordValid.j3 kj23 x9_23 a0_0 a0_1 a0_2 a0_3 a0_4 a0_5 a0_6 a0_7 a0_8 a0_9 a0_10) else (turnstilelaw11_RecordValid.j3 kj23 false a0_0 a0_1 a0_2 a0_3 a0_4 a0_5 a0_6 a0_7 a0_8 a0_9 a0_10))) else (if a0_0 = 3 then (turnstilelaw11_RecordValid.j3 kj23 false a0_0 a0_1 a0_2 a0_3 a0_4 a0_5 a0_6 a0_7 a0_8 a0_9 a0_10) else (turnstilelaw11_RecordValid.j3 kj23 false a0_0 a0_1 a0_2 a0_3 a0_4 a0_5 a0_6 a0_7 a0_8 a0_9 a0_10))) else (if a0_0 = 3 then (if x7_23 = true then (turnstilelaw11_RecordValid.j3 kj23 x9_23 a0_0 a0_1 a0_2 a0_3 a0_4 a0_5 a0_6 a0_7 a0_8 a0_9 a0_10) else (turnstilelaw11_RecordValid.j3 kj23 false a0_0 a0_1 a0_2 a0_3 a0_4 a0_5 a0_6 a0_7 a0_8 a0_9 a0_10)) else (turnstilelaw11_RecordValid.j3 kj23 false a0_0 a0_1 a0_2 a0_3 a0_4 a0_5 a0_6 a0_7 a0_8 a0_9 a0_10)))) = some r := by rw [if_neg (show ¬ (false = true) by decide)] at H; exact H
                          clear H
                          have H := H1
                          clear H1
                          by_cases c50 : x6_15 = true
                          · subst c50
                            have H1 : (if x8_23 = true then (turnstilelaw11_RecordValid.j3 kj23 true a0_0 a0_1 a0_2 a0_3 a0_4 a0_5 a0_6 a0_7 a0_8 a0_9 a0_10) else (if a0_0 = 2 then (if x7_23 = true then (if a0_0 = 3 then (turnstilelaw11_RecordValid.j3 kj23 x9_23 a0_0 a0_1 a0_2 a0_3 a0_4 a0_5 a0_6 a0_7 a0_8 a0_9 a0_10) else (turnstilelaw11_RecordValid.j3 kj23 false a0_0 a0_1 a0_2 a0_3 a0_4 a0_5 a0_6 a0_7 a0_8 a0_9 a0_10)) else (if a0_0 = 3 then (turnstilelaw11_RecordValid.j3 kj23 false a0_0 a0_1 a0_2 a0_3 a0_4 a0_5 a0_6 a0_7 a0_8 a0_9 a0_10) else (turnstilelaw11_RecordValid.j3 kj23 false a0_0 a0_1 a0_2 a0_3 a0_4 a0_5 a0_6 a0_7 a0_8 a0_9 a0_10))) else (if a0_0 = 3 then (if x7_23 = true then (turnstilelaw11_RecordValid.j3 kj23 x9_23 a0_0 a0_1 a0_2 a0_3 a0_4 a0_5 a0_6 a0_7 a0_8 a0_9 a0_10) else (turnstilelaw11_RecordValid.j3 kj23 false a0_0 a0_1 a0_2 a0_3 a0_4 a0_5 a0_6 a0_7 a0_8 a0_9 a0_10)) else (turnstilelaw11_RecordValid.j3 kj23 false a0_0 a0_1 a0_2 a0_3 a0_4 a0_5 a0_6 a0_7 a0_8 a0_9 a0_10)))) = some r := by rw [if_pos rfl] at H; exact H
                            clear H
                            have H := H1
                            clear H1
                            by_cases c51 : x8_23 = true
                            · subst c51
                              have H1 : (turnstilelaw11_RecordValid.j3 kj23 true a0_0 a0_1 a0_2 a0_3 a0_4 a0_5 a0_6 a0_7 a0_8 a0_9 a0_10) = some r := by rw [if_pos rfl] at H; exact H
                              clear H
                              have H := H1
                              clear H1
                              have H' := Aside0.mk H
                              clear H
                              obtain ⟨hcz52_0, hcz52_1, hcz52_2, hcz52_3, hcz52_4, hcz52_5, hcz52_6, hcz52_7, hcz52_8, hcz52_9, hcz52_10, hfz52_0, hfz52_1, hfz52_2, hfz52_3, hfz52_4, hfz52_5, hfz52_6, hfz52_7, hfz52_8, hfz52_9, hfz52_10⟩ := bc11 BK544
                              go_wp2
                              go_meet
                              case rel => exact ⟨_, (true), rs, H', ⟨by have := HJ4.out; have := HJ15.out; have := HJ23.out; first | omega | exact Nat.le_refl _⟩, ⟨bk BK544⟩, ⟨bw HB⟩⟩
                            · replace c51 := Bool.eq_false_iff.mpr c51
                              subst c51
                              have H1 : (if a0_0 = 2 then (if x7_23 = true then (if a0_0 = 3 then (turnstilelaw11_RecordValid.j3 kj23 x9_23 a0_0 a0_1 a0_2 a0_3 a0_4 a0_5 a0_6 a0_7 a0_8 a0_9 a0_10) else (turnstilelaw11_RecordValid.j3 kj23 false a0_0 a0_1 a0_2 a0_3 a0_4 a0_5 a0_6 a0_7 a0_8 a0_9 a0_10)) else (if a0_0 = 3 then (turnstilelaw11_RecordValid.j3 kj23 false a0_0 a0_1 a0_2 a0_3 a0_4 a0_5 a0_6 a0_7 a0_8 a0_9 a0_10) else (turnstilelaw11_RecordValid.j3 kj23 false a0_0 a0_1 a0_2 a0_3 a0_4 a0_5 a0_6 a0_7 a0_8 a0_9 a0_10))) else (if a0_0 = 3 then (if x7_23 = true then (turnstilelaw11_RecordValid.j3 kj23 x9_23 a0_0 a0_1 a0_2 a0_3 a0_4 a0_5 a0_6 a0_7 a0_8 a0_9 a0_10) else (turnstilelaw11_RecordValid.j3 kj23 false a0_0 a0_1 a0_2 a0_3 a0_4 a0_5 a0_6 a0_7 a0_8 a0_9 a0_10)) else (turnstilelaw11_RecordValid.j3 kj23 false a0_0 a0_1 a0_2 a0_3 a0_4 a0_5 a0_6 a0_7 a0_8 a0_9 a0_10))) = some r := by rw [if_neg (show ¬ (false = true) by decide)] at H; exact H
                              clear H
                              have H := H1
                              clear H1
                              by_cases c53 : a0_0 = 2
                              · rw [if_pos c53] at H
                                have c53b0 : (a0_0 == 2) = true := beq_iff_eq.mpr c53
                                have c53b1 : (a0_0 != 2) = false := bne_eq_false_iff_eq.mpr c53
                                clear c53
                                by_cases c54 : x7_23 = true
                                · subst c54
                                  have H1 : (if a0_0 = 3 then (turnstilelaw11_RecordValid.j3 kj23 x9_23 a0_0 a0_1 a0_2 a0_3 a0_4 a0_5 a0_6 a0_7 a0_8 a0_9 a0_10) else (turnstilelaw11_RecordValid.j3 kj23 false a0_0 a0_1 a0_2 a0_3 a0_4 a0_5 a0_6 a0_7 a0_8 a0_9 a0_10)) = some r := by rw [if_pos rfl] at H; exact H
                                  clear H
                                  have H := H1
                                  clear H1
                                  by_cases c55 : a0_0 = 3
                                  · rw [if_pos c55] at H
                                    have c55b0 : (a0_0 == 3) = true := beq_iff_eq.mpr c55
                                    have c55b1 : (a0_0 != 3) = false := bne_eq_false_iff_eq.mpr c55
                                    clear c55
                                    have H' := Aside0.mk H
                                    clear H
                                    obtain ⟨hcz56_0, hcz56_1, hcz56_2, hcz56_3, hcz56_4, hcz56_5, hcz56_6, hcz56_7, hcz56_8, hcz56_9, hcz56_10, hfz56_0, hfz56_1, hfz56_2, hfz56_3, hfz56_4, hfz56_5, hfz56_6, hfz56_7, hfz56_8, hfz56_9, hfz56_10⟩ := bc11 BK544
                                    go_wp2
                                    go_meet
                                    case rel => exact ⟨_, (x9_23), rs, H', ⟨by have := HJ4.out; have := HJ15.out; have := HJ23.out; first | omega | exact Nat.le_refl _⟩, ⟨bk BK544⟩, ⟨bw HB⟩⟩
                                  · rw [if_neg c55] at H
                                    have c55b0 : (a0_0 == 3) = false := beq_eq_false_iff_ne.mpr c55
                                    have c55b1 : (a0_0 != 3) = true := bne_iff_ne.mpr c55
                                    have H' := Aside0.mk H
                                    clear H
                                    obtain ⟨hcz57_0, hcz57_1, hcz57_2, hcz57_3, hcz57_4, hcz57_5, hcz57_6, hcz57_7, hcz57_8, hcz57_9, hcz57_10, hfz57_0, hfz57_1, hfz57_2, hfz57_3, hfz57_4, hfz57_5, hfz57_6, hfz57_7, hfz57_8, hfz57_9, hfz57_10⟩ := bc11 BK544
                                    go_wp2
                                    go_meet
                                    case rel => exact ⟨_, (false), rs, H', ⟨by have := HJ4.out; have := HJ15.out; have := HJ23.out; first | omega | exact Nat.le_refl _⟩, ⟨bk BK544⟩, ⟨bw HB⟩⟩
                                · replace c54 := Bool.eq_false_iff.mpr c54
                                  subst c54
                                  have H1 : (if a0_0 = 3 then (turnstilelaw11_RecordValid.j3 kj23 false a0_0 a0_1 a0_2 a0_3 a0_4 a0_5 a0_6 a0_7 a0_8 a0_9 a0_10) else (turnstilelaw11_RecordValid.j3 kj23 false a0_0 a0_1 a0_2 a0_3 a0_4 a0_5 a0_6 a0_7 a0_8 a0_9 a0_10)) = some r := by rw [if_neg (show ¬ (false = true) by decide)] at H; exact H
                                  clear H
                                  have H := H1
                                  clear H1
                                  by_cases c58 : a0_0 = 3
                                  · rw [if_pos c58] at H
                                    have c58b0 : (a0_0 == 3) = true := beq_iff_eq.mpr c58
                                    have c58b1 : (a0_0 != 3) = false := bne_eq_false_iff_eq.mpr c58
                                    clear c58
                                    have H' := Aside0.mk H
                                    clear H
                                    obtain ⟨hcz59_0, hcz59_1, hcz59_2, hcz59_3, hcz59_4, hcz59_5, hcz59_6, hcz59_7, hcz59_8, hcz59_9, hcz59_10, hfz59_0, hfz59_1, hfz59_2, hfz59_3, hfz59_4, hfz59_5, hfz59_6, hfz59_7, hfz59_8, hfz59_9, hfz59_10⟩ := bc11 BK544
                                    go_wp2
                                    go_meet
                                    case rel => exact ⟨_, (false), rs, H', ⟨by have := HJ4.out; have := HJ15.out; have := HJ23.out; first | omega | exact Nat.le_refl _⟩, ⟨bk BK544⟩, ⟨bw HB⟩⟩
                                  · rw [if_neg c58] at H
                                    have c58b0 : (a0_0 == 3) = false := beq_eq_false_iff_ne.mpr c58
                                    have c58b1 : (a0_0 != 3) = true := bne_iff_ne.mpr c58
                                    have H' := Aside0.mk H
                                    clear H
                                    obtain ⟨hcz60_0, hcz60_1, hcz60_2, hcz60_3, hcz60_4, hcz60_5, hcz60_6, hcz60_7, hcz60_8, hcz60_9, hcz60_10, hfz60_0, hfz60_1, hfz60_2, hfz60_3, hfz60_4, hfz60_5, hfz60_6, hfz60_7, hfz60_8, hfz60_9, hfz60_10⟩ := bc11 BK544
                                    go_wp2
                                    go_meet
                                    case rel => exact ⟨_, (false), rs, H', ⟨by have := HJ4.out; have := HJ15.out; have := HJ23.out; first | omega | exact Nat.le_refl _⟩, ⟨bk BK544⟩, ⟨bw HB⟩⟩
                              · rw [if_neg c53] at H
                                have c53b0 : (a0_0 == 2) = false := beq_eq_false_iff_ne.mpr c53
                                have c53b1 : (a0_0 != 2) = true := bne_iff_ne.mpr c53
                                by_cases c61 : a0_0 = 3
                                · rw [if_pos c61] at H
                                  have c61b0 : (a0_0 == 3) = true := beq_iff_eq.mpr c61
                                  have c61b1 : (a0_0 != 3) = false := bne_eq_false_iff_eq.mpr c61
                                  clear c61
                                  by_cases c62 : x7_23 = true
                                  · subst c62
                                    have H1 : (turnstilelaw11_RecordValid.j3 kj23 x9_23 a0_0 a0_1 a0_2 a0_3 a0_4 a0_5 a0_6 a0_7 a0_8 a0_9 a0_10) = some r := by rw [if_pos rfl] at H; exact H
                                    clear H
                                    have H := H1
                                    clear H1
                                    have H' := Aside0.mk H
                                    clear H
                                    obtain ⟨hcz63_0, hcz63_1, hcz63_2, hcz63_3, hcz63_4, hcz63_5, hcz63_6, hcz63_7, hcz63_8, hcz63_9, hcz63_10, hfz63_0, hfz63_1, hfz63_2, hfz63_3, hfz63_4, hfz63_5, hfz63_6, hfz63_7, hfz63_8, hfz63_9, hfz63_10⟩ := bc11 BK544
                                    go_wp2
                                    go_meet
                                    case rel => exact ⟨_, (x9_23), rs, H', ⟨by have := HJ4.out; have := HJ15.out; have := HJ23.out; first | omega | exact Nat.le_refl _⟩, ⟨bk BK544⟩, ⟨bw HB⟩⟩
                                  · replace c62 := Bool.eq_false_iff.mpr c62
                                    subst c62
                                    have H1 : (turnstilelaw11_RecordValid.j3 kj23 false a0_0 a0_1 a0_2 a0_3 a0_4 a0_5 a0_6 a0_7 a0_8 a0_9 a0_10) = some r := by rw [if_neg (show ¬ (false = true) by decide)] at H; exact H
                                    clear H
                                    have H := H1
                                    clear H1
                                    have H' := Aside0.mk H
                                    clear H
                                    obtain ⟨hcz64_0, hcz64_1, hcz64_2, hcz64_3, hcz64_4, hcz64_5, hcz64_6, hcz64_7, hcz64_8, hcz64_9, hcz64_10, hfz64_0, hfz64_1, hfz64_2, hfz64_3, hfz64_4, hfz64_5, hfz64_6, hfz64_7, hfz64_8, hfz64_9, hfz64_10⟩ := bc11 BK544
                                    go_wp2
                                    go_meet
                                    case rel => exact ⟨_, (false), rs, H', ⟨by have := HJ4.out; have := HJ15.out; have := HJ23.out; first | omega | exact Nat.le_refl _⟩, ⟨bk BK544⟩, ⟨bw HB⟩⟩
                                · rw [if_neg c61] at H
                                  have c61b0 : (a0_0 == 3) = false := beq_eq_false_iff_ne.mpr c61
                                  have c61b1 : (a0_0 != 3) = true := bne_iff_ne.mpr c61
                                  have H' := Aside0.mk H
                                  clear H
                                  obtain ⟨hcz65_0, hcz65_1, hcz65_2, hcz65_3, hcz65_4, hcz65_5, hcz65_6, hcz65_7, hcz65_8, hcz65_9, hcz65_10, hfz65_0, hfz65_1, hfz65_2, hfz65_3, hfz65_4, hfz65_5, hfz65_6, hfz65_7, hfz65_8, hfz65_9, hfz65_10⟩ := bc11 BK544
                                  go_wp2
                                  go_meet
                                  case rel => exact ⟨_, (false), rs, H', ⟨by have := HJ4.out; have := HJ15.out; have := HJ23.out; first | omega | exact Nat.le_refl _⟩, ⟨bk BK544⟩, ⟨bw HB⟩⟩
                          · replace c50 := Bool.eq_false_iff.mpr c50
                            subst c50
                            have H1 : (if a0_0 = 2 then (if x7_23 = true then (if x8_23 = true then (turnstilelaw11_RecordValid.j3 kj23 true a0_0 a0_1 a0_2 a0_3 a0_4 a0_5 a0_6 a0_7 a0_8 a0_9 a0_10) else (if a0_0 = 3 then (turnstilelaw11_RecordValid.j3 kj23 x9_23 a0_0 a0_1 a0_2 a0_3 a0_4 a0_5 a0_6 a0_7 a0_8 a0_9 a0_10) else (turnstilelaw11_RecordValid.j3 kj23 false a0_0 a0_1 a0_2 a0_3 a0_4 a0_5 a0_6 a0_7 a0_8 a0_9 a0_10))) else (if a0_0 = 3 then (turnstilelaw11_RecordValid.j3 kj23 false a0_0 a0_1 a0_2 a0_3 a0_4 a0_5 a0_6 a0_7 a0_8 a0_9 a0_10) else (turnstilelaw11_RecordValid.j3 kj23 false a0_0 a0_1 a0_2 a0_3 a0_4 a0_5 a0_6 a0_7 a0_8 a0_9 a0_10))) else (if a0_0 = 3 then (if x7_23 = true then (turnstilelaw11_RecordValid.j3 kj23 x9_23 a0_0 a0_1 a0_2 a0_3 a0_4 a0_5 a0_6 a0_7 a0_8 a0_9 a0_10) else (turnstilelaw11_RecordValid.j3 kj23 false a0_0 a0_1 a0_2 a0_3 a0_4 a0_5 a0_6 a0_7 a0_8 a0_9 a0_10)) else (turnstilelaw11_RecordValid.j3 kj23 false a0_0 a0_1 a0_2 a0_3 a0_4 a0_5 a0_6 a0_7 a0_8 a0_9 a0_10))) = some r := by rw [if_neg (show ¬ (false = true) by decide)] at H; exact H
                            clear H
                            have H := H1
                            clear H1
                            by_cases c66 : a0_0 = 2
                            · rw [if_pos c66] at H
                              have c66b0 : (a0_0 == 2) = true := beq_iff_eq.mpr c66
                              have c66b1 : (a0_0 != 2) = false := bne_eq_false_iff_eq.mpr c66
                              clear c66
                              by_cases c67 : x7_23 = true
                              · subst c67
                                have H1 : (if x8_23 = true then (turnstilelaw11_RecordValid.j3 kj23 true a0_0 a0_1 a0_2 a0_3 a0_4 a0_5 a0_6 a0_7 a0_8 a0_9 a0_10) else (if a0_0 = 3 then (turnstilelaw11_RecordValid.j3 kj23 x9_23 a0_0 a0_1 a0_2 a0_3 a0_4 a0_5 a0_6 a0_7 a0_8 a0_9 a0_10) else (turnstilelaw11_RecordValid.j3 kj23 false a0_0 a0_1 a0_2 a0_3 a0_4 a0_5 a0_6 a0_7 a0_8 a0_9 a0_10))) = some r := by rw [if_pos rfl] at H; exact H
                                clear H
                                have H := H1
                                clear H1
                                by_cases c68 : x8_23 = true
                                · subst c68
                                  have H1 : (turnstilelaw11_RecordValid.j3 kj23 true a0_0 a0_1 a0_2 a0_3 a0_4 a0_5 a0_6 a0_7 a0_8 a0_9 a0_10) = some r := by rw [if_pos rfl] at H; exact H
                                  clear H
                                  have H := H1
                                  clear H1
                                  have H' := Aside0.mk H
                                  clear H
                                  obtain ⟨hcz69_0, hcz69_1, hcz69_2, hcz69_3, hcz69_4, hcz69_5, hcz69_6, hcz69_7, hcz69_8, hcz69_9, hcz69_10, hfz69_0, hfz69_1, hfz69_2, hfz69_3, hfz69_4, hfz69_5, hfz69_6, hfz69_7, hfz69_8, hfz69_9, hfz69_10⟩ := bc11 BK544
                                  go_wp2
                                  go_meet
                                  case rel => exact ⟨_, (true), rs, H', ⟨by have := HJ4.out; have := HJ15.out; have := HJ23.out; first | omega | exact Nat.le_refl _⟩, ⟨bk BK544⟩, ⟨bw HB⟩⟩
                                · replace c68 := Bool.eq_false_iff.mpr c68
                                  subst c68
                                  have H1 : (if a0_0 = 3 then (turnstilelaw11_RecordValid.j3 kj23 x9_23 a0_0 a0_1 a0_2 a0_3 a0_4 a0_5 a0_6 a0_7 a0_8 a0_9 a0_10) else (turnstilelaw11_RecordValid.j3 kj23 false a0_0 a0_1 a0_2 a0_3 a0_4 a0_5 a0_6 a0_7 a0_8 a0_9 a0_10)) = some r := by rw [if_neg (show ¬ (false = true) by decide)] at H; exact H
                                  clear H
                                  have H := H1
                                  clear H1
                                  by_cases c70 : a0_0 = 3
                                  · rw [if_pos c70] at H
                                    have c70b0 : (a0_0 == 3) = true := beq_iff_eq.mpr c70
                                    have c70b1 : (a0_0 != 3) = false := bne_eq_false_iff_eq.mpr c70
                                    clear c70
                                    have H' := Aside0.mk H
                                    clear H
                                    obtain ⟨hcz71_0, hcz71_1, hcz71_2, hcz71_3, hcz71_4, hcz71_5, hcz71_6, hcz71_7, hcz71_8, hcz71_9, hcz71_10, hfz71_0, hfz71_1, hfz71_2, hfz71_3, hfz71_4, hfz71_5, hfz71_6, hfz71_7, hfz71_8, hfz71_9, hfz71_10⟩ := bc11 BK544
                                    go_wp2
                                    go_meet
                                    case rel => exact ⟨_, (x9_23), rs, H', ⟨by have := HJ4.out; have := HJ15.out; have := HJ23.out; first | omega | exact Nat.le_refl _⟩, ⟨bk BK544⟩, ⟨bw HB⟩⟩
                                  · rw [if_neg c70] at H
                                    have c70b0 : (a0_0 == 3) = false := beq_eq_false_iff_ne.mpr c70
                                    have c70b1 : (a0_0 != 3) = true := bne_iff_ne.mpr c70
                                    have H' := Aside0.mk H
                                    clear H
                                    obtain ⟨hcz72_0, hcz72_1, hcz72_2, hcz72_3, hcz72_4, hcz72_5, hcz72_6, hcz72_7, hcz72_8, hcz72_9, hcz72_10, hfz72_0, hfz72_1, hfz72_2, hfz72_3, hfz72_4, hfz72_5, hfz72_6, hfz72_7, hfz72_8, hfz72_9, hfz72_10⟩ := bc11 BK544
                                    go_wp2
                                    go_meet
                                    case rel => exact ⟨_, (false), rs, H', ⟨by have := HJ4.out; have := HJ15.out; have := HJ23.out; first | omega | exact Nat.le_refl _⟩, ⟨bk BK544⟩, ⟨bw HB⟩⟩
                              · replace c67 := Bool.eq_false_iff.mpr c67
                                subst c67
                                have H1 : (if a0_0 = 3 then (turnstilelaw11_RecordValid.j3 kj23 false a0_0 a0_1 a0_2 a0_3 a0_4 a0_5 a0_6 a0_7 a0_8 a0_9 a0_10) else (turnstilelaw11_RecordValid.j3 kj23 false a0_0 a0_1 a0_2 a0_3 a0_4 a0_5 a0_6 a0_7 a0_8 a0_9 a0_10)) = some r := by rw [if_neg (show ¬ (false = true) by decide)] at H; exact H
                                clear H
                                have H := H1
                                clear H1
                                by_cases c73 : a0_0 = 3
                                · rw [if_pos c73] at H
                                  have c73b0 : (a0_0 == 3) = true := beq_iff_eq.mpr c73
                                  have c73b1 : (a0_0 != 3) = false := bne_eq_false_iff_eq.mpr c73
                                  clear c73
                                  have H' := Aside0.mk H
                                  clear H
                                  obtain ⟨hcz74_0, hcz74_1, hcz74_2, hcz74_3, hcz74_4, hcz74_5, hcz74_6, hcz74_7, hcz74_8, hcz74_9, hcz74_10, hfz74_0, hfz74_1, hfz74_2, hfz74_3, hfz74_4, hfz74_5, hfz74_6, hfz74_7, hfz74_8, hfz74_9, hfz74_10⟩ := bc11 BK544
                                  go_wp2
                                  go_meet
                                  case rel => exact ⟨_, (false), rs, H', ⟨by have := HJ4.out; have := HJ15.out; have := HJ23.out; first | omega | exact Nat.le_refl _⟩, ⟨bk BK544⟩, ⟨bw HB⟩⟩
                                · rw [if_neg c73] at H
                                  have c73b0 : (a0_0 == 3) = false := beq_eq_false_iff_ne.mpr c73
                                  have c73b1 : (a0_0 != 3) = true := bne_iff_ne.mpr c73
                                  have H' := Aside0.mk H
                                  clear H
                                  obtain ⟨hcz75_0, hcz75_1, hcz75_2, hcz75_3, hcz75_4, hcz75_5, hcz75_6, hcz75_7, hcz75_8, hcz75_9, hcz75_10, hfz75_0, hfz75_1, hfz75_2, hfz75_3, hfz75_4, hfz75_5, hfz75_6, hfz75_7, hfz75_8, hfz75_9, hfz75_10⟩ := bc11 BK544
                                  go_wp2
                                  go_meet
                                  case rel => exact ⟨_, (false), rs, H', ⟨by have := HJ4.out; have := HJ15.out; have := HJ23.out; first | omega | exact Nat.le_refl _⟩, ⟨bk BK544⟩, ⟨bw HB⟩⟩
                            · rw [if_neg c66] at H
                              have c66b0 : (a0_0 == 2) = false := beq_eq_false_iff_ne.mpr c66
                              have c66b1 : (a0_0 != 2) = true := bne_iff_ne.mpr c66
                              by_cases c76 : a0_0 = 3
                              · rw [if_pos c76] at H
                                have c76b0 : (a0_0 == 3) = true := beq_iff_eq.mpr c76
                                have c76b1 : (a0_0 != 3) = false := bne_eq_false_iff_eq.mpr c76
                                clear c76
                                by_cases c77 : x7_23 = true
                                · subst c77
                                  have H1 : (turnstilelaw11_RecordValid.j3 kj23 x9_23 a0_0 a0_1 a0_2 a0_3 a0_4 a0_5 a0_6 a0_7 a0_8 a0_9 a0_10) = some r := by rw [if_pos rfl] at H; exact H
                                  clear H
                                  have H := H1
                                  clear H1
                                  have H' := Aside0.mk H
                                  clear H
                                  obtain ⟨hcz78_0, hcz78_1, hcz78_2, hcz78_3, hcz78_4, hcz78_5, hcz78_6, hcz78_7, hcz78_8, hcz78_9, hcz78_10, hfz78_0, hfz78_1, hfz78_2, hfz78_3, hfz78_4, hfz78_5, hfz78_6, hfz78_7, hfz78_8, hfz78_9, hfz78_10⟩ := bc11 BK544
                                  go_wp2
                                  go_meet
                                  case rel => exact ⟨_, (x9_23), rs, H', ⟨by have := HJ4.out; have := HJ15.out; have := HJ23.out; first | omega | exact Nat.le_refl _⟩, ⟨bk BK544⟩, ⟨bw HB⟩⟩
                                · replace c77 := Bool.eq_false_iff.mpr c77
                                  subst c77
                                  have H1 : (turnstilelaw11_RecordValid.j3 kj23 false a0_0 a0_1 a0_2 a0_3 a0_4 a0_5 a0_6 a0_7 a0_8 a0_9 a0_10) = some r := by rw [if_neg (show ¬ (false = true) by decide)] at H; exact H
                                  clear H
                                  have H := H1
                                  clear H1
                                  have H' := Aside0.mk H
                                  clear H
                                  obtain ⟨hcz79_0, hcz79_1, hcz79_2, hcz79_3, hcz79_4, hcz79_5, hcz79_6, hcz79_7, hcz79_8, hcz79_9, hcz79_10, hfz79_0, hfz79_1, hfz79_2, hfz79_3, hfz79_4, hfz79_5, hfz79_6, hfz79_7, hfz79_8, hfz79_9, hfz79_10⟩ := bc11 BK544
                                  go_wp2
                                  go_meet
                                  case rel => exact ⟨_, (false), rs, H', ⟨by have := HJ4.out; have := HJ15.out; have := HJ23.out; first | omega | exact Nat.le_refl _⟩, ⟨bk BK544⟩, ⟨bw HB⟩⟩
                              · rw [if_neg c76] at H
                                have c76b0 : (a0_0 == 3) = false := beq_eq_false_iff_ne.mpr c76
                                have c76b1 : (a0_0 != 3) = true := bne_iff_ne.mpr c76
                                have H' := Aside0.mk H
                                clear H
                                obtain ⟨hcz80_0, hcz80_1, hcz80_2, hcz80_3, hcz80_4, hcz80_5, hcz80_6, hcz80_7, hcz80_8, hcz80_9, hcz80_10, hfz80_0, hfz80_1, hfz80_2, hfz80_3, hfz80_4, hfz80_5, hfz80_6, hfz80_7, hfz80_8, hfz80_9, hfz80_10⟩ := bc11 BK544
                                go_wp2
                                go_meet
                                case rel => exact ⟨_, (false), rs, H', ⟨by have := HJ4.out; have := HJ15.out; have := HJ23.out; first | omega | exact Nat.le_refl _⟩, ⟨bk BK544⟩, ⟨bw HB⟩⟩
                      · rw [if_neg c33] at H
                        have c33b0 : (a0_0 == 1) = false := beq_eq_false_iff_ne.mpr c33
                        have c33b1 : (a0_0 != 1) = true := bne_iff_ne.mpr c33
                        (first | rw [c33b0] | (simp only [i64_w, i32_w]; rw [c33b0]) | skip)
                        by_cases c81 : a0_0 = 2
                        · rw [if_pos c81] at H
                          have c81b0 : (a0_0 == 2) = true := beq_iff_eq.mpr c81
                          have c81b1 : (a0_0 != 2) = false := bne_eq_false_iff_eq.mpr c81
                          clear c81
                          by_cases c82 : x7_23 = true
                          · subst c82
                            have H1 : (if x8_23 = true then (turnstilelaw11_RecordValid.j3 kj23 true a0_0 a0_1 a0_2 a0_3 a0_4 a0_5 a0_6 a0_7 a0_8 a0_9 a0_10) else (if a0_0 = 3 then (turnstilelaw11_RecordValid.j3 kj23 x9_23 a0_0 a0_1 a0_2 a0_3 a0_4 a0_5 a0_6 a0_7 a0_8 a0_9 a0_10) else (turnstilelaw11_RecordValid.j3 kj23 false a0_0 a0_1 a0_2 a0_3 a0_4 a0_5 a0_6 a0_7 a0_8 a0_9 a0_10))) = some r := by rw [if_pos rfl] at H; exact H
                            clear H
                            have H := H1
                            clear H1
                            by_cases c83 : x8_23 = true
                            · subst c83
                              have H1 : (turnstilelaw11_RecordValid.j3 kj23 true a0_0 a0_1 a0_2 a0_3 a0_4 a0_5 a0_6 a0_7 a0_8 a0_9 a0_10) = some r := by rw [if_pos rfl] at H; exact H
                              clear H
                              have H := H1
                              clear H1
                              have H' := Aside0.mk H
                              clear H
                              obtain ⟨hcz84_0, hcz84_1, hcz84_2, hcz84_3, hcz84_4, hcz84_5, hcz84_6, hcz84_7, hcz84_8, hcz84_9, hcz84_10, hfz84_0, hfz84_1, hfz84_2, hfz84_3, hfz84_4, hfz84_5, hfz84_6, hfz84_7, hfz84_8, hfz84_9, hfz84_10⟩ := bc11 BK544
                              go_wp2
                              go_meet
                              case rel => exact ⟨_, (true), rs, H', ⟨by have := HJ4.out; have := HJ15.out; have := HJ23.out; first | omega | exact Nat.le_refl _⟩, ⟨bk BK544⟩, ⟨bw HB⟩⟩
                            · replace c83 := Bool.eq_false_iff.mpr c83
                              subst c83
                              have H1 : (if a0_0 = 3 then (turnstilelaw11_RecordValid.j3 kj23 x9_23 a0_0 a0_1 a0_2 a0_3 a0_4 a0_5 a0_6 a0_7 a0_8 a0_9 a0_10) else (turnstilelaw11_RecordValid.j3 kj23 false a0_0 a0_1 a0_2 a0_3 a0_4 a0_5 a0_6 a0_7 a0_8 a0_9 a0_10)) = some r := by rw [if_neg (show ¬ (false = true) by decide)] at H; exact H
                              clear H
                              have H := H1
                              clear H1
                              by_cases c85 : a0_0 = 3
                              · rw [if_pos c85] at H
                                have c85b0 : (a0_0 == 3) = true := beq_iff_eq.mpr c85
                                have c85b1 : (a0_0 != 3) = false := bne_eq_false_iff_eq.mpr c85
                                clear c85
                                have H' := Aside0.mk H
                                clear H
                                obtain ⟨hcz86_0, hcz86_1, hcz86_2, hcz86_3, hcz86_4, hcz86_5, hcz86_6, hcz86_7, hcz86_8, hcz86_9, hcz86_10, hfz86_0, hfz86_1, hfz86_2, hfz86_3, hfz86_4, hfz86_5, hfz86_6, hfz86_7, hfz86_8, hfz86_9, hfz86_10⟩ := bc11 BK544
                                go_wp2
                                go_meet
                                case rel => exact ⟨_, (x9_23), rs, H', ⟨by have := HJ4.out; have := HJ15.out; have := HJ23.out; first | omega | exact Nat.le_refl _⟩, ⟨bk BK544⟩, ⟨bw HB⟩⟩
                              · rw [if_neg c85] at H
                                have c85b0 : (a0_0 == 3) = false := beq_eq_false_iff_ne.mpr c85
                                have c85b1 : (a0_0 != 3) = true := bne_iff_ne.mpr c85
                                have H' := Aside0.mk H
                                clear H
                                obtain ⟨hcz87_0, hcz87_1, hcz87_2, hcz87_3, hcz87_4, hcz87_5, hcz87_6, hcz87_7, hcz87_8, hcz87_9, hcz87_10, hfz87_0, hfz87_1, hfz87_2, hfz87_3, hfz87_4, hfz87_5, hfz87_6, hfz87_7, hfz87_8, hfz87_9, hfz87_10⟩ := bc11 BK544
                                go_wp2
                                go_meet
                                case rel => exact ⟨_, (false), rs, H', ⟨by have := HJ4.out; have := HJ15.out; have := HJ23.out; first | omega | exact Nat.le_refl _⟩, ⟨bk BK544⟩, ⟨bw HB⟩⟩
                          · replace c82 := Bool.eq_false_iff.mpr c82
                            subst c82
                            have H1 : (if a0_0 = 3 then (turnstilelaw11_RecordValid.j3 kj23 false a0_0 a0_1 a0_2 a0_3 a0_4 a0_5 a0_6 a0_7 a0_8 a0_9 a0_10) else (turnstilelaw11_RecordValid.j3 kj23 false a0_0 a0_1 a0_2 a0_3 a0_4 a0_5 a0_6 a0_7 a0_8 a0_9 a0_10)) = some r := by rw [if_neg (show ¬ (false = true) by decide)] at H; exact H
                            clear H
                            have H := H1
                            clear H1
                            by_cases c88 : a0_0 = 3
                            · rw [if_pos c88] at H
                              have c88b0 : (a0_0 == 3) = true := beq_iff_eq.mpr c88
                              have c88b1 : (a0_0 != 3) = false := bne_eq_false_iff_eq.mpr c88
                              clear c88
                              have H' := Aside0.mk H
                              clear H
                              obtain ⟨hcz89_0, hcz89_1, hcz89_2, hcz89_3, hcz89_4, hcz89_5, hcz89_6, hcz89_7, hcz89_8, hcz89_9, hcz89_10, hfz89_0, hfz89_1, hfz89_2, hfz89_3, hfz89_4, hfz89_5, hfz89_6, hfz89_7, hfz89_8, hfz89_9, hfz89_10⟩ := bc11 BK544
                              go_wp2
                              go_meet
                              case rel => exact ⟨_, (false), rs, H', ⟨by have := HJ4.out; have := HJ15.out; have := HJ23.out; first | omega | exact Nat.le_refl _⟩, ⟨bk BK544⟩, ⟨bw HB⟩⟩
                            · rw [if_neg c88] at H
                              have c88b0 : (a0_0 == 3) = false := beq_eq_false_iff_ne.mpr c88
                              have c88b1 : (a0_0 != 3) = true := bne_iff_ne.mpr c88
                              have H' := Aside0.mk H
                              clear H
                              obtain ⟨hcz90_0, hcz90_1, hcz90_2, hcz90_3, hcz90_4, hcz90_5, hcz90_6, hcz90_7, hcz90_8, hcz90_9, hcz90_10, hfz90_0, hfz90_1, hfz90_2, hfz90_3, hfz90_4, hfz90_5, hfz90_6, hfz90_7, hfz90_8, hfz90_9, hfz90_10⟩ := bc11 BK544
                              go_wp2
                              go_meet
                              case rel => exact ⟨_, (false), rs, H', ⟨by have := HJ4.out; have := HJ15.out; have := HJ23.out; first | omega | exact Nat.le_refl _⟩, ⟨bk BK544⟩, ⟨bw HB⟩⟩
                        · rw [if_neg c81] at H
                          have c81b0 : (a0_0 == 2) = false := beq_eq_false_iff_ne.mpr c81
                          have c81b1 : (a0_0 != 2) = true := bne_iff_ne.mpr c81
                          by_cases c91 : a0_0 = 3
                          · rw [if_pos c91] at H
                            have c91b0 : (a0_0 == 3) = true := beq_iff_eq.mpr c91
                            have c91b1 : (a0_0 != 3) = false := bne_eq_false_iff_eq.mpr c91
                            clear c91
                            by_cases c92 : x7_23 = true
                            · subst c92
                              have H1 : (turnstilelaw11_RecordValid.j3 kj23 x9_23 a0_0 a0_1 a0_2 a0_3 a0_4 a0_5 a0_6 a0_7 a0_8 a0_9 a0_10) = some r := by rw [if_pos rfl] at H; exact H
                              clear H
                              have H := H1
                              clear H1
                              have H' := Aside0.mk H
                              clear H
                              obtain ⟨hcz93_0, hcz93_1, hcz93_2, hcz93_3, hcz93_4, hcz93_5, hcz93_6, hcz93_7, hcz93_8, hcz93_9, hcz93_10, hfz93_0, hfz93_1, hfz93_2, hfz93_3, hfz93_4, hfz93_5, hfz93_6, hfz93_7, hfz93_8, hfz93_9, hfz93_10⟩ := bc11 BK544
                              go_wp2
                              go_meet
                              case rel => exact ⟨_, (x9_23), rs, H', ⟨by have := HJ4.out; have := HJ15.out; have := HJ23.out; first | omega | exact Nat.le_refl _⟩, ⟨bk BK544⟩, ⟨bw HB⟩⟩
                            · replace c92 := Bool.eq_false_iff.mpr c92
                              subst c92
                              have H1 : (turnstilelaw11_RecordValid.j3 kj23 false a0_0 a0_1 a0_2 a0_3 a0_4 a0_5 a0_6 a0_7 a0_8 a0_9 a0_10) = some r := by rw [if_neg (show ¬ (false = true) by decide)] at H; exact H
                              clear H
                              have H := H1
                              clear H1
                              have H' := Aside0.mk H
                              clear H
                              obtain ⟨hcz94_0, hcz94_1, hcz94_2, hcz94_3, hcz94_4, hcz94_5, hcz94_6, hcz94_7, hcz94_8, hcz94_9, hcz94_10, hfz94_0, hfz94_1, hfz94_2, hfz94_3, hfz94_4, hfz94_5, hfz94_6, hfz94_7, hfz94_8, hfz94_9, hfz94_10⟩ := bc11 BK544
                              go_wp2
                              go_meet
                              case rel => exact ⟨_, (false), rs, H', ⟨by have := HJ4.out; have := HJ15.out; have := HJ23.out; first | omega | exact Nat.le_refl _⟩, ⟨bk BK544⟩, ⟨bw HB⟩⟩
                          · rw [if_neg c91] at H
                            have c91b0 : (a0_0 == 3) = false := beq_eq_false_iff_ne.mpr c91
                            have c91b1 : (a0_0 != 3) = true := bne_iff_ne.mpr c91
                            have H' := Aside0.mk H
                            clear H
                            obtain ⟨hcz95_0, hcz95_1, hcz95_2, hcz95_3, hcz95_4, hcz95_5, hcz95_6, hcz95_7, hcz95_8, hcz95_9, hcz95_10, hfz95_0, hfz95_1, hfz95_2, hfz95_3, hfz95_4, hfz95_5, hfz95_6, hfz95_7, hfz95_8, hfz95_9, hfz95_10⟩ := bc11 BK544
                            go_wp2
                            go_meet
                            case rel => exact ⟨_, (false), rs, H', ⟨by have := HJ4.out; have := HJ15.out; have := HJ23.out; first | omega | exact Nat.le_refl _⟩, ⟨bk BK544⟩, ⟨bw HB⟩⟩
                    · replace c32 := Bool.eq_false_iff.mpr c32
                      subst c32
                      have H1 : (turnstilelaw11_RecordValid.j3 kj23 false a0_0 a0_1 a0_2 a0_3 a0_4 a0_5 a0_6 a0_7 a0_8 a0_9 a0_10) = some r := by rw [if_neg (show ¬ (false = true) by decide)] at H; exact H
                      clear H
                      have H := H1
                      clear H1
                      have H' := Aside0.mk H
                      clear H
                      go_wp2
                      go_meet
                      case rel => exact ⟨_, (false), rs, H', ⟨by have := HJ4.out; have := HJ15.out; have := HJ23.out; first | omega | exact Nat.le_refl _⟩, ⟨bk BK544⟩, ⟨bw HB⟩⟩
                  case rest => as_aux_lemma =>
                    clear HC31
                    try clear p2
                    try clear c3
                    try clear c5
                    try clear c6
                    try clear c7
                    try clear c8
                    try clear c9
                    try clear c32
                    try clear c33
                    try clear c33b0
                    try clear c33b1
                    try clear c50
                    try clear c66
                    try clear c66b0
                    try clear c66b1
                    try clear c67
                    try clear c68
                    try clear c70
                    try clear c70b0
                    try clear c70b1
                    try clear c73
                    try clear c73b0
                    try clear c73b1
                    try clear c76
                    try clear c76b0
                    try clear c76b1
                    try clear c77
                    try clear c81
                    try clear c81b0
                    try clear c81b1
                    try clear c82
                    try clear c83
                    try clear c85
                    try clear c85b0
                    try clear c85b1
                    try clear c88
                    try clear c88b0
                    try clear c88b1
                    try clear c91
                    try clear c91b0
                    try clear c91b1
                    try clear c92
                    try clear hcz69_0
                    try clear hcz69_1
                    try clear hcz69_10
                    try clear hcz69_2
                    try clear hcz69_3
                    try clear hcz69_4
                    try clear hcz69_5
                    try clear hcz69_6
                    try clear hcz69_7
                    try clear hcz69_8
                    try clear hcz69_9
                    try clear hcz71_0
                    try clear hcz71_1
                    try clear hcz71_10
                    try clear hcz71_2
                    try clear hcz71_3
                    try clear hcz71_4
                    try clear hcz71_5
                    try clear hcz71_6
                    try clear hcz71_7
                    try clear hcz71_8
                    try clear hcz71_9
                    try clear hcz72_0
                    try clear hcz72_1
                    try clear hcz72_10
                    try clear hcz72_2
                    try clear hcz72_3
                    try clear hcz72_4
                    try clear hcz72_5
                    try clear hcz72_6
                    try clear hcz72_7
                    try clear hcz72_8
                    try clear hcz72_9
                    try clear hcz74_0
                    try clear hcz74_1
                    try clear hcz74_10
                    try clear hcz74_2
                    try clear hcz74_3
                    try clear hcz74_4
                    try clear hcz74_5
                    try clear hcz74_6
                    try clear hcz74_7
                    try clear hcz74_8
                    try clear hcz74_9
                    try clear hcz75_0
                    try clear hcz75_1
                    try clear hcz75_10
                    try clear hcz75_2
                    try clear hcz75_3
                    try clear hcz75_4
                    try clear hcz75_5
                    try clear hcz75_6
                    try clear hcz75_7
                    try clear hcz75_8
                    try clear hcz75_9
                    try clear hcz78_0
                    try clear hcz78_1
                    try clear hcz78_10
                    try clear hcz78_2
                    try clear hcz78_3
                    try clear hcz78_4
                    try clear hcz78_5
                    try clear hcz78_6
                    try clear hcz78_7
                    try clear hcz78_8
                    try clear hcz78_9
                    try clear hcz79_0
                    try clear hcz79_1
                    try clear hcz79_10
                    try clear hcz79_2
                    try clear hcz79_3
                    try clear hcz79_4
                    try clear hcz79_5
                    try clear hcz79_6
                    try clear hcz79_7
                    try clear hcz79_8
                    try clear hcz79_9
                    try clear hcz80_0
                    try clear hcz80_1
                    try clear hcz80_10
                    try clear hcz80_2
                    try clear hcz80_3
                    try clear hcz80_4
                    try clear hcz80_5
                    try clear hcz80_6
                    try clear hcz80_7
                    try clear hcz80_8
                    try clear hcz80_9
                    try clear hcz84_0
                    try clear hcz84_1
                    try clear hcz84_10
                    try clear hcz84_2
                    try clear hcz84_3
                    try clear hcz84_4
                    try clear hcz84_5
                    try clear hcz84_6
                    try clear hcz84_7
                    try clear hcz84_8
                    try clear hcz84_9
                    try clear hcz86_0
                    try clear hcz86_1
                    try clear hcz86_10
                    try clear hcz86_2
                    try clear hcz86_3
                    try clear hcz86_4
                    try clear hcz86_5
                    try clear hcz86_6
                    try clear hcz86_7
                    try clear hcz86_8
                    try clear hcz86_9
                    try clear hcz87_0
                    try clear hcz87_1
                    try clear hcz87_10
                    try clear hcz87_2
                    try clear hcz87_3
                    try clear hcz87_4
                    try clear hcz87_5
                    try clear hcz87_6
                    try clear hcz87_7
                    try clear hcz87_8
                    try clear hcz87_9
                    try clear hcz89_0
                    try clear hcz89_1
                    try clear hcz89_10
                    try clear hcz89_2
                    try clear hcz89_3
                    try clear hcz89_4
                    try clear hcz89_5
                    try clear hcz89_6
                    try clear hcz89_7
                    try clear hcz89_8
                    try clear hcz89_9
                    try clear hcz90_0
                    try clear hcz90_1
                    try clear hcz90_10
                    try clear hcz90_2
                    try clear hcz90_3
                    try clear hcz90_4
                    try clear hcz90_5
                    try clear hcz90_6
                    try clear hcz90_7
                    try clear hcz90_8
                    try clear hcz90_9
                    try clear hcz93_0
                    try clear hcz93_1
                    try clear hcz93_10
                    try clear hcz93_2
                    try clear hcz93_3
                    try clear hcz93_4
                    try clear hcz93_5
                    try clear hcz93_6
                    try clear hcz93_7
                    try clear hcz93_8
                    try clear hcz93_9
                    try clear hcz94_0
                    try clear hcz94_1
                    try clear hcz94_10
                    try clear hcz94_2
                    try clear hcz94_3
                    try clear hcz94_4
                    try clear hcz94_5
                    try clear hcz94_6
                    try clear hcz94_7
                    try clear hcz94_8
                    try clear hcz94_9
                    try clear hcz95_0
                    try clear hcz95_1
                    try clear hcz95_10
                    try clear hcz95_2
                    try clear hcz95_3
                    try clear hcz95_4
                    try clear hcz95_5
                    try clear hcz95_6
                    try clear hcz95_7
                    try clear hcz95_8
                    try clear hcz95_9
                    try clear hfz65_10
                    try clear hfz65_5
                    try clear hfz65_6
                    try clear hfz65_7
                    try clear hfz65_8
                    try clear hfz65_9
                    try clear hfz69_0
                    try clear hfz69_1
                    try clear hfz69_10
                    try clear hfz69_2
                    try clear hfz69_3
                    try clear hfz69_4
                    try clear hfz69_5
                    try clear hfz69_6
                    try clear hfz69_7
                    try clear hfz69_8
                    try clear hfz69_9
                    try clear hfz71_0
                    try clear hfz71_1
                    try clear hfz71_10
                    try clear hfz71_2
                    try clear hfz71_3
                    try clear hfz71_4
                    try clear hfz71_5
                    try clear hfz71_6
                    try clear hfz71_7
                    try clear hfz71_8
                    try clear hfz71_9
                    try clear hfz72_0
                    try clear hfz72_1
                    try clear hfz72_10
                    try clear hfz72_2
                    try clear hfz72_3
                    try clear hfz72_4
                    try clear hfz72_5
                    try clear hfz72_6
                    try clear hfz72_7
                    try clear hfz72_8
                    try clear hfz72_9
                    try clear hfz74_0
                    try clear hfz74_1
                    try clear hfz74_10
                    try clear hfz74_2
                    try clear hfz74_3
                    try clear hfz74_4
                    try clear hfz74_5
                    try clear hfz74_6
                    try clear hfz74_7
                    try clear hfz74_8
                    try clear hfz74_9
                    try clear hfz75_0
                    try clear hfz75_1
                    try clear hfz75_10
                    try clear hfz75_2
                    try clear hfz75_3
                    try clear hfz75_4
                    try clear hfz75_5
                    try clear hfz75_6
                    try clear hfz75_7
                    try clear hfz75_8
                    try clear hfz75_9
                    try clear hfz78_0
                    try clear hfz78_1
                    try clear hfz78_10
                    try clear hfz78_2
                    try clear hfz78_3
                    try clear hfz78_4
                    try clear hfz78_5
                    try clear hfz78_6
                    try clear hfz78_7
                    try clear hfz78_8
                    try clear hfz78_9
                    try clear hfz79_0
                    try clear hfz79_1
                    try clear hfz79_10
                    try clear hfz79_2
                    try clear hfz79_3
                    try clear hfz79_4
                    try clear hfz79_5
                    try clear hfz79_6
                    try clear hfz79_7
                    try clear hfz79_8
                    try clear hfz79_9
                    try clear hfz80_0
                    try clear hfz80_1
                    try clear hfz80_10
                    try clear hfz80_2
                    try clear hfz80_3
                    try clear hfz80_4
                    try clear hfz80_5
                    try clear hfz80_6
                    try clear hfz80_7
                    try clear hfz80_8
                    try clear hfz80_9
                    try clear hfz84_0
                    try clear hfz84_1
                    try clear hfz84_10
                    try clear hfz84_2
                    try clear hfz84_3
                    try clear hfz84_4
                    try clear hfz84_5
                    try clear hfz84_6
                    try clear hfz84_7
                    try clear hfz84_8
                    try clear hfz84_9
                    try clear hfz86_0
                    try clear hfz86_1
                    try clear hfz86_10
                    try clear hfz86_2
                    try clear hfz86_3
                    try clear hfz86_4
                    try clear hfz86_5
                    try clear hfz86_6
                    try clear hfz86_7
                    try clear hfz86_8
                    try clear hfz86_9
                    try clear hfz87_0
                    try clear hfz87_1
                    try clear hfz87_10
                    try clear hfz87_2
                    try clear hfz87_3
                    try clear hfz87_4
                    try clear hfz87_5
                    try clear hfz87_6
                    try clear hfz87_7
                    try clear hfz87_8
                    try clear hfz87_9
                    try clear hfz89_0
                    try clear hfz89_1
                    try clear hfz89_10
                    try clear hfz89_2
                    try clear hfz89_3
                    try clear hfz89_4
                    try clear hfz89_5
                    try clear hfz89_6
                    try clear hfz89_7
                    try clear hfz89_8
                    try clear hfz89_9
                    try clear hfz90_0
                    try clear hfz90_1
                    try clear hfz90_10
                    try clear hfz90_2
                    try clear hfz90_3
                    try clear hfz90_4
                    try clear hfz90_5
                    try clear hfz90_6
                    try clear hfz90_7
                    try clear hfz90_8
                    try clear hfz90_9
                    try clear hfz93_0
                    try clear hfz93_1
                    try clear hfz93_10
                    try clear hfz93_2
                    try clear hfz93_3
                    try clear hfz93_4
                    try clear hfz93_5
                    try clear hfz93_6
                    try clear hfz93_7
                    try clear hfz93_8
                    try clear hfz93_9
                    try clear hfz94_0
                    try clear hfz94_1
                    try clear hfz94_10
                    try clear hfz94_2
                    try clear hfz94_3
                    try clear hfz94_4
                    try clear hfz94_5
                    try clear hfz94_6
                    try clear hfz94_7
                    try clear hfz94_8
                    try clear hfz94_9
                    try clear hfz95_0
                    try clear hfz95_1
                    try clear hfz95_10
                    try clear hfz95_2
                    try clear hfz95_3
                    try clear hfz95_4
                    try clear hfz95_5
                    try clear hfz95_6
                    try clear hfz95_7
                    try clear hfz95_8
                    try clear hfz95_9
                    obtain ⟨kq, x10_30, rfl, HA, HJ30, BK544, HB⟩ := hcut
                    cases kq with
                    | zero => exact absurd HA.out (by simp [turnstilelaw11_RecordValid.j3])
                    | succ kj30 =>
                      have H := HA.out
                      clear HA
                      simp only [turnstilelaw11_RecordValid.j3] at H
                      replace H := Option.bind_eq_some_iff.mp H
                      obtain ⟨t546, A960, H⟩ := H
                      replace H : (some (t546 == x10_30)) = some r := H
                      have A96 := Aside0.mk A960
                      clear A960
                      obtain rfl := Option.some.inj H
                      obtain ⟨hcz97_0, hcz97_1, hcz97_2, hcz97_3, hcz97_4, hcz97_5, hcz97_6, hcz97_7, hcz97_8, hcz97_9, hcz97_10, hfz97_0, hfz97_1, hfz97_2, hfz97_3, hfz97_4, hfz97_5, hfz97_6, hfz97_7, hfz97_8, hfz97_9, hfz97_10⟩ := bc11 BK544
                      go_wp2_with (first | ((with_reducible refine gate_callee (f := 17) rfl ?_); refine gm (some 130) Tryd.func17 #[.agg #[.int .i64 a0_0, .int .u64 a0_1, .string a0_2, .int .i64 a0_3, .int .u64 a0_4, .int .u64 a0_5, .int .u64 a0_6, .int .u64 a0_7, .int .u64 a0_8, .int .u64 a0_9, .int .u64 a0_10]] (record_Valid.calls kj30 a0_0 a0_1 a0_2 a0_3 a0_4 a0_5 a0_6 a0_7 a0_8 a0_9 a0_10 t546 _ A96.out) ?_; intro w98 hb; have n0_ := bb BK544 hb; have n1_ := bs HB hb; clear BK544; clear HB; have BK544 := n0_; have HB := n1_; clear n0_ n1_; (try clear hb); (try clear hb2); (try clear hk); (try clear hi)))
                      go_ret
                      exact ⟨re, bw HB⟩
    · rw [if_neg c4] at H
      have c4b0 : decide (1 ≤ (a0_2.size : Int)) = false := decide_eq_false c4
      have c4b1 : decide (1 ≤ a0_2.size) = false := decide_eq_false (by omega)
      clear c4
      have HC99 := Aside0.mk H
      clear H
      go_enter Tryd.func7, Tryd.ntmps7
      go_upto_region 5 with (first | ((with_reducible refine gate_dst (N := 1) rfl ?_); (try (refine gate_guard (by rfl) ?_; dsimp only)); refine bx 1 #[.int .i64 a0_0, .int .u64 a0_1, .string a0_2, .int .i64 a0_3, .int .u64 a0_4, .int .u64 a0_5, .int .u64 a0_6, .int .u64 a0_7, .int .u64 a0_8, .int .u64 a0_9, .int .u64 a0_10] 32 ?_; intro gb544 hg w100 hbox hb; have n0_ := bs HB hb; have n1_ := Aside0.mk (hbox); have n2_ := sz HB hg; have n3_ := sz HB hg; clear HB; have HB := n0_; have BK544 := n1_; have GW544 := n2_; have GE544 := n3_; clear n0_ n1_ n2_ n3_; clear hb hbox hg) | ((with_reducible refine gate_callee (f := 13) rfl ?_); refine gl (some 11) Tryd.func13 #[] ?_; (with_reducible refine (turnstilelaw11_awake.calls k  true _ ?side1 A2.out).mono ?_); (case side1 => exact (HERR.out.below (bw HB))); rintro e w101 ⟨rfl, hb⟩; refine ⟨_, rfl, ?_⟩; have n0_ := bb BK544 hb; have n1_ := bs HB hb; clear BK544; clear HB; have BK544 := n0_; have HB := n1_; clear n0_ n1_; (try clear hb); (try clear hb2); (try clear hk); (try clear hi); obtain ⟨hcz102_0, hcz102_1, hcz102_2, hcz102_3, hcz102_4, hcz102_5, hcz102_6, hcz102_7, hcz102_8, hcz102_9, hcz102_10, hfz102_0, hfz102_1, hfz102_2, hfz102_3, hfz102_4, hfz102_5, hfz102_6, hfz102_7, hfz102_8, hfz102_9, hfz102_10⟩ := bc11 BK544))
      (try simp only [Act.put, List.setIfInBounds_toArray, List.set_cons_zero, List.set_cons_succ])
      go_cut [5] (fun v5 wc => ∃ (kq : Nat) (x5_98 : Bool), v5 = .bool x5_98 ∧ Aside0 (turnstilelaw11_RecordValid.j4 kq false x5_98 a0_0 a0_1 a0_2 a0_3 a0_4 a0_5 a0_6 a0_7 a0_8 a0_9 a0_10 = some r) ∧ Aside0 (kq ≤ k) ∧ Aside0 (wc.heap[gb544]? = some (.cells #[.int .i64 a0_0, .int .u64 a0_1, .string a0_2, .int .i64 a0_3, .int .u64 a0_4, .int .u64 a0_5, .int .u64 a0_6, .int .u64 a0_7, .int .u64 a0_8, .int .u64 a0_9, .int .u64 a0_10] 32 (0, 0))) ∧ Aside0 (Below w.heap.size w wc))
      case first =>
        have H := HC99.out
        clear HC99
        by_cases c103 : a0_3 = 1
        · rw [if_pos c103] at H
          have c103b0 : (a0_3 == 1) = true := beq_iff_eq.mpr c103
          have c103b1 : (a0_3 != 1) = false := bne_eq_false_iff_eq.mpr c103
          clear c103
          (first | rw [c103b0] | (simp only [i64_w, i32_w]; rw [c103b0]) | skip)
          by_cases c104 : a0_4 > 0
          · rw [if_pos c104] at H
            have c104b0 : decide (0 < a0_4) = true := decide_eq_true c104
            clear c104
            by_cases c105 : a0_6 = 0
            · rw [if_pos c105] at H
              have c105b0 : (a0_6 == 0) = true := beq_iff_eq.mpr c105
              have c105b1 : (a0_6 != 0) = false := bne_eq_false_iff_eq.mpr c105
              clear c105
              have H' := Aside0.mk H
              clear H
              obtain ⟨hcz106_0, hcz106_1, hcz106_2, hcz106_3, hcz106_4, hcz106_5, hcz106_6, hcz106_7, hcz106_8, hcz106_9, hcz106_10, hfz106_0, hfz106_1, hfz106_2, hfz106_3, hfz106_4, hfz106_5, hfz106_6, hfz106_7, hfz106_8, hfz106_9, hfz106_10⟩ := bc11 BK544
              go_wp2
              go_meet
              case rel => exact ⟨_, ((a0_7 == 0)), rs, H', ⟨by first | omega | exact Nat.le_refl _⟩, ⟨bk BK544⟩, ⟨bw HB⟩⟩
            · rw [if_neg c105] at H
              have c105b0 : (a0_6 == 0) = false := beq_eq_false_iff_ne.mpr c105
              have c105b1 : (a0_6 != 0) = true := bne_iff_ne.mpr c105
              have H' := Aside0.mk H
              clear H
              obtain ⟨hcz107_0, hcz107_1, hcz107_2, hcz107_3, hcz107_4, hcz107_5, hcz107_6, hcz107_7, hcz107_8, hcz107_9, hcz107_10, hfz107_0, hfz107_1, hfz107_2, hfz107_3, hfz107_4, hfz107_5, hfz107_6, hfz107_7, hfz107_8, hfz107_9, hfz107_10⟩ := bc11 BK544
              go_wp2
              go_meet
              case rel => exact ⟨_, (false), rs, H', ⟨by first | omega | exact Nat.le_refl _⟩, ⟨bk BK544⟩, ⟨bw HB⟩⟩
          · rw [if_neg c104] at H
            have c104b0 : decide (0 < a0_4) = false := decide_eq_false c104
            clear c104
            have H' := Aside0.mk H
            clear H
            obtain ⟨hcz108_0, hcz108_1, hcz108_2, hcz108_3, hcz108_4, hcz108_5, hcz108_6, hcz108_7, hcz108_8, hcz108_9, hcz108_10, hfz108_0, hfz108_1, hfz108_2, hfz108_3, hfz108_4, hfz108_5, hfz108_6, hfz108_7, hfz108_8, hfz108_9, hfz108_10⟩ := bc11 BK544
            go_wp2
            go_meet
            case rel => exact ⟨_, (false), rs, H', ⟨by first | omega | exact Nat.le_refl _⟩, ⟨bk BK544⟩, ⟨bw HB⟩⟩
        · rw [if_neg c103] at H
          have c103b0 : (a0_3 == 1) = false := beq_eq_false_iff_ne.mpr c103
          have c103b1 : (a0_3 != 1) = true := bne_iff_ne.mpr c103
          (first | rw [c103b0] | (simp only [i64_w, i32_w]; rw [c103b0]) | skip)
          have H' := Aside0.mk H
          clear H
          obtain ⟨hcz109_0, hcz109_1, hcz109_2, hcz109_3, hcz109_4, hcz109_5, hcz109_6, hcz109_7, hcz109_8, hcz109_9, hcz109_10, hfz109_0, hfz109_1, hfz109_2, hfz109_3, hfz109_4, hfz109_5, hfz109_6, hfz109_7, hfz109_8, hfz109_9, hfz109_10⟩ := bc11 BK544
          go_wp2
          go_meet
          case rel => exact ⟨_, (false), rs, H', ⟨by first | omega | exact Nat.le_refl _⟩, ⟨bk BK544⟩, ⟨bw HB⟩⟩
      case rest => as_aux_lemma =>
        clear HC99
        try clear c1
        try clear p2
        try clear c3
        try clear c4
        try clear c4b0
        try clear c4b1
        try clear c5
        try clear c6
        try clear c7
        try clear c8
        try clear c9
        try clear c10
        try clear c13
        try clear c17
        try clear c32
        try clear c33
        try clear c33b0
        try clear c33b1
        try clear c50
        try clear c66
        try clear c66b0
        try clear c66b1
        try clear c67
        try clear c68
        try clear c70
        try clear c70b0
        try clear c70b1
        try clear c73
        try clear c73b0
        try clear c73b1
        try clear c76
        try clear c76b0
        try clear c76b1
        try clear c77
        try clear c81
        try clear c81b0
        try clear c81b1
        try clear c82
        try clear c83
        try clear c85
        try clear c85b0
        try clear c85b1
        try clear c88
        try clear c88b0
        try clear c88b1
        try clear c91
        try clear c91b0
        try clear c91b1
        try clear c92
        try clear c103
        try clear c103b0
        try clear c103b1
        try clear c104
        try clear c104b0
        try clear c105
        try clear c105b0
        try clear c105b1
        try clear hcz102_0
        try clear hcz102_1
        try clear hcz102_10
        try clear hcz102_2
        try clear hcz102_3
        try clear hcz102_4
        try clear hcz102_5
        try clear hcz102_6
        try clear hcz102_7
        try clear hcz102_8
        try clear hcz102_9
        try clear hcz106_0
        try clear hcz106_1
        try clear hcz106_10
        try clear hcz106_2
        try clear hcz106_3
        try clear hcz106_4
        try clear hcz106_5
        try clear hcz106_6
        try clear hcz106_7
        try clear hcz106_8
        try clear hcz106_9
        try clear hcz107_0
        try clear hcz107_1
        try clear hcz107_10
        try clear hcz107_2
        try clear hcz107_3
        try clear hcz107_4
        try clear hcz107_5
        try clear hcz107_6
        try clear hcz107_7
        try clear hcz107_8
        try clear hcz107_9
        try clear hcz108_0
        try clear hcz108_1
        try clear hcz108_10
        try clear hcz108_2
        try clear hcz108_3
        try clear hcz108_4
        try clear hcz108_5
        try clear hcz108_6
        try clear hcz108_7
        try clear hcz108_8
        try clear hcz108_9
        try clear hcz109_0
        try clear hcz109_1
        try clear hcz109_10
        try clear hcz109_2
        try clear hcz109_3
        try clear hcz109_4
        try clear hcz109_5
        try clear hcz109_6
        try clear hcz109_7
        try clear hcz109_8
        try clear hcz109_9
        try clear hcz69_0
        try clear hcz69_1
        try clear hcz69_10
        try clear hcz69_2
        try clear hcz69_3
        try clear hcz69_4
        try clear hcz69_5
        try clear hcz69_6
        try clear hcz69_7
        try clear hcz69_8
        try clear hcz69_9
        try clear hcz71_0
        try clear hcz71_1
        try clear hcz71_10
        try clear hcz71_2
        try clear hcz71_3
        try clear hcz71_4
        try clear hcz71_5
        try clear hcz71_6
        try clear hcz71_7
        try clear hcz71_8
        try clear hcz71_9
        try clear hcz72_0
        try clear hcz72_1
        try clear hcz72_10
        try clear hcz72_2
        try clear hcz72_3
        try clear hcz72_4
        try clear hcz72_5
        try clear hcz72_6
        try clear hcz72_7
        try clear hcz72_8
        try clear hcz72_9
        try clear hcz74_0
        try clear hcz74_1
        try clear hcz74_10
        try clear hcz74_2
        try clear hcz74_3
        try clear hcz74_4
        try clear hcz74_5
        try clear hcz74_6
        try clear hcz74_7
        try clear hcz74_8
        try clear hcz74_9
        try clear hcz75_0
        try clear hcz75_1
        try clear hcz75_10
        try clear hcz75_2
        try clear hcz75_3
        try clear hcz75_4
        try clear hcz75_5
        try clear hcz75_6
        try clear hcz75_7
        try clear hcz75_8
        try clear hcz75_9
        try clear hcz78_0
        try clear hcz78_1
        try clear hcz78_10
        try clear hcz78_2
        try clear hcz78_3
        try clear hcz78_4
        try clear hcz78_5
        try clear hcz78_6
        try clear hcz78_7
        try clear hcz78_8
        try clear hcz78_9
        try clear hcz79_0
        try clear hcz79_1
        try clear hcz79_10
        try clear hcz79_2
        try clear hcz79_3
        try clear hcz79_4
        try clear hcz79_5
        try clear hcz79_6
        try clear hcz79_7
        try clear hcz79_8
        try clear hcz79_9
        try clear hcz80_0
        try clear hcz80_1
        try clear hcz80_10
        try clear hcz80_2
        try clear hcz80_3
        try clear hcz80_4
        try clear hcz80_5
        try clear hcz80_6
        try clear hcz80_7
        try clear hcz80_8
        try clear hcz80_9
        try clear hcz84_0
        try clear hcz84_1
        try clear hcz84_10
        try clear hcz84_2
        try clear hcz84_3
        try clear hcz84_4
        try clear hcz84_5
        try clear hcz84_6
        try clear hcz84_7
        try clear hcz84_8
        try clear hcz84_9
        try clear hcz86_0
        try clear hcz86_1
        try clear hcz86_10
        try clear hcz86_2
        try clear hcz86_3
        try clear hcz86_4
        try clear hcz86_5
        try clear hcz86_6
        try clear hcz86_7
        try clear hcz86_8
        try clear hcz86_9
        try clear hcz87_0
        try clear hcz87_1
        try clear hcz87_10
        try clear hcz87_2
        try clear hcz87_3
        try clear hcz87_4
        try clear hcz87_5
        try clear hcz87_6
        try clear hcz87_7
        try clear hcz87_8
        try clear hcz87_9
        try clear hcz89_0
        try clear hcz89_1
        try clear hcz89_10
        try clear hcz89_2
        try clear hcz89_3
        try clear hcz89_4
        try clear hcz89_5
        try clear hcz89_6
        try clear hcz89_7
        try clear hcz89_8
        try clear hcz89_9
        try clear hcz90_0
        try clear hcz90_1
        try clear hcz90_10
        try clear hcz90_2
        try clear hcz90_3
        try clear hcz90_4
        try clear hcz90_5
        try clear hcz90_6
        try clear hcz90_7
        try clear hcz90_8
        try clear hcz90_9
        try clear hcz93_0
        try clear hcz93_1
        try clear hcz93_10
        try clear hcz93_2
        try clear hcz93_3
        try clear hcz93_4
        try clear hcz93_5
        try clear hcz93_6
        try clear hcz93_7
        try clear hcz93_8
        try clear hcz93_9
        try clear hcz94_0
        try clear hcz94_1
        try clear hcz94_10
        try clear hcz94_2
        try clear hcz94_3
        try clear hcz94_4
        try clear hcz94_5
        try clear hcz94_6
        try clear hcz94_7
        try clear hcz94_8
        try clear hcz94_9
        try clear hcz95_0
        try clear hcz95_1
        try clear hcz95_10
        try clear hcz95_2
        try clear hcz95_3
        try clear hcz95_4
        try clear hcz95_5
        try clear hcz95_6
        try clear hcz95_7
        try clear hcz95_8
        try clear hcz95_9
        try clear hcz97_0
        try clear hcz97_1
        try clear hcz97_10
        try clear hcz97_2
        try clear hcz97_3
        try clear hcz97_4
        try clear hcz97_5
        try clear hcz97_6
        try clear hcz97_7
        try clear hcz97_8
        try clear hcz97_9
        try clear hfz102_0
        try clear hfz102_1
        try clear hfz102_10
        try clear hfz102_2
        try clear hfz102_3
        try clear hfz102_4
        try clear hfz102_5
        try clear hfz102_6
        try clear hfz102_7
        try clear hfz102_8
        try clear hfz102_9
        try clear hfz106_0
        try clear hfz106_1
        try clear hfz106_10
        try clear hfz106_2
        try clear hfz106_3
        try clear hfz106_4
        try clear hfz106_5
        try clear hfz106_6
        try clear hfz106_7
        try clear hfz106_8
        try clear hfz106_9
        try clear hfz107_0
        try clear hfz107_1
        try clear hfz107_10
        try clear hfz107_2
        try clear hfz107_3
        try clear hfz107_4
        try clear hfz107_5
        try clear hfz107_6
        try clear hfz107_7
        try clear hfz107_8
        try clear hfz107_9
        try clear hfz108_0
        try clear hfz108_1
        try clear hfz108_10
        try clear hfz108_2
        try clear hfz108_3
        try clear hfz108_4
        try clear hfz108_5
        try clear hfz108_6
        try clear hfz108_7
        try clear hfz108_8
        try clear hfz108_9
        try clear hfz109_0
        try clear hfz109_1
        try clear hfz109_10
        try clear hfz109_2
        try clear hfz109_3
        try clear hfz109_4
        try clear hfz109_5
        try clear hfz109_6
        try clear hfz109_7
        try clear hfz109_8
        try clear hfz109_9
        try clear hfz65_10
        try clear hfz65_5
        try clear hfz65_6
        try clear hfz65_7
        try clear hfz65_8
        try clear hfz65_9
        try clear hfz69_0
        try clear hfz69_1
        try clear hfz69_10
        try clear hfz69_2
        try clear hfz69_3
        try clear hfz69_4
        try clear hfz69_5
        try clear hfz69_6
        try clear hfz69_7
        try clear hfz69_8
        try clear hfz69_9
        try clear hfz71_0
        try clear hfz71_1
        try clear hfz71_10
        try clear hfz71_2
        try clear hfz71_3
        try clear hfz71_4
        try clear hfz71_5
        try clear hfz71_6
        try clear hfz71_7
        try clear hfz71_8
        try clear hfz71_9
        try clear hfz72_0
        try clear hfz72_1
        try clear hfz72_10
        try clear hfz72_2
        try clear hfz72_3
        try clear hfz72_4
        try clear hfz72_5
        try clear hfz72_6
        try clear hfz72_7
        try clear hfz72_8
        try clear hfz72_9
        try clear hfz74_0
        try clear hfz74_1
        try clear hfz74_10
        try clear hfz74_2
        try clear hfz74_3
        try clear hfz74_4
        try clear hfz74_5
        try clear hfz74_6
        try clear hfz74_7
        try clear hfz74_8
        try clear hfz74_9
        try clear hfz75_0
        try clear hfz75_1
        try clear hfz75_10
        try clear hfz75_2
        try clear hfz75_3
        try clear hfz75_4
        try clear hfz75_5
        try clear hfz75_6
        try clear hfz75_7
        try clear hfz75_8
        try clear hfz75_9
        try clear hfz78_0
        try clear hfz78_1
        try clear hfz78_10
        try clear hfz78_2
        try clear hfz78_3
        try clear hfz78_4
        try clear hfz78_5
        try clear hfz78_6
        try clear hfz78_7
        try clear hfz78_8
        try clear hfz78_9
        try clear hfz79_0
        try clear hfz79_1
        try clear hfz79_10
        try clear hfz79_2
        try clear hfz79_3
        try clear hfz79_4
        try clear hfz79_5
        try clear hfz79_6
        try clear hfz79_7
        try clear hfz79_8
        try clear hfz79_9
        try clear hfz80_0
        try clear hfz80_1
        try clear hfz80_10
        try clear hfz80_2
        try clear hfz80_3
        try clear hfz80_4
        try clear hfz80_5
        try clear hfz80_6
        try clear hfz80_7
        try clear hfz80_8
        try clear hfz80_9
        try clear hfz84_0
        try clear hfz84_1
        try clear hfz84_10
        try clear hfz84_2
        try clear hfz84_3
        try clear hfz84_4
        try clear hfz84_5
        try clear hfz84_6
        try clear hfz84_7
        try clear hfz84_8
        try clear hfz84_9
        try clear hfz86_0
        try clear hfz86_1
        try clear hfz86_10
        try clear hfz86_2
        try clear hfz86_3
        try clear hfz86_4
        try clear hfz86_5
        try clear hfz86_6
        try clear hfz86_7
        try clear hfz86_8
        try clear hfz86_9
        try clear hfz87_0
        try clear hfz87_1
        try clear hfz87_10
        try clear hfz87_2
        try clear hfz87_3
        try clear hfz87_4
        try clear hfz87_5
        try clear hfz87_6
        try clear hfz87_7
        try clear hfz87_8
        try clear hfz87_9
        try clear hfz89_0
        try clear hfz89_1
        try clear hfz89_10
        try clear hfz89_2
        try clear hfz89_3
        try clear hfz89_4
        try clear hfz89_5
        try clear hfz89_6
        try clear hfz89_7
        try clear hfz89_8
        try clear hfz89_9
        try clear hfz90_0
        try clear hfz90_1
        try clear hfz90_10
        try clear hfz90_2
        try clear hfz90_3
        try clear hfz90_4
        try clear hfz90_5
        try clear hfz90_6
        try clear hfz90_7
        try clear hfz90_8
        try clear hfz90_9
        try clear hfz93_0
        try clear hfz93_1
        try clear hfz93_10
        try clear hfz93_2
        try clear hfz93_3
        try clear hfz93_4
        try clear hfz93_5
        try clear hfz93_6
        try clear hfz93_7
        try clear hfz93_8
        try clear hfz93_9
        try clear hfz94_0
        try clear hfz94_1
        try clear hfz94_10
        try clear hfz94_2
        try clear hfz94_3
        try clear hfz94_4
        try clear hfz94_5
        try clear hfz94_6
        try clear hfz94_7
        try clear hfz94_8
        try clear hfz94_9
        try clear hfz95_0
        try clear hfz95_1
        try clear hfz95_10
        try clear hfz95_2
        try clear hfz95_3
        try clear hfz95_4
        try clear hfz95_5
        try clear hfz95_6
        try clear hfz95_7
        try clear hfz95_8
        try clear hfz95_9
        try clear hfz97_0
        try clear hfz97_1
        try clear hfz97_10
        try clear hfz97_2
        try clear hfz97_3
        try clear hfz97_4
        try clear hfz97_5
        try clear hfz97_6
        try clear hfz97_7
        try clear hfz97_8
        try clear hfz97_9
        try clear p2
        obtain ⟨kq, x5_98, rfl, HA, HJ98, BK544, HB⟩ := hcut
        cases kq with
        | zero => exact absurd HA.out (by simp [turnstilelaw11_RecordValid.j4])
        | succ kj98 =>
          have H := HA.out
          clear HA
          simp only [turnstilelaw11_RecordValid.j4] at H
          have HC110 := Aside0.mk H
          clear H
          go_upto_region 6 with (fail)
          go_cut [6] (fun v6 wc => ∃ (kq : Nat) (x6_109 : Bool), v6 = .bool x6_109 ∧ Aside0 (turnstilelaw11_RecordValid.j5 kq false x5_98 x6_109 a0_0 a0_1 a0_2 a0_3 a0_4 a0_5 a0_6 a0_7 a0_8 a0_9 a0_10 = some r) ∧ Aside0 (kq ≤ kj98) ∧ Aside0 (wc.heap[gb544]? = some (.cells #[.int .i64 a0_0, .int .u64 a0_1, .string a0_2, .int .i64 a0_3, .int .u64 a0_4, .int .u64 a0_5, .int .u64 a0_6, .int .u64 a0_7, .int .u64 a0_8, .int .u64 a0_9, .int .u64 a0_10] 32 (0, 0))) ∧ Aside0 (Below w.heap.size w wc))
          case first =>
            have H := HC110.out
            clear HC110
            by_cases c111 : a0_3 = 2
            · rw [if_pos c111] at H
              have c111b0 : (a0_3 == 2) = true := beq_iff_eq.mpr c111
              have c111b1 : (a0_3 != 2) = false := bne_eq_false_iff_eq.mpr c111
              clear c111
              (first | rw [c111b0] | (simp only [i64_w, i32_w]; rw [c111b0]) | skip)
              by_cases c112 : a0_7 > 0
              · rw [if_pos c112] at H
                have c112b0 : decide (0 < a0_7) = true := decide_eq_true c112
                clear c112
                by_cases c113 : a0_4 = 0
                · rw [if_pos c113] at H
                  have c113b0 : (a0_4 == 0) = true := beq_iff_eq.mpr c113
                  have c113b1 : (a0_4 != 0) = false := bne_eq_false_iff_eq.mpr c113
                  clear c113
                  have H' := Aside0.mk H
                  clear H
                  obtain ⟨hcz114_0, hcz114_1, hcz114_2, hcz114_3, hcz114_4, hcz114_5, hcz114_6, hcz114_7, hcz114_8, hcz114_9, hcz114_10, hfz114_0, hfz114_1, hfz114_2, hfz114_3, hfz114_4, hfz114_5, hfz114_6, hfz114_7, hfz114_8, hfz114_9, hfz114_10⟩ := bc11 BK544
                  go_wp2
                  go_meet
                  case rel => exact ⟨_, ((a0_5 == 0)), rs, H', ⟨by have := HJ98.out; first | omega | exact Nat.le_refl _⟩, ⟨bk BK544⟩, ⟨bw HB⟩⟩
                · rw [if_neg c113] at H
                  have c113b0 : (a0_4 == 0) = false := beq_eq_false_iff_ne.mpr c113
                  have c113b1 : (a0_4 != 0) = true := bne_iff_ne.mpr c113
                  have H' := Aside0.mk H
                  clear H
                  obtain ⟨hcz115_0, hcz115_1, hcz115_2, hcz115_3, hcz115_4, hcz115_5, hcz115_6, hcz115_7, hcz115_8, hcz115_9, hcz115_10, hfz115_0, hfz115_1, hfz115_2, hfz115_3, hfz115_4, hfz115_5, hfz115_6, hfz115_7, hfz115_8, hfz115_9, hfz115_10⟩ := bc11 BK544
                  go_wp2
                  go_meet
                  case rel => exact ⟨_, (false), rs, H', ⟨by have := HJ98.out; first | omega | exact Nat.le_refl _⟩, ⟨bk BK544⟩, ⟨bw HB⟩⟩
              · rw [if_neg c112] at H
                have c112b0 : decide (0 < a0_7) = false := decide_eq_false c112
                clear c112
                have H' := Aside0.mk H
                clear H
                obtain ⟨hcz116_0, hcz116_1, hcz116_2, hcz116_3, hcz116_4, hcz116_5, hcz116_6, hcz116_7, hcz116_8, hcz116_9, hcz116_10, hfz116_0, hfz116_1, hfz116_2, hfz116_3, hfz116_4, hfz116_5, hfz116_6, hfz116_7, hfz116_8, hfz116_9, hfz116_10⟩ := bc11 BK544
                go_wp2
                go_meet
                case rel => exact ⟨_, (false), rs, H', ⟨by have := HJ98.out; first | omega | exact Nat.le_refl _⟩, ⟨bk BK544⟩, ⟨bw HB⟩⟩
            · rw [if_neg c111] at H
              have c111b0 : (a0_3 == 2) = false := beq_eq_false_iff_ne.mpr c111
              have c111b1 : (a0_3 != 2) = true := bne_iff_ne.mpr c111
              (first | rw [c111b0] | (simp only [i64_w, i32_w]; rw [c111b0]) | skip)
              have H' := Aside0.mk H
              clear H
              obtain ⟨hcz117_0, hcz117_1, hcz117_2, hcz117_3, hcz117_4, hcz117_5, hcz117_6, hcz117_7, hcz117_8, hcz117_9, hcz117_10, hfz117_0, hfz117_1, hfz117_2, hfz117_3, hfz117_4, hfz117_5, hfz117_6, hfz117_7, hfz117_8, hfz117_9, hfz117_10⟩ := bc11 BK544
              go_wp2
              go_meet
              case rel => exact ⟨_, (false), rs, H', ⟨by have := HJ98.out; first | omega | exact Nat.le_refl _⟩, ⟨bk BK544⟩, ⟨bw HB⟩⟩
          case rest => as_aux_lemma =>
            clear HC110
            try clear c1
            try clear p2
            try clear c11
            try clear c111
            try clear c111b0
            try clear c111b1
            try clear c112
            try clear c112b0
            try clear c113
            try clear c113b0
            try clear c113b1
            try clear hcz108_6
            try clear hcz108_7
            try clear hcz108_8
            try clear hcz108_9
            try clear hcz109_0
            try clear hcz109_1
            try clear hcz109_10
            try clear hcz109_2
            try clear hcz109_3
            try clear hcz109_4
            try clear hcz109_5
            try clear hcz109_6
            try clear hcz109_7
            try clear hcz109_8
            try clear hcz109_9
            try clear hcz114_0
            try clear hcz114_1
            try clear hcz114_10
            try clear hcz114_2
            try clear hcz114_3
            try clear hcz114_4
            try clear hcz114_5
            try clear hcz114_6
            try clear hcz114_7
            try clear hcz114_8
            try clear hcz114_9
            try clear hcz115_0
            try clear hcz115_1
            try clear hcz115_10
            try clear hcz115_2
            try clear hcz115_3
            try clear hcz115_4
            try clear hcz115_5
            try clear hcz115_6
            try clear hcz115_7
            try clear hcz115_8
            try clear hcz115_9
            try clear hcz116_0
            try clear hcz116_1
            try clear hcz116_10
            try clear hcz116_2
            try clear hcz116_3
            try clear hcz116_4
            try clear hcz116_5
            try clear hcz116_6
            try clear hcz116_7
            try clear hcz116_8
            try clear hcz116_9
            try clear hcz117_0
            try clear hcz117_1
            try clear hcz117_10
            try clear hcz117_2
            try clear hcz117_3
            try clear hcz117_4
            try clear hcz117_5
            try clear hcz117_6
            try clear hcz117_7
            try clear hcz117_8
            try clear hcz117_9
            try clear hcz69_0
            try clear hcz69_1
            try clear hcz69_10
            try clear hcz69_2
            try clear hcz69_3
            try clear hcz69_4
            try clear hcz69_5
            try clear hcz69_6
            try clear hcz69_7
            try clear hcz69_8
            try clear hcz69_9
            try clear hcz71_0
            try clear hcz71_1
            try clear hcz71_10
            try clear hcz71_2
            try clear hcz71_3
            try clear hcz71_4
            try clear hcz71_5
            try clear hcz71_6
            try clear hcz71_7
            try clear hcz71_8
            try clear hcz71_9
            try clear hcz72_0
            try clear hcz72_1
            try clear hcz72_10
            try clear hcz72_2
            try clear hcz72_3
            try clear hcz72_4
            try clear hcz72_5
            try clear hcz72_6
            try clear hcz72_7
            try clear hcz72_8
            try clear hcz72_9
            try clear hcz74_0
            try clear hcz74_1
            try clear hcz74_10
            try clear hcz74_2
            try clear hcz74_3
            try clear hcz74_4
            try clear hcz74_5
            try clear hcz74_6
            try clear hcz74_7
            try clear hcz74_8
            try clear hcz74_9
            try clear hcz75_0
            try clear hcz75_1
            try clear hcz75_10
            try clear hcz75_2
            try clear hcz75_3
            try clear hcz75_4
            try clear hcz75_5
            try clear hcz75_6
            try clear hcz75_7
            try clear hcz75_8
            try clear hcz75_9
            try clear hcz78_0
            try clear hcz78_1
            try clear hcz78_10
            try clear hcz78_2
            try clear hcz78_3
            try clear hcz78_4
            try clear hcz78_5
            try clear hcz78_6
            try clear hcz78_7
            try clear hcz78_8
            try clear hcz78_9
            try clear hcz79_0
            try clear hcz79_1
            try clear hcz79_10
            try clear hcz79_2
            try clear hcz79_3
            try clear hcz79_4
            try clear hcz79_5
            try clear hcz79_6
            try clear hcz79_7
            try clear hcz79_8
            try clear hcz79_9
            try clear hcz80_0
            try clear hcz80_1
            try clear hcz80_10
            try clear hcz80_2
            try clear hcz80_3
            try clear hcz80_4
            try clear hcz80_5
            try clear hcz80_6
            try clear hcz80_7
            try clear hcz80_8
            try clear hcz80_9
            try clear hcz84_0
            try clear hcz84_1
            try clear hcz84_10
            try clear hcz84_2
            try clear hcz84_3
            try clear hcz84_4
            try clear hcz84_5
            try clear hcz84_6
            try clear hcz84_7
            try clear hcz84_8
            try clear hcz84_9
            try clear hcz86_0
            try clear hcz86_1
            try clear hcz86_10
            try clear hcz86_2
            try clear hcz86_3
            try clear hcz86_4
            try clear hcz86_5
            try clear hcz86_6
            try clear hcz86_7
            try clear hcz86_8
            try clear hcz86_9
            try clear hcz87_0
            try clear hcz87_1
            try clear hcz87_10
            try clear hcz87_2
            try clear hcz87_3
            try clear hcz87_4
            try clear hcz87_5
            try clear hcz87_6
            try clear hcz87_7
            try clear hcz87_8
            try clear hcz87_9
            try clear hcz89_0
            try clear hcz89_1
            try clear hcz89_10
            try clear hcz89_2
            try clear hcz89_3
            try clear hcz89_4
            try clear hcz89_5
            try clear hcz89_6
            try clear hcz89_7
            try clear hcz89_8
            try clear hcz89_9
            try clear hcz90_0
            try clear hcz90_1
            try clear hcz90_10
            try clear hcz90_2
            try clear hcz90_3
            try clear hcz90_4
            try clear hcz90_5
            try clear hcz90_6
            try clear hcz90_7
            try clear hcz90_8
            try clear hcz90_9
            try clear hcz93_0
            try clear hcz93_1
            try clear hcz93_10
            try clear hcz93_2
            try clear hcz93_3
            try clear hcz93_4
            try clear hcz93_5
            try clear hcz93_6
            try clear hcz93_7
            try clear hcz93_8
            try clear hcz93_9
            try clear hcz94_0
            try clear hcz94_1
            try clear hcz94_10
            try clear hcz94_2
            try clear hcz94_3
            try clear hcz94_4
            try clear hcz94_5
            try clear hcz94_6
            try clear hcz94_7
            try clear hcz94_8
            try clear hcz94_9
            try clear hcz95_0
            try clear hcz95_1
            try clear hcz95_10
            try clear hcz95_2
            try clear hcz95_3
            try clear hcz95_4
            try clear hcz95_5
            try clear hcz95_6
            try clear hcz95_7
            try clear hcz95_8
            try clear hcz95_9
            try clear hcz97_0
            try clear hcz97_1
            try clear hcz97_10
            try clear hcz97_2
            try clear hcz97_3
            try clear hcz97_4
            try clear hcz97_5
            try clear hcz97_6
            try clear hcz97_7
            try clear hcz97_8
            try clear hcz97_9
            try clear hfz102_0
            try clear hfz102_1
            try clear hfz102_10
            try clear hfz102_2
            try clear hfz102_3
            try clear hfz102_4
            try clear hfz102_5
            try clear hfz102_6
            try clear hfz102_7
            try clear hfz102_8
            try clear hfz102_9
            try clear hfz106_0
            try clear hfz106_1
            try clear hfz106_10
            try clear hfz106_2
            try clear hfz106_3
            try clear hfz106_4
            try clear hfz106_5
            try clear hfz106_6
            try clear hfz106_7
            try clear hfz106_8
            try clear hfz106_9
            try clear hfz107_0
            try clear hfz107_1
            try clear hfz107_10
            try clear hfz107_2
            try clear hfz107_3
            try clear hfz107_4
            try clear hfz107_5
            try clear hfz107_6
            try clear hfz107_7
            try clear hfz107_8
            try clear hfz107_9
            try clear hfz108_0
            try clear hfz108_1
            try clear hfz108_10
            try clear hfz108_2
            try clear hfz108_3
            try clear hfz108_4
            try clear hfz108_5
            try clear hfz108_6
            try clear hfz108_7
            try clear hfz108_8
            try clear hfz108_9
            try clear hfz109_0
            try clear hfz109_1
            try clear hfz109_10
            try clear hfz109_2
            try clear hfz109_3
            try clear hfz109_4
            try clear hfz109_5
            try clear hfz109_6
            try clear hfz109_7
            try clear hfz109_8
            try clear hfz109_9
            try clear hfz114_0
            try clear hfz114_1
            try clear hfz114_10
            try clear hfz114_2
            try clear hfz114_3
            try clear hfz114_4
            try clear hfz114_5
            try clear hfz114_6
            try clear hfz114_7
            try clear hfz114_8
            try clear hfz114_9
            try clear hfz115_0
            try clear hfz115_1
            try clear hfz115_10
            try clear hfz115_2
            try clear hfz115_3
            try clear hfz115_4
            try clear hfz115_5
            try clear hfz115_6
            try clear hfz115_7
            try clear hfz115_8
            try clear hfz115_9
            try clear hfz116_0
            try clear hfz116_1
            try clear hfz116_10
            try clear hfz116_2
            try clear hfz116_3
            try clear hfz116_4
            try clear hfz116_5
            try clear hfz116_6
            try clear hfz116_7
            try clear hfz116_8
            try clear hfz116_9
            try clear hfz117_0
            try clear hfz117_1
            try clear hfz117_10
            try clear hfz117_2
            try clear hfz117_3
            try clear hfz117_4
            try clear hfz117_5
            try clear hfz117_6
            try clear hfz117_7
            try clear hfz117_8
            try clear hfz117_9
            try clear hfz65_10
            try clear hfz65_5
            try clear hfz65_6
            try clear hfz65_7
            try clear hfz65_8
            try clear hfz65_9
            try clear hfz69_0
            try clear hfz69_1
            try clear hfz69_10
            try clear hfz69_2
            try clear hfz69_3
            try clear hfz69_4
            try clear hfz69_5
            try clear hfz69_6
            try clear hfz69_7
            try clear hfz69_8
            try clear hfz69_9
            try clear hfz71_0
            try clear hfz71_1
            try clear hfz71_10
            try clear hfz71_2
            try clear hfz71_3
            try clear hfz71_4
            try clear hfz71_5
            try clear hfz71_6
            try clear hfz71_7
            try clear hfz71_8
            try clear hfz71_9
            try clear hfz72_0
            try clear hfz72_1
            try clear hfz72_10
            try clear hfz72_2
            try clear hfz72_3
            try clear hfz72_4
            try clear hfz72_5
            try clear hfz72_6
            try clear hfz72_7
            try clear hfz72_8
            try clear hfz72_9
            try clear hfz74_0
            try clear hfz74_1
            try clear hfz74_10
            try clear hfz74_2
            try clear hfz74_3
            try clear hfz74_4
            try clear hfz74_5
            try clear hfz74_6
            try clear hfz74_7
            try clear hfz74_8
            try clear hfz74_9
            try clear hfz75_0
            try clear hfz75_1
            try clear hfz75_10
            try clear hfz75_2
            try clear hfz75_3
            try clear hfz75_4
            try clear hfz75_5
            try clear hfz75_6
            try clear hfz75_7
            try clear hfz75_8
            try clear hfz75_9
            try clear hfz78_0
            try clear hfz78_1
            try clear hfz78_10
            try clear hfz78_2
            try clear hfz78_3
            try clear hfz78_4
            try clear hfz78_5
            try clear hfz78_6
            try clear hfz78_7
            try clear hfz78_8
            try clear hfz78_9
            try clear hfz79_0
            try clear hfz79_1
            try clear hfz79_10
            try clear hfz79_2
            try clear hfz79_3
            try clear hfz79_4
            try clear hfz79_5
            try clear hfz79_6
            try clear hfz79_7
            try clear hfz79_8
            try clear hfz79_9
            try clear hfz80_0
            try clear hfz80_1
            try clear hfz80_10
            try clear hfz80_2
            try clear hfz80_3
            try clear hfz80_4
            try clear hfz80_5
            try clear hfz80_6
            try clear hfz80_7
            try clear hfz80_8
            try clear hfz80_9
            try clear hfz84_0
            try clear hfz84_1
            try clear hfz84_10
            try clear hfz84_2
            try clear hfz84_3
            try clear hfz84_4
            try clear hfz84_5
            try clear hfz84_6
            try clear hfz84_7
            try clear hfz84_8
            try clear hfz84_9
            try clear hfz86_0
            try clear hfz86_1
            try clear hfz86_10
            try clear hfz86_2
            try clear hfz86_3
            try clear hfz86_4
            try clear hfz86_5
            try clear hfz86_6
            try clear hfz86_7
            try clear hfz86_8
            try clear hfz86_9
            try clear hfz87_0
            try clear hfz87_1
            try clear hfz87_10
            try clear hfz87_2
            try clear hfz87_3
            try clear hfz87_4
            try clear hfz87_5
            try clear hfz87_6
            try clear hfz87_7
            try clear hfz87_8
            try clear hfz87_9
            try clear hfz89_0
            try clear hfz89_1
            try clear hfz89_10
            try clear hfz89_2
            try clear hfz89_3
            try clear hfz89_4
            try clear hfz89_5
            try clear hfz89_6
            try clear hfz89_7
            try clear hfz89_8
            try clear hfz89_9
            try clear hfz90_0
            try clear hfz90_1
            try clear hfz90_10
            try clear hfz90_2
            try clear hfz90_3
            try clear hfz90_4
            try clear hfz90_5
            try clear hfz90_6
            try clear hfz90_7
            try clear hfz90_8
            try clear hfz90_9
            try clear hfz93_0
            try clear hfz93_1
            try clear hfz93_10
            try clear hfz93_2
            try clear hfz93_3
            try clear hfz93_4
            try clear hfz93_5
            try clear hfz93_6
            try clear hfz93_7
            try clear hfz93_8
            try clear hfz93_9
            try clear hfz94_0
            try clear hfz94_1
            try clear hfz94_10
            try clear hfz94_2
            try clear hfz94_3
            try clear hfz94_4
            try clear hfz94_5
            try clear hfz94_6
            try clear hfz94_7
            try clear hfz94_8
            try clear hfz94_9
            try clear hfz95_0
            try clear hfz95_1
            try clear hfz95_10
            try clear hfz95_2
            try clear hfz95_3
            try clear hfz95_4
            try clear hfz95_5
            try clear hfz95_6
            try clear hfz95_7
            try clear hfz95_8
            try clear hfz95_9
            try clear hfz97_0
            try clear hfz97_1
            try clear hfz97_10
            try clear hfz97_2
            try clear hfz97_3
            try clear hfz97_4
            try clear hfz97_5
            try clear hfz97_6
            try clear hfz97_7
            try clear hfz97_8
            try clear hfz97_9
            try clear p2
            obtain ⟨kq, x6_109, rfl, HA, HJ109, BK544, HB⟩ := hcut
            cases kq with
            | zero => exact absurd HA.out (by simp [turnstilelaw11_RecordValid.j5])
            | succ kj109 =>
              have H := HA.out
              clear HA
              simp only [turnstilelaw11_RecordValid.j5] at H
              have HC118 := Aside0.mk H
              clear H
              obtain ⟨hcz119_0, hcz119_1, hcz119_2, hcz119_3, hcz119_4, hcz119_5, hcz119_6, hcz119_7, hcz119_8, hcz119_9, hcz119_10, hfz119_0, hfz119_1, hfz119_2, hfz119_3, hfz119_4, hfz119_5, hfz119_6, hfz119_7, hfz119_8, hfz119_9, hfz119_10⟩ := bc11 BK544
              go_upto_region 9 with (fail)
              go_cut [7, 8, 9] (fun v7 v8 v9 wc => ∃ (kq : Nat) (x7_117 : Bool) (x8_117 : Bool) (x9_117 : Bool), v7 = .bool x7_117 ∧ v8 = .bool x8_117 ∧ v9 = .bool x9_117 ∧ Aside0 (turnstilelaw11_RecordValid.j6 kq false x5_98 x6_109 x7_117 x8_117 x9_117 a0_0 a0_1 a0_2 a0_3 a0_4 a0_5 a0_6 a0_7 a0_8 a0_9 a0_10 = some r) ∧ Aside0 (kq ≤ kj109) ∧ Aside0 (wc.heap[gb544]? = some (.cells #[.int .i64 a0_0, .int .u64 a0_1, .string a0_2, .int .i64 a0_3, .int .u64 a0_4, .int .u64 a0_5, .int .u64 a0_6, .int .u64 a0_7, .int .u64 a0_8, .int .u64 a0_9, .int .u64 a0_10] 32 (0, 0))) ∧ Aside0 (Below w.heap.size w wc))
              case first =>
                have H := HC118.out
                clear HC118
                by_cases c120 : a0_8 = 0
                · rw [if_pos c120] at H
                  have c120b0 : (a0_8 == 0) = true := beq_iff_eq.mpr c120
                  have c120b1 : (a0_8 != 0) = false := bne_eq_false_iff_eq.mpr c120
                  clear c120
                  (first | rw [c120b0] | (simp only [i64_w, i32_w]; rw [c120b0]) | skip)
                  (try rw [show (true && (a0_9 == 0 && (a0_10 == 0))) = (a0_8 == 0 && (a0_9 == 0 && (a0_10 == 0))) from by rw [c120b0]])
                  have H' := Aside0.mk H
                  clear H
                  obtain ⟨hcz121_0, hcz121_1, hcz121_2, hcz121_3, hcz121_4, hcz121_5, hcz121_6, hcz121_7, hcz121_8, hcz121_9, hcz121_10, hfz121_0, hfz121_1, hfz121_2, hfz121_3, hfz121_4, hfz121_5, hfz121_6, hfz121_7, hfz121_8, hfz121_9, hfz121_10⟩ := bc11 BK544
                  go_wp2
                  go_meet
                  case rel => exact ⟨_, ((a0_3 == 0 && (a0_4 == 0 && (a0_5 == 0 && (a0_6 == 0 && (a0_7 == 0)))))), ((a0_8 == 0 && (a0_9 == 0 && (a0_10 == 0)))), (true), rs, rs, rs, H', ⟨by have := HJ98.out; have := HJ109.out; first | omega | exact Nat.le_refl _⟩, ⟨bk BK544⟩, ⟨bw HB⟩⟩
                · rw [if_neg c120] at H
                  have c120b0 : (a0_8 == 0) = false := beq_eq_false_iff_ne.mpr c120
                  have c120b1 : (a0_8 != 0) = true := bne_iff_ne.mpr c120
                  (first | rw [c120b0] | (simp only [i64_w, i32_w]; rw [c120b0]) | skip)
                  (try rw [show (false && (a0_9 == 0 && (a0_10 == 0))) = (a0_8 == 0 && (a0_9 == 0 && (a0_10 == 0))) from by rw [c120b0]])
                  by_cases c122 : a0_9 = 0
                  · rw [if_pos c122] at H
                    have c122b0 : (a0_9 == 0) = true := beq_iff_eq.mpr c122
                    have c122b1 : (a0_9 != 0) = false := bne_eq_false_iff_eq.mpr c122
                    clear c122
                    have H' := Aside0.mk H
                    clear H
                    obtain ⟨hcz123_0, hcz123_1, hcz123_2, hcz123_3, hcz123_4, hcz123_5, hcz123_6, hcz123_7, hcz123_8, hcz123_9, hcz123_10, hfz123_0, hfz123_1, hfz123_2, hfz123_3, hfz123_4, hfz123_5, hfz123_6, hfz123_7, hfz123_8, hfz123_9, hfz123_10⟩ := bc11 BK544
                    go_wp2
                    go_meet
                    case rel => exact ⟨_, ((a0_3 == 0 && (a0_4 == 0 && (a0_5 == 0 && (a0_6 == 0 && (a0_7 == 0)))))), ((a0_8 == 0 && (a0_9 == 0 && (a0_10 == 0)))), ((a0_10 == 0)), rs, rs, rs, H', ⟨by have := HJ98.out; have := HJ109.out; first | omega | exact Nat.le_refl _⟩, ⟨bk BK544⟩, ⟨bw HB⟩⟩
                  · rw [if_neg c122] at H
                    have c122b0 : (a0_9 == 0) = false := beq_eq_false_iff_ne.mpr c122
                    have c122b1 : (a0_9 != 0) = true := bne_iff_ne.mpr c122
                    have H' := Aside0.mk H
                    clear H
                    obtain ⟨hcz124_0, hcz124_1, hcz124_2, hcz124_3, hcz124_4, hcz124_5, hcz124_6, hcz124_7, hcz124_8, hcz124_9, hcz124_10, hfz124_0, hfz124_1, hfz124_2, hfz124_3, hfz124_4, hfz124_5, hfz124_6, hfz124_7, hfz124_8, hfz124_9, hfz124_10⟩ := bc11 BK544
                    go_wp2
                    go_meet
                    case rel => exact ⟨_, ((a0_3 == 0 && (a0_4 == 0 && (a0_5 == 0 && (a0_6 == 0 && (a0_7 == 0)))))), ((a0_8 == 0 && (a0_9 == 0 && (a0_10 == 0)))), (false), rs, rs, rs, H', ⟨by have := HJ98.out; have := HJ109.out; first | omega | exact Nat.le_refl _⟩, ⟨bk BK544⟩, ⟨bw HB⟩⟩
              case rest => as_aux_lemma =>
                clear HC118
                try clear c1
                try clear p2
                try clear c12
                try clear c120
                try clear c120b0
                try clear c120b1
                try clear c122
                try clear c122b0
                try clear c122b1
                try clear hcz119_0
                try clear hcz119_1
                try clear hcz119_10
                try clear hcz119_2
                try clear hcz119_3
                try clear hcz119_4
                try clear hcz119_5
                try clear hcz119_6
                try clear hcz119_7
                try clear hcz119_8
                try clear hcz119_9
                try clear hcz121_0
                try clear hcz121_1
                try clear hcz121_10
                try clear hcz121_2
                try clear hcz121_3
                try clear hcz121_4
                try clear hcz121_5
                try clear hcz121_6
                try clear hcz121_7
                try clear hcz121_8
                try clear hcz121_9
                try clear hcz123_0
                try clear hcz123_1
                try clear hcz123_10
                try clear hcz123_2
                try clear hcz123_3
                try clear hcz123_4
                try clear hcz123_5
                try clear hcz123_6
                try clear hcz123_7
                try clear hcz123_8
                try clear hcz123_9
                try clear hcz124_0
                try clear hcz124_1
                try clear hcz124_10
                try clear hcz124_2
                try clear hcz124_3
                try clear hcz124_4
                try clear hcz124_5
                try clear hcz124_6
                try clear hcz124_7
                try clear hcz124_8
                try clear hcz124_9
                try clear hcz71_7
                try clear hcz71_8
                try clear hcz71_9
                try clear hcz72_0
                try clear hcz72_1
                try clear hcz72_10
                try clear hcz72_2
                try clear hcz72_3
                try clear hcz72_4
                try clear hcz72_5
                try clear hcz72_6
                try clear hcz72_7
                try clear hcz72_8
                try clear hcz72_9
                try clear hcz74_0
                try clear hcz74_1
                try clear hcz74_10
                try clear hcz74_2
                try clear hcz74_3
                try clear hcz74_4
                try clear hcz74_5
                try clear hcz74_6
                try clear hcz74_7
                try clear hcz74_8
                try clear hcz74_9
                try clear hcz75_0
                try clear hcz75_1
                try clear hcz75_10
                try clear hcz75_2
                try clear hcz75_3
                try clear hcz75_4
                try clear hcz75_5
                try clear hcz75_6
                try clear hcz75_7
                try clear hcz75_8
                try clear hcz75_9
                try clear hcz78_0
                try clear hcz78_1
                try clear hcz78_10
                try clear hcz78_2
                try clear hcz78_3
                try clear hcz78_4
                try clear hcz78_5
                try clear hcz78_6
                try clear hcz78_7
                try clear hcz78_8
                try clear hcz78_9
                try clear hcz79_0
                try clear hcz79_1
                try clear hcz79_10
                try clear hcz79_2
                try clear hcz79_3
                try clear hcz79_4
                try clear hcz79_5
                try clear hcz79_6
                try clear hcz79_7
                try clear hcz79_8
                try clear hcz79_9
                try clear hcz80_0
                try clear hcz80_1
                try clear hcz80_10
                try clear hcz80_2
                try clear hcz80_3
                try clear hcz80_4
                try clear hcz80_5
                try clear hcz80_6
                try clear hcz80_7
                try clear hcz80_8
                try clear hcz80_9
                try clear hcz84_0
                try clear hcz84_1
                try clear hcz84_10
                try clear hcz84_2
                try clear hcz84_3
                try clear hcz84_4
                try clear hcz84_5
                try clear hcz84_6
                try clear hcz84_7
                try clear hcz84_8
                try clear hcz84_9
                try clear hcz86_0
                try clear hcz86_1
                try clear hcz86_10
                try clear hcz86_2
                try clear hcz86_3
                try clear hcz86_4
                try clear hcz86_5
                try clear hcz86_6
                try clear hcz86_7
                try clear hcz86_8
                try clear hcz86_9
                try clear hcz87_0
                try clear hcz87_1
                try clear hcz87_10
                try clear hcz87_2
                try clear hcz87_3
                try clear hcz87_4
                try clear hcz87_5
                try clear hcz87_6
                try clear hcz87_7
                try clear hcz87_8
                try clear hcz87_9
                try clear hcz89_0
                try clear hcz89_1
                try clear hcz89_10
                try clear hcz89_2
                try clear hcz89_3
                try clear hcz89_4
                try clear hcz89_5
                try clear hcz89_6
                try clear hcz89_7
                try clear hcz89_8
                try clear hcz89_9
                try clear hcz90_0
                try clear hcz90_1
                try clear hcz90_10
                try clear hcz90_2
                try clear hcz90_3
                try clear hcz90_4
                try clear hcz90_5
                try clear hcz90_6
                try clear hcz90_7
                try clear hcz90_8
                try clear hcz90_9
                try clear hcz93_0
                try clear hcz93_1
                try clear hcz93_10
                try clear hcz93_2
                try clear hcz93_3
                try clear hcz93_4
                try clear hcz93_5
                try clear hcz93_6
                try clear hcz93_7
                try clear hcz93_8
                try clear hcz93_9
                try clear hcz94_0
                try clear hcz94_1
                try clear hcz94_10
                try clear hcz94_2
                try clear hcz94_3
                try clear hcz94_4
                try clear hcz94_5
                try clear hcz94_6
                try clear hcz94_7
                try clear hcz94_8
                try clear hcz94_9
                try clear hcz95_0
                try clear hcz95_1
                try clear hcz95_10
                try clear hcz95_2
                try clear hcz95_3
                try clear hcz95_4
                try clear hcz95_5
                try clear hcz95_6
                try clear hcz95_7
                try clear hcz95_8
                try clear hcz95_9
                try clear hcz97_0
                try clear hcz97_1
                try clear hcz97_10
                try clear hcz97_2
                try clear hcz97_3
                try clear hcz97_4
                try clear hcz97_5
                try clear hcz97_6
                try clear hcz97_7
                try clear hcz97_8
                try clear hcz97_9
                try clear hfz102_0
                try clear hfz102_1
                try clear hfz102_10
                try clear hfz102_2
                try clear hfz102_3
                try clear hfz102_4
                try clear hfz102_5
                try clear hfz102_6
                try clear hfz102_7
                try clear hfz102_8
                try clear hfz102_9
                try clear hfz106_0
                try clear hfz106_1
                try clear hfz106_10
                try clear hfz106_2
                try clear hfz106_3
                try clear hfz106_4
                try clear hfz106_5
                try clear hfz106_6
                try clear hfz106_7
                try clear hfz106_8
                try clear hfz106_9
                try clear hfz107_0
                try clear hfz107_1
                try clear hfz107_10
                try clear hfz107_2
                try clear hfz107_3
                try clear hfz107_4
                try clear hfz107_5
                try clear hfz107_6
                try clear hfz107_7
                try clear hfz107_8
                try clear hfz107_9
                try clear hfz108_0
                try clear hfz108_1
                try clear hfz108_10
                try clear hfz108_2
                try clear hfz108_3
                try clear hfz108_4
                try clear hfz108_5
                try clear hfz108_6
                try clear hfz108_7
                try clear hfz108_8
                try clear hfz108_9
                try clear hfz109_0
                try clear hfz109_1
                try clear hfz109_10
                try clear hfz109_2
                try clear hfz109_3
                try clear hfz109_4
                try clear hfz109_5
                try clear hfz109_6
                try clear hfz109_7
                try clear hfz109_8
                try clear hfz109_9
                try clear hfz114_0
                try clear hfz114_1
                try clear hfz114_10
                try clear hfz114_2
                try clear hfz114_3
                try clear hfz114_4
                try clear hfz114_5
                try clear hfz114_6
                try clear hfz114_7
                try clear hfz114_8
                try clear hfz114_9
                try clear hfz115_0
                try clear hfz115_1
                try clear hfz115_10
                try clear hfz115_2
                try clear hfz115_3
                try clear hfz115_4
                try clear hfz115_5
                try clear hfz115_6
                try clear hfz115_7
                try clear hfz115_8
                try clear hfz115_9
                try clear hfz116_0
                try clear hfz116_1
                try clear hfz116_10
                try clear hfz116_2
                try clear hfz116_3
                try clear hfz116_4
                try clear hfz116_5
                try clear hfz116_6
                try clear hfz116_7
                try clear hfz116_8
                try clear hfz116_9
                try clear hfz117_0
                try clear hfz117_1
                try clear hfz117_10
                try clear hfz117_2
                try clear hfz117_3
                try clear hfz117_4
                try clear hfz117_5
                try clear hfz117_6
                try clear hfz117_7
                try clear hfz117_8
                try clear hfz117_9
                try clear hfz119_0
                try clear hfz119_1
                try clear hfz119_10
                try clear hfz119_2
                try clear hfz119_3
                try clear hfz119_4
                try clear hfz119_5
                try clear hfz119_6
                try clear hfz119_7
                try clear hfz119_8
                try clear hfz119_9
                try clear hfz121_0
                try clear hfz121_1
                try clear hfz121_10
                try clear hfz121_2
                try clear hfz121_3
                try clear hfz121_4
                try clear hfz121_5
                try clear hfz121_6
                try clear hfz121_7
                try clear hfz121_8
                try clear hfz121_9
                try clear hfz123_0
                try clear hfz123_1
                try clear hfz123_10
                try clear hfz123_2
                try clear hfz123_3
                try clear hfz123_4
                try clear hfz123_5
                try clear hfz123_6
                try clear hfz123_7
                try clear hfz123_8
                try clear hfz123_9
                try clear hfz124_0
                try clear hfz124_1
                try clear hfz124_10
                try clear hfz124_2
                try clear hfz124_3
                try clear hfz124_4
                try clear hfz124_5
                try clear hfz124_6
                try clear hfz124_7
                try clear hfz124_8
                try clear hfz124_9
                try clear hfz65_10
                try clear hfz65_5
                try clear hfz65_6
                try clear hfz65_7
                try clear hfz65_8
                try clear hfz65_9
                try clear hfz69_0
                try clear hfz69_1
                try clear hfz69_10
                try clear hfz69_2
                try clear hfz69_3
                try clear hfz69_4
                try clear hfz69_5
                try clear hfz69_6
                try clear hfz69_7
                try clear hfz69_8
                try clear hfz69_9
                try clear hfz71_0
                try clear hfz71_1
                try clear hfz71_10
                try clear hfz71_2
                try clear hfz71_3
                try clear hfz71_4
                try clear hfz71_5
                try clear hfz71_6
                try clear hfz71_7
                try clear hfz71_8
                try clear hfz71_9
                try clear hfz72_0
                try clear hfz72_1
                try clear hfz72_10
                try clear hfz72_2
                try clear hfz72_3
                try clear hfz72_4
                try clear hfz72_5
                try clear hfz72_6
                try clear hfz72_7
                try clear hfz72_8
                try clear hfz72_9
                try clear hfz74_0
                try clear hfz74_1
                try clear hfz74_10
                try clear hfz74_2
                try clear hfz74_3
                try clear hfz74_4
                try clear hfz74_5
                try clear hfz74_6
                try clear hfz74_7
                try clear hfz74_8
                try clear hfz74_9
                try clear hfz75_0
                try clear hfz75_1
                try clear hfz75_10
                try clear hfz75_2
                try clear hfz75_3
                try clear hfz75_4
                try clear hfz75_5
                try clear hfz75_6
                try clear hfz75_7
                try clear hfz75_8
                try clear hfz75_9
                try clear hfz78_0
                try clear hfz78_1
                try clear hfz78_10
                try clear hfz78_2
                try clear hfz78_3
                try clear hfz78_4
                try clear hfz78_5
                try clear hfz78_6
                try clear hfz78_7
                try clear hfz78_8
                try clear hfz78_9
                try clear hfz79_0
                try clear hfz79_1
                try clear hfz79_10
                try clear hfz79_2
                try clear hfz79_3
                try clear hfz79_4
                try clear hfz79_5
                try clear hfz79_6
                try clear hfz79_7
                try clear hfz79_8
                try clear hfz79_9
                try clear hfz80_0
                try clear hfz80_1
                try clear hfz80_10
                try clear hfz80_2
                try clear hfz80_3
                try clear hfz80_4
                try clear hfz80_5
                try clear hfz80_6
                try clear hfz80_7
                try clear hfz80_8
                try clear hfz80_9
                try clear hfz84_0
                try clear hfz84_1
                try clear hfz84_10
                try clear hfz84_2
                try clear hfz84_3
                try clear hfz84_4
                try clear hfz84_5
                try clear hfz84_6
                try clear hfz84_7
                try clear hfz84_8
                try clear hfz84_9
                try clear hfz86_0
                try clear hfz86_1
                try clear hfz86_10
                try clear hfz86_2
                try clear hfz86_3
                try clear hfz86_4
                try clear hfz86_5
                try clear hfz86_6
                try clear hfz86_7
                try clear hfz86_8
                try clear hfz86_9
                try clear hfz87_0
                try clear hfz87_1
                try clear hfz87_10
                try clear hfz87_2
                try clear hfz87_3
                try clear hfz87_4
                try clear hfz87_5
                try clear hfz87_6
                try clear hfz87_7
                try clear hfz87_8
                try clear hfz87_9
                try clear hfz89_0
                try clear hfz89_1
                try clear hfz89_10
                try clear hfz89_2
                try clear hfz89_3
                try clear hfz89_4
                try clear hfz89_5
                try clear hfz89_6
                try clear hfz89_7
                try clear hfz89_8
                try clear hfz89_9
                try clear hfz90_0
                try clear hfz90_1
                try clear hfz90_10
                try clear hfz90_2
                try clear hfz90_3
                try clear hfz90_4
                try clear hfz90_5
                try clear hfz90_6
                try clear hfz90_7
                try clear hfz90_8
                try clear hfz90_9
                try clear hfz93_0
                try clear hfz93_1
                try clear hfz93_10
                try clear hfz93_2
                try clear hfz93_3
                try clear hfz93_4
                try clear hfz93_5
                try clear hfz93_6
                try clear hfz93_7
                try clear hfz93_8
                try clear hfz93_9
                try clear hfz94_0
                try clear hfz94_1
                try clear hfz94_10
                try clear hfz94_2
                try clear hfz94_3
                try clear hfz94_4
                try clear hfz94_5
                try clear hfz94_6
                try clear hfz94_7
                try clear hfz94_8
                try clear hfz94_9
                try clear hfz95_0
                try clear hfz95_1
                try clear hfz95_10
                try clear hfz95_2
                try clear hfz95_3
                try clear hfz95_4
                try clear hfz95_5
                try clear hfz95_6
                try clear hfz95_7
                try clear hfz95_8
                try clear hfz95_9
                try clear hfz97_0
                try clear hfz97_1
                try clear hfz97_10
                try clear hfz97_2
                try clear hfz97_3
                try clear hfz97_4
                try clear hfz97_5
                try clear hfz97_6
                try clear hfz97_7
                try clear hfz97_8
                try clear hfz97_9
                try clear p2
                obtain ⟨kq, x7_117, x8_117, x9_117, rfl, rfl, rfl, HA, HJ117, BK544, HB⟩ := hcut
                cases kq with
                | zero => exact absurd HA.out (by simp [turnstilelaw11_RecordValid.j6])
                | succ kj117 =>
                  have H := HA.out
                  clear HA
                  simp only [turnstilelaw11_RecordValid.j6] at H
                  have HC125 := Aside0.mk H
                  clear H
                  go_upto_region 10 with (fail)
                  go_cut [10] (fun v10 wc => ∃ (kq : Nat) (x10_124 : Bool), v10 = .bool x10_124 ∧ Aside0 (turnstilelaw11_RecordValid.j7 kq x10_124 a0_0 a0_1 a0_2 a0_3 a0_4 a0_5 a0_6 a0_7 a0_8 a0_9 a0_10 = some r) ∧ Aside0 (kq ≤ kj117) ∧ Aside0 (wc.heap[gb544]? = some (.cells #[.int .i64 a0_0, .int .u64 a0_1, .string a0_2, .int .i64 a0_3, .int .u64 a0_4, .int .u64 a0_5, .int .u64 a0_6, .int .u64 a0_7, .int .u64 a0_8, .int .u64 a0_9, .int .u64 a0_10] 32 (0, 0))) ∧ Aside0 (Below w.heap.size w wc))
                  case first =>
                    have H := HC125.out
                    clear HC125
                    by_cases c126 : false = true
                    · exact absurd c126 (by simp)
                    · clear c126
                      have H1 : (turnstilelaw11_RecordValid.j7 kj117 false a0_0 a0_1 a0_2 a0_3 a0_4 a0_5 a0_6 a0_7 a0_8 a0_9 a0_10) = some r := by rw [if_neg (show ¬ (false = true) by decide)] at H; exact H
                      clear H
                      have H := H1
                      clear H1
                      have H' := Aside0.mk H
                      clear H
                      go_wp2
                      go_meet
                      case rel => exact ⟨_, (false), rs, H', ⟨by have := HJ98.out; have := HJ109.out; have := HJ117.out; first | omega | exact Nat.le_refl _⟩, ⟨bk BK544⟩, ⟨bw HB⟩⟩
                  case rest => as_aux_lemma =>
                    clear HC125
                    try clear c1
                    try clear p2
                    try clear c12
                    try clear c14
                    try clear c16
                    try clear c17
                    try clear c18
                    try clear c126
                    try clear c127
                    try clear c127b0
                    try clear c127b1
                    try clear c144
                    try clear c160
                    try clear c160b0
                    try clear c160b1
                    try clear c161
                    try clear c162
                    try clear c164
                    try clear c164b0
                    try clear c164b1
                    try clear c167
                    try clear c167b0
                    try clear c167b1
                    try clear c170
                    try clear c170b0
                    try clear c170b1
                    try clear c171
                    try clear c175
                    try clear c175b0
                    try clear c175b1
                    try clear c176
                    try clear c177
                    try clear c179
                    try clear c179b0
                    try clear c179b1
                    try clear c182
                    try clear c182b0
                    try clear c182b1
                    try clear c185
                    try clear c185b0
                    try clear c185b1
                    try clear c186
                    try clear hcz163_0
                    try clear hcz163_1
                    try clear hcz163_10
                    try clear hcz163_2
                    try clear hcz163_3
                    try clear hcz163_4
                    try clear hcz163_5
                    try clear hcz163_6
                    try clear hcz163_7
                    try clear hcz163_8
                    try clear hcz163_9
                    try clear hcz165_0
                    try clear hcz165_1
                    try clear hcz165_10
                    try clear hcz165_2
                    try clear hcz165_3
                    try clear hcz165_4
                    try clear hcz165_5
                    try clear hcz165_6
                    try clear hcz165_7
                    try clear hcz165_8
                    try clear hcz165_9
                    try clear hcz166_0
                    try clear hcz166_1
                    try clear hcz166_10
                    try clear hcz166_2
                    try clear hcz166_3
                    try clear hcz166_4
                    try clear hcz166_5
                    try clear hcz166_6
                    try clear hcz166_7
                    try clear hcz166_8
                    try clear hcz166_9
                    try clear hcz168_0
                    try clear hcz168_1
                    try clear hcz168_10
                    try clear hcz168_2
                    try clear hcz168_3
                    try clear hcz168_4
                    try clear hcz168_5
                    try clear hcz168_6
                    try clear hcz168_7
                    try clear hcz168_8
                    try clear hcz168_9
                    try clear hcz169_0
                    try clear hcz169_1
                    try clear hcz169_10
                    try clear hcz169_2
                    try clear hcz169_3
                    try clear hcz169_4
                    try clear hcz169_5
                    try clear hcz169_6
                    try clear hcz169_7
                    try clear hcz169_8
                    try clear hcz169_9
                    try clear hcz172_0
                    try clear hcz172_1
                    try clear hcz172_10
                    try clear hcz172_2
                    try clear hcz172_3
                    try clear hcz172_4
                    try clear hcz172_5
                    try clear hcz172_6
                    try clear hcz172_7
                    try clear hcz172_8
                    try clear hcz172_9
                    try clear hcz173_0
                    try clear hcz173_1
                    try clear hcz173_10
                    try clear hcz173_2
                    try clear hcz173_3
                    try clear hcz173_4
                    try clear hcz173_5
                    try clear hcz173_6
                    try clear hcz173_7
                    try clear hcz173_8
                    try clear hcz173_9
                    try clear hcz174_0
                    try clear hcz174_1
                    try clear hcz174_10
                    try clear hcz174_2
                    try clear hcz174_3
                    try clear hcz174_4
                    try clear hcz174_5
                    try clear hcz174_6
                    try clear hcz174_7
                    try clear hcz174_8
                    try clear hcz174_9
                    try clear hcz178_0
                    try clear hcz178_1
                    try clear hcz178_10
                    try clear hcz178_2
                    try clear hcz178_3
                    try clear hcz178_4
                    try clear hcz178_5
                    try clear hcz178_6
                    try clear hcz178_7
                    try clear hcz178_8
                    try clear hcz178_9
                    try clear hcz180_0
                    try clear hcz180_1
                    try clear hcz180_10
                    try clear hcz180_2
                    try clear hcz180_3
                    try clear hcz180_4
                    try clear hcz180_5
                    try clear hcz180_6
                    try clear hcz180_7
                    try clear hcz180_8
                    try clear hcz180_9
                    try clear hcz181_0
                    try clear hcz181_1
                    try clear hcz181_10
                    try clear hcz181_2
                    try clear hcz181_3
                    try clear hcz181_4
                    try clear hcz181_5
                    try clear hcz181_6
                    try clear hcz181_7
                    try clear hcz181_8
                    try clear hcz181_9
                    try clear hcz183_0
                    try clear hcz183_1
                    try clear hcz183_10
                    try clear hcz183_2
                    try clear hcz183_3
                    try clear hcz183_4
                    try clear hcz183_5
                    try clear hcz183_6
                    try clear hcz183_7
                    try clear hcz183_8
                    try clear hcz183_9
                    try clear hcz184_0
                    try clear hcz184_1
                    try clear hcz184_10
                    try clear hcz184_2
                    try clear hcz184_3
                    try clear hcz184_4
                    try clear hcz184_5
                    try clear hcz184_6
                    try clear hcz184_7
                    try clear hcz184_8
                    try clear hcz184_9
                    try clear hcz187_0
                    try clear hcz187_1
                    try clear hcz187_10
                    try clear hcz187_2
                    try clear hcz187_3
                    try clear hcz187_4
                    try clear hcz187_5
                    try clear hcz187_6
                    try clear hcz187_7
                    try clear hcz187_8
                    try clear hcz187_9
                    try clear hcz188_0
                    try clear hcz188_1
                    try clear hcz188_10
                    try clear hcz188_2
                    try clear hcz188_3
                    try clear hcz188_4
                    try clear hcz188_5
                    try clear hcz188_6
                    try clear hcz188_7
                    try clear hcz188_8
                    try clear hcz188_9
                    try clear hcz189_0
                    try clear hcz189_1
                    try clear hcz189_10
                    try clear hcz189_2
                    try clear hcz189_3
                    try clear hcz189_4
                    try clear hcz189_5
                    try clear hcz189_6
                    try clear hcz189_7
                    try clear hcz189_8
                    try clear hcz189_9
                    try clear hfz159_10
                    try clear hfz159_5
                    try clear hfz159_6
                    try clear hfz159_7
                    try clear hfz159_8
                    try clear hfz159_9
                    try clear hfz163_0
                    try clear hfz163_1
                    try clear hfz163_10
                    try clear hfz163_2
                    try clear hfz163_3
                    try clear hfz163_4
                    try clear hfz163_5
                    try clear hfz163_6
                    try clear hfz163_7
                    try clear hfz163_8
                    try clear hfz163_9
                    try clear hfz165_0
                    try clear hfz165_1
                    try clear hfz165_10
                    try clear hfz165_2
                    try clear hfz165_3
                    try clear hfz165_4
                    try clear hfz165_5
                    try clear hfz165_6
                    try clear hfz165_7
                    try clear hfz165_8
                    try clear hfz165_9
                    try clear hfz166_0
                    try clear hfz166_1
                    try clear hfz166_10
                    try clear hfz166_2
                    try clear hfz166_3
                    try clear hfz166_4
                    try clear hfz166_5
                    try clear hfz166_6
                    try clear hfz166_7
                    try clear hfz166_8
                    try clear hfz166_9
                    try clear hfz168_0
                    try clear hfz168_1
                    try clear hfz168_10
                    try clear hfz168_2
                    try clear hfz168_3
                    try clear hfz168_4
                    try clear hfz168_5
                    try clear hfz168_6
                    try clear hfz168_7
                    try clear hfz168_8
                    try clear hfz168_9
                    try clear hfz169_0
                    try clear hfz169_1
                    try clear hfz169_10
                    try clear hfz169_2
                    try clear hfz169_3
                    try clear hfz169_4
                    try clear hfz169_5
                    try clear hfz169_6
                    try clear hfz169_7
                    try clear hfz169_8
                    try clear hfz169_9
                    try clear hfz172_0
                    try clear hfz172_1
                    try clear hfz172_10
                    try clear hfz172_2
                    try clear hfz172_3
                    try clear hfz172_4
                    try clear hfz172_5
                    try clear hfz172_6
                    try clear hfz172_7
                    try clear hfz172_8
                    try clear hfz172_9
                    try clear hfz173_0
                    try clear hfz173_1
                    try clear hfz173_10
                    try clear hfz173_2
                    try clear hfz173_3
                    try clear hfz173_4
                    try clear hfz173_5
                    try clear hfz173_6
                    try clear hfz173_7
                    try clear hfz173_8
                    try clear hfz173_9
                    try clear hfz174_0
                    try clear hfz174_1
                    try clear hfz174_10
                    try clear hfz174_2
                    try clear hfz174_3
                    try clear hfz174_4
                    try clear hfz174_5
                    try clear hfz174_6
                    try clear hfz174_7
                    try clear hfz174_8
                    try clear hfz174_9
                    try clear hfz178_0
                    try clear hfz178_1
                    try clear hfz178_10
                    try clear hfz178_2
                    try clear hfz178_3
                    try clear hfz178_4
                    try clear hfz178_5
                    try clear hfz178_6
                    try clear hfz178_7
                    try clear hfz178_8
                    try clear hfz178_9
                    try clear hfz180_0
                    try clear hfz180_1
                    try clear hfz180_10
                    try clear hfz180_2
                    try clear hfz180_3
                    try clear hfz180_4
                    try clear hfz180_5
                    try clear hfz180_6
                    try clear hfz180_7
                    try clear hfz180_8
                    try clear hfz180_9
                    try clear hfz181_0
                    try clear hfz181_1
                    try clear hfz181_10
                    try clear hfz181_2
                    try clear hfz181_3
                    try clear hfz181_4
                    try clear hfz181_5
                    try clear hfz181_6
                    try clear hfz181_7
                    try clear hfz181_8
                    try clear hfz181_9
                    try clear hfz183_0
                    try clear hfz183_1
                    try clear hfz183_10
                    try clear hfz183_2
                    try clear hfz183_3
                    try clear hfz183_4
                    try clear hfz183_5
                    try clear hfz183_6
                    try clear hfz183_7
                    try clear hfz183_8
                    try clear hfz183_9
                    try clear hfz184_0
                    try clear hfz184_1
                    try clear hfz184_10
                    try clear hfz184_2
                    try clear hfz184_3
                    try clear hfz184_4
                    try clear hfz184_5
                    try clear hfz184_6
                    try clear hfz184_7
                    try clear hfz184_8
                    try clear hfz184_9
                    try clear hfz187_0
                    try clear hfz187_1
                    try clear hfz187_10
                    try clear hfz187_2
                    try clear hfz187_3
                    try clear hfz187_4
                    try clear hfz187_5
                    try clear hfz187_6
                    try clear hfz187_7
                    try clear hfz187_8
                    try clear hfz187_9
                    try clear hfz188_0
                    try clear hfz188_1
                    try clear hfz188_10
                    try clear hfz188_2
                    try clear hfz188_3
                    try clear hfz188_4
                    try clear hfz188_5
                    try clear hfz188_6
                    try clear hfz188_7
                    try clear hfz188_8
                    try clear hfz188_9
                    try clear hfz189_0
                    try clear hfz189_1
                    try clear hfz189_10
                    try clear hfz189_2
                    try clear hfz189_3
                    try clear hfz189_4
                    try clear hfz189_5
                    try clear hfz189_6
                    try clear hfz189_7
                    try clear hfz189_8
                    try clear hfz189_9
                    obtain ⟨kq, x10_124, rfl, HA, HJ124, BK544, HB⟩ := hcut
                    cases kq with
                    | zero => exact absurd HA.out (by simp [turnstilelaw11_RecordValid.j7])
                    | succ kj124 =>
                      have H := HA.out
                      clear HA
                      simp only [turnstilelaw11_RecordValid.j7] at H
                      replace H := Option.bind_eq_some_iff.mp H
                      obtain ⟨t547, A1900, H⟩ := H
                      replace H : (some (t547 == x10_124)) = some r := H
                      have A190 := Aside0.mk A1900
                      clear A1900
                      obtain rfl := Option.some.inj H
                      obtain ⟨hcz191_0, hcz191_1, hcz191_2, hcz191_3, hcz191_4, hcz191_5, hcz191_6, hcz191_7, hcz191_8, hcz191_9, hcz191_10, hfz191_0, hfz191_1, hfz191_2, hfz191_3, hfz191_4, hfz191_5, hfz191_6, hfz191_7, hfz191_8, hfz191_9, hfz191_10⟩ := bc11 BK544
                      go_wp2_with (first | ((with_reducible refine gate_callee (f := 17) rfl ?_); refine gm (some 130) Tryd.func17 #[.agg #[.int .i64 a0_0, .int .u64 a0_1, .string a0_2, .int .i64 a0_3, .int .u64 a0_4, .int .u64 a0_5, .int .u64 a0_6, .int .u64 a0_7, .int .u64 a0_8, .int .u64 a0_9, .int .u64 a0_10]] (record_Valid.calls kj124 a0_0 a0_1 a0_2 a0_3 a0_4 a0_5 a0_6 a0_7 a0_8 a0_9 a0_10 t547 _ A190.out) ?_; intro w192 hb; have n0_ := bb BK544 hb; have n1_ := bs HB hb; clear BK544; clear HB; have BK544 := n0_; have HB := n1_; clear n0_ n1_; (try clear hb); (try clear hb2); (try clear hk); (try clear hi)))
                      go_ret
                      exact ⟨re, bw HB⟩
  · replace c3 := Bool.eq_false_iff.mpr c3
    subst c3
    have H1 : (some false) = some r := by rw [if_neg (show ¬ (false = true) by decide)] at H; exact H
    clear H
    have H := H1
    clear H1
    obtain rfl := Option.some.inj H
    go_enter Tryd.func7, Tryd.ntmps7
    go_wp2_with (first | ((with_reducible refine gate_dst (N := 1) rfl ?_); (try (refine gate_guard (by rfl) ?_; dsimp only)); refine bx 1 #[.int .i64 a0_0, .int .u64 a0_1, .string a0_2, .int .i64 a0_3, .int .u64 a0_4, .int .u64 a0_5, .int .u64 a0_6, .int .u64 a0_7, .int .u64 a0_8, .int .u64 a0_9, .int .u64 a0_10] 32 ?_; intro gb544 hg w193 hbox hb; have n0_ := bs HB hb; have n1_ := Aside0.mk (hbox); have n2_ := sz HB hg; have n3_ := sz HB hg; clear HB; have HB := n0_; have BK544 := n1_; have GW544 := n2_; have GE544 := n3_; clear n0_ n1_ n2_ n3_; clear hb hbox hg) | ((with_reducible refine gate_callee (f := 13) rfl ?_); refine gl (some 11) Tryd.func13 #[] ?_; (with_reducible refine (turnstilelaw11_awake.calls k  false _ ?side1 A2.out).mono ?_); (case side1 => exact (HERR.out.below (bw HB))); rintro e w194 ⟨rfl, hb⟩; refine ⟨_, rfl, ?_⟩; have n0_ := bb BK544 hb; have n1_ := bs HB hb; clear BK544; clear HB; have BK544 := n0_; have HB := n1_; clear n0_ n1_; (try clear hb); (try clear hb2); (try clear hk); (try clear hi)))
    go_ret
    exact ⟨re, bw HB⟩


end Go.Proofs.YtkgjepmminmjjaaDoor.E
