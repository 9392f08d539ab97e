/-
  NARROWER THAN 'FOR EVERY INPUT', by the rows' own cells (each row's printed sentence says how): RecordAll: laid · RecordBack: laid · RecordForth: laid · RecordCuts: laid · RecordValid: laid · ImageAll: laid · ImageBack: laid · ImageForth: laid · ImageTurned: laid · ImageUnlike: laid.
  DERIVED. THE GIVEN ROWS OF THIS SEAT. 10 by the template 'for every input the law returns true; each argument reads behind the call as it read before'; 0 by the template 'total and deterministic' (their statements: YtkgjepmminmjjaaDoorTotals.lean).
  GIVEN WITH THE SEED: the statements are not yours to turn. If you find one false, say at which input.
  Laid BY PROGRAM, IN A SANDBOX (cutbox-rows.mjs): the forced cells as the released guide's own fill.sh prints them over the translation e3392994ce04cb19… (all of the seat's roots in one cut). By AI agents, Wed Nov 11 2026. No macro, syntax, notation, axiom, sorry.
-/
import Derived.Test.YtkgjepmminmjjaaDoorChecked
import GoSem.Claim
import GoSem.ClaimJoined
import GoSem.ClaimMapViews
import Derived.JoinedTies
import Derived.KernelRfl
namespace Go.Proofs.YtkgjepmminmjjaaDoor
/- THE CELL 'sum', in the pinned program and in every row, IS THE sha256 OF THE DUMP (.gsa) THAT YtkgjepmminmjjaaDoorProg.lean LOADS. Nothing in Lean hashes anything: it is a label: what it is worth is what the hold of that sum in a sandbox is worth. -/
noncomputable def Tryd.pinned : Pinned := { name := "ytkgjepmminmjjaadoor", sum := "e3392994ce04cb19546ea1c17a41c4b68a0a8c3ded3fbc2b45924cfd209afd37", checked := Tryd.checked }
namespace Rows
def none {H : Type} : Left H := { results := [], args := [] }

/- WHAT THE LISTED PACKAGE-LEVEL VARIABLES READ AS WHEN THE CALL BEGINS. Each datum BY PROGRAM (the guide's laid-datum.mjs) off the statement by which the dump's own 'gosem.cut.vars' lays the variable. In a bare row this is a premise. The card (YtkgjepmminmjjaaDoorCards.lean) ties it to the program's text. -/
def laid_turnstile_api_ErrArg {H : Type} : DataW H := .iface "*errors.errorString" (.ptr (.agg [.lit (.string [97, 110, 32, 97, 114, 103, 117, 109, 101, 110, 116, 32, 111, 117, 116, 115, 105, 100, 101, 32, 119, 104, 97, 116, 32, 116, 104, 101, 32, 99, 97, 108, 108, 32, 116, 97, 107, 101, 115])]))
def laid_turnstile_api_ErrShort {H : Type} : DataW H := .iface "*errors.errorString" (.ptr (.agg [.lit (.string [116, 104, 101, 32, 98, 121, 116, 101, 115, 32, 101, 110, 100, 32, 116, 111, 111, 32, 101, 97, 114, 108, 121])]))
def laid_turnstile_api_ErrForm {H : Type} : DataW H := .iface "*errors.errorString" (.ptr (.agg [.lit (.string [116, 104, 101, 32, 98, 121, 116, 101, 115, 32, 104, 97, 118, 101, 32, 97, 110, 111, 116, 104, 101, 114, 32, 102, 111, 114, 109])]))
def laid_turnstile_api_ErrLong {H : Type} : DataW H := .iface "*errors.errorString" (.ptr (.agg [.lit (.string [109, 111, 114, 101, 32, 116, 104, 97, 110, 32, 116, 104, 101, 32, 108, 105, 109, 105, 116])]))
def laid_turnstile_api_ErrSum {H : Type} : DataW H := .iface "*errors.errorString" (.ptr (.agg [.lit (.string [116, 104, 101, 32, 115, 117, 109, 32, 105, 115, 32, 97, 110, 111, 116, 104, 101, 114, 32, 111, 110, 101])]))
def laid_turnstile_api_ErrIo {H : Type} : DataW H := .iface "*errors.errorString" (.ptr (.agg [.lit (.string [116, 104, 101, 32, 100, 105, 115, 107, 32, 102, 97, 105, 108, 101, 100])]))
def laid_turnstile_api_ErrDown {H : Type} : DataW H := .iface "*errors.errorString" (.ptr (.agg [.lit (.string [116, 104, 101, 32, 112, 111, 119, 101, 114, 32, 105, 115, 32, 111, 102, 102])]))
def laid_turnstile_api_ErrGone {H : Type} : DataW H := .iface "*errors.errorString" (.ptr (.agg [.lit (.string [110, 111, 32, 115, 117, 99, 104, 32, 102, 105, 108, 101])]))
def laid_turnstile_api_ErrThere {H : Type} : DataW H := .iface "*errors.errorString" (.ptr (.agg [.lit (.string [116, 104, 101, 114, 101, 32, 105, 115, 32, 115, 117, 99, 104, 32, 97, 32, 102, 105, 108, 101])]))
def laid_turnstile_api_ErrImage {H : Type} : DataW H := .iface "*errors.errorString" (.ptr (.agg [.lit (.string [110, 111, 32, 105, 109, 97, 103, 101, 32, 111, 102, 32, 97, 32, 100, 105, 115, 107])]))
def laid_turnstile_api_ErrGap {H : Type} : DataW H := .iface "*errors.errorString" (.ptr (.agg [.lit (.string [114, 101, 99, 111, 114, 100, 115, 32, 97, 114, 101, 32, 109, 105, 115, 115, 105, 110, 103])]))
def laid_turnstile_api_ErrLog {H : Type} : DataW H := .iface "*errors.errorString" (.ptr (.agg [.lit (.string [97, 32, 114, 101, 99, 111, 114, 100, 32, 116, 104, 97, 116, 32, 105, 115, 32, 110, 111, 110, 101])]))
def laid_turnstile_api_ErrSick {H : Type} : DataW H := .iface "*errors.errorString" (.ptr (.agg [.lit (.string [97, 110, 32, 101, 97, 114, 108, 105, 101, 114, 32, 119, 114, 105, 116, 101, 32, 102, 97, 105, 108, 101, 100])]))
def laid_turnstile_api_ErrConfig {H : Type} : DataW H := .iface "*errors.errorString" (.ptr (.agg [.lit (.string [110, 111, 32, 99, 111, 110, 102, 105, 103, 117, 114, 97, 116, 105, 111, 110])]))
def laid_turnstile_api_ErrNil {H : Type} : DataW H := .iface "*errors.errorString" (.ptr (.agg [.lit (.string [110, 111, 32, 111, 98, 106, 101, 99, 116])]))
def laid_turnstile_crc_halves {H : Type} : DataW H := .agg [.lit (.int .u32 0), .lit (.int .u32 274646895), .lit (.int .u32 549293790), .lit (.int .u32 820201905), .lit (.int .u32 1098587580), .lit (.int .u32 1361435347), .lit (.int .u32 1640403810), .lit (.int .u32 1905808397), .lit (.int .u32 2197175160), .lit (.int .u32 2460548119), .lit (.int .u32 2722870694), .lit (.int .u32 2987750089), .lit (.int .u32 3280807620), .lit (.int .u32 3553878443), .lit (.int .u32 3811616794), .lit (.int .u32 4084100981)]

/-- 'turnstilelaw11.RecordAll': WHATEVER THE INPUT: true; the input reads as it did. -/
def recordAllSpec : ChangeSpec := { name := "recordAll", fn := fun _ => fun
  | [d] => { results := [.lit (.bool true)], args := [d] }
  | _ => none }
def recordAllRow : OpenClaim := { program := "ytkgjepmminmjjaadoor", sum := "e3392994ce04cb19546ea1c17a41c4b68a0a8c3ded3fbc2b45924cfd209afd37", func := "turnstile/turnstilelaw11.RecordAll", spec := "recordAll", inPlace := ["math/bits.Add64", "math/bits.Sub64"], unfollowed := true, recurses := true, named := ["turnstile/api.ErrArg", "math/bits.divideError", "math/bits.overflowError", "turnstile/api.ErrLong", "turnstile/api.ErrForm", "turnstile/api.ErrShort", "turnstile/api.ErrNil", "turnstile/api.ErrSum", "turnstile/api.ErrIo", "turnstile/api.ErrDown", "turnstile/api.ErrGone", "turnstile/api.ErrThere", "turnstile/api.ErrImage", "turnstile/api.ErrGap", "turnstile/api.ErrLog", "turnstile/api.ErrSick", "turnstile/api.ErrConfig"], apart := false, laid := [("turnstile/api.ErrArg", laid_turnstile_api_ErrArg), ("turnstile/api.ErrShort", laid_turnstile_api_ErrShort), ("turnstile/api.ErrForm", laid_turnstile_api_ErrForm), ("turnstile/api.ErrLong", laid_turnstile_api_ErrLong), ("turnstile/api.ErrSum", laid_turnstile_api_ErrSum), ("turnstile/api.ErrIo", laid_turnstile_api_ErrIo), ("turnstile/api.ErrDown", laid_turnstile_api_ErrDown), ("turnstile/api.ErrGone", laid_turnstile_api_ErrGone), ("turnstile/api.ErrThere", laid_turnstile_api_ErrThere), ("turnstile/api.ErrImage", laid_turnstile_api_ErrImage), ("turnstile/api.ErrGap", laid_turnstile_api_ErrGap), ("turnstile/api.ErrLog", laid_turnstile_api_ErrLog), ("turnstile/api.ErrSick", laid_turnstile_api_ErrSick), ("turnstile/api.ErrConfig", laid_turnstile_api_ErrConfig), ("turnstile/api.ErrNil", laid_turnstile_api_ErrNil)] }
def RecordAllSaid : Prop := recordAllRow.holds Tryd.pinned (OpenSpec.ofChange recordAllSpec)

/-- ITS FALSE NEIGHBOUR: 'it returns false'. Refute it at one input. -/
def recordAllWrong : ChangeSpec := { name := "recordAll", fn := fun _ => fun
  | [d] => { results := [.lit (.bool false)], args := [d] }
  | _ => none }
def RecordAllWrongFalsely : Prop := recordAllRow.holds Tryd.pinned (OpenSpec.ofChange recordAllWrong)

/-- 'turnstilelaw11.RecordBack': WHATEVER THE INPUT: true; the input reads as it did. -/
def recordBackSpec : ChangeSpec := { name := "recordBack", fn := fun _ => fun
  | [d] => { results := [.lit (.bool true)], args := [d] }
  | _ => none }
def recordBackRow : OpenClaim := { program := "ytkgjepmminmjjaadoor", sum := "e3392994ce04cb19546ea1c17a41c4b68a0a8c3ded3fbc2b45924cfd209afd37", func := "turnstile/turnstilelaw11.RecordBack", spec := "recordBack", inPlace := ["math/bits.Add64", "math/bits.Sub64"], unfollowed := true, recurses := true, named := ["turnstile/api.ErrArg", "math/bits.divideError", "math/bits.overflowError", "turnstile/api.ErrLong", "turnstile/api.ErrForm", "turnstile/api.ErrShort", "turnstile/api.ErrNil"], apart := false, laid := [("turnstile/api.ErrArg", laid_turnstile_api_ErrArg), ("turnstile/api.ErrShort", laid_turnstile_api_ErrShort), ("turnstile/api.ErrForm", laid_turnstile_api_ErrForm), ("turnstile/api.ErrLong", laid_turnstile_api_ErrLong), ("turnstile/api.ErrNil", laid_turnstile_api_ErrNil)] }
def RecordBackSaid : Prop := recordBackRow.holds Tryd.pinned (OpenSpec.ofChange recordBackSpec)

/-- ITS FALSE NEIGHBOUR: 'it returns false'. Refute it at one input. -/
def recordBackWrong : ChangeSpec := { name := "recordBack", fn := fun _ => fun
  | [d] => { results := [.lit (.bool false)], args := [d] }
  | _ => none }
def RecordBackWrongFalsely : Prop := recordBackRow.holds Tryd.pinned (OpenSpec.ofChange recordBackWrong)

/-- 'turnstilelaw11.RecordForth': WHATEVER THE INPUT: true; the input reads as it did. -/
def recordForthSpec : ChangeSpec := { name := "recordForth", fn := fun _ => fun
  | [d] => { results := [.lit (.bool true)], args := [d] }
  | _ => none }
def recordForthRow : OpenClaim := { program := "ytkgjepmminmjjaadoor", sum := "e3392994ce04cb19546ea1c17a41c4b68a0a8c3ded3fbc2b45924cfd209afd37", func := "turnstile/turnstilelaw11.RecordForth", spec := "recordForth", inPlace := ["math/bits.Add64", "math/bits.Sub64"], unfollowed := true, recurses := true, named := ["turnstile/api.ErrShort", "turnstile/api.ErrForm", "turnstile/api.ErrArg", "math/bits.divideError", "math/bits.overflowError", "turnstile/api.ErrLong", "turnstile/api.ErrNil"], apart := false, laid := [("turnstile/api.ErrArg", laid_turnstile_api_ErrArg), ("turnstile/api.ErrShort", laid_turnstile_api_ErrShort), ("turnstile/api.ErrForm", laid_turnstile_api_ErrForm), ("turnstile/api.ErrLong", laid_turnstile_api_ErrLong), ("turnstile/api.ErrNil", laid_turnstile_api_ErrNil)] }
def RecordForthSaid : Prop := recordForthRow.holds Tryd.pinned (OpenSpec.ofChange recordForthSpec)

/-- ITS FALSE NEIGHBOUR: 'it returns false'. Refute it at one input. -/
def recordForthWrong : ChangeSpec := { name := "recordForth", fn := fun _ => fun
  | [d] => { results := [.lit (.bool false)], args := [d] }
  | _ => none }
def RecordForthWrongFalsely : Prop := recordForthRow.holds Tryd.pinned (OpenSpec.ofChange recordForthWrong)

/-- 'turnstilelaw11.RecordCuts': WHATEVER THE INPUT: true; the input reads as it did. -/
def recordCutsSpec : ChangeSpec := { name := "recordCuts", fn := fun _ => fun
  | [d1, d2, d3] => { results := [.lit (.bool true)], args := [d1, d2, d3] }
  | _ => none }
def recordCutsRow : OpenClaim := { program := "ytkgjepmminmjjaadoor", sum := "e3392994ce04cb19546ea1c17a41c4b68a0a8c3ded3fbc2b45924cfd209afd37", func := "turnstile/turnstilelaw11.RecordCuts", spec := "recordCuts", inPlace := ["math/bits.Add64", "math/bits.Sub64"], unfollowed := true, recurses := true, named := ["turnstile/api.ErrArg", "turnstile/api.ErrShort", "turnstile/api.ErrForm", "math/bits.divideError", "math/bits.overflowError", "turnstile/api.ErrLong", "turnstile/api.ErrNil"], apart := false, laid := [("turnstile/api.ErrArg", laid_turnstile_api_ErrArg), ("turnstile/api.ErrShort", laid_turnstile_api_ErrShort), ("turnstile/api.ErrForm", laid_turnstile_api_ErrForm), ("turnstile/api.ErrLong", laid_turnstile_api_ErrLong), ("turnstile/api.ErrNil", laid_turnstile_api_ErrNil)] }
def RecordCutsSaid : Prop := recordCutsRow.holds Tryd.pinned (OpenSpec.ofChange recordCutsSpec)

/-- ITS FALSE NEIGHBOUR: 'it returns false'. Refute it at one input. -/
def recordCutsWrong : ChangeSpec := { name := "recordCuts", fn := fun _ => fun
  | [d1, d2, d3] => { results := [.lit (.bool false)], args := [d1, d2, d3] }
  | _ => none }
def RecordCutsWrongFalsely : Prop := recordCutsRow.holds Tryd.pinned (OpenSpec.ofChange recordCutsWrong)

/-- 'turnstilelaw11.RecordValid': WHATEVER THE INPUT: true; the input reads as it did. -/
def recordValidSpec : ChangeSpec := { name := "recordValid", fn := fun _ => fun
  | [d] => { results := [.lit (.bool true)], args := [d] }
  | _ => none }
def recordValidRow : OpenClaim := { program := "ytkgjepmminmjjaadoor", sum := "e3392994ce04cb19546ea1c17a41c4b68a0a8c3ded3fbc2b45924cfd209afd37", func := "turnstile/turnstilelaw11.RecordValid", spec := "recordValid", inPlace := ["math/bits.Add64", "math/bits.Sub64"], unfollowed := true, recurses := true, named := ["turnstile/api.ErrArg", "math/bits.divideError", "math/bits.overflowError", "turnstile/api.ErrLong", "turnstile/api.ErrForm", "turnstile/api.ErrShort", "turnstile/api.ErrNil"], apart := false, laid := [("turnstile/api.ErrArg", laid_turnstile_api_ErrArg), ("turnstile/api.ErrShort", laid_turnstile_api_ErrShort), ("turnstile/api.ErrForm", laid_turnstile_api_ErrForm), ("turnstile/api.ErrLong", laid_turnstile_api_ErrLong), ("turnstile/api.ErrNil", laid_turnstile_api_ErrNil)] }
def RecordValidSaid : Prop := recordValidRow.holds Tryd.pinned (OpenSpec.ofChange recordValidSpec)

/-- ITS FALSE NEIGHBOUR: 'it returns false'. Refute it at one input. -/
def recordValidWrong : ChangeSpec := { name := "recordValid", fn := fun _ => fun
  | [d] => { results := [.lit (.bool false)], args := [d] }
  | _ => none }
def RecordValidWrongFalsely : Prop := recordValidRow.holds Tryd.pinned (OpenSpec.ofChange recordValidWrong)

/-- 'turnstilelaw14.ImageAll': WHATEVER THE INPUT: true; the input reads as it did. -/
def imageAllSpec : ChangeSpec := { name := "imageAll", fn := fun _ => fun
  | [d] => { results := [.lit (.bool true)], args := [d] }
  | _ => none }
def imageAllRow : OpenClaim := { program := "ytkgjepmminmjjaadoor", sum := "e3392994ce04cb19546ea1c17a41c4b68a0a8c3ded3fbc2b45924cfd209afd37", func := "turnstile/turnstilelaw14.ImageAll", spec := "imageAll", inPlace := ["math/bits.Add64", "math/bits.Sub64"], unfollowed := true, recurses := true, named := ["turnstile/api.ErrArg", "math/bits.divideError", "math/bits.overflowError", "turnstile/api.ErrLong", "turnstile/crc.halves", "turnstile/api.ErrShort", "turnstile/api.ErrForm", "turnstile/api.ErrSum", "turnstile/api.ErrNil", "turnstile/api.ErrIo", "turnstile/api.ErrDown", "turnstile/api.ErrGone", "turnstile/api.ErrThere", "turnstile/api.ErrImage", "turnstile/api.ErrGap", "turnstile/api.ErrLog", "turnstile/api.ErrSick", "turnstile/api.ErrConfig"], apart := false, laid := [("turnstile/crc.halves", laid_turnstile_crc_halves), ("turnstile/api.ErrArg", laid_turnstile_api_ErrArg), ("turnstile/api.ErrShort", laid_turnstile_api_ErrShort), ("turnstile/api.ErrForm", laid_turnstile_api_ErrForm), ("turnstile/api.ErrLong", laid_turnstile_api_ErrLong), ("turnstile/api.ErrSum", laid_turnstile_api_ErrSum), ("turnstile/api.ErrIo", laid_turnstile_api_ErrIo), ("turnstile/api.ErrDown", laid_turnstile_api_ErrDown), ("turnstile/api.ErrGone", laid_turnstile_api_ErrGone), ("turnstile/api.ErrThere", laid_turnstile_api_ErrThere), ("turnstile/api.ErrImage", laid_turnstile_api_ErrImage), ("turnstile/api.ErrGap", laid_turnstile_api_ErrGap), ("turnstile/api.ErrLog", laid_turnstile_api_ErrLog), ("turnstile/api.ErrSick", laid_turnstile_api_ErrSick), ("turnstile/api.ErrConfig", laid_turnstile_api_ErrConfig), ("turnstile/api.ErrNil", laid_turnstile_api_ErrNil)] }
def ImageAllSaid : Prop := imageAllRow.holds Tryd.pinned (OpenSpec.ofChange imageAllSpec)

/-- ITS FALSE NEIGHBOUR: 'it returns false'. Refute it at one input. -/
def imageAllWrong : ChangeSpec := { name := "imageAll", fn := fun _ => fun
  | [d] => { results := [.lit (.bool false)], args := [d] }
  | _ => none }
def ImageAllWrongFalsely : Prop := imageAllRow.holds Tryd.pinned (OpenSpec.ofChange imageAllWrong)

/-- 'turnstilelaw14.ImageBack': WHATEVER THE INPUT: true; the input reads as it did. -/
def imageBackSpec : ChangeSpec := { name := "imageBack", fn := fun _ => fun
  | [d] => { results := [.lit (.bool true)], args := [d] }
  | _ => none }
def imageBackRow : OpenClaim := { program := "ytkgjepmminmjjaadoor", sum := "e3392994ce04cb19546ea1c17a41c4b68a0a8c3ded3fbc2b45924cfd209afd37", func := "turnstile/turnstilelaw14.ImageBack", spec := "imageBack", inPlace := ["math/bits.Add64", "math/bits.Sub64"], unfollowed := true, recurses := true, named := ["turnstile/api.ErrArg", "math/bits.divideError", "math/bits.overflowError", "turnstile/api.ErrLong", "turnstile/crc.halves", "turnstile/api.ErrShort", "turnstile/api.ErrForm", "turnstile/api.ErrSum", "turnstile/api.ErrNil"], apart := false, laid := [("turnstile/crc.halves", laid_turnstile_crc_halves), ("turnstile/api.ErrArg", laid_turnstile_api_ErrArg), ("turnstile/api.ErrShort", laid_turnstile_api_ErrShort), ("turnstile/api.ErrForm", laid_turnstile_api_ErrForm), ("turnstile/api.ErrLong", laid_turnstile_api_ErrLong), ("turnstile/api.ErrSum", laid_turnstile_api_ErrSum), ("turnstile/api.ErrNil", laid_turnstile_api_ErrNil)] }
def ImageBackSaid : Prop := imageBackRow.holds Tryd.pinned (OpenSpec.ofChange imageBackSpec)

/-- ITS FALSE NEIGHBOUR: 'it returns false'. Refute it at one input. -/
def imageBackWrong : ChangeSpec := { name := "imageBack", fn := fun _ => fun
  | [d] => { results := [.lit (.bool false)], args := [d] }
  | _ => none }
def ImageBackWrongFalsely : Prop := imageBackRow.holds Tryd.pinned (OpenSpec.ofChange imageBackWrong)

/-- 'turnstilelaw14.ImageForth': WHATEVER THE INPUT: true; the input reads as it did. -/
def imageForthSpec : ChangeSpec := { name := "imageForth", fn := fun _ => fun
  | [d] => { results := [.lit (.bool true)], args := [d] }
  | _ => none }
def imageForthRow : OpenClaim := { program := "ytkgjepmminmjjaadoor", sum := "e3392994ce04cb19546ea1c17a41c4b68a0a8c3ded3fbc2b45924cfd209afd37", func := "turnstile/turnstilelaw14.ImageForth", spec := "imageForth", inPlace := ["math/bits.Add64", "math/bits.Sub64"], unfollowed := true, recurses := true, named := ["turnstile/api.ErrShort", "turnstile/api.ErrForm", "turnstile/api.ErrSum", "turnstile/api.ErrArg", "math/bits.divideError", "math/bits.overflowError", "turnstile/api.ErrLong", "turnstile/crc.halves", "turnstile/api.ErrNil"], apart := false, laid := [("turnstile/crc.halves", laid_turnstile_crc_halves), ("turnstile/api.ErrArg", laid_turnstile_api_ErrArg), ("turnstile/api.ErrShort", laid_turnstile_api_ErrShort), ("turnstile/api.ErrForm", laid_turnstile_api_ErrForm), ("turnstile/api.ErrLong", laid_turnstile_api_ErrLong), ("turnstile/api.ErrSum", laid_turnstile_api_ErrSum), ("turnstile/api.ErrNil", laid_turnstile_api_ErrNil)] }
def ImageForthSaid : Prop := imageForthRow.holds Tryd.pinned (OpenSpec.ofChange imageForthSpec)

/-- ITS FALSE NEIGHBOUR: 'it returns false'. Refute it at one input. -/
def imageForthWrong : ChangeSpec := { name := "imageForth", fn := fun _ => fun
  | [d] => { results := [.lit (.bool false)], args := [d] }
  | _ => none }
def ImageForthWrongFalsely : Prop := imageForthRow.holds Tryd.pinned (OpenSpec.ofChange imageForthWrong)

/-- 'turnstilelaw14.ImageTurned': WHATEVER THE INPUT: true; the input reads as it did. -/
def imageTurnedSpec : ChangeSpec := { name := "imageTurned", fn := fun _ => fun
  | [d1, d2, d3, d4] => { results := [.lit (.bool true)], args := [d1, d2, d3, d4] }
  | _ => none }
def imageTurnedRow : OpenClaim := { program := "ytkgjepmminmjjaadoor", sum := "e3392994ce04cb19546ea1c17a41c4b68a0a8c3ded3fbc2b45924cfd209afd37", func := "turnstile/turnstilelaw14.ImageTurned", spec := "imageTurned", inPlace := ["math/bits.Add64", "math/bits.Sub64"], unfollowed := true, recurses := true, named := ["turnstile/api.ErrArg", "turnstile/api.ErrForm", "turnstile/api.ErrSum", "turnstile/api.ErrShort", "math/bits.divideError", "math/bits.overflowError", "turnstile/api.ErrLong", "turnstile/crc.halves", "turnstile/api.ErrNil"], apart := false, laid := [("turnstile/crc.halves", laid_turnstile_crc_halves), ("turnstile/api.ErrArg", laid_turnstile_api_ErrArg), ("turnstile/api.ErrShort", laid_turnstile_api_ErrShort), ("turnstile/api.ErrForm", laid_turnstile_api_ErrForm), ("turnstile/api.ErrLong", laid_turnstile_api_ErrLong), ("turnstile/api.ErrSum", laid_turnstile_api_ErrSum), ("turnstile/api.ErrNil", laid_turnstile_api_ErrNil)] }
def ImageTurnedSaid : Prop := imageTurnedRow.holds Tryd.pinned (OpenSpec.ofChange imageTurnedSpec)

/-- ITS FALSE NEIGHBOUR: 'it returns false'. Refute it at one input. -/
def imageTurnedWrong : ChangeSpec := { name := "imageTurned", fn := fun _ => fun
  | [d1, d2, d3, d4] => { results := [.lit (.bool false)], args := [d1, d2, d3, d4] }
  | _ => none }
def ImageTurnedWrongFalsely : Prop := imageTurnedRow.holds Tryd.pinned (OpenSpec.ofChange imageTurnedWrong)

/-- 'turnstilelaw14.ImageUnlike': WHATEVER THE INPUT: true; the input reads as it did. -/
def imageUnlikeSpec : ChangeSpec := { name := "imageUnlike", fn := fun _ => fun
  | [d1, d2] => { results := [.lit (.bool true)], args := [d1, d2] }
  | _ => none }
def imageUnlikeRow : OpenClaim := { program := "ytkgjepmminmjjaadoor", sum := "e3392994ce04cb19546ea1c17a41c4b68a0a8c3ded3fbc2b45924cfd209afd37", func := "turnstile/turnstilelaw14.ImageUnlike", spec := "imageUnlike", inPlace := ["math/bits.Add64", "math/bits.Sub64"], unfollowed := true, recurses := true, named := ["turnstile/api.ErrArg", "math/bits.divideError", "math/bits.overflowError", "turnstile/api.ErrLong", "turnstile/crc.halves", "turnstile/api.ErrShort", "turnstile/api.ErrForm", "turnstile/api.ErrSum", "turnstile/api.ErrNil"], apart := false, laid := [("turnstile/crc.halves", laid_turnstile_crc_halves), ("turnstile/api.ErrArg", laid_turnstile_api_ErrArg), ("turnstile/api.ErrShort", laid_turnstile_api_ErrShort), ("turnstile/api.ErrForm", laid_turnstile_api_ErrForm), ("turnstile/api.ErrLong", laid_turnstile_api_ErrLong), ("turnstile/api.ErrSum", laid_turnstile_api_ErrSum), ("turnstile/api.ErrNil", laid_turnstile_api_ErrNil)] }
def ImageUnlikeSaid : Prop := imageUnlikeRow.holds Tryd.pinned (OpenSpec.ofChange imageUnlikeSpec)

/-- ITS FALSE NEIGHBOUR: 'it returns false'. Refute it at one input. -/
def imageUnlikeWrong : ChangeSpec := { name := "imageUnlike", fn := fun _ => fun
  | [d1, d2] => { results := [.lit (.bool false)], args := [d1, d2] }
  | _ => none }
def ImageUnlikeWrongFalsely : Prop := imageUnlikeRow.holds Tryd.pinned (OpenSpec.ofChange imageUnlikeWrong)

/- THE SECOND FORM. 'bulk': how many values and letters a reading holds, each counted each time it is reached (what is shared counts as often as it is met; a slice's spare places count too). A statement '..UptoSaid' is the law's where the arguments, and the package variables that the reading takes, are together of bulk at most 1048576: NARROWER than '..Said'. Prove '..Said' where nothing that the law and all that it calls make is longer than what came in: it says more and counts as full. Else prove '..UptoSaid'. A law counts once. -/
mutual
def uptoBulk {H : Type} : DataW H → Nat
  | .lit (.string bytes) => bytes.length + 1
  | .lit _ => 1
  | .nil => 1
  | .ptr d => uptoBulk d + 1
  | .slice elems spare => uptoBulkAll elems + uptoBulkAll spare + 1
  | .agg parts => uptoBulkAll parts + 1
  | .iface _ d => uptoBulk d + 1
  | .map entries => uptoBulkEntries entries + 1
  | .held _ => 1
def uptoBulkAll {H : Type} : List (DataW H) → Nat
  | [] => 0
  | d :: r => uptoBulk d + uptoBulkAll r
def uptoBulkEntries {H : Type} : List (Lit × DataW H) → Nat
  | [] => 0
  | x :: r => uptoBulkEntry x + uptoBulkEntries r
def uptoBulkEntry {H : Type} : Lit × DataW H → Nat
  | (.string bytes, d) => bytes.length + uptoBulk d + 1
  | (_, d) => uptoBulk d + 1
 end
def uptoSmall : (H : Type) → List (DataW H) → Bool := fun _ ds => decide (uptoBulkAll ds ≤ 1048576)
def OpenSpec.upto (s : _root_.Go.ChangeSpec) : _root_.Go.OpenSpec := { _root_.Go.OpenSpec.ofChange s with cond := some uptoSmall }

/-- 'turnstilelaw11.RecordAll', WHERE WHAT IT READS IS OF BULK AT MOST 1048576: true; the input reads as it did. -/
def recordAllUptoRow : OpenClaim := { program := "ytkgjepmminmjjaadoor", sum := "e3392994ce04cb19546ea1c17a41c4b68a0a8c3ded3fbc2b45924cfd209afd37", func := "turnstile/turnstilelaw11.RecordAll", spec := "recordAll", inPlace := ["math/bits.Add64", "math/bits.Sub64"], unfollowed := true, recurses := true, named := ["turnstile/api.ErrArg", "math/bits.divideError", "math/bits.overflowError", "turnstile/api.ErrLong", "turnstile/api.ErrForm", "turnstile/api.ErrShort", "turnstile/api.ErrNil", "turnstile/api.ErrSum", "turnstile/api.ErrIo", "turnstile/api.ErrDown", "turnstile/api.ErrGone", "turnstile/api.ErrThere", "turnstile/api.ErrImage", "turnstile/api.ErrGap", "turnstile/api.ErrLog", "turnstile/api.ErrSick", "turnstile/api.ErrConfig"], apart := false, laid := [("turnstile/api.ErrArg", laid_turnstile_api_ErrArg), ("turnstile/api.ErrShort", laid_turnstile_api_ErrShort), ("turnstile/api.ErrForm", laid_turnstile_api_ErrForm), ("turnstile/api.ErrLong", laid_turnstile_api_ErrLong), ("turnstile/api.ErrSum", laid_turnstile_api_ErrSum), ("turnstile/api.ErrIo", laid_turnstile_api_ErrIo), ("turnstile/api.ErrDown", laid_turnstile_api_ErrDown), ("turnstile/api.ErrGone", laid_turnstile_api_ErrGone), ("turnstile/api.ErrThere", laid_turnstile_api_ErrThere), ("turnstile/api.ErrImage", laid_turnstile_api_ErrImage), ("turnstile/api.ErrGap", laid_turnstile_api_ErrGap), ("turnstile/api.ErrLog", laid_turnstile_api_ErrLog), ("turnstile/api.ErrSick", laid_turnstile_api_ErrSick), ("turnstile/api.ErrConfig", laid_turnstile_api_ErrConfig), ("turnstile/api.ErrNil", laid_turnstile_api_ErrNil)], narrowed := true }
def RecordAllUptoSaid : Prop := recordAllUptoRow.holds Tryd.pinned (OpenSpec.upto recordAllSpec)

/-- 'turnstilelaw11.RecordBack', WHERE WHAT IT READS IS OF BULK AT MOST 1048576: true; the input reads as it did. -/
def recordBackUptoRow : OpenClaim := { program := "ytkgjepmminmjjaadoor", sum := "e3392994ce04cb19546ea1c17a41c4b68a0a8c3ded3fbc2b45924cfd209afd37", func := "turnstile/turnstilelaw11.RecordBack", spec := "recordBack", inPlace := ["math/bits.Add64", "math/bits.Sub64"], unfollowed := true, recurses := true, named := ["turnstile/api.ErrArg", "math/bits.divideError", "math/bits.overflowError", "turnstile/api.ErrLong", "turnstile/api.ErrForm", "turnstile/api.ErrShort", "turnstile/api.ErrNil"], apart := false, laid := [("turnstile/api.ErrArg", laid_turnstile_api_ErrArg), ("turnstile/api.ErrShort", laid_turnstile_api_ErrShort), ("turnstile/api.ErrForm", laid_turnstile_api_ErrForm), ("turnstile/api.ErrLong", laid_turnstile_api_ErrLong), ("turnstile/api.ErrNil", laid_turnstile_api_ErrNil)], narrowed := true }
def RecordBackUptoSaid : Prop := recordBackUptoRow.holds Tryd.pinned (OpenSpec.upto recordBackSpec)

/-- 'turnstilelaw11.RecordForth', WHERE WHAT IT READS IS OF BULK AT MOST 1048576: true; the input reads as it did. -/
def recordForthUptoRow : OpenClaim := { program := "ytkgjepmminmjjaadoor", sum := "e3392994ce04cb19546ea1c17a41c4b68a0a8c3ded3fbc2b45924cfd209afd37", func := "turnstile/turnstilelaw11.RecordForth", spec := "recordForth", inPlace := ["math/bits.Add64", "math/bits.Sub64"], unfollowed := true, recurses := true, named := ["turnstile/api.ErrShort", "turnstile/api.ErrForm", "turnstile/api.ErrArg", "math/bits.divideError", "math/bits.overflowError", "turnstile/api.ErrLong", "turnstile/api.ErrNil"], apart := false, laid := [("turnstile/api.ErrArg", laid_turnstile_api_ErrArg), ("turnstile/api.ErrShort", laid_turnstile_api_ErrShort), ("turnstile/api.ErrForm", laid_turnstile_api_ErrForm), ("turnstile/api.ErrLong", laid_turnstile_api_ErrLong), ("turnstile/api.ErrNil", laid_turnstile_api_ErrNil)], narrowed := true }
def RecordForthUptoSaid : Prop := recordForthUptoRow.holds Tryd.pinned (OpenSpec.upto recordForthSpec)

/-- 'turnstilelaw11.RecordCuts', WHERE WHAT IT READS IS OF BULK AT MOST 1048576: true; the input reads as it did. -/
def recordCutsUptoRow : OpenClaim := { program := "ytkgjepmminmjjaadoor", sum := "e3392994ce04cb19546ea1c17a41c4b68a0a8c3ded3fbc2b45924cfd209afd37", func := "turnstile/turnstilelaw11.RecordCuts", spec := "recordCuts", inPlace := ["math/bits.Add64", "math/bits.Sub64"], unfollowed := true, recurses := true, named := ["turnstile/api.ErrArg", "turnstile/api.ErrShort", "turnstile/api.ErrForm", "math/bits.divideError", "math/bits.overflowError", "turnstile/api.ErrLong", "turnstile/api.ErrNil"], apart := false, laid := [("turnstile/api.ErrArg", laid_turnstile_api_ErrArg), ("turnstile/api.ErrShort", laid_turnstile_api_ErrShort), ("turnstile/api.ErrForm", laid_turnstile_api_ErrForm), ("turnstile/api.ErrLong", laid_turnstile_api_ErrLong), ("turnstile/api.ErrNil", laid_turnstile_api_ErrNil)], narrowed := true }
def RecordCutsUptoSaid : Prop := recordCutsUptoRow.holds Tryd.pinned (OpenSpec.upto recordCutsSpec)

/-- 'turnstilelaw11.RecordValid', WHERE WHAT IT READS IS OF BULK AT MOST 1048576: true; the input reads as it did. -/
def recordValidUptoRow : OpenClaim := { program := "ytkgjepmminmjjaadoor", sum := "e3392994ce04cb19546ea1c17a41c4b68a0a8c3ded3fbc2b45924cfd209afd37", func := "turnstile/turnstilelaw11.RecordValid", spec := "recordValid", inPlace := ["math/bits.Add64", "math/bits.Sub64"], unfollowed := true, recurses := true, named := ["turnstile/api.ErrArg", "math/bits.divideError", "math/bits.overflowError", "turnstile/api.ErrLong", "turnstile/api.ErrForm", "turnstile/api.ErrShort", "turnstile/api.ErrNil"], apart := false, laid := [("turnstile/api.ErrArg", laid_turnstile_api_ErrArg), ("turnstile/api.ErrShort", laid_turnstile_api_ErrShort), ("turnstile/api.ErrForm", laid_turnstile_api_ErrForm), ("turnstile/api.ErrLong", laid_turnstile_api_ErrLong), ("turnstile/api.ErrNil", laid_turnstile_api_ErrNil)], narrowed := true }
def RecordValidUptoSaid : Prop := recordValidUptoRow.holds Tryd.pinned (OpenSpec.upto recordValidSpec)

/-- 'turnstilelaw14.ImageAll', WHERE WHAT IT READS IS OF BULK AT MOST 1048576: true; the input reads as it did. -/
def imageAllUptoRow : OpenClaim := { program := "ytkgjepmminmjjaadoor", sum := "e3392994ce04cb19546ea1c17a41c4b68a0a8c3ded3fbc2b45924cfd209afd37", func := "turnstile/turnstilelaw14.ImageAll", spec := "imageAll", inPlace := ["math/bits.Add64", "math/bits.Sub64"], unfollowed := true, recurses := true, named := ["turnstile/api.ErrArg", "math/bits.divideError", "math/bits.overflowError", "turnstile/api.ErrLong", "turnstile/crc.halves", "turnstile/api.ErrShort", "turnstile/api.ErrForm", "turnstile/api.ErrSum", "turnstile/api.ErrNil", "turnstile/api.ErrIo", "turnstile/api.ErrDown", "turnstile/api.ErrGone", "turnstile/api.ErrThere", "turnstile/api.ErrImage", "turnstile/api.ErrGap", "turnstile/api.ErrLog", "turnstile/api.ErrSick", "turnstile/api.ErrConfig"], apart := false, laid := [("turnstile/crc.halves", laid_turnstile_crc_halves), ("turnstile/api.ErrArg", laid_turnstile_api_ErrArg), ("turnstile/api.ErrShort", laid_turnstile_api_ErrShort), ("turnstile/api.ErrForm", laid_turnstile_api_ErrForm), ("turnstile/api.ErrLong", laid_turnstile_api_ErrLong), ("turnstile/api.ErrSum", laid_turnstile_api_ErrSum), ("turnstile/api.ErrIo", laid_turnstile_api_ErrIo), ("turnstile/api.ErrDown", laid_turnstile_api_ErrDown), ("turnstile/api.ErrGone", laid_turnstile_api_ErrGone), ("turnstile/api.ErrThere", laid_turnstile_api_ErrThere), ("turnstile/api.ErrImage", laid_turnstile_api_ErrImage), ("turnstile/api.ErrGap", laid_turnstile_api_ErrGap), ("turnstile/api.ErrLog", laid_turnstile_api_ErrLog), ("turnstile/api.ErrSick", laid_turnstile_api_ErrSick), ("turnstile/api.ErrConfig", laid_turnstile_api_ErrConfig), ("turnstile/api.ErrNil", laid_turnstile_api_ErrNil)], narrowed := true }
def ImageAllUptoSaid : Prop := imageAllUptoRow.holds Tryd.pinned (OpenSpec.upto imageAllSpec)

/-- 'turnstilelaw14.ImageBack', WHERE WHAT IT READS IS OF BULK AT MOST 1048576: true; the input reads as it did. -/
def imageBackUptoRow : OpenClaim := { program := "ytkgjepmminmjjaadoor", sum := "e3392994ce04cb19546ea1c17a41c4b68a0a8c3ded3fbc2b45924cfd209afd37", func := "turnstile/turnstilelaw14.ImageBack", spec := "imageBack", inPlace := ["math/bits.Add64", "math/bits.Sub64"], unfollowed := true, recurses := true, named := ["turnstile/api.ErrArg", "math/bits.divideError", "math/bits.overflowError", "turnstile/api.ErrLong", "turnstile/crc.halves", "turnstile/api.ErrShort", "turnstile/api.ErrForm", "turnstile/api.ErrSum", "turnstile/api.ErrNil"], apart := false, laid := [("turnstile/crc.halves", laid_turnstile_crc_halves), ("turnstile/api.ErrArg", laid_turnstile_api_ErrArg), ("turnstile/api.ErrShort", laid_turnstile_api_ErrShort), ("turnstile/api.ErrForm", laid_turnstile_api_ErrForm), ("turnstile/api.ErrLong", laid_turnstile_api_ErrLong), ("turnstile/api.ErrSum", laid_turnstile_api_ErrSum), ("turnstile/api.ErrNil", laid_turnstile_api_ErrNil)], narrowed := true }
def ImageBackUptoSaid : Prop := imageBackUptoRow.holds Tryd.pinned (OpenSpec.upto imageBackSpec)

/-- 'turnstilelaw14.ImageForth', WHERE WHAT IT READS IS OF BULK AT MOST 1048576: true; the input reads as it did. -/
def imageForthUptoRow : OpenClaim := { program := "ytkgjepmminmjjaadoor", sum := "e3392994ce04cb19546ea1c17a41c4b68a0a8c3ded3fbc2b45924cfd209afd37", func := "turnstile/turnstilelaw14.ImageForth", spec := "imageForth", inPlace := ["math/bits.Add64", "math/bits.Sub64"], unfollowed := true, recurses := true, named := ["turnstile/api.ErrShort", "turnstile/api.ErrForm", "turnstile/api.ErrSum", "turnstile/api.ErrArg", "math/bits.divideError", "math/bits.overflowError", "turnstile/api.ErrLong", "turnstile/crc.halves", "turnstile/api.ErrNil"], apart := false, laid := [("turnstile/crc.halves", laid_turnstile_crc_halves), ("turnstile/api.ErrArg", laid_turnstile_api_ErrArg), ("turnstile/api.ErrShort", laid_turnstile_api_ErrShort), ("turnstile/api.ErrForm", laid_turnstile_api_ErrForm), ("turnstile/api.ErrLong", laid_turnstile_api_ErrLong), ("turnstile/api.ErrSum", laid_turnstile_api_ErrSum), ("turnstile/api.ErrNil", laid_turnstile_api_ErrNil)], narrowed := true }
def ImageForthUptoSaid : Prop := imageForthUptoRow.holds Tryd.pinned (OpenSpec.upto imageForthSpec)

/-- 'turnstilelaw14.ImageTurned', WHERE WHAT IT READS IS OF BULK AT MOST 1048576: true; the input reads as it did. -/
def imageTurnedUptoRow : OpenClaim := { program := "ytkgjepmminmjjaadoor", sum := "e3392994ce04cb19546ea1c17a41c4b68a0a8c3ded3fbc2b45924cfd209afd37", func := "turnstile/turnstilelaw14.ImageTurned", spec := "imageTurned", inPlace := ["math/bits.Add64", "math/bits.Sub64"], unfollowed := true, recurses := true, named := ["turnstile/api.ErrArg", "turnstile/api.ErrForm", "turnstile/api.ErrSum", "turnstile/api.ErrShort", "math/bits.divideError", "math/bits.overflowError", "turnstile/api.ErrLong", "turnstile/crc.halves", "turnstile/api.ErrNil"], apart := false, laid := [("turnstile/crc.halves", laid_turnstile_crc_halves), ("turnstile/api.ErrArg", laid_turnstile_api_ErrArg), ("turnstile/api.ErrShort", laid_turnstile_api_ErrShort), ("turnstile/api.ErrForm", laid_turnstile_api_ErrForm), ("turnstile/api.ErrLong", laid_turnstile_api_ErrLong), ("turnstile/api.ErrSum", laid_turnstile_api_ErrSum), ("turnstile/api.ErrNil", laid_turnstile_api_ErrNil)], narrowed := true }
def ImageTurnedUptoSaid : Prop := imageTurnedUptoRow.holds Tryd.pinned (OpenSpec.upto imageTurnedSpec)

/-- 'turnstilelaw14.ImageUnlike', WHERE WHAT IT READS IS OF BULK AT MOST 1048576: true; the input reads as it did. -/
def imageUnlikeUptoRow : OpenClaim := { program := "ytkgjepmminmjjaadoor", sum := "e3392994ce04cb19546ea1c17a41c4b68a0a8c3ded3fbc2b45924cfd209afd37", func := "turnstile/turnstilelaw14.ImageUnlike", spec := "imageUnlike", inPlace := ["math/bits.Add64", "math/bits.Sub64"], unfollowed := true, recurses := true, named := ["turnstile/api.ErrArg", "math/bits.divideError", "math/bits.overflowError", "turnstile/api.ErrLong", "turnstile/crc.halves", "turnstile/api.ErrShort", "turnstile/api.ErrForm", "turnstile/api.ErrSum", "turnstile/api.ErrNil"], apart := false, laid := [("turnstile/crc.halves", laid_turnstile_crc_halves), ("turnstile/api.ErrArg", laid_turnstile_api_ErrArg), ("turnstile/api.ErrShort", laid_turnstile_api_ErrShort), ("turnstile/api.ErrForm", laid_turnstile_api_ErrForm), ("turnstile/api.ErrLong", laid_turnstile_api_ErrLong), ("turnstile/api.ErrSum", laid_turnstile_api_ErrSum), ("turnstile/api.ErrNil", laid_turnstile_api_ErrNil)], narrowed := true }
def ImageUnlikeUptoSaid : Prop := imageUnlikeUptoRow.holds Tryd.pinned (OpenSpec.upto imageUnlikeSpec)

end Rows
end Go.Proofs.YtkgjepmminmjjaaDoor
