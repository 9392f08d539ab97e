/-
  NARROWER THAN 'FOR EVERY INPUT', by the rows' own cells (each row's printed sentence says how): StateLooks: laid · StateApplies: laid · StateReplays: laid · StateRises: laid · StateFinds: laid.
  DERIVED. THE GIVEN ROWS OF THIS SEAT. 5 by the template 'for every input the law returns true; each argument reads behind the call as it read before'; 0 by the template 'total and deterministic' (their statements: YtnhngjhodcikiaaDoorTotals.lean).
  GIVEN WITH THE SEED: the statements are not yours to turn. If you find one false, say at which input.
  Laid BY PROGRAM, IN A SANDBOX (cutbox-rows.mjs): the forced cells as the released guide's own fill.sh prints them over the translation b06cfa8865aa7201… (all of the seat's roots in one cut). By AI agents, Wed Nov 11 2026. No macro, syntax, notation, axiom, sorry.
-/
import Derived.Test.YtnhngjhodcikiaaDoorChecked
import GoSem.Claim
import GoSem.ClaimJoined
import GoSem.ClaimMapViews
import Derived.JoinedTies
import Derived.KernelRfl
namespace Go.Proofs.YtnhngjhodcikiaaDoor
/- THE CELL 'sum', in the pinned program and in every row, IS THE sha256 OF THE DUMP (.gsa) THAT YtnhngjhodcikiaaDoorProg.lean LOADS. Nothing in Lean hashes anything: it is a label: what it is worth is what the hold of that sum in a sandbox is worth. -/
noncomputable def Tryd.pinned : Pinned := { name := "ytnhngjhodcikiaadoor", sum := "b06cfa8865aa7201330a3513501eaddd8026f814df1bcc7a886d83c4af3dd074", checked := Tryd.checked }
namespace Rows
def none {H : Type} : Left H := { results := [], args := [] }

/- WHAT THE LISTED PACKAGE-LEVEL VARIABLES READ AS WHEN THE CALL BEGINS. Each datum BY PROGRAM (the guide's laid-datum.mjs) off the statement by which the dump's own 'gosem.cut.vars' lays the variable. In a bare row this is a premise. The card (YtnhngjhodcikiaaDoorCards.lean) ties it to the program's text. -/
def laid_turnstile_api_ErrArg {H : Type} : DataW H := .iface "*errors.errorString" (.ptr (.agg [.lit (.string [97, 110, 32, 97, 114, 103, 117, 109, 101, 110, 116, 32, 111, 117, 116, 115, 105, 100, 101, 32, 119, 104, 97, 116, 32, 116, 104, 101, 32, 99, 97, 108, 108, 32, 116, 97, 107, 101, 115])]))
def laid_turnstile_api_ErrGap {H : Type} : DataW H := .iface "*errors.errorString" (.ptr (.agg [.lit (.string [114, 101, 99, 111, 114, 100, 115, 32, 97, 114, 101, 32, 109, 105, 115, 115, 105, 110, 103])]))
def laid_turnstile_api_ErrLog {H : Type} : DataW H := .iface "*errors.errorString" (.ptr (.agg [.lit (.string [97, 32, 114, 101, 99, 111, 114, 100, 32, 116, 104, 97, 116, 32, 105, 115, 32, 110, 111, 110, 101])]))
def laid_turnstile_api_ErrShort {H : Type} : DataW H := .iface "*errors.errorString" (.ptr (.agg [.lit (.string [116, 104, 101, 32, 98, 121, 116, 101, 115, 32, 101, 110, 100, 32, 116, 111, 111, 32, 101, 97, 114, 108, 121])]))
def laid_turnstile_api_ErrForm {H : Type} : DataW H := .iface "*errors.errorString" (.ptr (.agg [.lit (.string [116, 104, 101, 32, 98, 121, 116, 101, 115, 32, 104, 97, 118, 101, 32, 97, 110, 111, 116, 104, 101, 114, 32, 102, 111, 114, 109])]))
def laid_turnstile_api_ErrLong {H : Type} : DataW H := .iface "*errors.errorString" (.ptr (.agg [.lit (.string [109, 111, 114, 101, 32, 116, 104, 97, 110, 32, 116, 104, 101, 32, 108, 105, 109, 105, 116])]))
def laid_turnstile_api_ErrSum {H : Type} : DataW H := .iface "*errors.errorString" (.ptr (.agg [.lit (.string [116, 104, 101, 32, 115, 117, 109, 32, 105, 115, 32, 97, 110, 111, 116, 104, 101, 114, 32, 111, 110, 101])]))
def laid_turnstile_api_ErrIo {H : Type} : DataW H := .iface "*errors.errorString" (.ptr (.agg [.lit (.string [116, 104, 101, 32, 100, 105, 115, 107, 32, 102, 97, 105, 108, 101, 100])]))
def laid_turnstile_api_ErrDown {H : Type} : DataW H := .iface "*errors.errorString" (.ptr (.agg [.lit (.string [116, 104, 101, 32, 112, 111, 119, 101, 114, 32, 105, 115, 32, 111, 102, 102])]))
def laid_turnstile_api_ErrGone {H : Type} : DataW H := .iface "*errors.errorString" (.ptr (.agg [.lit (.string [110, 111, 32, 115, 117, 99, 104, 32, 102, 105, 108, 101])]))
def laid_turnstile_api_ErrThere {H : Type} : DataW H := .iface "*errors.errorString" (.ptr (.agg [.lit (.string [116, 104, 101, 114, 101, 32, 105, 115, 32, 115, 117, 99, 104, 32, 97, 32, 102, 105, 108, 101])]))
def laid_turnstile_api_ErrImage {H : Type} : DataW H := .iface "*errors.errorString" (.ptr (.agg [.lit (.string [110, 111, 32, 105, 109, 97, 103, 101, 32, 111, 102, 32, 97, 32, 100, 105, 115, 107])]))
def laid_turnstile_api_ErrSick {H : Type} : DataW H := .iface "*errors.errorString" (.ptr (.agg [.lit (.string [97, 110, 32, 101, 97, 114, 108, 105, 101, 114, 32, 119, 114, 105, 116, 101, 32, 102, 97, 105, 108, 101, 100])]))
def laid_turnstile_api_ErrConfig {H : Type} : DataW H := .iface "*errors.errorString" (.ptr (.agg [.lit (.string [110, 111, 32, 99, 111, 110, 102, 105, 103, 117, 114, 97, 116, 105, 111, 110])]))
def laid_turnstile_api_ErrNil {H : Type} : DataW H := .iface "*errors.errorString" (.ptr (.agg [.lit (.string [110, 111, 32, 111, 98, 106, 101, 99, 116])]))

/-- 'turnstilelaw13.StateLooks': WHATEVER THE INPUT: true; the input reads as it did. -/
def stateLooksSpec : ChangeSpec := { name := "stateLooks", fn := fun _ => fun
  | [d1, d2] => { results := [.lit (.bool true)], args := [d1, d2] }
  | _ => none }
def stateLooksRow : OpenClaim := { program := "ytnhngjhodcikiaadoor", sum := "b06cfa8865aa7201330a3513501eaddd8026f814df1bcc7a886d83c4af3dd074", func := "turnstile/turnstilelaw13.StateLooks", spec := "stateLooks", inPlace := ["math/bits.Add64", "math/bits.Sub64", "slices.overlaps[turnstile/api.Entry]"], unfollowed := true, recurses := true, named := ["turnstile/api.ErrLog", "turnstile/api.ErrArg", "math/bits.divideError", "math/bits.overflowError", "turnstile/api.ErrGap"], apart := false, laid := [("turnstile/api.ErrArg", laid_turnstile_api_ErrArg), ("turnstile/api.ErrGap", laid_turnstile_api_ErrGap), ("turnstile/api.ErrLog", laid_turnstile_api_ErrLog)] }
def StateLooksSaid : Prop := stateLooksRow.holds Tryd.pinned (OpenSpec.ofChange stateLooksSpec)

/-- ITS FALSE NEIGHBOUR: 'it returns false'. Refute it at one input. -/
def stateLooksWrong : ChangeSpec := { name := "stateLooks", fn := fun _ => fun
  | [d1, d2] => { results := [.lit (.bool false)], args := [d1, d2] }
  | _ => none }
def StateLooksWrongFalsely : Prop := stateLooksRow.holds Tryd.pinned (OpenSpec.ofChange stateLooksWrong)

/-- 'turnstilelaw13.StateApplies': WHATEVER THE INPUT: true; the input reads as it did. -/
def stateAppliesSpec : ChangeSpec := { name := "stateApplies", fn := fun _ => fun
  | [d1, d2] => { results := [.lit (.bool true)], args := [d1, d2] }
  | _ => none }
def stateAppliesRow : OpenClaim := { program := "ytnhngjhodcikiaadoor", sum := "b06cfa8865aa7201330a3513501eaddd8026f814df1bcc7a886d83c4af3dd074", func := "turnstile/turnstilelaw13.StateApplies", spec := "stateApplies", inPlace := ["math/bits.Add64", "math/bits.Sub64", "slices.overlaps[turnstile/api.Entry]"], unfollowed := true, recurses := true, named := ["turnstile/api.ErrLog", "turnstile/api.ErrArg", "math/bits.divideError", "math/bits.overflowError", "turnstile/api.ErrGap", "turnstile/api.ErrShort", "turnstile/api.ErrForm", "turnstile/api.ErrLong", "turnstile/api.ErrSum", "turnstile/api.ErrIo", "turnstile/api.ErrDown", "turnstile/api.ErrGone", "turnstile/api.ErrThere", "turnstile/api.ErrImage", "turnstile/api.ErrSick", "turnstile/api.ErrConfig", "turnstile/api.ErrNil"], apart := false, laid := [("turnstile/api.ErrArg", laid_turnstile_api_ErrArg), ("turnstile/api.ErrShort", laid_turnstile_api_ErrShort), ("turnstile/api.ErrForm", laid_turnstile_api_ErrForm), ("turnstile/api.ErrLong", laid_turnstile_api_ErrLong), ("turnstile/api.ErrSum", laid_turnstile_api_ErrSum), ("turnstile/api.ErrIo", laid_turnstile_api_ErrIo), ("turnstile/api.ErrDown", laid_turnstile_api_ErrDown), ("turnstile/api.ErrGone", laid_turnstile_api_ErrGone), ("turnstile/api.ErrThere", laid_turnstile_api_ErrThere), ("turnstile/api.ErrImage", laid_turnstile_api_ErrImage), ("turnstile/api.ErrGap", laid_turnstile_api_ErrGap), ("turnstile/api.ErrLog", laid_turnstile_api_ErrLog), ("turnstile/api.ErrSick", laid_turnstile_api_ErrSick), ("turnstile/api.ErrConfig", laid_turnstile_api_ErrConfig), ("turnstile/api.ErrNil", laid_turnstile_api_ErrNil)] }
def StateAppliesSaid : Prop := stateAppliesRow.holds Tryd.pinned (OpenSpec.ofChange stateAppliesSpec)

/-- ITS FALSE NEIGHBOUR: 'it returns false'. Refute it at one input. -/
def stateAppliesWrong : ChangeSpec := { name := "stateApplies", fn := fun _ => fun
  | [d1, d2] => { results := [.lit (.bool false)], args := [d1, d2] }
  | _ => none }
def StateAppliesWrongFalsely : Prop := stateAppliesRow.holds Tryd.pinned (OpenSpec.ofChange stateAppliesWrong)

/-- 'turnstilelaw13.StateReplays': WHATEVER THE INPUT: true; the input reads as it did. -/
def stateReplaysSpec : ChangeSpec := { name := "stateReplays", fn := fun _ => fun
  | [d1, d2, d3] => { results := [.lit (.bool true)], args := [d1, d2, d3] }
  | _ => none }
def stateReplaysRow : OpenClaim := { program := "ytnhngjhodcikiaadoor", sum := "b06cfa8865aa7201330a3513501eaddd8026f814df1bcc7a886d83c4af3dd074", func := "turnstile/turnstilelaw13.StateReplays", spec := "stateReplays", inPlace := ["math/bits.Add64", "math/bits.Sub64", "slices.overlaps[turnstile/api.Entry]"], unfollowed := true, recurses := true, named := ["turnstile/api.ErrLog", "turnstile/api.ErrArg", "math/bits.divideError", "math/bits.overflowError", "turnstile/api.ErrGap", "turnstile/api.ErrShort", "turnstile/api.ErrForm", "turnstile/api.ErrLong", "turnstile/api.ErrSum", "turnstile/api.ErrIo", "turnstile/api.ErrDown", "turnstile/api.ErrGone", "turnstile/api.ErrThere", "turnstile/api.ErrImage", "turnstile/api.ErrSick", "turnstile/api.ErrConfig", "turnstile/api.ErrNil"], apart := false, laid := [("turnstile/api.ErrArg", laid_turnstile_api_ErrArg), ("turnstile/api.ErrShort", laid_turnstile_api_ErrShort), ("turnstile/api.ErrForm", laid_turnstile_api_ErrForm), ("turnstile/api.ErrLong", laid_turnstile_api_ErrLong), ("turnstile/api.ErrSum", laid_turnstile_api_ErrSum), ("turnstile/api.ErrIo", laid_turnstile_api_ErrIo), ("turnstile/api.ErrDown", laid_turnstile_api_ErrDown), ("turnstile/api.ErrGone", laid_turnstile_api_ErrGone), ("turnstile/api.ErrThere", laid_turnstile_api_ErrThere), ("turnstile/api.ErrImage", laid_turnstile_api_ErrImage), ("turnstile/api.ErrGap", laid_turnstile_api_ErrGap), ("turnstile/api.ErrLog", laid_turnstile_api_ErrLog), ("turnstile/api.ErrSick", laid_turnstile_api_ErrSick), ("turnstile/api.ErrConfig", laid_turnstile_api_ErrConfig), ("turnstile/api.ErrNil", laid_turnstile_api_ErrNil)] }
def StateReplaysSaid : Prop := stateReplaysRow.holds Tryd.pinned (OpenSpec.ofChange stateReplaysSpec)

/-- ITS FALSE NEIGHBOUR: 'it returns false'. Refute it at one input. -/
def stateReplaysWrong : ChangeSpec := { name := "stateReplays", fn := fun _ => fun
  | [d1, d2, d3] => { results := [.lit (.bool false)], args := [d1, d2, d3] }
  | _ => none }
def StateReplaysWrongFalsely : Prop := stateReplaysRow.holds Tryd.pinned (OpenSpec.ofChange stateReplaysWrong)

/-- 'turnstilelaw13.StateRises': WHATEVER THE INPUT: true; the input reads as it did. -/
def stateRisesSpec : ChangeSpec := { name := "stateRises", fn := fun _ => fun
  | [d1, d2] => { results := [.lit (.bool true)], args := [d1, d2] }
  | _ => none }
def stateRisesRow : OpenClaim := { program := "ytnhngjhodcikiaadoor", sum := "b06cfa8865aa7201330a3513501eaddd8026f814df1bcc7a886d83c4af3dd074", func := "turnstile/turnstilelaw13.StateRises", spec := "stateRises", inPlace := ["math/bits.Add64", "math/bits.Sub64", "slices.overlaps[turnstile/api.Entry]"], unfollowed := true, recurses := true, named := ["turnstile/api.ErrArg", "turnstile/api.ErrLog", "turnstile/api.ErrGap", "math/bits.divideError", "math/bits.overflowError"], apart := false, laid := [("turnstile/api.ErrArg", laid_turnstile_api_ErrArg), ("turnstile/api.ErrGap", laid_turnstile_api_ErrGap), ("turnstile/api.ErrLog", laid_turnstile_api_ErrLog)] }
def StateRisesSaid : Prop := stateRisesRow.holds Tryd.pinned (OpenSpec.ofChange stateRisesSpec)

/-- ITS FALSE NEIGHBOUR: 'it returns false'. Refute it at one input. -/
def stateRisesWrong : ChangeSpec := { name := "stateRises", fn := fun _ => fun
  | [d1, d2] => { results := [.lit (.bool false)], args := [d1, d2] }
  | _ => none }
def StateRisesWrongFalsely : Prop := stateRisesRow.holds Tryd.pinned (OpenSpec.ofChange stateRisesWrong)

/-- 'turnstilelaw13.StateFinds': WHATEVER THE INPUT: true; the input reads as it did. -/
def stateFindsSpec : ChangeSpec := { name := "stateFinds", fn := fun _ => fun
  | [d1, d2] => { results := [.lit (.bool true)], args := [d1, d2] }
  | _ => none }
def stateFindsRow : OpenClaim := { program := "ytnhngjhodcikiaadoor", sum := "b06cfa8865aa7201330a3513501eaddd8026f814df1bcc7a886d83c4af3dd074", func := "turnstile/turnstilelaw13.StateFinds", spec := "stateFinds", inPlace := ["math/bits.Add64", "math/bits.Sub64", "slices.overlaps[turnstile/api.Entry]"], unfollowed := true, recurses := true, named := ["turnstile/api.ErrLog", "turnstile/api.ErrArg", "math/bits.divideError", "math/bits.overflowError", "turnstile/api.ErrGap"], apart := false, laid := [("turnstile/api.ErrArg", laid_turnstile_api_ErrArg), ("turnstile/api.ErrGap", laid_turnstile_api_ErrGap), ("turnstile/api.ErrLog", laid_turnstile_api_ErrLog)] }
def StateFindsSaid : Prop := stateFindsRow.holds Tryd.pinned (OpenSpec.ofChange stateFindsSpec)

/-- ITS FALSE NEIGHBOUR: 'it returns false'. Refute it at one input. -/
def stateFindsWrong : ChangeSpec := { name := "stateFinds", fn := fun _ => fun
  | [d1, d2] => { results := [.lit (.bool false)], args := [d1, d2] }
  | _ => none }
def StateFindsWrongFalsely : Prop := stateFindsRow.holds Tryd.pinned (OpenSpec.ofChange stateFindsWrong)

/- THE SECOND FORM. 'bulk': how many values and letters a reading holds, each counted each time it is reached (what is shared counts as often as it is met; a slice's spare places count too). A statement '..UptoSaid' is the law's where the arguments, and the package variables that the reading takes, are together of bulk at most 1048576: NARROWER than '..Said'. Prove '..Said' where nothing that the law and all that it calls make is longer than what came in: it says more and counts as full. Else prove '..UptoSaid'. A law counts once. -/
mutual
def uptoBulk {H : Type} : DataW H → Nat
  | .lit (.string bytes) => bytes.length + 1
  | .lit _ => 1
  | .nil => 1
  | .ptr d => uptoBulk d + 1
  | .slice elems spare => uptoBulkAll elems + uptoBulkAll spare + 1
  | .agg parts => uptoBulkAll parts + 1
  | .iface _ d => uptoBulk d + 1
  | .map entries => uptoBulkEntries entries + 1
  | .held _ => 1
def uptoBulkAll {H : Type} : List (DataW H) → Nat
  | [] => 0
  | d :: r => uptoBulk d + uptoBulkAll r
def uptoBulkEntries {H : Type} : List (Lit × DataW H) → Nat
  | [] => 0
  | x :: r => uptoBulkEntry x + uptoBulkEntries r
def uptoBulkEntry {H : Type} : Lit × DataW H → Nat
  | (.string bytes, d) => bytes.length + uptoBulk d + 1
  | (_, d) => uptoBulk d + 1
 end
def uptoSmall : (H : Type) → List (DataW H) → Bool := fun _ ds => decide (uptoBulkAll ds ≤ 1048576)
def OpenSpec.upto (s : _root_.Go.ChangeSpec) : _root_.Go.OpenSpec := { _root_.Go.OpenSpec.ofChange s with cond := some uptoSmall }

/-- 'turnstilelaw13.StateLooks', WHERE WHAT IT READS IS OF BULK AT MOST 1048576: true; the input reads as it did. -/
def stateLooksUptoRow : OpenClaim := { program := "ytnhngjhodcikiaadoor", sum := "b06cfa8865aa7201330a3513501eaddd8026f814df1bcc7a886d83c4af3dd074", func := "turnstile/turnstilelaw13.StateLooks", spec := "stateLooks", inPlace := ["math/bits.Add64", "math/bits.Sub64", "slices.overlaps[turnstile/api.Entry]"], unfollowed := true, recurses := true, named := ["turnstile/api.ErrLog", "turnstile/api.ErrArg", "math/bits.divideError", "math/bits.overflowError", "turnstile/api.ErrGap"], apart := false, laid := [("turnstile/api.ErrArg", laid_turnstile_api_ErrArg), ("turnstile/api.ErrGap", laid_turnstile_api_ErrGap), ("turnstile/api.ErrLog", laid_turnstile_api_ErrLog)], narrowed := true }
def StateLooksUptoSaid : Prop := stateLooksUptoRow.holds Tryd.pinned (OpenSpec.upto stateLooksSpec)

/-- 'turnstilelaw13.StateApplies', WHERE WHAT IT READS IS OF BULK AT MOST 1048576: true; the input reads as it did. -/
def stateAppliesUptoRow : OpenClaim := { program := "ytnhngjhodcikiaadoor", sum := "b06cfa8865aa7201330a3513501eaddd8026f814df1bcc7a886d83c4af3dd074", func := "turnstile/turnstilelaw13.StateApplies", spec := "stateApplies", inPlace := ["math/bits.Add64", "math/bits.Sub64", "slices.overlaps[turnstile/api.Entry]"], unfollowed := true, recurses := true, named := ["turnstile/api.ErrLog", "turnstile/api.ErrArg", "math/bits.divideError", "math/bits.overflowError", "turnstile/api.ErrGap", "turnstile/api.ErrShort", "turnstile/api.ErrForm", "turnstile/api.ErrLong", "turnstile/api.ErrSum", "turnstile/api.ErrIo", "turnstile/api.ErrDown", "turnstile/api.ErrGone", "turnstile/api.ErrThere", "turnstile/api.ErrImage", "turnstile/api.ErrSick", "turnstile/api.ErrConfig", "turnstile/api.ErrNil"], apart := false, laid := [("turnstile/api.ErrArg", laid_turnstile_api_ErrArg), ("turnstile/api.ErrShort", laid_turnstile_api_ErrShort), ("turnstile/api.ErrForm", laid_turnstile_api_ErrForm), ("turnstile/api.ErrLong", laid_turnstile_api_ErrLong), ("turnstile/api.ErrSum", laid_turnstile_api_ErrSum), ("turnstile/api.ErrIo", laid_turnstile_api_ErrIo), ("turnstile/api.ErrDown", laid_turnstile_api_ErrDown), ("turnstile/api.ErrGone", laid_turnstile_api_ErrGone), ("turnstile/api.ErrThere", laid_turnstile_api_ErrThere), ("turnstile/api.ErrImage", laid_turnstile_api_ErrImage), ("turnstile/api.ErrGap", laid_turnstile_api_ErrGap), ("turnstile/api.ErrLog", laid_turnstile_api_ErrLog), ("turnstile/api.ErrSick", laid_turnstile_api_ErrSick), ("turnstile/api.ErrConfig", laid_turnstile_api_ErrConfig), ("turnstile/api.ErrNil", laid_turnstile_api_ErrNil)], narrowed := true }
def StateAppliesUptoSaid : Prop := stateAppliesUptoRow.holds Tryd.pinned (OpenSpec.upto stateAppliesSpec)

/-- 'turnstilelaw13.StateReplays', WHERE WHAT IT READS IS OF BULK AT MOST 1048576: true; the input reads as it did. -/
def stateReplaysUptoRow : OpenClaim := { program := "ytnhngjhodcikiaadoor", sum := "b06cfa8865aa7201330a3513501eaddd8026f814df1bcc7a886d83c4af3dd074", func := "turnstile/turnstilelaw13.StateReplays", spec := "stateReplays", inPlace := ["math/bits.Add64", "math/bits.Sub64", "slices.overlaps[turnstile/api.Entry]"], unfollowed := true, recurses := true, named := ["turnstile/api.ErrLog", "turnstile/api.ErrArg", "math/bits.divideError", "math/bits.overflowError", "turnstile/api.ErrGap", "turnstile/api.ErrShort", "turnstile/api.ErrForm", "turnstile/api.ErrLong", "turnstile/api.ErrSum", "turnstile/api.ErrIo", "turnstile/api.ErrDown", "turnstile/api.ErrGone", "turnstile/api.ErrThere", "turnstile/api.ErrImage", "turnstile/api.ErrSick", "turnstile/api.ErrConfig", "turnstile/api.ErrNil"], apart := false, laid := [("turnstile/api.ErrArg", laid_turnstile_api_ErrArg), ("turnstile/api.ErrShort", laid_turnstile_api_ErrShort), ("turnstile/api.ErrForm", laid_turnstile_api_ErrForm), ("turnstile/api.ErrLong", laid_turnstile_api_ErrLong), ("turnstile/api.ErrSum", laid_turnstile_api_ErrSum), ("turnstile/api.ErrIo", laid_turnstile_api_ErrIo), ("turnstile/api.ErrDown", laid_turnstile_api_ErrDown), ("turnstile/api.ErrGone", laid_turnstile_api_ErrGone), ("turnstile/api.ErrThere", laid_turnstile_api_ErrThere), ("turnstile/api.ErrImage", laid_turnstile_api_ErrImage), ("turnstile/api.ErrGap", laid_turnstile_api_ErrGap), ("turnstile/api.ErrLog", laid_turnstile_api_ErrLog), ("turnstile/api.ErrSick", laid_turnstile_api_ErrSick), ("turnstile/api.ErrConfig", laid_turnstile_api_ErrConfig), ("turnstile/api.ErrNil", laid_turnstile_api_ErrNil)], narrowed := true }
def StateReplaysUptoSaid : Prop := stateReplaysUptoRow.holds Tryd.pinned (OpenSpec.upto stateReplaysSpec)

/-- 'turnstilelaw13.StateRises', WHERE WHAT IT READS IS OF BULK AT MOST 1048576: true; the input reads as it did. -/
def stateRisesUptoRow : OpenClaim := { program := "ytnhngjhodcikiaadoor", sum := "b06cfa8865aa7201330a3513501eaddd8026f814df1bcc7a886d83c4af3dd074", func := "turnstile/turnstilelaw13.StateRises", spec := "stateRises", inPlace := ["math/bits.Add64", "math/bits.Sub64", "slices.overlaps[turnstile/api.Entry]"], unfollowed := true, recurses := true, named := ["turnstile/api.ErrArg", "turnstile/api.ErrLog", "turnstile/api.ErrGap", "math/bits.divideError", "math/bits.overflowError"], apart := false, laid := [("turnstile/api.ErrArg", laid_turnstile_api_ErrArg), ("turnstile/api.ErrGap", laid_turnstile_api_ErrGap), ("turnstile/api.ErrLog", laid_turnstile_api_ErrLog)], narrowed := true }
def StateRisesUptoSaid : Prop := stateRisesUptoRow.holds Tryd.pinned (OpenSpec.upto stateRisesSpec)

/-- 'turnstilelaw13.StateFinds', WHERE WHAT IT READS IS OF BULK AT MOST 1048576: true; the input reads as it did. -/
def stateFindsUptoRow : OpenClaim := { program := "ytnhngjhodcikiaadoor", sum := "b06cfa8865aa7201330a3513501eaddd8026f814df1bcc7a886d83c4af3dd074", func := "turnstile/turnstilelaw13.StateFinds", spec := "stateFinds", inPlace := ["math/bits.Add64", "math/bits.Sub64", "slices.overlaps[turnstile/api.Entry]"], unfollowed := true, recurses := true, named := ["turnstile/api.ErrLog", "turnstile/api.ErrArg", "math/bits.divideError", "math/bits.overflowError", "turnstile/api.ErrGap"], apart := false, laid := [("turnstile/api.ErrArg", laid_turnstile_api_ErrArg), ("turnstile/api.ErrGap", laid_turnstile_api_ErrGap), ("turnstile/api.ErrLog", laid_turnstile_api_ErrLog)], narrowed := true }
def StateFindsUptoSaid : Prop := stateFindsUptoRow.holds Tryd.pinned (OpenSpec.upto stateFindsSpec)

end Rows
end Go.Proofs.YtnhngjhodcikiaaDoor
