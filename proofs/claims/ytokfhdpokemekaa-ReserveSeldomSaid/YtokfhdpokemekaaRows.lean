/-
  No cell of these rows narrows 'for every input' (looked for: loops, veiled, ifaces, maps, wideKeys, modest, calm, conditions, laid).
  DERIVED. THE GIVEN ROWS OF THIS SEAT. 11 by the template 'for every input the law returns true; each argument reads behind the call as it read before'; 0 by the template 'total and deterministic' (their statements: YtokfhdpokemekaaTotals.lean).
  GIVEN WITH THE SEED: the statements are not yours to turn. If you find one false, say at which input.
  Laid BY PROGRAM, IN A SANDBOX (cutbox-rows.mjs): the forced cells as the released guide's own fill.sh prints them over the translation 1e9263f2d3e8334a… (all of the seat's roots in one cut). By AI agents, Wed Nov 11 2026. No macro, syntax, notation, axiom, sorry.
-/
import Derived.Test.YtokfhdpokemekaaChecked
import GoSem.Claim
import GoSem.ClaimJoined
import GoSem.ClaimMapViews
import Derived.JoinedTies
import Derived.KernelRfl
namespace Go.Proofs.Ytokfhdpokemekaa
/- THE CELL 'sum', in the pinned program and in every row, IS THE sha256 OF THE DUMP (.gsa) THAT YtokfhdpokemekaaProg.lean LOADS. Nothing in Lean hashes anything: it is a label: what it is worth is what the hold of that sum in a sandbox is worth. -/
noncomputable def Try.pinned : Pinned := { name := "ytokfhdpokemekaa", sum := "1e9263f2d3e8334a1fc0578adb9fb5f5f12b6a4d1e3d3262d4aa68fa3e4ba77c", checked := Try.checked }
namespace Rows
def none {H : Type} : Left H := { results := [], args := [] }

/-- 'turnstilelaw06.PolicyExact': WHATEVER THE INPUT: true; the input reads as it did. -/
def policyExactSpec : ChangeSpec := { name := "policyExact", fn := fun _ => fun
  | [d] => { results := [.lit (.bool true)], args := [d] }
  | _ => none }
def policyExactRow : OpenClaim := { program := "ytokfhdpokemekaa", sum := "1e9263f2d3e8334a1fc0578adb9fb5f5f12b6a4d1e3d3262d4aa68fa3e4ba77c", func := "turnstile/turnstilelaw06.PolicyExact", spec := "policyExact", inPlace := ["math/bits.Add64", "math/bits.Sub64"], unfollowed := true, recurses := true, named := ["math/bits.divideError", "math/bits.overflowError"], apart := false }
def PolicyExactSaid : Prop := policyExactRow.holds Try.pinned (OpenSpec.ofChange policyExactSpec)

/-- ITS FALSE NEIGHBOUR: 'it returns false'. Refute it at one input. -/
def policyExactWrong : ChangeSpec := { name := "policyExact", fn := fun _ => fun
  | [d] => { results := [.lit (.bool false)], args := [d] }
  | _ => none }
def PolicyExactWrongFalsely : Prop := policyExactRow.holds Try.pinned (OpenSpec.ofChange policyExactWrong)

/-- 'turnstilelaw06.PolicyFace': WHATEVER THE INPUT: true; the input reads as it did. -/
def policyFaceSpec : ChangeSpec := { name := "policyFace", fn := fun _ => fun
  | [d] => { results := [.lit (.bool true)], args := [d] }
  | _ => none }
def policyFaceRow : OpenClaim := { program := "ytokfhdpokemekaa", sum := "1e9263f2d3e8334a1fc0578adb9fb5f5f12b6a4d1e3d3262d4aa68fa3e4ba77c", func := "turnstile/turnstilelaw06.PolicyFace", spec := "policyFace", inPlace := ["math/bits.Add64", "math/bits.Sub64"], unfollowed := true, recurses := true, named := ["math/bits.divideError", "math/bits.overflowError"], apart := false }
def PolicyFaceSaid : Prop := policyFaceRow.holds Try.pinned (OpenSpec.ofChange policyFaceSpec)

/-- ITS FALSE NEIGHBOUR: 'it returns false'. Refute it at one input. -/
def policyFaceWrong : ChangeSpec := { name := "policyFace", fn := fun _ => fun
  | [d] => { results := [.lit (.bool false)], args := [d] }
  | _ => none }
def PolicyFaceWrongFalsely : Prop := policyFaceRow.holds Try.pinned (OpenSpec.ofChange policyFaceWrong)

/-- 'turnstilelaw06.PolicyForm': WHATEVER THE INPUT: true; the input reads as it did. -/
def policyFormSpec : ChangeSpec := { name := "policyForm", fn := fun _ => fun
  | [d1, d2, d3] => { results := [.lit (.bool true)], args := [d1, d2, d3] }
  | _ => none }
def policyFormRow : OpenClaim := { program := "ytokfhdpokemekaa", sum := "1e9263f2d3e8334a1fc0578adb9fb5f5f12b6a4d1e3d3262d4aa68fa3e4ba77c", func := "turnstile/turnstilelaw06.PolicyForm", spec := "policyForm", inPlace := ["math/bits.Add64", "math/bits.Sub64"], unfollowed := true, recurses := true, named := ["math/bits.divideError", "math/bits.overflowError"], apart := false }
def PolicyFormSaid : Prop := policyFormRow.holds Try.pinned (OpenSpec.ofChange policyFormSpec)

/-- ITS FALSE NEIGHBOUR: 'it returns false'. Refute it at one input. -/
def policyFormWrong : ChangeSpec := { name := "policyForm", fn := fun _ => fun
  | [d1, d2, d3] => { results := [.lit (.bool false)], args := [d1, d2, d3] }
  | _ => none }
def PolicyFormWrongFalsely : Prop := policyFormRow.holds Try.pinned (OpenSpec.ofChange policyFormWrong)

/-- 'turnstilelaw06.PolicyOrder': WHATEVER THE INPUT: true; the input reads as it did. -/
def policyOrderSpec : ChangeSpec := { name := "policyOrder", fn := fun _ => fun
  | [d1, d2] => { results := [.lit (.bool true)], args := [d1, d2] }
  | _ => none }
def policyOrderRow : OpenClaim := { program := "ytokfhdpokemekaa", sum := "1e9263f2d3e8334a1fc0578adb9fb5f5f12b6a4d1e3d3262d4aa68fa3e4ba77c", func := "turnstile/turnstilelaw06.PolicyOrder", spec := "policyOrder", inPlace := ["math/bits.Add64", "math/bits.Sub64"], unfollowed := true, recurses := true, named := ["math/bits.divideError", "math/bits.overflowError"], apart := false }
def PolicyOrderSaid : Prop := policyOrderRow.holds Try.pinned (OpenSpec.ofChange policyOrderSpec)

/-- ITS FALSE NEIGHBOUR: 'it returns false'. Refute it at one input. -/
def policyOrderWrong : ChangeSpec := { name := "policyOrder", fn := fun _ => fun
  | [d1, d2] => { results := [.lit (.bool false)], args := [d1, d2] }
  | _ => none }
def PolicyOrderWrongFalsely : Prop := policyOrderRow.holds Try.pinned (OpenSpec.ofChange policyOrderWrong)

/-- 'turnstilelaw06.PolicyRises': WHATEVER THE INPUT: true; the input reads as it did. -/
def policyRisesSpec : ChangeSpec := { name := "policyRises", fn := fun _ => fun
  | [d1, d2] => { results := [.lit (.bool true)], args := [d1, d2] }
  | _ => none }
def policyRisesRow : OpenClaim := { program := "ytokfhdpokemekaa", sum := "1e9263f2d3e8334a1fc0578adb9fb5f5f12b6a4d1e3d3262d4aa68fa3e4ba77c", func := "turnstile/turnstilelaw06.PolicyRises", spec := "policyRises", inPlace := ["math/bits.Add64", "math/bits.Sub64"], unfollowed := true, recurses := true, named := ["math/bits.divideError", "math/bits.overflowError"], apart := false }
def PolicyRisesSaid : Prop := policyRisesRow.holds Try.pinned (OpenSpec.ofChange policyRisesSpec)

/-- ITS FALSE NEIGHBOUR: 'it returns false'. Refute it at one input. -/
def policyRisesWrong : ChangeSpec := { name := "policyRises", fn := fun _ => fun
  | [d1, d2] => { results := [.lit (.bool false)], args := [d1, d2] }
  | _ => none }
def PolicyRisesWrongFalsely : Prop := policyRisesRow.holds Try.pinned (OpenSpec.ofChange policyRisesWrong)

/-- 'turnstilelaw17.ReserveAll': WHATEVER THE INPUT: true; the input reads as it did. -/
def reserveAllSpec : ChangeSpec := { name := "reserveAll", fn := fun _ => fun
  | [d] => { results := [.lit (.bool true)], args := [d] }
  | _ => none }
def reserveAllRow : OpenClaim := { program := "ytokfhdpokemekaa", sum := "1e9263f2d3e8334a1fc0578adb9fb5f5f12b6a4d1e3d3262d4aa68fa3e4ba77c", func := "turnstile/turnstilelaw17.ReserveAll", spec := "reserveAll", inPlace := ["math/bits.Add64", "math/bits.Sub64"], unfollowed := true, recurses := true, named := ["math/bits.divideError", "math/bits.overflowError"], apart := false }
def ReserveAllSaid : Prop := reserveAllRow.holds Try.pinned (OpenSpec.ofChange reserveAllSpec)

/-- ITS FALSE NEIGHBOUR: 'it returns false'. Refute it at one input. -/
def reserveAllWrong : ChangeSpec := { name := "reserveAll", fn := fun _ => fun
  | [d] => { results := [.lit (.bool false)], args := [d] }
  | _ => none }
def ReserveAllWrongFalsely : Prop := reserveAllRow.holds Try.pinned (OpenSpec.ofChange reserveAllWrong)

/-- 'turnstilelaw17.ReserveUnseen': WHATEVER THE INPUT: true; the input reads as it did. -/
def reserveUnseenSpec : ChangeSpec := { name := "reserveUnseen", fn := fun _ => fun
  | [d1, d2, d3] => { results := [.lit (.bool true)], args := [d1, d2, d3] }
  | _ => none }
def reserveUnseenRow : OpenClaim := { program := "ytokfhdpokemekaa", sum := "1e9263f2d3e8334a1fc0578adb9fb5f5f12b6a4d1e3d3262d4aa68fa3e4ba77c", func := "turnstile/turnstilelaw17.ReserveUnseen", spec := "reserveUnseen", inPlace := ["math/bits.Add64", "math/bits.Sub64"], unfollowed := true, recurses := true, named := ["math/bits.divideError", "math/bits.overflowError"], apart := false }
def ReserveUnseenSaid : Prop := reserveUnseenRow.holds Try.pinned (OpenSpec.ofChange reserveUnseenSpec)

/-- ITS FALSE NEIGHBOUR: 'it returns false'. Refute it at one input. -/
def reserveUnseenWrong : ChangeSpec := { name := "reserveUnseen", fn := fun _ => fun
  | [d1, d2, d3] => { results := [.lit (.bool false)], args := [d1, d2, d3] }
  | _ => none }
def ReserveUnseenWrongFalsely : Prop := reserveUnseenRow.holds Try.pinned (OpenSpec.ofChange reserveUnseenWrong)

/-- 'turnstilelaw17.ReserveSafe': WHATEVER THE INPUT: true; the input reads as it did. -/
def reserveSafeSpec : ChangeSpec := { name := "reserveSafe", fn := fun _ => fun
  | [d] => { results := [.lit (.bool true)], args := [d] }
  | _ => none }
def reserveSafeRow : OpenClaim := { program := "ytokfhdpokemekaa", sum := "1e9263f2d3e8334a1fc0578adb9fb5f5f12b6a4d1e3d3262d4aa68fa3e4ba77c", func := "turnstile/turnstilelaw17.ReserveSafe", spec := "reserveSafe", inPlace := ["math/bits.Add64", "math/bits.Sub64"], unfollowed := true, recurses := true, named := ["math/bits.divideError", "math/bits.overflowError"], apart := false }
def ReserveSafeSaid : Prop := reserveSafeRow.holds Try.pinned (OpenSpec.ofChange reserveSafeSpec)

/-- ITS FALSE NEIGHBOUR: 'it returns false'. Refute it at one input. -/
def reserveSafeWrong : ChangeSpec := { name := "reserveSafe", fn := fun _ => fun
  | [d] => { results := [.lit (.bool false)], args := [d] }
  | _ => none }
def ReserveSafeWrongFalsely : Prop := reserveSafeRow.holds Try.pinned (OpenSpec.ofChange reserveSafeWrong)

/-- 'turnstilelaw17.ReserveSeldom': WHATEVER THE INPUT: true; the input reads as it did. -/
def reserveSeldomSpec : ChangeSpec := { name := "reserveSeldom", fn := fun _ => fun
  | [d1, d2, d3] => { results := [.lit (.bool true)], args := [d1, d2, d3] }
  | _ => none }
def reserveSeldomRow : OpenClaim := { program := "ytokfhdpokemekaa", sum := "1e9263f2d3e8334a1fc0578adb9fb5f5f12b6a4d1e3d3262d4aa68fa3e4ba77c", func := "turnstile/turnstilelaw17.ReserveSeldom", spec := "reserveSeldom", inPlace := ["math/bits.Add64", "math/bits.Sub64"], unfollowed := true, recurses := true, named := ["math/bits.divideError", "math/bits.overflowError"], apart := false }
def ReserveSeldomSaid : Prop := reserveSeldomRow.holds Try.pinned (OpenSpec.ofChange reserveSeldomSpec)

/-- ITS FALSE NEIGHBOUR: 'it returns false'. Refute it at one input. -/
def reserveSeldomWrong : ChangeSpec := { name := "reserveSeldom", fn := fun _ => fun
  | [d1, d2, d3] => { results := [.lit (.bool false)], args := [d1, d2, d3] }
  | _ => none }
def ReserveSeldomWrongFalsely : Prop := reserveSeldomRow.holds Try.pinned (OpenSpec.ofChange reserveSeldomWrong)

/-- 'turnstilelaw17.ReserveLoss': WHATEVER THE INPUT: true; the input reads as it did. -/
def reserveLossSpec : ChangeSpec := { name := "reserveLoss", fn := fun _ => fun
  | [d1, d2, d3, d4] => { results := [.lit (.bool true)], args := [d1, d2, d3, d4] }
  | _ => none }
def reserveLossRow : OpenClaim := { program := "ytokfhdpokemekaa", sum := "1e9263f2d3e8334a1fc0578adb9fb5f5f12b6a4d1e3d3262d4aa68fa3e4ba77c", func := "turnstile/turnstilelaw17.ReserveLoss", spec := "reserveLoss", inPlace := ["math/bits.Add64", "math/bits.Sub64"], unfollowed := true, recurses := true, named := ["math/bits.divideError", "math/bits.overflowError"], apart := false }
def ReserveLossSaid : Prop := reserveLossRow.holds Try.pinned (OpenSpec.ofChange reserveLossSpec)

/-- ITS FALSE NEIGHBOUR: 'it returns false'. Refute it at one input. -/
def reserveLossWrong : ChangeSpec := { name := "reserveLoss", fn := fun _ => fun
  | [d1, d2, d3, d4] => { results := [.lit (.bool false)], args := [d1, d2, d3, d4] }
  | _ => none }
def ReserveLossWrongFalsely : Prop := reserveLossRow.holds Try.pinned (OpenSpec.ofChange reserveLossWrong)

/-- 'turnstilelaw17.ReserveCovers': WHATEVER THE INPUT: true; the input reads as it did. -/
def reserveCoversSpec : ChangeSpec := { name := "reserveCovers", fn := fun _ => fun
  | [d1, d2, d3] => { results := [.lit (.bool true)], args := [d1, d2, d3] }
  | _ => none }
def reserveCoversRow : OpenClaim := { program := "ytokfhdpokemekaa", sum := "1e9263f2d3e8334a1fc0578adb9fb5f5f12b6a4d1e3d3262d4aa68fa3e4ba77c", func := "turnstile/turnstilelaw17.ReserveCovers", spec := "reserveCovers", inPlace := ["math/bits.Add64", "math/bits.Sub64"], unfollowed := true, recurses := true, named := ["math/bits.divideError", "math/bits.overflowError"], apart := false }
def ReserveCoversSaid : Prop := reserveCoversRow.holds Try.pinned (OpenSpec.ofChange reserveCoversSpec)

/-- ITS FALSE NEIGHBOUR: 'it returns false'. Refute it at one input. -/
def reserveCoversWrong : ChangeSpec := { name := "reserveCovers", fn := fun _ => fun
  | [d1, d2, d3] => { results := [.lit (.bool false)], args := [d1, d2, d3] }
  | _ => none }
def ReserveCoversWrongFalsely : Prop := reserveCoversRow.holds Try.pinned (OpenSpec.ofChange reserveCoversWrong)

/- THE SECOND FORM. 'bulk': how many values and letters a reading holds, each counted each time it is reached (what is shared counts as often as it is met; a slice's spare places count too). A statement '..UptoSaid' is the law's where the arguments, and the package variables that the reading takes, are together of bulk at most 1048576: NARROWER than '..Said'. Prove '..Said' where nothing that the law and all that it calls make is longer than what came in: it says more and counts as full. Else prove '..UptoSaid'. A law counts once. -/
mutual
def uptoBulk {H : Type} : DataW H → Nat
  | .lit (.string bytes) => bytes.length + 1
  | .lit _ => 1
  | .nil => 1
  | .ptr d => uptoBulk d + 1
  | .slice elems spare => uptoBulkAll elems + uptoBulkAll spare + 1
  | .agg parts => uptoBulkAll parts + 1
  | .iface _ d => uptoBulk d + 1
  | .map entries => uptoBulkEntries entries + 1
  | .held _ => 1
def uptoBulkAll {H : Type} : List (DataW H) → Nat
  | [] => 0
  | d :: r => uptoBulk d + uptoBulkAll r
def uptoBulkEntries {H : Type} : List (Lit × DataW H) → Nat
  | [] => 0
  | x :: r => uptoBulkEntry x + uptoBulkEntries r
def uptoBulkEntry {H : Type} : Lit × DataW H → Nat
  | (.string bytes, d) => bytes.length + uptoBulk d + 1
  | (_, d) => uptoBulk d + 1
 end
def uptoSmall : (H : Type) → List (DataW H) → Bool := fun _ ds => decide (uptoBulkAll ds ≤ 1048576)
def OpenSpec.upto (s : _root_.Go.ChangeSpec) : _root_.Go.OpenSpec := { _root_.Go.OpenSpec.ofChange s with cond := some uptoSmall }

/-- 'turnstilelaw06.PolicyExact', WHERE WHAT IT READS IS OF BULK AT MOST 1048576: true; the input reads as it did. -/
def policyExactUptoRow : OpenClaim := { program := "ytokfhdpokemekaa", sum := "1e9263f2d3e8334a1fc0578adb9fb5f5f12b6a4d1e3d3262d4aa68fa3e4ba77c", func := "turnstile/turnstilelaw06.PolicyExact", spec := "policyExact", inPlace := ["math/bits.Add64", "math/bits.Sub64"], unfollowed := true, recurses := true, named := ["math/bits.divideError", "math/bits.overflowError"], apart := false, narrowed := true }
def PolicyExactUptoSaid : Prop := policyExactUptoRow.holds Try.pinned (OpenSpec.upto policyExactSpec)

/-- 'turnstilelaw06.PolicyFace', WHERE WHAT IT READS IS OF BULK AT MOST 1048576: true; the input reads as it did. -/
def policyFaceUptoRow : OpenClaim := { program := "ytokfhdpokemekaa", sum := "1e9263f2d3e8334a1fc0578adb9fb5f5f12b6a4d1e3d3262d4aa68fa3e4ba77c", func := "turnstile/turnstilelaw06.PolicyFace", spec := "policyFace", inPlace := ["math/bits.Add64", "math/bits.Sub64"], unfollowed := true, recurses := true, named := ["math/bits.divideError", "math/bits.overflowError"], apart := false, narrowed := true }
def PolicyFaceUptoSaid : Prop := policyFaceUptoRow.holds Try.pinned (OpenSpec.upto policyFaceSpec)

/-- 'turnstilelaw06.PolicyForm', WHERE WHAT IT READS IS OF BULK AT MOST 1048576: true; the input reads as it did. -/
def policyFormUptoRow : OpenClaim := { program := "ytokfhdpokemekaa", sum := "1e9263f2d3e8334a1fc0578adb9fb5f5f12b6a4d1e3d3262d4aa68fa3e4ba77c", func := "turnstile/turnstilelaw06.PolicyForm", spec := "policyForm", inPlace := ["math/bits.Add64", "math/bits.Sub64"], unfollowed := true, recurses := true, named := ["math/bits.divideError", "math/bits.overflowError"], apart := false, narrowed := true }
def PolicyFormUptoSaid : Prop := policyFormUptoRow.holds Try.pinned (OpenSpec.upto policyFormSpec)

/-- 'turnstilelaw06.PolicyOrder', WHERE WHAT IT READS IS OF BULK AT MOST 1048576: true; the input reads as it did. -/
def policyOrderUptoRow : OpenClaim := { program := "ytokfhdpokemekaa", sum := "1e9263f2d3e8334a1fc0578adb9fb5f5f12b6a4d1e3d3262d4aa68fa3e4ba77c", func := "turnstile/turnstilelaw06.PolicyOrder", spec := "policyOrder", inPlace := ["math/bits.Add64", "math/bits.Sub64"], unfollowed := true, recurses := true, named := ["math/bits.divideError", "math/bits.overflowError"], apart := false, narrowed := true }
def PolicyOrderUptoSaid : Prop := policyOrderUptoRow.holds Try.pinned (OpenSpec.upto policyOrderSpec)

/-- 'turnstilelaw06.PolicyRises', WHERE WHAT IT READS IS OF BULK AT MOST 1048576: true; the input reads as it did. -/
def policyRisesUptoRow : OpenClaim := { program := "ytokfhdpokemekaa", sum := "1e9263f2d3e8334a1fc0578adb9fb5f5f12b6a4d1e3d3262d4aa68fa3e4ba77c", func := "turnstile/turnstilelaw06.PolicyRises", spec := "policyRises", inPlace := ["math/bits.Add64", "math/bits.Sub64"], unfollowed := true, recurses := true, named := ["math/bits.divideError", "math/bits.overflowError"], apart := false, narrowed := true }
def PolicyRisesUptoSaid : Prop := policyRisesUptoRow.holds Try.pinned (OpenSpec.upto policyRisesSpec)

/-- 'turnstilelaw17.ReserveAll', WHERE WHAT IT READS IS OF BULK AT MOST 1048576: true; the input reads as it did. -/
def reserveAllUptoRow : OpenClaim := { program := "ytokfhdpokemekaa", sum := "1e9263f2d3e8334a1fc0578adb9fb5f5f12b6a4d1e3d3262d4aa68fa3e4ba77c", func := "turnstile/turnstilelaw17.ReserveAll", spec := "reserveAll", inPlace := ["math/bits.Add64", "math/bits.Sub64"], unfollowed := true, recurses := true, named := ["math/bits.divideError", "math/bits.overflowError"], apart := false, narrowed := true }
def ReserveAllUptoSaid : Prop := reserveAllUptoRow.holds Try.pinned (OpenSpec.upto reserveAllSpec)

/-- 'turnstilelaw17.ReserveUnseen', WHERE WHAT IT READS IS OF BULK AT MOST 1048576: true; the input reads as it did. -/
def reserveUnseenUptoRow : OpenClaim := { program := "ytokfhdpokemekaa", sum := "1e9263f2d3e8334a1fc0578adb9fb5f5f12b6a4d1e3d3262d4aa68fa3e4ba77c", func := "turnstile/turnstilelaw17.ReserveUnseen", spec := "reserveUnseen", inPlace := ["math/bits.Add64", "math/bits.Sub64"], unfollowed := true, recurses := true, named := ["math/bits.divideError", "math/bits.overflowError"], apart := false, narrowed := true }
def ReserveUnseenUptoSaid : Prop := reserveUnseenUptoRow.holds Try.pinned (OpenSpec.upto reserveUnseenSpec)

/-- 'turnstilelaw17.ReserveSafe', WHERE WHAT IT READS IS OF BULK AT MOST 1048576: true; the input reads as it did. -/
def reserveSafeUptoRow : OpenClaim := { program := "ytokfhdpokemekaa", sum := "1e9263f2d3e8334a1fc0578adb9fb5f5f12b6a4d1e3d3262d4aa68fa3e4ba77c", func := "turnstile/turnstilelaw17.ReserveSafe", spec := "reserveSafe", inPlace := ["math/bits.Add64", "math/bits.Sub64"], unfollowed := true, recurses := true, named := ["math/bits.divideError", "math/bits.overflowError"], apart := false, narrowed := true }
def ReserveSafeUptoSaid : Prop := reserveSafeUptoRow.holds Try.pinned (OpenSpec.upto reserveSafeSpec)

/-- 'turnstilelaw17.ReserveSeldom', WHERE WHAT IT READS IS OF BULK AT MOST 1048576: true; the input reads as it did. -/
def reserveSeldomUptoRow : OpenClaim := { program := "ytokfhdpokemekaa", sum := "1e9263f2d3e8334a1fc0578adb9fb5f5f12b6a4d1e3d3262d4aa68fa3e4ba77c", func := "turnstile/turnstilelaw17.ReserveSeldom", spec := "reserveSeldom", inPlace := ["math/bits.Add64", "math/bits.Sub64"], unfollowed := true, recurses := true, named := ["math/bits.divideError", "math/bits.overflowError"], apart := false, narrowed := true }
def ReserveSeldomUptoSaid : Prop := reserveSeldomUptoRow.holds Try.pinned (OpenSpec.upto reserveSeldomSpec)

/-- 'turnstilelaw17.ReserveLoss', WHERE WHAT IT READS IS OF BULK AT MOST 1048576: true; the input reads as it did. -/
def reserveLossUptoRow : OpenClaim := { program := "ytokfhdpokemekaa", sum := "1e9263f2d3e8334a1fc0578adb9fb5f5f12b6a4d1e3d3262d4aa68fa3e4ba77c", func := "turnstile/turnstilelaw17.ReserveLoss", spec := "reserveLoss", inPlace := ["math/bits.Add64", "math/bits.Sub64"], unfollowed := true, recurses := true, named := ["math/bits.divideError", "math/bits.overflowError"], apart := false, narrowed := true }
def ReserveLossUptoSaid : Prop := reserveLossUptoRow.holds Try.pinned (OpenSpec.upto reserveLossSpec)

/-- 'turnstilelaw17.ReserveCovers', WHERE WHAT IT READS IS OF BULK AT MOST 1048576: true; the input reads as it did. -/
def reserveCoversUptoRow : OpenClaim := { program := "ytokfhdpokemekaa", sum := "1e9263f2d3e8334a1fc0578adb9fb5f5f12b6a4d1e3d3262d4aa68fa3e4ba77c", func := "turnstile/turnstilelaw17.ReserveCovers", spec := "reserveCovers", inPlace := ["math/bits.Add64", "math/bits.Sub64"], unfollowed := true, recurses := true, named := ["math/bits.divideError", "math/bits.overflowError"], apart := false, narrowed := true }
def ReserveCoversUptoSaid : Prop := reserveCoversUptoRow.holds Try.pinned (OpenSpec.upto reserveCoversSpec)

end Rows
end Go.Proofs.Ytokfhdpokemekaa
