/-
  No cell of these rows narrows 'for every input' (looked for: loops, veiled, ifaces, maps, wideKeys, modest, calm, conditions, laid).
  DERIVED. THE GIVEN ROWS OF THIS SEAT. 12 by the template 'for every input the law returns true; each argument reads behind the call as it read before'; 0 by the template 'total and deterministic' (their statements: YthnpgilknoiaaaaTotals.lean).
  GIVEN WITH THE SEED: the statements are not yours to turn. If you find one false, say at which input.
  Laid BY PROGRAM, IN A SANDBOX (cutbox-rows.mjs): the forced cells as the released guide's own fill.sh prints them over the translation 213ea163174531b7… (all of the seat's roots in one cut). By AI agents, Wed Nov 11 2026. No macro, syntax, notation, axiom, sorry.
-/
import Derived.Test.YthnpgilknoiaaaaChecked
import GoSem.Claim
import GoSem.ClaimJoined
import GoSem.ClaimMapViews
import Derived.JoinedTies
import Derived.KernelRfl
namespace Go.Proofs.Ythnpgilknoiaaaa
/- THE CELL 'sum', in the pinned program and in every row, IS THE sha256 OF THE DUMP (.gsa) THAT YthnpgilknoiaaaaProg.lean LOADS. Nothing in Lean hashes anything: it is a label: what it is worth is what the hold of that sum in a sandbox is worth. -/
noncomputable def Try.pinned : Pinned := { name := "ythnpgilknoiaaaa", sum := "213ea163174531b7fe96cf69019bcf85846f709fb6fc659cb7ea2f968f6299ec", checked := Try.checked }
namespace Rows
def none {H : Type} : Left H := { results := [], args := [] }

/-- 'turnstilelaw03.SatDivides': WHATEVER THE INPUT: true; the input reads as it did. -/
def satDividesSpec : ChangeSpec := { name := "satDivides", fn := fun _ => fun
  | [d1, d2] => { results := [.lit (.bool true)], args := [d1, d2] }
  | _ => none }
def satDividesRow : OpenClaim := { program := "ythnpgilknoiaaaa", sum := "213ea163174531b7fe96cf69019bcf85846f709fb6fc659cb7ea2f968f6299ec", func := "turnstile/turnstilelaw03.SatDivides", spec := "satDivides", inPlace := ["math/bits.Add64"], named := ["math/bits.divideError", "math/bits.overflowError"], apart := false }
def SatDividesSaid : Prop := satDividesRow.holds Try.pinned (OpenSpec.ofChange satDividesSpec)

/-- ITS FALSE NEIGHBOUR: 'it returns false'. Refute it at one input. -/
def satDividesWrong : ChangeSpec := { name := "satDivides", fn := fun _ => fun
  | [d1, d2] => { results := [.lit (.bool false)], args := [d1, d2] }
  | _ => none }
def SatDividesWrongFalsely : Prop := satDividesRow.holds Try.pinned (OpenSpec.ofChange satDividesWrong)

/-- 'turnstilelaw03.SatRing': WHATEVER THE INPUT: true; the input reads as it did. -/
def satRingSpec : ChangeSpec := { name := "satRing", fn := fun _ => fun
  | [d1, d2, d3] => { results := [.lit (.bool true)], args := [d1, d2, d3] }
  | _ => none }
def satRingRow : OpenClaim := { program := "ythnpgilknoiaaaa", sum := "213ea163174531b7fe96cf69019bcf85846f709fb6fc659cb7ea2f968f6299ec", func := "turnstile/turnstilelaw03.SatRing", spec := "satRing", inPlace := ["math/bits.Add64", "math/bits.Sub64"], named := ["math/bits.divideError", "math/bits.overflowError"], apart := false }
def SatRingSaid : Prop := satRingRow.holds Try.pinned (OpenSpec.ofChange satRingSpec)

/-- ITS FALSE NEIGHBOUR: 'it returns false'. Refute it at one input. -/
def satRingWrong : ChangeSpec := { name := "satRing", fn := fun _ => fun
  | [d1, d2, d3] => { results := [.lit (.bool false)], args := [d1, d2, d3] }
  | _ => none }
def SatRingWrongFalsely : Prop := satRingRow.holds Try.pinned (OpenSpec.ofChange satRingWrong)

/-- 'turnstilelaw03.SatOrder': WHATEVER THE INPUT: true; the input reads as it did. -/
def satOrderSpec : ChangeSpec := { name := "satOrder", fn := fun _ => fun
  | [d1, d2] => { results := [.lit (.bool true)], args := [d1, d2] }
  | _ => none }
def satOrderRow : OpenClaim := { program := "ythnpgilknoiaaaa", sum := "213ea163174531b7fe96cf69019bcf85846f709fb6fc659cb7ea2f968f6299ec", func := "turnstile/turnstilelaw03.SatOrder", spec := "satOrder", inPlace := ["math/bits.Add64", "math/bits.Sub64"], named := ["math/bits.divideError", "math/bits.overflowError"], apart := false }
def SatOrderSaid : Prop := satOrderRow.holds Try.pinned (OpenSpec.ofChange satOrderSpec)

/-- ITS FALSE NEIGHBOUR: 'it returns false'. Refute it at one input. -/
def satOrderWrong : ChangeSpec := { name := "satOrder", fn := fun _ => fun
  | [d1, d2] => { results := [.lit (.bool false)], args := [d1, d2] }
  | _ => none }
def SatOrderWrongFalsely : Prop := satOrderRow.holds Try.pinned (OpenSpec.ofChange satOrderWrong)

/-- 'turnstilelaw03.SatExact': WHATEVER THE INPUT: true; the input reads as it did. -/
def satExactSpec : ChangeSpec := { name := "satExact", fn := fun _ => fun
  | [d] => { results := [.lit (.bool true)], args := [d] }
  | _ => none }
def satExactRow : OpenClaim := { program := "ythnpgilknoiaaaa", sum := "213ea163174531b7fe96cf69019bcf85846f709fb6fc659cb7ea2f968f6299ec", func := "turnstile/turnstilelaw03.SatExact", spec := "satExact", inPlace := ["math/bits.Add64", "math/bits.Sub64"], named := ["math/bits.divideError", "math/bits.overflowError"], apart := false }
def SatExactSaid : Prop := satExactRow.holds Try.pinned (OpenSpec.ofChange satExactSpec)

/-- ITS FALSE NEIGHBOUR: 'it returns false'. Refute it at one input. -/
def satExactWrong : ChangeSpec := { name := "satExact", fn := fun _ => fun
  | [d] => { results := [.lit (.bool false)], args := [d] }
  | _ => none }
def SatExactWrongFalsely : Prop := satExactRow.holds Try.pinned (OpenSpec.ofChange satExactWrong)

/-- 'turnstilelaw03.SatLadder': WHATEVER THE INPUT: true; the input reads as it did. -/
def satLadderSpec : ChangeSpec := { name := "satLadder", fn := fun _ => fun
  | [d1, d2] => { results := [.lit (.bool true)], args := [d1, d2] }
  | _ => none }
def satLadderRow : OpenClaim := { program := "ythnpgilknoiaaaa", sum := "213ea163174531b7fe96cf69019bcf85846f709fb6fc659cb7ea2f968f6299ec", func := "turnstile/turnstilelaw03.SatLadder", spec := "satLadder", inPlace := ["math/bits.Add64", "math/bits.Sub64"], named := ["math/bits.divideError", "math/bits.overflowError"], apart := false }
def SatLadderSaid : Prop := satLadderRow.holds Try.pinned (OpenSpec.ofChange satLadderSpec)

/-- ITS FALSE NEIGHBOUR: 'it returns false'. Refute it at one input. -/
def satLadderWrong : ChangeSpec := { name := "satLadder", fn := fun _ => fun
  | [d1, d2] => { results := [.lit (.bool false)], args := [d1, d2] }
  | _ => none }
def SatLadderWrongFalsely : Prop := satLadderRow.holds Try.pinned (OpenSpec.ofChange satLadderWrong)

/-- 'turnstilelaw04.GcraAdmits': WHATEVER THE INPUT: true; the input reads as it did. -/
def gcraAdmitsSpec : ChangeSpec := { name := "gcraAdmits", fn := fun _ => fun
  | [d] => { results := [.lit (.bool true)], args := [d] }
  | _ => none }
def gcraAdmitsRow : OpenClaim := { program := "ythnpgilknoiaaaa", sum := "213ea163174531b7fe96cf69019bcf85846f709fb6fc659cb7ea2f968f6299ec", func := "turnstile/turnstilelaw04.GcraAdmits", spec := "gcraAdmits", inPlace := ["math/bits.Add64", "math/bits.Sub64"], named := ["math/bits.divideError", "math/bits.overflowError"], apart := false }
def GcraAdmitsSaid : Prop := gcraAdmitsRow.holds Try.pinned (OpenSpec.ofChange gcraAdmitsSpec)

/-- ITS FALSE NEIGHBOUR: 'it returns false'. Refute it at one input. -/
def gcraAdmitsWrong : ChangeSpec := { name := "gcraAdmits", fn := fun _ => fun
  | [d] => { results := [.lit (.bool false)], args := [d] }
  | _ => none }
def GcraAdmitsWrongFalsely : Prop := gcraAdmitsRow.holds Try.pinned (OpenSpec.ofChange gcraAdmitsWrong)

/-- 'turnstilelaw04.GcraRetries': WHATEVER THE INPUT: true; the input reads as it did. -/
def gcraRetriesSpec : ChangeSpec := { name := "gcraRetries", fn := fun _ => fun
  | [d] => { results := [.lit (.bool true)], args := [d] }
  | _ => none }
def gcraRetriesRow : OpenClaim := { program := "ythnpgilknoiaaaa", sum := "213ea163174531b7fe96cf69019bcf85846f709fb6fc659cb7ea2f968f6299ec", func := "turnstile/turnstilelaw04.GcraRetries", spec := "gcraRetries", inPlace := ["math/bits.Add64", "math/bits.Sub64"], named := ["math/bits.divideError", "math/bits.overflowError"], apart := false }
def GcraRetriesSaid : Prop := gcraRetriesRow.holds Try.pinned (OpenSpec.ofChange gcraRetriesSpec)

/-- ITS FALSE NEIGHBOUR: 'it returns false'. Refute it at one input. -/
def gcraRetriesWrong : ChangeSpec := { name := "gcraRetries", fn := fun _ => fun
  | [d] => { results := [.lit (.bool false)], args := [d] }
  | _ => none }
def GcraRetriesWrongFalsely : Prop := gcraRetriesRow.holds Try.pinned (OpenSpec.ofChange gcraRetriesWrong)

/-- 'turnstilelaw04.GcraLeast': WHATEVER THE INPUT: true; the input reads as it did. -/
def gcraLeastSpec : ChangeSpec := { name := "gcraLeast", fn := fun _ => fun
  | [d1, d2] => { results := [.lit (.bool true)], args := [d1, d2] }
  | _ => none }
def gcraLeastRow : OpenClaim := { program := "ythnpgilknoiaaaa", sum := "213ea163174531b7fe96cf69019bcf85846f709fb6fc659cb7ea2f968f6299ec", func := "turnstile/turnstilelaw04.GcraLeast", spec := "gcraLeast", inPlace := ["math/bits.Add64", "math/bits.Sub64"], named := ["math/bits.divideError", "math/bits.overflowError"], apart := false }
def GcraLeastSaid : Prop := gcraLeastRow.holds Try.pinned (OpenSpec.ofChange gcraLeastSpec)

/-- ITS FALSE NEIGHBOUR: 'it returns false'. Refute it at one input. -/
def gcraLeastWrong : ChangeSpec := { name := "gcraLeast", fn := fun _ => fun
  | [d1, d2] => { results := [.lit (.bool false)], args := [d1, d2] }
  | _ => none }
def GcraLeastWrongFalsely : Prop := gcraLeastRow.holds Try.pinned (OpenSpec.ofChange gcraLeastWrong)

/-- 'turnstilelaw04.GcraMost': WHATEVER THE INPUT: true; the input reads as it did. -/
def gcraMostSpec : ChangeSpec := { name := "gcraMost", fn := fun _ => fun
  | [d] => { results := [.lit (.bool true)], args := [d] }
  | _ => none }
def gcraMostRow : OpenClaim := { program := "ythnpgilknoiaaaa", sum := "213ea163174531b7fe96cf69019bcf85846f709fb6fc659cb7ea2f968f6299ec", func := "turnstile/turnstilelaw04.GcraMost", spec := "gcraMost", inPlace := ["math/bits.Add64", "math/bits.Sub64"], named := ["math/bits.divideError", "math/bits.overflowError"], apart := false }
def GcraMostSaid : Prop := gcraMostRow.holds Try.pinned (OpenSpec.ofChange gcraMostSpec)

/-- ITS FALSE NEIGHBOUR: 'it returns false'. Refute it at one input. -/
def gcraMostWrong : ChangeSpec := { name := "gcraMost", fn := fun _ => fun
  | [d] => { results := [.lit (.bool false)], args := [d] }
  | _ => none }
def GcraMostWrongFalsely : Prop := gcraMostRow.holds Try.pinned (OpenSpec.ofChange gcraMostWrong)

/-- 'turnstilelaw04.GcraSplits': WHATEVER THE INPUT: true; the input reads as it did. -/
def gcraSplitsSpec : ChangeSpec := { name := "gcraSplits", fn := fun _ => fun
  | [d1, d2] => { results := [.lit (.bool true)], args := [d1, d2] }
  | _ => none }
def gcraSplitsRow : OpenClaim := { program := "ythnpgilknoiaaaa", sum := "213ea163174531b7fe96cf69019bcf85846f709fb6fc659cb7ea2f968f6299ec", func := "turnstile/turnstilelaw04.GcraSplits", spec := "gcraSplits", inPlace := ["math/bits.Add64", "math/bits.Sub64"], named := ["math/bits.divideError", "math/bits.overflowError"], apart := false }
def GcraSplitsSaid : Prop := gcraSplitsRow.holds Try.pinned (OpenSpec.ofChange gcraSplitsSpec)

/-- ITS FALSE NEIGHBOUR: 'it returns false'. Refute it at one input. -/
def gcraSplitsWrong : ChangeSpec := { name := "gcraSplits", fn := fun _ => fun
  | [d1, d2] => { results := [.lit (.bool false)], args := [d1, d2] }
  | _ => none }
def GcraSplitsWrongFalsely : Prop := gcraSplitsRow.holds Try.pinned (OpenSpec.ofChange gcraSplitsWrong)

/-- 'turnstilelaw04.GcraLesser': WHATEVER THE INPUT: true; the input reads as it did. -/
def gcraLesserSpec : ChangeSpec := { name := "gcraLesser", fn := fun _ => fun
  | [d1, d2, d3] => { results := [.lit (.bool true)], args := [d1, d2, d3] }
  | _ => none }
def gcraLesserRow : OpenClaim := { program := "ythnpgilknoiaaaa", sum := "213ea163174531b7fe96cf69019bcf85846f709fb6fc659cb7ea2f968f6299ec", func := "turnstile/turnstilelaw04.GcraLesser", spec := "gcraLesser", inPlace := ["math/bits.Add64", "math/bits.Sub64"], named := ["math/bits.divideError", "math/bits.overflowError"], apart := false }
def GcraLesserSaid : Prop := gcraLesserRow.holds Try.pinned (OpenSpec.ofChange gcraLesserSpec)

/-- ITS FALSE NEIGHBOUR: 'it returns false'. Refute it at one input. -/
def gcraLesserWrong : ChangeSpec := { name := "gcraLesser", fn := fun _ => fun
  | [d1, d2, d3] => { results := [.lit (.bool false)], args := [d1, d2, d3] }
  | _ => none }
def GcraLesserWrongFalsely : Prop := gcraLesserRow.holds Try.pinned (OpenSpec.ofChange gcraLesserWrong)

/-- 'turnstilelaw04.GcraIntervals': WHATEVER THE INPUT: true; the input reads as it did. -/
def gcraIntervalsSpec : ChangeSpec := { name := "gcraIntervals", fn := fun _ => fun
  | [d1, d2, d3] => { results := [.lit (.bool true)], args := [d1, d2, d3] }
  | _ => none }
def gcraIntervalsRow : OpenClaim := { program := "ythnpgilknoiaaaa", sum := "213ea163174531b7fe96cf69019bcf85846f709fb6fc659cb7ea2f968f6299ec", func := "turnstile/turnstilelaw04.GcraIntervals", spec := "gcraIntervals", inPlace := ["math/bits.Add64", "math/bits.Sub64"], named := ["math/bits.divideError", "math/bits.overflowError"], apart := false }
def GcraIntervalsSaid : Prop := gcraIntervalsRow.holds Try.pinned (OpenSpec.ofChange gcraIntervalsSpec)

/-- ITS FALSE NEIGHBOUR: 'it returns false'. Refute it at one input. -/
def gcraIntervalsWrong : ChangeSpec := { name := "gcraIntervals", fn := fun _ => fun
  | [d1, d2, d3] => { results := [.lit (.bool false)], args := [d1, d2, d3] }
  | _ => none }
def GcraIntervalsWrongFalsely : Prop := gcraIntervalsRow.holds Try.pinned (OpenSpec.ofChange gcraIntervalsWrong)

/- THE SECOND FORM. 'bulk': how many values and letters a reading holds, each counted each time it is reached (what is shared counts as often as it is met; a slice's spare places count too). A statement '..UptoSaid' is the law's where the arguments, and the package variables that the reading takes, are together of bulk at most 1048576: NARROWER than '..Said'. Prove '..Said' where nothing that the law and all that it calls make is longer than what came in: it says more and counts as full. Else prove '..UptoSaid'. A law counts once. -/
mutual
def uptoBulk {H : Type} : DataW H → Nat
  | .lit (.string bytes) => bytes.length + 1
  | .lit _ => 1
  | .nil => 1
  | .ptr d => uptoBulk d + 1
  | .slice elems spare => uptoBulkAll elems + uptoBulkAll spare + 1
  | .agg parts => uptoBulkAll parts + 1
  | .iface _ d => uptoBulk d + 1
  | .map entries => uptoBulkEntries entries + 1
  | .held _ => 1
def uptoBulkAll {H : Type} : List (DataW H) → Nat
  | [] => 0
  | d :: r => uptoBulk d + uptoBulkAll r
def uptoBulkEntries {H : Type} : List (Lit × DataW H) → Nat
  | [] => 0
  | x :: r => uptoBulkEntry x + uptoBulkEntries r
def uptoBulkEntry {H : Type} : Lit × DataW H → Nat
  | (.string bytes, d) => bytes.length + uptoBulk d + 1
  | (_, d) => uptoBulk d + 1
 end
def uptoSmall : (H : Type) → List (DataW H) → Bool := fun _ ds => decide (uptoBulkAll ds ≤ 1048576)
def OpenSpec.upto (s : _root_.Go.ChangeSpec) : _root_.Go.OpenSpec := { _root_.Go.OpenSpec.ofChange s with cond := some uptoSmall }

/-- 'turnstilelaw03.SatDivides', WHERE WHAT IT READS IS OF BULK AT MOST 1048576: true; the input reads as it did. -/
def satDividesUptoRow : OpenClaim := { program := "ythnpgilknoiaaaa", sum := "213ea163174531b7fe96cf69019bcf85846f709fb6fc659cb7ea2f968f6299ec", func := "turnstile/turnstilelaw03.SatDivides", spec := "satDivides", inPlace := ["math/bits.Add64"], named := ["math/bits.divideError", "math/bits.overflowError"], apart := false, narrowed := true }
def SatDividesUptoSaid : Prop := satDividesUptoRow.holds Try.pinned (OpenSpec.upto satDividesSpec)

/-- 'turnstilelaw03.SatRing', WHERE WHAT IT READS IS OF BULK AT MOST 1048576: true; the input reads as it did. -/
def satRingUptoRow : OpenClaim := { program := "ythnpgilknoiaaaa", sum := "213ea163174531b7fe96cf69019bcf85846f709fb6fc659cb7ea2f968f6299ec", func := "turnstile/turnstilelaw03.SatRing", spec := "satRing", inPlace := ["math/bits.Add64", "math/bits.Sub64"], named := ["math/bits.divideError", "math/bits.overflowError"], apart := false, narrowed := true }
def SatRingUptoSaid : Prop := satRingUptoRow.holds Try.pinned (OpenSpec.upto satRingSpec)

/-- 'turnstilelaw03.SatOrder', WHERE WHAT IT READS IS OF BULK AT MOST 1048576: true; the input reads as it did. -/
def satOrderUptoRow : OpenClaim := { program := "ythnpgilknoiaaaa", sum := "213ea163174531b7fe96cf69019bcf85846f709fb6fc659cb7ea2f968f6299ec", func := "turnstile/turnstilelaw03.SatOrder", spec := "satOrder", inPlace := ["math/bits.Add64", "math/bits.Sub64"], named := ["math/bits.divideError", "math/bits.overflowError"], apart := false, narrowed := true }
def SatOrderUptoSaid : Prop := satOrderUptoRow.holds Try.pinned (OpenSpec.upto satOrderSpec)

/-- 'turnstilelaw03.SatExact', WHERE WHAT IT READS IS OF BULK AT MOST 1048576: true; the input reads as it did. -/
def satExactUptoRow : OpenClaim := { program := "ythnpgilknoiaaaa", sum := "213ea163174531b7fe96cf69019bcf85846f709fb6fc659cb7ea2f968f6299ec", func := "turnstile/turnstilelaw03.SatExact", spec := "satExact", inPlace := ["math/bits.Add64", "math/bits.Sub64"], named := ["math/bits.divideError", "math/bits.overflowError"], apart := false, narrowed := true }
def SatExactUptoSaid : Prop := satExactUptoRow.holds Try.pinned (OpenSpec.upto satExactSpec)

/-- 'turnstilelaw03.SatLadder', WHERE WHAT IT READS IS OF BULK AT MOST 1048576: true; the input reads as it did. -/
def satLadderUptoRow : OpenClaim := { program := "ythnpgilknoiaaaa", sum := "213ea163174531b7fe96cf69019bcf85846f709fb6fc659cb7ea2f968f6299ec", func := "turnstile/turnstilelaw03.SatLadder", spec := "satLadder", inPlace := ["math/bits.Add64", "math/bits.Sub64"], named := ["math/bits.divideError", "math/bits.overflowError"], apart := false, narrowed := true }
def SatLadderUptoSaid : Prop := satLadderUptoRow.holds Try.pinned (OpenSpec.upto satLadderSpec)

/-- 'turnstilelaw04.GcraAdmits', WHERE WHAT IT READS IS OF BULK AT MOST 1048576: true; the input reads as it did. -/
def gcraAdmitsUptoRow : OpenClaim := { program := "ythnpgilknoiaaaa", sum := "213ea163174531b7fe96cf69019bcf85846f709fb6fc659cb7ea2f968f6299ec", func := "turnstile/turnstilelaw04.GcraAdmits", spec := "gcraAdmits", inPlace := ["math/bits.Add64", "math/bits.Sub64"], named := ["math/bits.divideError", "math/bits.overflowError"], apart := false, narrowed := true }
def GcraAdmitsUptoSaid : Prop := gcraAdmitsUptoRow.holds Try.pinned (OpenSpec.upto gcraAdmitsSpec)

/-- 'turnstilelaw04.GcraRetries', WHERE WHAT IT READS IS OF BULK AT MOST 1048576: true; the input reads as it did. -/
def gcraRetriesUptoRow : OpenClaim := { program := "ythnpgilknoiaaaa", sum := "213ea163174531b7fe96cf69019bcf85846f709fb6fc659cb7ea2f968f6299ec", func := "turnstile/turnstilelaw04.GcraRetries", spec := "gcraRetries", inPlace := ["math/bits.Add64", "math/bits.Sub64"], named := ["math/bits.divideError", "math/bits.overflowError"], apart := false, narrowed := true }
def GcraRetriesUptoSaid : Prop := gcraRetriesUptoRow.holds Try.pinned (OpenSpec.upto gcraRetriesSpec)

/-- 'turnstilelaw04.GcraLeast', WHERE WHAT IT READS IS OF BULK AT MOST 1048576: true; the input reads as it did. -/
def gcraLeastUptoRow : OpenClaim := { program := "ythnpgilknoiaaaa", sum := "213ea163174531b7fe96cf69019bcf85846f709fb6fc659cb7ea2f968f6299ec", func := "turnstile/turnstilelaw04.GcraLeast", spec := "gcraLeast", inPlace := ["math/bits.Add64", "math/bits.Sub64"], named := ["math/bits.divideError", "math/bits.overflowError"], apart := false, narrowed := true }
def GcraLeastUptoSaid : Prop := gcraLeastUptoRow.holds Try.pinned (OpenSpec.upto gcraLeastSpec)

/-- 'turnstilelaw04.GcraMost', WHERE WHAT IT READS IS OF BULK AT MOST 1048576: true; the input reads as it did. -/
def gcraMostUptoRow : OpenClaim := { program := "ythnpgilknoiaaaa", sum := "213ea163174531b7fe96cf69019bcf85846f709fb6fc659cb7ea2f968f6299ec", func := "turnstile/turnstilelaw04.GcraMost", spec := "gcraMost", inPlace := ["math/bits.Add64", "math/bits.Sub64"], named := ["math/bits.divideError", "math/bits.overflowError"], apart := false, narrowed := true }
def GcraMostUptoSaid : Prop := gcraMostUptoRow.holds Try.pinned (OpenSpec.upto gcraMostSpec)

/-- 'turnstilelaw04.GcraSplits', WHERE WHAT IT READS IS OF BULK AT MOST 1048576: true; the input reads as it did. -/
def gcraSplitsUptoRow : OpenClaim := { program := "ythnpgilknoiaaaa", sum := "213ea163174531b7fe96cf69019bcf85846f709fb6fc659cb7ea2f968f6299ec", func := "turnstile/turnstilelaw04.GcraSplits", spec := "gcraSplits", inPlace := ["math/bits.Add64", "math/bits.Sub64"], named := ["math/bits.divideError", "math/bits.overflowError"], apart := false, narrowed := true }
def GcraSplitsUptoSaid : Prop := gcraSplitsUptoRow.holds Try.pinned (OpenSpec.upto gcraSplitsSpec)

/-- 'turnstilelaw04.GcraLesser', WHERE WHAT IT READS IS OF BULK AT MOST 1048576: true; the input reads as it did. -/
def gcraLesserUptoRow : OpenClaim := { program := "ythnpgilknoiaaaa", sum := "213ea163174531b7fe96cf69019bcf85846f709fb6fc659cb7ea2f968f6299ec", func := "turnstile/turnstilelaw04.GcraLesser", spec := "gcraLesser", inPlace := ["math/bits.Add64", "math/bits.Sub64"], named := ["math/bits.divideError", "math/bits.overflowError"], apart := false, narrowed := true }
def GcraLesserUptoSaid : Prop := gcraLesserUptoRow.holds Try.pinned (OpenSpec.upto gcraLesserSpec)

/-- 'turnstilelaw04.GcraIntervals', WHERE WHAT IT READS IS OF BULK AT MOST 1048576: true; the input reads as it did. -/
def gcraIntervalsUptoRow : OpenClaim := { program := "ythnpgilknoiaaaa", sum := "213ea163174531b7fe96cf69019bcf85846f709fb6fc659cb7ea2f968f6299ec", func := "turnstile/turnstilelaw04.GcraIntervals", spec := "gcraIntervals", inPlace := ["math/bits.Add64", "math/bits.Sub64"], named := ["math/bits.divideError", "math/bits.overflowError"], apart := false, narrowed := true }
def GcraIntervalsUptoSaid : Prop := gcraIntervalsUptoRow.holds Try.pinned (OpenSpec.upto gcraIntervalsSpec)

end Rows
end Go.Proofs.Ythnpgilknoiaaaa
