/-
  No cell of these rows narrows 'for every input' (looked for: loops, veiled, ifaces, maps, wideKeys, modest, calm, conditions, laid).
  DERIVED. THE GIVEN ROWS OF THIS SEAT. 6 by the template 'for every input the law returns true; each argument reads behind the call as it read before'; 0 by the template 'total and deterministic' (their statements: YtdoifmefhofnnaaTotals.lean).
  GIVEN WITH THE SEED: the statements are not yours to turn. If you find one false, say at which input.
  Laid BY PROGRAM, IN A SANDBOX (cutbox-rows.mjs): the forced cells as the released guide's own fill.sh prints them over the translation 3cc1a2c06081488c… (all of the seat's roots in one cut). By AI agents, Wed Nov 11 2026. No macro, syntax, notation, axiom, sorry.
-/
import Derived.Test.YtdoifmefhofnnaaChecked
import GoSem.Claim
import GoSem.ClaimJoined
import GoSem.ClaimMapViews
import Derived.JoinedTies
import Derived.KernelRfl
namespace Go.Proofs.Ytdoifmefhofnnaa
/- THE CELL 'sum', in the pinned program and in every row, IS THE sha256 OF THE DUMP (.gsa) THAT YtdoifmefhofnnaaProg.lean LOADS. Nothing in Lean hashes anything: it is a label: what it is worth is what the hold of that sum in a sandbox is worth. -/
noncomputable def Try.pinned : Pinned := { name := "ytdoifmefhofnnaa", sum := "3cc1a2c06081488cac96057e3616b731c51bf7bacb0493f1c26b6cde1a94dce8", checked := Try.checked }
namespace Rows
def none {H : Type} : Left H := { results := [], args := [] }

/-- 'turnstilelaw24.AuditJudges': WHATEVER THE INPUT: true; the input reads as it did. -/
def auditJudgesSpec : ChangeSpec := { name := "auditJudges", fn := fun _ => fun
  | [d1, d2, d3] => { results := [.lit (.bool true)], args := [d1, d2, d3] }
  | _ => none }
def auditJudgesRow : OpenClaim := { program := "ytdoifmefhofnnaa", sum := "3cc1a2c06081488cac96057e3616b731c51bf7bacb0493f1c26b6cde1a94dce8", func := "turnstile/turnstilelaw24.AuditJudges", spec := "auditJudges", inPlace := ["math/bits.Add64", "math/bits.Sub64"], unfollowed := true, recurses := true, named := ["math/bits.divideError", "math/bits.overflowError"], apart := false }
def AuditJudgesSaid : Prop := auditJudgesRow.holds Try.pinned (OpenSpec.ofChange auditJudgesSpec)

/-- ITS FALSE NEIGHBOUR: 'it returns false'. Refute it at one input. -/
def auditJudgesWrong : ChangeSpec := { name := "auditJudges", fn := fun _ => fun
  | [d1, d2, d3] => { results := [.lit (.bool false)], args := [d1, d2, d3] }
  | _ => none }
def AuditJudgesWrongFalsely : Prop := auditJudgesRow.holds Try.pinned (OpenSpec.ofChange auditJudgesWrong)

/-- 'turnstilelaw24.AuditLines': WHATEVER THE INPUT: true; the input reads as it did. -/
def auditLinesSpec : ChangeSpec := { name := "auditLines", fn := fun _ => fun
  | [d] => { results := [.lit (.bool true)], args := [d] }
  | _ => none }
def auditLinesRow : OpenClaim := { program := "ytdoifmefhofnnaa", sum := "3cc1a2c06081488cac96057e3616b731c51bf7bacb0493f1c26b6cde1a94dce8", func := "turnstile/turnstilelaw24.AuditLines", spec := "auditLines", inPlace := ["math/bits.Add64", "math/bits.Sub64"], unfollowed := true, recurses := true, named := ["math/bits.divideError", "math/bits.overflowError"], apart := false }
def AuditLinesSaid : Prop := auditLinesRow.holds Try.pinned (OpenSpec.ofChange auditLinesSpec)

/-- ITS FALSE NEIGHBOUR: 'it returns false'. Refute it at one input. -/
def auditLinesWrong : ChangeSpec := { name := "auditLines", fn := fun _ => fun
  | [d] => { results := [.lit (.bool false)], args := [d] }
  | _ => none }
def AuditLinesWrongFalsely : Prop := auditLinesRow.holds Try.pinned (OpenSpec.ofChange auditLinesWrong)

/-- 'turnstilelaw24.AuditSplits': WHATEVER THE INPUT: true; the input reads as it did. -/
def auditSplitsSpec : ChangeSpec := { name := "auditSplits", fn := fun _ => fun
  | [d] => { results := [.lit (.bool true)], args := [d] }
  | _ => none }
def auditSplitsRow : OpenClaim := { program := "ytdoifmefhofnnaa", sum := "3cc1a2c06081488cac96057e3616b731c51bf7bacb0493f1c26b6cde1a94dce8", func := "turnstile/turnstilelaw24.AuditSplits", spec := "auditSplits", inPlace := ["math/bits.Add64", "math/bits.Sub64"], unfollowed := true, recurses := true, named := ["math/bits.divideError", "math/bits.overflowError"], apart := false }
def AuditSplitsSaid : Prop := auditSplitsRow.holds Try.pinned (OpenSpec.ofChange auditSplitsSpec)

/-- ITS FALSE NEIGHBOUR: 'it returns false'. Refute it at one input. -/
def auditSplitsWrong : ChangeSpec := { name := "auditSplits", fn := fun _ => fun
  | [d] => { results := [.lit (.bool false)], args := [d] }
  | _ => none }
def AuditSplitsWrongFalsely : Prop := auditSplitsRow.holds Try.pinned (OpenSpec.ofChange auditSplitsWrong)

/-- 'turnstilelaw24.AuditTwo': WHATEVER THE INPUT: true; the input reads as it did. -/
def auditTwoSpec : ChangeSpec := { name := "auditTwo", fn := fun _ => fun
  | [d1, d2, d3] => { results := [.lit (.bool true)], args := [d1, d2, d3] }
  | _ => none }
def auditTwoRow : OpenClaim := { program := "ytdoifmefhofnnaa", sum := "3cc1a2c06081488cac96057e3616b731c51bf7bacb0493f1c26b6cde1a94dce8", func := "turnstile/turnstilelaw24.AuditTwo", spec := "auditTwo", inPlace := ["math/bits.Add64", "math/bits.Sub64"], unfollowed := true, recurses := true, named := ["math/bits.divideError", "math/bits.overflowError"], apart := false }
def AuditTwoSaid : Prop := auditTwoRow.holds Try.pinned (OpenSpec.ofChange auditTwoSpec)

/-- ITS FALSE NEIGHBOUR: 'it returns false'. Refute it at one input. -/
def auditTwoWrong : ChangeSpec := { name := "auditTwo", fn := fun _ => fun
  | [d1, d2, d3] => { results := [.lit (.bool false)], args := [d1, d2, d3] }
  | _ => none }
def AuditTwoWrongFalsely : Prop := auditTwoRow.holds Try.pinned (OpenSpec.ofChange auditTwoWrong)

/-- 'turnstilelaw24.AuditGrows': WHATEVER THE INPUT: true; the input reads as it did. -/
def auditGrowsSpec : ChangeSpec := { name := "auditGrows", fn := fun _ => fun
  | [d] => { results := [.lit (.bool true)], args := [d] }
  | _ => none }
def auditGrowsRow : OpenClaim := { program := "ytdoifmefhofnnaa", sum := "3cc1a2c06081488cac96057e3616b731c51bf7bacb0493f1c26b6cde1a94dce8", func := "turnstile/turnstilelaw24.AuditGrows", spec := "auditGrows", inPlace := ["math/bits.Add64", "math/bits.Sub64"], unfollowed := true, recurses := true, named := ["math/bits.divideError", "math/bits.overflowError"], apart := false }
def AuditGrowsSaid : Prop := auditGrowsRow.holds Try.pinned (OpenSpec.ofChange auditGrowsSpec)

/-- ITS FALSE NEIGHBOUR: 'it returns false'. Refute it at one input. -/
def auditGrowsWrong : ChangeSpec := { name := "auditGrows", fn := fun _ => fun
  | [d] => { results := [.lit (.bool false)], args := [d] }
  | _ => none }
def AuditGrowsWrongFalsely : Prop := auditGrowsRow.holds Try.pinned (OpenSpec.ofChange auditGrowsWrong)

/-- 'turnstilelaw24.AuditAdmits': WHATEVER THE INPUT: true; the input reads as it did. -/
def auditAdmitsSpec : ChangeSpec := { name := "auditAdmits", fn := fun _ => fun
  | [d1, d2] => { results := [.lit (.bool true)], args := [d1, d2] }
  | _ => none }
def auditAdmitsRow : OpenClaim := { program := "ytdoifmefhofnnaa", sum := "3cc1a2c06081488cac96057e3616b731c51bf7bacb0493f1c26b6cde1a94dce8", func := "turnstile/turnstilelaw24.AuditAdmits", spec := "auditAdmits", inPlace := ["math/bits.Add64", "math/bits.Sub64"], unfollowed := true, recurses := true, named := ["math/bits.divideError", "math/bits.overflowError"], apart := false }
def AuditAdmitsSaid : Prop := auditAdmitsRow.holds Try.pinned (OpenSpec.ofChange auditAdmitsSpec)

/-- ITS FALSE NEIGHBOUR: 'it returns false'. Refute it at one input. -/
def auditAdmitsWrong : ChangeSpec := { name := "auditAdmits", fn := fun _ => fun
  | [d1, d2] => { results := [.lit (.bool false)], args := [d1, d2] }
  | _ => none }
def AuditAdmitsWrongFalsely : Prop := auditAdmitsRow.holds Try.pinned (OpenSpec.ofChange auditAdmitsWrong)

/- THE SECOND FORM. 'bulk': how many values and letters a reading holds, each counted each time it is reached (what is shared counts as often as it is met; a slice's spare places count too). A statement '..UptoSaid' is the law's where the arguments, and the package variables that the reading takes, are together of bulk at most 1048576: NARROWER than '..Said'. Prove '..Said' where nothing that the law and all that it calls make is longer than what came in: it says more and counts as full. Else prove '..UptoSaid'. A law counts once. -/
mutual
def uptoBulk {H : Type} : DataW H → Nat
  | .lit (.string bytes) => bytes.length + 1
  | .lit _ => 1
  | .nil => 1
  | .ptr d => uptoBulk d + 1
  | .slice elems spare => uptoBulkAll elems + uptoBulkAll spare + 1
  | .agg parts => uptoBulkAll parts + 1
  | .iface _ d => uptoBulk d + 1
  | .map entries => uptoBulkEntries entries + 1
  | .held _ => 1
def uptoBulkAll {H : Type} : List (DataW H) → Nat
  | [] => 0
  | d :: r => uptoBulk d + uptoBulkAll r
def uptoBulkEntries {H : Type} : List (Lit × DataW H) → Nat
  | [] => 0
  | x :: r => uptoBulkEntry x + uptoBulkEntries r
def uptoBulkEntry {H : Type} : Lit × DataW H → Nat
  | (.string bytes, d) => bytes.length + uptoBulk d + 1
  | (_, d) => uptoBulk d + 1
 end
def uptoSmall : (H : Type) → List (DataW H) → Bool := fun _ ds => decide (uptoBulkAll ds ≤ 1048576)
def OpenSpec.upto (s : _root_.Go.ChangeSpec) : _root_.Go.OpenSpec := { _root_.Go.OpenSpec.ofChange s with cond := some uptoSmall }

/-- 'turnstilelaw24.AuditJudges', WHERE WHAT IT READS IS OF BULK AT MOST 1048576: true; the input reads as it did. -/
def auditJudgesUptoRow : OpenClaim := { program := "ytdoifmefhofnnaa", sum := "3cc1a2c06081488cac96057e3616b731c51bf7bacb0493f1c26b6cde1a94dce8", func := "turnstile/turnstilelaw24.AuditJudges", spec := "auditJudges", inPlace := ["math/bits.Add64", "math/bits.Sub64"], unfollowed := true, recurses := true, named := ["math/bits.divideError", "math/bits.overflowError"], apart := false, narrowed := true }
def AuditJudgesUptoSaid : Prop := auditJudgesUptoRow.holds Try.pinned (OpenSpec.upto auditJudgesSpec)

/-- 'turnstilelaw24.AuditLines', WHERE WHAT IT READS IS OF BULK AT MOST 1048576: true; the input reads as it did. -/
def auditLinesUptoRow : OpenClaim := { program := "ytdoifmefhofnnaa", sum := "3cc1a2c06081488cac96057e3616b731c51bf7bacb0493f1c26b6cde1a94dce8", func := "turnstile/turnstilelaw24.AuditLines", spec := "auditLines", inPlace := ["math/bits.Add64", "math/bits.Sub64"], unfollowed := true, recurses := true, named := ["math/bits.divideError", "math/bits.overflowError"], apart := false, narrowed := true }
def AuditLinesUptoSaid : Prop := auditLinesUptoRow.holds Try.pinned (OpenSpec.upto auditLinesSpec)

/-- 'turnstilelaw24.AuditSplits', WHERE WHAT IT READS IS OF BULK AT MOST 1048576: true; the input reads as it did. -/
def auditSplitsUptoRow : OpenClaim := { program := "ytdoifmefhofnnaa", sum := "3cc1a2c06081488cac96057e3616b731c51bf7bacb0493f1c26b6cde1a94dce8", func := "turnstile/turnstilelaw24.AuditSplits", spec := "auditSplits", inPlace := ["math/bits.Add64", "math/bits.Sub64"], unfollowed := true, recurses := true, named := ["math/bits.divideError", "math/bits.overflowError"], apart := false, narrowed := true }
def AuditSplitsUptoSaid : Prop := auditSplitsUptoRow.holds Try.pinned (OpenSpec.upto auditSplitsSpec)

/-- 'turnstilelaw24.AuditTwo', WHERE WHAT IT READS IS OF BULK AT MOST 1048576: true; the input reads as it did. -/
def auditTwoUptoRow : OpenClaim := { program := "ytdoifmefhofnnaa", sum := "3cc1a2c06081488cac96057e3616b731c51bf7bacb0493f1c26b6cde1a94dce8", func := "turnstile/turnstilelaw24.AuditTwo", spec := "auditTwo", inPlace := ["math/bits.Add64", "math/bits.Sub64"], unfollowed := true, recurses := true, named := ["math/bits.divideError", "math/bits.overflowError"], apart := false, narrowed := true }
def AuditTwoUptoSaid : Prop := auditTwoUptoRow.holds Try.pinned (OpenSpec.upto auditTwoSpec)

/-- 'turnstilelaw24.AuditGrows', WHERE WHAT IT READS IS OF BULK AT MOST 1048576: true; the input reads as it did. -/
def auditGrowsUptoRow : OpenClaim := { program := "ytdoifmefhofnnaa", sum := "3cc1a2c06081488cac96057e3616b731c51bf7bacb0493f1c26b6cde1a94dce8", func := "turnstile/turnstilelaw24.AuditGrows", spec := "auditGrows", inPlace := ["math/bits.Add64", "math/bits.Sub64"], unfollowed := true, recurses := true, named := ["math/bits.divideError", "math/bits.overflowError"], apart := false, narrowed := true }
def AuditGrowsUptoSaid : Prop := auditGrowsUptoRow.holds Try.pinned (OpenSpec.upto auditGrowsSpec)

/-- 'turnstilelaw24.AuditAdmits', WHERE WHAT IT READS IS OF BULK AT MOST 1048576: true; the input reads as it did. -/
def auditAdmitsUptoRow : OpenClaim := { program := "ytdoifmefhofnnaa", sum := "3cc1a2c06081488cac96057e3616b731c51bf7bacb0493f1c26b6cde1a94dce8", func := "turnstile/turnstilelaw24.AuditAdmits", spec := "auditAdmits", inPlace := ["math/bits.Add64", "math/bits.Sub64"], unfollowed := true, recurses := true, named := ["math/bits.divideError", "math/bits.overflowError"], apart := false, narrowed := true }
def AuditAdmitsUptoSaid : Prop := auditAdmitsUptoRow.holds Try.pinned (OpenSpec.upto auditAdmitsSpec)

end Rows
end Go.Proofs.Ytdoifmefhofnnaa
