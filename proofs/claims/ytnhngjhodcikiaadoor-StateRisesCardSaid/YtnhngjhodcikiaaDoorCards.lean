/-
  DERIVED. GIVEN WITH THE SEED: THE CARDS: each row of YtnhngjhodcikiaaDoorRows.lean that lists a variable, with what it lists TIED to the program's text (the seventh form; the later family's looks); each row that meets fmt, with fmt's text TOLD by the authors' own Lean function (tested against real Go, not proved from fmt's source: count such statements apart). THE CARD IS WHAT COUNTS. Prove the row's statement (the work); the ties are given (YtnhngjhodcikiaaDoorTie.lean); close each card by the builder's one call (the guide's Derived/Test/ToyasCard.lean, 'card_holds'). Laid BY PROGRAM, IN A SANDBOX (cutbox-door.mjs). By AI agents, Wed Nov 11 2026. No macro, syntax, notation, axiom, sorry.
-/
import Derived.Test.YtnhngjhodcikiaaDoorRows
import GoSem.ClaimSeven
namespace Go.Proofs.YtnhngjhodcikiaaDoor
namespace Rows

/-- THE TIED CARD OF 'turnstilelaw13.StateLooks'. -/
def stateLooksCard : Claim7 := { stood := { row := stateLooksRow, standIns := [], harness := (true, "00ddff03c24a76b8ce2c087247543664d044661dd1167d447cc4cbb761bb5826"), looks := true }, kinds := [], alts := [], laidByText := true, laidKinds := [.sentinel, .sentinel, .sentinel], laidTests := true, laidLooks := .later }
def StateLooksCardSaid : Prop := Claim7.holds Tryd.pinned (.plain (OpenSpec.ofChange stateLooksSpec)) stateLooksCard

/-- THE TIED CARD OF 'turnstilelaw13.StateApplies'. -/
def stateAppliesCard : Claim7 := { stood := { row := stateAppliesRow, standIns := [], harness := (true, "00ddff03c24a76b8ce2c087247543664d044661dd1167d447cc4cbb761bb5826"), looks := true }, kinds := [], alts := [], laidByText := true, laidKinds := [.sentinel, .sentinel, .sentinel, .sentinel, .sentinel, .sentinel, .sentinel, .sentinel, .sentinel, .sentinel, .sentinel, .sentinel, .sentinel, .sentinel, .sentinel], laidTests := true, laidLooks := .later }
def StateAppliesCardSaid : Prop := Claim7.holds Tryd.pinned (.plain (OpenSpec.ofChange stateAppliesSpec)) stateAppliesCard

/-- THE TIED CARD OF 'turnstilelaw13.StateReplays'. -/
def stateReplaysCard : Claim7 := { stood := { row := stateReplaysRow, standIns := [], harness := (true, "00ddff03c24a76b8ce2c087247543664d044661dd1167d447cc4cbb761bb5826"), looks := true }, kinds := [], alts := [], laidByText := true, laidKinds := [.sentinel, .sentinel, .sentinel, .sentinel, .sentinel, .sentinel, .sentinel, .sentinel, .sentinel, .sentinel, .sentinel, .sentinel, .sentinel, .sentinel, .sentinel], laidTests := true, laidLooks := .later }
def StateReplaysCardSaid : Prop := Claim7.holds Tryd.pinned (.plain (OpenSpec.ofChange stateReplaysSpec)) stateReplaysCard

/-- THE TIED CARD OF 'turnstilelaw13.StateRises'. -/
def stateRisesCard : Claim7 := { stood := { row := stateRisesRow, standIns := [], harness := (true, "00ddff03c24a76b8ce2c087247543664d044661dd1167d447cc4cbb761bb5826"), looks := true }, kinds := [], alts := [], laidByText := true, laidKinds := [.sentinel, .sentinel, .sentinel], laidTests := true, laidLooks := .later }
def StateRisesCardSaid : Prop := Claim7.holds Tryd.pinned (.plain (OpenSpec.ofChange stateRisesSpec)) stateRisesCard

/-- THE TIED CARD OF 'turnstilelaw13.StateFinds'. -/
def stateFindsCard : Claim7 := { stood := { row := stateFindsRow, standIns := [], harness := (true, "00ddff03c24a76b8ce2c087247543664d044661dd1167d447cc4cbb761bb5826"), looks := true }, kinds := [], alts := [], laidByText := true, laidKinds := [.sentinel, .sentinel, .sentinel], laidTests := true, laidLooks := .later }
def StateFindsCardSaid : Prop := Claim7.holds Tryd.pinned (.plain (OpenSpec.ofChange stateFindsSpec)) stateFindsCard

/-- THE SECOND FORM's CARD OF 'turnstilelaw13.StateLooks'. -/
def stateLooksUptoCard : Claim7 := { stood := { row := stateLooksUptoRow, standIns := [], harness := (true, "00ddff03c24a76b8ce2c087247543664d044661dd1167d447cc4cbb761bb5826"), looks := true }, kinds := [], alts := [], laidByText := true, laidKinds := [.sentinel, .sentinel, .sentinel], laidTests := true, laidLooks := .later }
def StateLooksUptoCardSaid : Prop := Claim7.holds Tryd.pinned (.plain (OpenSpec.upto stateLooksSpec)) stateLooksUptoCard

/-- THE SECOND FORM's CARD OF 'turnstilelaw13.StateApplies'. -/
def stateAppliesUptoCard : Claim7 := { stood := { row := stateAppliesUptoRow, standIns := [], harness := (true, "00ddff03c24a76b8ce2c087247543664d044661dd1167d447cc4cbb761bb5826"), looks := true }, kinds := [], alts := [], laidByText := true, laidKinds := [.sentinel, .sentinel, .sentinel, .sentinel, .sentinel, .sentinel, .sentinel, .sentinel, .sentinel, .sentinel, .sentinel, .sentinel, .sentinel, .sentinel, .sentinel], laidTests := true, laidLooks := .later }
def StateAppliesUptoCardSaid : Prop := Claim7.holds Tryd.pinned (.plain (OpenSpec.upto stateAppliesSpec)) stateAppliesUptoCard

/-- THE SECOND FORM's CARD OF 'turnstilelaw13.StateReplays'. -/
def stateReplaysUptoCard : Claim7 := { stood := { row := stateReplaysUptoRow, standIns := [], harness := (true, "00ddff03c24a76b8ce2c087247543664d044661dd1167d447cc4cbb761bb5826"), looks := true }, kinds := [], alts := [], laidByText := true, laidKinds := [.sentinel, .sentinel, .sentinel, .sentinel, .sentinel, .sentinel, .sentinel, .sentinel, .sentinel, .sentinel, .sentinel, .sentinel, .sentinel, .sentinel, .sentinel], laidTests := true, laidLooks := .later }
def StateReplaysUptoCardSaid : Prop := Claim7.holds Tryd.pinned (.plain (OpenSpec.upto stateReplaysSpec)) stateReplaysUptoCard

/-- THE SECOND FORM's CARD OF 'turnstilelaw13.StateRises'. -/
def stateRisesUptoCard : Claim7 := { stood := { row := stateRisesUptoRow, standIns := [], harness := (true, "00ddff03c24a76b8ce2c087247543664d044661dd1167d447cc4cbb761bb5826"), looks := true }, kinds := [], alts := [], laidByText := true, laidKinds := [.sentinel, .sentinel, .sentinel], laidTests := true, laidLooks := .later }
def StateRisesUptoCardSaid : Prop := Claim7.holds Tryd.pinned (.plain (OpenSpec.upto stateRisesSpec)) stateRisesUptoCard

/-- THE SECOND FORM's CARD OF 'turnstilelaw13.StateFinds'. -/
def stateFindsUptoCard : Claim7 := { stood := { row := stateFindsUptoRow, standIns := [], harness := (true, "00ddff03c24a76b8ce2c087247543664d044661dd1167d447cc4cbb761bb5826"), looks := true }, kinds := [], alts := [], laidByText := true, laidKinds := [.sentinel, .sentinel, .sentinel], laidTests := true, laidLooks := .later }
def StateFindsUptoCardSaid : Prop := Claim7.holds Tryd.pinned (.plain (OpenSpec.upto stateFindsSpec)) stateFindsUptoCard
end Rows
end Go.Proofs.YtnhngjhodcikiaaDoor
