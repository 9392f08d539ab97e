/-
  DERIVED. GIVEN WITH THE SEED: THE CARDS: each row of YtkgjepmminmjjaaDoorRows.lean that lists a variable, with what it lists TIED to the program's text (the seventh form; the later family's looks); each row that meets fmt, with fmt's text TOLD by the authors' own Lean function (tested against real Go, not proved from fmt's source: count such statements apart). THE CARD IS WHAT COUNTS. Prove the row's statement (the work); the ties are given (YtkgjepmminmjjaaDoorTie.lean); close each card by the builder's one call (the guide's Derived/Test/ToyasCard.lean, 'card_holds'). Laid BY PROGRAM, IN A SANDBOX (cutbox-door.mjs). By AI agents, Wed Nov 11 2026. No macro, syntax, notation, axiom, sorry.
-/
import Derived.Test.YtkgjepmminmjjaaDoorRows
import GoSem.ClaimSeven
namespace Go.Proofs.YtkgjepmminmjjaaDoor
namespace Rows

/-- THE TIED CARD OF 'turnstilelaw11.RecordAll'. -/
def recordAllCard : Claim7 := { stood := { row := recordAllRow, standIns := [], harness := (true, "c581b5ced47ae486fdfeb87d19a4737dd2e7a2dafb5cb1c6791470df2ac6f968"), looks := true }, kinds := [], alts := [], laidByText := true, laidKinds := [.sentinel, .sentinel, .sentinel, .sentinel, .sentinel, .sentinel, .sentinel, .sentinel, .sentinel, .sentinel, .sentinel, .sentinel, .sentinel, .sentinel, .sentinel], laidTests := true, laidLooks := .later }
def RecordAllCardSaid : Prop := Claim7.holds Tryd.pinned (.plain (OpenSpec.ofChange recordAllSpec)) recordAllCard

/-- THE TIED CARD OF 'turnstilelaw11.RecordBack'. -/
def recordBackCard : Claim7 := { stood := { row := recordBackRow, standIns := [], harness := (true, "c581b5ced47ae486fdfeb87d19a4737dd2e7a2dafb5cb1c6791470df2ac6f968"), looks := true }, kinds := [], alts := [], laidByText := true, laidKinds := [.sentinel, .sentinel, .sentinel, .sentinel, .sentinel], laidTests := true, laidLooks := .later }
def RecordBackCardSaid : Prop := Claim7.holds Tryd.pinned (.plain (OpenSpec.ofChange recordBackSpec)) recordBackCard

/-- THE TIED CARD OF 'turnstilelaw11.RecordForth'. -/
def recordForthCard : Claim7 := { stood := { row := recordForthRow, standIns := [], harness := (true, "c581b5ced47ae486fdfeb87d19a4737dd2e7a2dafb5cb1c6791470df2ac6f968"), looks := true }, kinds := [], alts := [], laidByText := true, laidKinds := [.sentinel, .sentinel, .sentinel, .sentinel, .sentinel], laidTests := true, laidLooks := .later }
def RecordForthCardSaid : Prop := Claim7.holds Tryd.pinned (.plain (OpenSpec.ofChange recordForthSpec)) recordForthCard

/-- THE TIED CARD OF 'turnstilelaw11.RecordCuts'. -/
def recordCutsCard : Claim7 := { stood := { row := recordCutsRow, standIns := [], harness := (true, "c581b5ced47ae486fdfeb87d19a4737dd2e7a2dafb5cb1c6791470df2ac6f968"), looks := true }, kinds := [], alts := [], laidByText := true, laidKinds := [.sentinel, .sentinel, .sentinel, .sentinel, .sentinel], laidTests := true, laidLooks := .later }
def RecordCutsCardSaid : Prop := Claim7.holds Tryd.pinned (.plain (OpenSpec.ofChange recordCutsSpec)) recordCutsCard

/-- THE TIED CARD OF 'turnstilelaw11.RecordValid'. -/
def recordValidCard : Claim7 := { stood := { row := recordValidRow, standIns := [], harness := (true, "c581b5ced47ae486fdfeb87d19a4737dd2e7a2dafb5cb1c6791470df2ac6f968"), looks := true }, kinds := [], alts := [], laidByText := true, laidKinds := [.sentinel, .sentinel, .sentinel, .sentinel, .sentinel], laidTests := true, laidLooks := .later }
def RecordValidCardSaid : Prop := Claim7.holds Tryd.pinned (.plain (OpenSpec.ofChange recordValidSpec)) recordValidCard

/-- THE TIED CARD OF 'turnstilelaw14.ImageAll'. -/
def imageAllCard : Claim7 := { stood := { row := imageAllRow, standIns := [], harness := (true, "c581b5ced47ae486fdfeb87d19a4737dd2e7a2dafb5cb1c6791470df2ac6f968"), looks := true }, kinds := [], alts := [], laidByText := true, laidKinds := [.data, .sentinel, .sentinel, .sentinel, .sentinel, .sentinel, .sentinel, .sentinel, .sentinel, .sentinel, .sentinel, .sentinel, .sentinel, .sentinel, .sentinel, .sentinel], laidTests := true, laidLooks := .later }
def ImageAllCardSaid : Prop := Claim7.holds Tryd.pinned (.plain (OpenSpec.ofChange imageAllSpec)) imageAllCard

/-- THE TIED CARD OF 'turnstilelaw14.ImageBack'. -/
def imageBackCard : Claim7 := { stood := { row := imageBackRow, standIns := [], harness := (true, "c581b5ced47ae486fdfeb87d19a4737dd2e7a2dafb5cb1c6791470df2ac6f968"), looks := true }, kinds := [], alts := [], laidByText := true, laidKinds := [.data, .sentinel, .sentinel, .sentinel, .sentinel, .sentinel, .sentinel], laidTests := true, laidLooks := .later }
def ImageBackCardSaid : Prop := Claim7.holds Tryd.pinned (.plain (OpenSpec.ofChange imageBackSpec)) imageBackCard

/-- THE TIED CARD OF 'turnstilelaw14.ImageForth'. -/
def imageForthCard : Claim7 := { stood := { row := imageForthRow, standIns := [], harness := (true, "c581b5ced47ae486fdfeb87d19a4737dd2e7a2dafb5cb1c6791470df2ac6f968"), looks := true }, kinds := [], alts := [], laidByText := true, laidKinds := [.data, .sentinel, .sentinel, .sentinel, .sentinel, .sentinel, .sentinel], laidTests := true, laidLooks := .later }
def ImageForthCardSaid : Prop := Claim7.holds Tryd.pinned (.plain (OpenSpec.ofChange imageForthSpec)) imageForthCard

/-- THE TIED CARD OF 'turnstilelaw14.ImageTurned'. -/
def imageTurnedCard : Claim7 := { stood := { row := imageTurnedRow, standIns := [], harness := (true, "c581b5ced47ae486fdfeb87d19a4737dd2e7a2dafb5cb1c6791470df2ac6f968"), looks := true }, kinds := [], alts := [], laidByText := true, laidKinds := [.data, .sentinel, .sentinel, .sentinel, .sentinel, .sentinel, .sentinel], laidTests := true, laidLooks := .later }
def ImageTurnedCardSaid : Prop := Claim7.holds Tryd.pinned (.plain (OpenSpec.ofChange imageTurnedSpec)) imageTurnedCard

/-- THE TIED CARD OF 'turnstilelaw14.ImageUnlike'. -/
def imageUnlikeCard : Claim7 := { stood := { row := imageUnlikeRow, standIns := [], harness := (true, "c581b5ced47ae486fdfeb87d19a4737dd2e7a2dafb5cb1c6791470df2ac6f968"), looks := true }, kinds := [], alts := [], laidByText := true, laidKinds := [.data, .sentinel, .sentinel, .sentinel, .sentinel, .sentinel, .sentinel], laidTests := true, laidLooks := .later }
def ImageUnlikeCardSaid : Prop := Claim7.holds Tryd.pinned (.plain (OpenSpec.ofChange imageUnlikeSpec)) imageUnlikeCard

/-- THE SECOND FORM's CARD OF 'turnstilelaw11.RecordAll'. -/
def recordAllUptoCard : Claim7 := { stood := { row := recordAllUptoRow, standIns := [], harness := (true, "c581b5ced47ae486fdfeb87d19a4737dd2e7a2dafb5cb1c6791470df2ac6f968"), looks := true }, kinds := [], alts := [], laidByText := true, laidKinds := [.sentinel, .sentinel, .sentinel, .sentinel, .sentinel, .sentinel, .sentinel, .sentinel, .sentinel, .sentinel, .sentinel, .sentinel, .sentinel, .sentinel, .sentinel], laidTests := true, laidLooks := .later }
def RecordAllUptoCardSaid : Prop := Claim7.holds Tryd.pinned (.plain (OpenSpec.upto recordAllSpec)) recordAllUptoCard

/-- THE SECOND FORM's CARD OF 'turnstilelaw11.RecordBack'. -/
def recordBackUptoCard : Claim7 := { stood := { row := recordBackUptoRow, standIns := [], harness := (true, "c581b5ced47ae486fdfeb87d19a4737dd2e7a2dafb5cb1c6791470df2ac6f968"), looks := true }, kinds := [], alts := [], laidByText := true, laidKinds := [.sentinel, .sentinel, .sentinel, .sentinel, .sentinel], laidTests := true, laidLooks := .later }
def RecordBackUptoCardSaid : Prop := Claim7.holds Tryd.pinned (.plain (OpenSpec.upto recordBackSpec)) recordBackUptoCard

/-- THE SECOND FORM's CARD OF 'turnstilelaw11.RecordForth'. -/
def recordForthUptoCard : Claim7 := { stood := { row := recordForthUptoRow, standIns := [], harness := (true, "c581b5ced47ae486fdfeb87d19a4737dd2e7a2dafb5cb1c6791470df2ac6f968"), looks := true }, kinds := [], alts := [], laidByText := true, laidKinds := [.sentinel, .sentinel, .sentinel, .sentinel, .sentinel], laidTests := true, laidLooks := .later }
def RecordForthUptoCardSaid : Prop := Claim7.holds Tryd.pinned (.plain (OpenSpec.upto recordForthSpec)) recordForthUptoCard

/-- THE SECOND FORM's CARD OF 'turnstilelaw11.RecordCuts'. -/
def recordCutsUptoCard : Claim7 := { stood := { row := recordCutsUptoRow, standIns := [], harness := (true, "c581b5ced47ae486fdfeb87d19a4737dd2e7a2dafb5cb1c6791470df2ac6f968"), looks := true }, kinds := [], alts := [], laidByText := true, laidKinds := [.sentinel, .sentinel, .sentinel, .sentinel, .sentinel], laidTests := true, laidLooks := .later }
def RecordCutsUptoCardSaid : Prop := Claim7.holds Tryd.pinned (.plain (OpenSpec.upto recordCutsSpec)) recordCutsUptoCard

/-- THE SECOND FORM's CARD OF 'turnstilelaw11.RecordValid'. -/
def recordValidUptoCard : Claim7 := { stood := { row := recordValidUptoRow, standIns := [], harness := (true, "c581b5ced47ae486fdfeb87d19a4737dd2e7a2dafb5cb1c6791470df2ac6f968"), looks := true }, kinds := [], alts := [], laidByText := true, laidKinds := [.sentinel, .sentinel, .sentinel, .sentinel, .sentinel], laidTests := true, laidLooks := .later }
def RecordValidUptoCardSaid : Prop := Claim7.holds Tryd.pinned (.plain (OpenSpec.upto recordValidSpec)) recordValidUptoCard

/-- THE SECOND FORM's CARD OF 'turnstilelaw14.ImageAll'. -/
def imageAllUptoCard : Claim7 := { stood := { row := imageAllUptoRow, standIns := [], harness := (true, "c581b5ced47ae486fdfeb87d19a4737dd2e7a2dafb5cb1c6791470df2ac6f968"), looks := true }, kinds := [], alts := [], laidByText := true, laidKinds := [.data, .sentinel, .sentinel, .sentinel, .sentinel, .sentinel, .sentinel, .sentinel, .sentinel, .sentinel, .sentinel, .sentinel, .sentinel, .sentinel, .sentinel, .sentinel], laidTests := true, laidLooks := .later }
def ImageAllUptoCardSaid : Prop := Claim7.holds Tryd.pinned (.plain (OpenSpec.upto imageAllSpec)) imageAllUptoCard

/-- THE SECOND FORM's CARD OF 'turnstilelaw14.ImageBack'. -/
def imageBackUptoCard : Claim7 := { stood := { row := imageBackUptoRow, standIns := [], harness := (true, "c581b5ced47ae486fdfeb87d19a4737dd2e7a2dafb5cb1c6791470df2ac6f968"), looks := true }, kinds := [], alts := [], laidByText := true, laidKinds := [.data, .sentinel, .sentinel, .sentinel, .sentinel, .sentinel, .sentinel], laidTests := true, laidLooks := .later }
def ImageBackUptoCardSaid : Prop := Claim7.holds Tryd.pinned (.plain (OpenSpec.upto imageBackSpec)) imageBackUptoCard

/-- THE SECOND FORM's CARD OF 'turnstilelaw14.ImageForth'. -/
def imageForthUptoCard : Claim7 := { stood := { row := imageForthUptoRow, standIns := [], harness := (true, "c581b5ced47ae486fdfeb87d19a4737dd2e7a2dafb5cb1c6791470df2ac6f968"), looks := true }, kinds := [], alts := [], laidByText := true, laidKinds := [.data, .sentinel, .sentinel, .sentinel, .sentinel, .sentinel, .sentinel], laidTests := true, laidLooks := .later }
def ImageForthUptoCardSaid : Prop := Claim7.holds Tryd.pinned (.plain (OpenSpec.upto imageForthSpec)) imageForthUptoCard

/-- THE SECOND FORM's CARD OF 'turnstilelaw14.ImageTurned'. -/
def imageTurnedUptoCard : Claim7 := { stood := { row := imageTurnedUptoRow, standIns := [], harness := (true, "c581b5ced47ae486fdfeb87d19a4737dd2e7a2dafb5cb1c6791470df2ac6f968"), looks := true }, kinds := [], alts := [], laidByText := true, laidKinds := [.data, .sentinel, .sentinel, .sentinel, .sentinel, .sentinel, .sentinel], laidTests := true, laidLooks := .later }
def ImageTurnedUptoCardSaid : Prop := Claim7.holds Tryd.pinned (.plain (OpenSpec.upto imageTurnedSpec)) imageTurnedUptoCard

/-- THE SECOND FORM's CARD OF 'turnstilelaw14.ImageUnlike'. -/
def imageUnlikeUptoCard : Claim7 := { stood := { row := imageUnlikeUptoRow, standIns := [], harness := (true, "c581b5ced47ae486fdfeb87d19a4737dd2e7a2dafb5cb1c6791470df2ac6f968"), looks := true }, kinds := [], alts := [], laidByText := true, laidKinds := [.data, .sentinel, .sentinel, .sentinel, .sentinel, .sentinel, .sentinel], laidTests := true, laidLooks := .later }
def ImageUnlikeUptoCardSaid : Prop := Claim7.holds Tryd.pinned (.plain (OpenSpec.upto imageUnlikeSpec)) imageUnlikeUptoCard
end Rows
end Go.Proofs.YtkgjepmminmjjaaDoor
