/-
  DERIVED. GIVEN WITH THE SEED: THE CARDS: each row of YtbjlcipamdgnjaaDoorRows.lean that lists a variable, with what it lists TIED to the program's text (the seventh form; the later family's looks); each row that meets fmt, with fmt's text TOLD by the authors' own Lean function (tested against real Go, not proved from fmt's source: count such statements apart). THE CARD IS WHAT COUNTS. Prove the row's statement (the work); the ties are given (YtbjlcipamdgnjaaDoorTie.lean); close each card by the builder's one call (the guide's Derived/Test/ToyasCard.lean, 'card_holds'). Laid BY PROGRAM, IN A SANDBOX (cutbox-door.mjs). By AI agents, Wed Nov 11 2026. No macro, syntax, notation, axiom, sorry.
-/
import Derived.Test.YtbjlcipamdgnjaaDoorRows
import GoSem.ClaimSeven
namespace Go.Proofs.YtbjlcipamdgnjaaDoor
namespace Rows

/-- THE TIED CARD OF 'targumlaw8.Num12Tells'. -/
def num12TellsCard : Claim7 := { stood := { row := num12TellsRow, standIns := [], harness := (true, "4b0aa10065ce2b6056a1e47fde97ce27b4f1adec9a6d5d3ea590d116c58ddc9e"), looks := false }, kinds := [], alts := [], laidByText := true, laidKinds := [.data, .data, .data, .data, .pinned], laidTests := true, laidLooks := .later }
def Num12TellsCardSaid : Prop := Claim7.holds Tryd.pinned (.plain (OpenSpec.ofChange num12TellsSpec)) num12TellsCard

/-- THE TIED CARD OF 'targumlaw8.Num12Prints'. -/
def num12PrintsCard : Claim7 := { stood := { row := num12PrintsRow, standIns := [], harness := (true, "4b0aa10065ce2b6056a1e47fde97ce27b4f1adec9a6d5d3ea590d116c58ddc9e"), looks := false }, kinds := [], alts := [], laidByText := true, laidKinds := [.data, .data, .data, .data, .pinned], laidTests := true, laidLooks := .later }
def Num12PrintsCardSaid : Prop := Claim7.holds Tryd.pinned (.plain (OpenSpec.ofChange num12PrintsSpec)) num12PrintsCard

/-- THE TIED CARD OF 'targumlaw8.Num12Bases'. -/
def num12BasesCard : Claim7 := { stood := { row := num12BasesRow, standIns := [], harness := (true, "4b0aa10065ce2b6056a1e47fde97ce27b4f1adec9a6d5d3ea590d116c58ddc9e"), looks := false }, kinds := [], alts := [], laidByText := true, laidKinds := [.data, .data, .data, .data, .pinned], laidTests := true, laidLooks := .later }
def Num12BasesCardSaid : Prop := Claim7.holds Tryd.pinned (.plain (OpenSpec.ofChange num12BasesSpec)) num12BasesCard

/-- THE TIED CARD OF 'targumlaw8.Num12Parts'. -/
def num12PartsCard : Claim7 := { stood := { row := num12PartsRow, standIns := [], harness := (true, "4b0aa10065ce2b6056a1e47fde97ce27b4f1adec9a6d5d3ea590d116c58ddc9e"), looks := false }, kinds := [], alts := [], laidByText := true, laidKinds := [.data, .data, .data, .data, .pinned], laidTests := true, laidLooks := .later }
def Num12PartsCardSaid : Prop := Claim7.holds Tryd.pinned (.plain (OpenSpec.ofChange num12PartsSpec)) num12PartsCard

/-- THE TIED CARD OF 'targumlaw8.Num12Both'. -/
def num12BothCard : Claim7 := { stood := { row := num12BothRow, standIns := [], harness := (true, "4b0aa10065ce2b6056a1e47fde97ce27b4f1adec9a6d5d3ea590d116c58ddc9e"), looks := false }, kinds := [], alts := [], laidByText := true, laidKinds := [.data, .data, .data, .data, .pinned], laidTests := true, laidLooks := .later }
def Num12BothCardSaid : Prop := Claim7.holds Tryd.pinned (.plain (OpenSpec.ofChange num12BothSpec)) num12BothCard

/-- THE SECOND FORM's CARD OF 'targumlaw8.Num12Tells'. -/
def num12TellsUptoCard : Claim7 := { stood := { row := num12TellsUptoRow, standIns := [], harness := (true, "4b0aa10065ce2b6056a1e47fde97ce27b4f1adec9a6d5d3ea590d116c58ddc9e"), looks := false }, kinds := [], alts := [], laidByText := true, laidKinds := [.data, .data, .data, .data, .pinned], laidTests := true, laidLooks := .later }
def Num12TellsUptoCardSaid : Prop := Claim7.holds Tryd.pinned (.plain (OpenSpec.upto num12TellsSpec)) num12TellsUptoCard

/-- THE SECOND FORM's CARD OF 'targumlaw8.Num12Prints'. -/
def num12PrintsUptoCard : Claim7 := { stood := { row := num12PrintsUptoRow, standIns := [], harness := (true, "4b0aa10065ce2b6056a1e47fde97ce27b4f1adec9a6d5d3ea590d116c58ddc9e"), looks := false }, kinds := [], alts := [], laidByText := true, laidKinds := [.data, .data, .data, .data, .pinned], laidTests := true, laidLooks := .later }
def Num12PrintsUptoCardSaid : Prop := Claim7.holds Tryd.pinned (.plain (OpenSpec.upto num12PrintsSpec)) num12PrintsUptoCard

/-- THE SECOND FORM's CARD OF 'targumlaw8.Num12Bases'. -/
def num12BasesUptoCard : Claim7 := { stood := { row := num12BasesUptoRow, standIns := [], harness := (true, "4b0aa10065ce2b6056a1e47fde97ce27b4f1adec9a6d5d3ea590d116c58ddc9e"), looks := false }, kinds := [], alts := [], laidByText := true, laidKinds := [.data, .data, .data, .data, .pinned], laidTests := true, laidLooks := .later }
def Num12BasesUptoCardSaid : Prop := Claim7.holds Tryd.pinned (.plain (OpenSpec.upto num12BasesSpec)) num12BasesUptoCard

/-- THE SECOND FORM's CARD OF 'targumlaw8.Num12Parts'. -/
def num12PartsUptoCard : Claim7 := { stood := { row := num12PartsUptoRow, standIns := [], harness := (true, "4b0aa10065ce2b6056a1e47fde97ce27b4f1adec9a6d5d3ea590d116c58ddc9e"), looks := false }, kinds := [], alts := [], laidByText := true, laidKinds := [.data, .data, .data, .data, .pinned], laidTests := true, laidLooks := .later }
def Num12PartsUptoCardSaid : Prop := Claim7.holds Tryd.pinned (.plain (OpenSpec.upto num12PartsSpec)) num12PartsUptoCard

/-- THE SECOND FORM's CARD OF 'targumlaw8.Num12Both'. -/
def num12BothUptoCard : Claim7 := { stood := { row := num12BothUptoRow, standIns := [], harness := (true, "4b0aa10065ce2b6056a1e47fde97ce27b4f1adec9a6d5d3ea590d116c58ddc9e"), looks := false }, kinds := [], alts := [], laidByText := true, laidKinds := [.data, .data, .data, .data, .pinned], laidTests := true, laidLooks := .later }
def Num12BothUptoCardSaid : Prop := Claim7.holds Tryd.pinned (.plain (OpenSpec.upto num12BothSpec)) num12BothUptoCard
end Rows
end Go.Proofs.YtbjlcipamdgnjaaDoor
