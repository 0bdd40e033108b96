/-
  DERIVED. GIVEN WITH THE SEED: THE CARDS: each row of YtkphlddgfmgogaaDoorRows.lean that lists a variable, with what it lists TIED to the program's text (the seventh form; the later family's looks); each row that meets fmt, with fmt's text TOLD by the authors' own Lean function (tested against real Go, not proved from fmt's source: count such statements apart). THE CARD IS WHAT COUNTS. Prove the row's statement (the work); the ties are given (YtkphlddgfmgogaaDoorTie.lean); close each card by the builder's one call (the guide's Derived/Test/ToyasCard.lean, 'card_holds'). Laid BY PROGRAM, IN A SANDBOX (cutbox-door.mjs). By AI agents, Wed Nov 11 2026. No macro, syntax, notation, axiom, sorry.
-/
import Derived.Test.YtkphlddgfmgogaaDoorRows
import GoSem.ClaimSeven
namespace Go.Proofs.YtkphlddgfmgogaaDoor
namespace Rows

/-- THE TIED CARD OF 'targumlaw2.BrkWhole'. -/
def brkWholeCard : Claim7 := { stood := { row := brkWholeRow, standIns := [], harness := (true, "6c2bcbac3508c17067acdfaefba832f096cb53980a7fc02ffbead878e27adf47"), looks := false }, kinds := [], alts := [], laidByText := true, laidKinds := [.data, .pinned], laidTests := true, laidLooks := .later }
def BrkWholeCardSaid : Prop := Claim7.holds Tryd.pinned (.plain (OpenSpec.ofChange brkWholeSpec)) brkWholeCard

/-- THE TIED CARD OF 'targumlaw2.BrkVersions'. -/
def brkVersionsCard : Claim7 := { stood := { row := brkVersionsRow, standIns := [], harness := (true, "6c2bcbac3508c17067acdfaefba832f096cb53980a7fc02ffbead878e27adf47"), looks := false }, kinds := [], alts := [], laidByText := true, laidKinds := [.data, .pinned], laidTests := true, laidLooks := .later }
def BrkVersionsCardSaid : Prop := Claim7.holds Tryd.pinned (.plain (OpenSpec.ofChange brkVersionsSpec)) brkVersionsCard

/-- THE TIED CARD OF 'targumlaw2.BrkJoined'. -/
def brkJoinedCard : Claim7 := { stood := { row := brkJoinedRow, standIns := [], harness := (true, "6c2bcbac3508c17067acdfaefba832f096cb53980a7fc02ffbead878e27adf47"), looks := false }, kinds := [], alts := [], laidByText := true, laidKinds := [.data, .pinned], laidTests := true, laidLooks := .later }
def BrkJoinedCardSaid : Prop := Claim7.holds Tryd.pinned (.plain (OpenSpec.ofChange brkJoinedSpec)) brkJoinedCard

/-- THE TIED CARD OF 'targumlaw2.BrkChecks'. -/
def brkChecksCard : Claim7 := { stood := { row := brkChecksRow, standIns := [], harness := (true, "6c2bcbac3508c17067acdfaefba832f096cb53980a7fc02ffbead878e27adf47"), looks := false }, kinds := [], alts := [], laidByText := true, laidKinds := [.data, .pinned], laidTests := true, laidLooks := .later }
def BrkChecksCardSaid : Prop := Claim7.holds Tryd.pinned (.plain (OpenSpec.ofChange brkChecksSpec)) brkChecksCard

/-- THE TIED CARD OF 'targumlaw2.BrkTells'. -/
def brkTellsCard : Claim7 := { stood := { row := brkTellsRow, standIns := [], harness := (true, "6c2bcbac3508c17067acdfaefba832f096cb53980a7fc02ffbead878e27adf47"), looks := false }, kinds := [], alts := [], laidByText := true, laidKinds := [.data, .pinned], laidTests := true, laidLooks := .later }
def BrkTellsCardSaid : Prop := Claim7.holds Tryd.pinned (.plain (OpenSpec.ofChange brkTellsSpec)) brkTellsCard

/-- THE TIED CARD OF 'targumlaw2.BrkBegins'. -/
def brkBeginsCard : Claim7 := { stood := { row := brkBeginsRow, standIns := [], harness := (true, "6c2bcbac3508c17067acdfaefba832f096cb53980a7fc02ffbead878e27adf47"), looks := false }, kinds := [], alts := [], laidByText := true, laidKinds := [.data, .pinned], laidTests := true, laidLooks := .later }
def BrkBeginsCardSaid : Prop := Claim7.holds Tryd.pinned (.plain (OpenSpec.ofChange brkBeginsSpec)) brkBeginsCard

/-- THE SECOND FORM's CARD OF 'targumlaw2.BrkWhole'. -/
def brkWholeUptoCard : Claim7 := { stood := { row := brkWholeUptoRow, standIns := [], harness := (true, "6c2bcbac3508c17067acdfaefba832f096cb53980a7fc02ffbead878e27adf47"), looks := false }, kinds := [], alts := [], laidByText := true, laidKinds := [.data, .pinned], laidTests := true, laidLooks := .later }
def BrkWholeUptoCardSaid : Prop := Claim7.holds Tryd.pinned (.plain (OpenSpec.upto brkWholeSpec)) brkWholeUptoCard

/-- THE SECOND FORM's CARD OF 'targumlaw2.BrkVersions'. -/
def brkVersionsUptoCard : Claim7 := { stood := { row := brkVersionsUptoRow, standIns := [], harness := (true, "6c2bcbac3508c17067acdfaefba832f096cb53980a7fc02ffbead878e27adf47"), looks := false }, kinds := [], alts := [], laidByText := true, laidKinds := [.data, .pinned], laidTests := true, laidLooks := .later }
def BrkVersionsUptoCardSaid : Prop := Claim7.holds Tryd.pinned (.plain (OpenSpec.upto brkVersionsSpec)) brkVersionsUptoCard

/-- THE SECOND FORM's CARD OF 'targumlaw2.BrkJoined'. -/
def brkJoinedUptoCard : Claim7 := { stood := { row := brkJoinedUptoRow, standIns := [], harness := (true, "6c2bcbac3508c17067acdfaefba832f096cb53980a7fc02ffbead878e27adf47"), looks := false }, kinds := [], alts := [], laidByText := true, laidKinds := [.data, .pinned], laidTests := true, laidLooks := .later }
def BrkJoinedUptoCardSaid : Prop := Claim7.holds Tryd.pinned (.plain (OpenSpec.upto brkJoinedSpec)) brkJoinedUptoCard

/-- THE SECOND FORM's CARD OF 'targumlaw2.BrkChecks'. -/
def brkChecksUptoCard : Claim7 := { stood := { row := brkChecksUptoRow, standIns := [], harness := (true, "6c2bcbac3508c17067acdfaefba832f096cb53980a7fc02ffbead878e27adf47"), looks := false }, kinds := [], alts := [], laidByText := true, laidKinds := [.data, .pinned], laidTests := true, laidLooks := .later }
def BrkChecksUptoCardSaid : Prop := Claim7.holds Tryd.pinned (.plain (OpenSpec.upto brkChecksSpec)) brkChecksUptoCard

/-- THE SECOND FORM's CARD OF 'targumlaw2.BrkTells'. -/
def brkTellsUptoCard : Claim7 := { stood := { row := brkTellsUptoRow, standIns := [], harness := (true, "6c2bcbac3508c17067acdfaefba832f096cb53980a7fc02ffbead878e27adf47"), looks := false }, kinds := [], alts := [], laidByText := true, laidKinds := [.data, .pinned], laidTests := true, laidLooks := .later }
def BrkTellsUptoCardSaid : Prop := Claim7.holds Tryd.pinned (.plain (OpenSpec.upto brkTellsSpec)) brkTellsUptoCard

/-- THE SECOND FORM's CARD OF 'targumlaw2.BrkBegins'. -/
def brkBeginsUptoCard : Claim7 := { stood := { row := brkBeginsUptoRow, standIns := [], harness := (true, "6c2bcbac3508c17067acdfaefba832f096cb53980a7fc02ffbead878e27adf47"), looks := false }, kinds := [], alts := [], laidByText := true, laidKinds := [.data, .pinned], laidTests := true, laidLooks := .later }
def BrkBeginsUptoCardSaid : Prop := Claim7.holds Tryd.pinned (.plain (OpenSpec.upto brkBeginsSpec)) brkBeginsUptoCard
end Rows
end Go.Proofs.YtkphlddgfmgogaaDoor
