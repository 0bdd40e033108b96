/-
  DERIVED. GIVEN WITH THE SEED: THE CARDS: each row of YtkijneohhilboaaGreatDoorRows.lean that lists a variable, with what it lists TIED to the program's text (the seventh form; the later family's looks); each row that meets fmt, with fmt's text TOLD by the authors' own Lean function (tested against real Go, not proved from fmt's source: count such statements apart). THE CARD IS WHAT COUNTS. Prove the row's statement (the work); the ties are given (YtkijneohhilboaaGreatDoorTie.lean); close each card by the builder's one call (the guide's Derived/Test/ToyasCard.lean, 'card_holds'). Laid BY PROGRAM, IN A SANDBOX (cutbox-door.mjs). By AI agents, Wed Nov 11 2026. No macro, syntax, notation, axiom, sorry.
-/
import Derived.Test.YtkijneohhilboaaGreatDoorRows
import GoSem.ClaimSeven
namespace Go.Proofs.YtkijneohhilboaaGreatDoor
namespace Rows

/-- THE TIED CARD OF 'targumlaw7.Float11Tells'. -/
def float11TellsCard : Claim7 := { stood := { row := float11TellsRow, standIns := [], harness := (true, "9b25d4c45ffa99cbdd29da6c2abf1c0734da32d9d9860cd99bfb85770b67a3f1"), looks := false }, kinds := [], alts := [], laidByText := true, laidKinds := [.data, .data, .data, .data, .pinned], laidTests := true, laidLooks := .later }
def Float11TellsCardSaid : Prop := Claim7.holds Tryz.pinned (.plain (OpenSpec.ofChange float11TellsSpec)) float11TellsCard

/-- THE TIED CARD OF 'targumlaw7.Float11Parts'. -/
def float11PartsCard : Claim7 := { stood := { row := float11PartsRow, standIns := [], harness := (true, "9b25d4c45ffa99cbdd29da6c2abf1c0734da32d9d9860cd99bfb85770b67a3f1"), looks := false }, kinds := [], alts := [], laidByText := true, laidKinds := [.data, .data, .data, .data, .pinned], laidTests := true, laidLooks := .later }
def Float11PartsCardSaid : Prop := Claim7.holds Tryz.pinned (.plain (OpenSpec.ofChange float11PartsSpec)) float11PartsCard

/-- THE TIED CARD OF 'targumlaw7.Float11Sixty'. -/
def float11SixtyCard : Claim7 := { stood := { row := float11SixtyRow, standIns := [], harness := (true, "9b25d4c45ffa99cbdd29da6c2abf1c0734da32d9d9860cd99bfb85770b67a3f1"), looks := false }, kinds := [], alts := [], laidByText := true, laidKinds := [.data, .data, .data, .data, .pinned], laidTests := true, laidLooks := .later }
def Float11SixtyCardSaid : Prop := Claim7.holds Tryz.pinned (.plain (OpenSpec.ofChange float11SixtySpec)) float11SixtyCard

/-- THE TIED CARD OF 'targumlaw7.Float11Gaps'. -/
def float11GapsCard : Claim7 := { stood := { row := float11GapsRow, standIns := [], harness := (true, "9b25d4c45ffa99cbdd29da6c2abf1c0734da32d9d9860cd99bfb85770b67a3f1"), looks := false }, kinds := [], alts := [], laidByText := true, laidKinds := [.data, .data, .data, .data, .pinned], laidTests := true, laidLooks := .later }
def Float11GapsCardSaid : Prop := Claim7.holds Tryz.pinned (.plain (OpenSpec.ofChange float11GapsSpec)) float11GapsCard

/-- THE SECOND FORM's CARD OF 'targumlaw7.Float11Tells'. -/
def float11TellsUptoCard : Claim7 := { stood := { row := float11TellsUptoRow, standIns := [], harness := (true, "9b25d4c45ffa99cbdd29da6c2abf1c0734da32d9d9860cd99bfb85770b67a3f1"), looks := false }, kinds := [], alts := [], laidByText := true, laidKinds := [.data, .data, .data, .data, .pinned], laidTests := true, laidLooks := .later }
def Float11TellsUptoCardSaid : Prop := Claim7.holds Tryz.pinned (.plain (OpenSpec.upto float11TellsSpec)) float11TellsUptoCard

/-- THE SECOND FORM's CARD OF 'targumlaw7.Float11Parts'. -/
def float11PartsUptoCard : Claim7 := { stood := { row := float11PartsUptoRow, standIns := [], harness := (true, "9b25d4c45ffa99cbdd29da6c2abf1c0734da32d9d9860cd99bfb85770b67a3f1"), looks := false }, kinds := [], alts := [], laidByText := true, laidKinds := [.data, .data, .data, .data, .pinned], laidTests := true, laidLooks := .later }
def Float11PartsUptoCardSaid : Prop := Claim7.holds Tryz.pinned (.plain (OpenSpec.upto float11PartsSpec)) float11PartsUptoCard

/-- THE SECOND FORM's CARD OF 'targumlaw7.Float11Sixty'. -/
def float11SixtyUptoCard : Claim7 := { stood := { row := float11SixtyUptoRow, standIns := [], harness := (true, "9b25d4c45ffa99cbdd29da6c2abf1c0734da32d9d9860cd99bfb85770b67a3f1"), looks := false }, kinds := [], alts := [], laidByText := true, laidKinds := [.data, .data, .data, .data, .pinned], laidTests := true, laidLooks := .later }
def Float11SixtyUptoCardSaid : Prop := Claim7.holds Tryz.pinned (.plain (OpenSpec.upto float11SixtySpec)) float11SixtyUptoCard

/-- THE SECOND FORM's CARD OF 'targumlaw7.Float11Gaps'. -/
def float11GapsUptoCard : Claim7 := { stood := { row := float11GapsUptoRow, standIns := [], harness := (true, "9b25d4c45ffa99cbdd29da6c2abf1c0734da32d9d9860cd99bfb85770b67a3f1"), looks := false }, kinds := [], alts := [], laidByText := true, laidKinds := [.data, .data, .data, .data, .pinned], laidTests := true, laidLooks := .later }
def Float11GapsUptoCardSaid : Prop := Claim7.holds Tryz.pinned (.plain (OpenSpec.upto float11GapsSpec)) float11GapsUptoCard
end Rows
end Go.Proofs.YtkijneohhilboaaGreatDoor
