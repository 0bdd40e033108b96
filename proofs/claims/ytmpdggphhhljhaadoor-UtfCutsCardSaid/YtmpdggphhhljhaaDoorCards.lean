/-
  DERIVED. GIVEN WITH THE SEED: THE CARDS: each row of YtmpdggphhhljhaaDoorRows.lean that lists a variable, with what it lists TIED to the program's text (the seventh form; the later family's looks); each row that meets fmt, with fmt's text TOLD by the authors' own Lean function (tested against real Go, not proved from fmt's source: count such statements apart). THE CARD IS WHAT COUNTS. Prove the row's statement (the work); the ties are given (YtmpdggphhhljhaaDoorTie.lean); close each card by the builder's one call (the guide's Derived/Test/ToyasCard.lean, 'card_holds'). Laid BY PROGRAM, IN A SANDBOX (cutbox-door.mjs). By AI agents, Wed Nov 11 2026. No macro, syntax, notation, axiom, sorry.
-/
import Derived.Test.YtmpdggphhhljhaaDoorRows
import GoSem.ClaimSeven
namespace Go.Proofs.YtmpdggphhhljhaaDoor
namespace Rows

/-- THE TIED CARD OF 'targumlaw1.UtfTells'. -/
def utfTellsCard : Claim7 := { stood := { row := utfTellsRow, standIns := [], harness := (true, "fadbd87c35a92375849c05e69d7baaeaa63d3055381f778c1fa15c3c9f871903"), looks := false }, kinds := [], alts := [], laidByText := true, laidKinds := [.data, .pinned], laidTests := true, laidLooks := .later }
def UtfTellsCardSaid : Prop := Claim7.holds Tryd.pinned (.plain (OpenSpec.ofChange utfTellsSpec)) utfTellsCard

/-- THE TIED CARD OF 'targumlaw1.UtfBack'. -/
def utfBackCard : Claim7 := { stood := { row := utfBackRow, standIns := [], harness := (true, "fadbd87c35a92375849c05e69d7baaeaa63d3055381f778c1fa15c3c9f871903"), looks := false }, kinds := [], alts := [], laidByText := true, laidKinds := [.data, .pinned], laidTests := true, laidLooks := .later }
def UtfBackCardSaid : Prop := Claim7.holds Tryd.pinned (.plain (OpenSpec.ofChange utfBackSpec)) utfBackCard

/-- THE TIED CARD OF 'targumlaw1.UtfSizes'. -/
def utfSizesCard : Claim7 := { stood := { row := utfSizesRow, standIns := [], harness := (true, "fadbd87c35a92375849c05e69d7baaeaa63d3055381f778c1fa15c3c9f871903"), looks := false }, kinds := [], alts := [], laidByText := true, laidKinds := [.data, .pinned], laidTests := true, laidLooks := .later }
def UtfSizesCardSaid : Prop := Claim7.holds Tryd.pinned (.plain (OpenSpec.ofChange utfSizesSpec)) utfSizesCard

/-- THE TIED CARD OF 'targumlaw1.UtfCuts'. -/
def utfCutsCard : Claim7 := { stood := { row := utfCutsRow, standIns := [], harness := (true, "fadbd87c35a92375849c05e69d7baaeaa63d3055381f778c1fa15c3c9f871903"), looks := false }, kinds := [], alts := [], laidByText := true, laidKinds := [.data, .pinned], laidTests := true, laidLooks := .later }
def UtfCutsCardSaid : Prop := Claim7.holds Tryd.pinned (.plain (OpenSpec.ofChange utfCutsSpec)) utfCutsCard

/-- THE TIED CARD OF 'targumlaw1.UtfWrong'. -/
def utfWrongCard : Claim7 := { stood := { row := utfWrongRow, standIns := [], harness := (true, "fadbd87c35a92375849c05e69d7baaeaa63d3055381f778c1fa15c3c9f871903"), looks := false }, kinds := [], alts := [], laidByText := true, laidKinds := [.data, .pinned], laidTests := true, laidLooks := .later }
def UtfWrongCardSaid : Prop := Claim7.holds Tryd.pinned (.plain (OpenSpec.ofChange utfWrongSpec)) utfWrongCard

/-- THE TIED CARD OF 'targumlaw1.UtfUnmarked'. -/
def utfUnmarkedCard : Claim7 := { stood := { row := utfUnmarkedRow, standIns := [], harness := (true, "fadbd87c35a92375849c05e69d7baaeaa63d3055381f778c1fa15c3c9f871903"), looks := false }, kinds := [], alts := [], laidByText := true, laidKinds := [.data, .pinned], laidTests := true, laidLooks := .later }
def UtfUnmarkedCardSaid : Prop := Claim7.holds Tryd.pinned (.plain (OpenSpec.ofChange utfUnmarkedSpec)) utfUnmarkedCard

/-- THE TIED CARD OF 'targumlaw1.UtfTurned'. -/
def utfTurnedCard : Claim7 := { stood := { row := utfTurnedRow, standIns := [], harness := (true, "fadbd87c35a92375849c05e69d7baaeaa63d3055381f778c1fa15c3c9f871903"), looks := false }, kinds := [], alts := [], laidByText := true, laidKinds := [.data, .pinned], laidTests := true, laidLooks := .later }
def UtfTurnedCardSaid : Prop := Claim7.holds Tryd.pinned (.plain (OpenSpec.ofChange utfTurnedSpec)) utfTurnedCard

/-- THE SECOND FORM's CARD OF 'targumlaw1.UtfTells'. -/
def utfTellsUptoCard : Claim7 := { stood := { row := utfTellsUptoRow, standIns := [], harness := (true, "fadbd87c35a92375849c05e69d7baaeaa63d3055381f778c1fa15c3c9f871903"), looks := false }, kinds := [], alts := [], laidByText := true, laidKinds := [.data, .pinned], laidTests := true, laidLooks := .later }
def UtfTellsUptoCardSaid : Prop := Claim7.holds Tryd.pinned (.plain (OpenSpec.upto utfTellsSpec)) utfTellsUptoCard

/-- THE SECOND FORM's CARD OF 'targumlaw1.UtfBack'. -/
def utfBackUptoCard : Claim7 := { stood := { row := utfBackUptoRow, standIns := [], harness := (true, "fadbd87c35a92375849c05e69d7baaeaa63d3055381f778c1fa15c3c9f871903"), looks := false }, kinds := [], alts := [], laidByText := true, laidKinds := [.data, .pinned], laidTests := true, laidLooks := .later }
def UtfBackUptoCardSaid : Prop := Claim7.holds Tryd.pinned (.plain (OpenSpec.upto utfBackSpec)) utfBackUptoCard

/-- THE SECOND FORM's CARD OF 'targumlaw1.UtfSizes'. -/
def utfSizesUptoCard : Claim7 := { stood := { row := utfSizesUptoRow, standIns := [], harness := (true, "fadbd87c35a92375849c05e69d7baaeaa63d3055381f778c1fa15c3c9f871903"), looks := false }, kinds := [], alts := [], laidByText := true, laidKinds := [.data, .pinned], laidTests := true, laidLooks := .later }
def UtfSizesUptoCardSaid : Prop := Claim7.holds Tryd.pinned (.plain (OpenSpec.upto utfSizesSpec)) utfSizesUptoCard

/-- THE SECOND FORM's CARD OF 'targumlaw1.UtfCuts'. -/
def utfCutsUptoCard : Claim7 := { stood := { row := utfCutsUptoRow, standIns := [], harness := (true, "fadbd87c35a92375849c05e69d7baaeaa63d3055381f778c1fa15c3c9f871903"), looks := false }, kinds := [], alts := [], laidByText := true, laidKinds := [.data, .pinned], laidTests := true, laidLooks := .later }
def UtfCutsUptoCardSaid : Prop := Claim7.holds Tryd.pinned (.plain (OpenSpec.upto utfCutsSpec)) utfCutsUptoCard

/-- THE SECOND FORM's CARD OF 'targumlaw1.UtfWrong'. -/
def utfWrongUptoCard : Claim7 := { stood := { row := utfWrongUptoRow, standIns := [], harness := (true, "fadbd87c35a92375849c05e69d7baaeaa63d3055381f778c1fa15c3c9f871903"), looks := false }, kinds := [], alts := [], laidByText := true, laidKinds := [.data, .pinned], laidTests := true, laidLooks := .later }
def UtfWrongUptoCardSaid : Prop := Claim7.holds Tryd.pinned (.plain (OpenSpec.upto utfWrongSpec)) utfWrongUptoCard

/-- THE SECOND FORM's CARD OF 'targumlaw1.UtfUnmarked'. -/
def utfUnmarkedUptoCard : Claim7 := { stood := { row := utfUnmarkedUptoRow, standIns := [], harness := (true, "fadbd87c35a92375849c05e69d7baaeaa63d3055381f778c1fa15c3c9f871903"), looks := false }, kinds := [], alts := [], laidByText := true, laidKinds := [.data, .pinned], laidTests := true, laidLooks := .later }
def UtfUnmarkedUptoCardSaid : Prop := Claim7.holds Tryd.pinned (.plain (OpenSpec.upto utfUnmarkedSpec)) utfUnmarkedUptoCard

/-- THE SECOND FORM's CARD OF 'targumlaw1.UtfTurned'. -/
def utfTurnedUptoCard : Claim7 := { stood := { row := utfTurnedUptoRow, standIns := [], harness := (true, "fadbd87c35a92375849c05e69d7baaeaa63d3055381f778c1fa15c3c9f871903"), looks := false }, kinds := [], alts := [], laidByText := true, laidKinds := [.data, .pinned], laidTests := true, laidLooks := .later }
def UtfTurnedUptoCardSaid : Prop := Claim7.holds Tryd.pinned (.plain (OpenSpec.upto utfTurnedSpec)) utfTurnedUptoCard
end Rows
end Go.Proofs.YtmpdggphhhljhaaDoor
