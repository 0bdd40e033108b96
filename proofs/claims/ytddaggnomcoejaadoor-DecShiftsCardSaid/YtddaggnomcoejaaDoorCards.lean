/-
  DERIVED. GIVEN WITH THE SEED: THE CARDS: each row of YtddaggnomcoejaaDoorRows.lean that lists a variable, with what it lists TIED to the program's text (the seventh form; the later family's looks); each row that meets fmt, with fmt's text TOLD by the authors' own Lean function (tested against real Go, not proved from fmt's source: count such statements apart). THE CARD IS WHAT COUNTS. Prove the row's statement (the work); the ties are given (YtddaggnomcoejaaDoorTie.lean); close each card by the builder's one call (the guide's Derived/Test/ToyasCard.lean, 'card_holds'). Laid BY PROGRAM, IN A SANDBOX (cutbox-door.mjs). By AI agents, Wed Nov 11 2026. No macro, syntax, notation, axiom, sorry.
-/
import Derived.Test.YtddaggnomcoejaaDoorRows
import GoSem.ClaimSeven
namespace Go.Proofs.YtddaggnomcoejaaDoor
namespace Rows

/-- THE TIED CARD OF 'targumlaw4.BigTells'. -/
def bigTellsCard : Claim7 := { stood := { row := bigTellsRow, standIns := [], harness := (true, "3b6cc28db7db6f80b0b6a4e3a07e0cde82786020bbb13a029dfb56f41dbf1913"), looks := false }, kinds := [], alts := [], laidByText := true, laidKinds := [.data, .data, .data, .data, .pinned], laidTests := true, laidLooks := .later }
def BigTellsCardSaid : Prop := Claim7.holds Tryd.pinned (.plain (OpenSpec.ofChange bigTellsSpec)) bigTellsCard

/-- THE TIED CARD OF 'targumlaw4.BigDigits'. -/
def bigDigitsCard : Claim7 := { stood := { row := bigDigitsRow, standIns := [], harness := (true, "3b6cc28db7db6f80b0b6a4e3a07e0cde82786020bbb13a029dfb56f41dbf1913"), looks := false }, kinds := [], alts := [], laidByText := true, laidKinds := [.data, .data, .data, .data, .pinned], laidTests := true, laidLooks := .later }
def BigDigitsCardSaid : Prop := Claim7.holds Tryd.pinned (.plain (OpenSpec.ofChange bigDigitsSpec)) bigDigitsCard

/-- THE TIED CARD OF 'targumlaw4.BigSums'. -/
def bigSumsCard : Claim7 := { stood := { row := bigSumsRow, standIns := [], harness := (true, "3b6cc28db7db6f80b0b6a4e3a07e0cde82786020bbb13a029dfb56f41dbf1913"), looks := false }, kinds := [], alts := [], laidByText := true, laidKinds := [.data, .data, .data, .data, .pinned], laidTests := true, laidLooks := .later }
def BigSumsCardSaid : Prop := Claim7.holds Tryd.pinned (.plain (OpenSpec.ofChange bigSumsSpec)) bigSumsCard

/-- THE TIED CARD OF 'targumlaw4.BigBases'. -/
def bigBasesCard : Claim7 := { stood := { row := bigBasesRow, standIns := [], harness := (true, "3b6cc28db7db6f80b0b6a4e3a07e0cde82786020bbb13a029dfb56f41dbf1913"), looks := false }, kinds := [], alts := [], laidByText := true, laidKinds := [.data, .data, .data, .data, .pinned], laidTests := true, laidLooks := .later }
def BigBasesCardSaid : Prop := Claim7.holds Tryd.pinned (.plain (OpenSpec.ofChange bigBasesSpec)) bigBasesCard

/-- THE TIED CARD OF 'targumlaw4.BigTimes'. -/
def bigTimesCard : Claim7 := { stood := { row := bigTimesRow, standIns := [], harness := (true, "3b6cc28db7db6f80b0b6a4e3a07e0cde82786020bbb13a029dfb56f41dbf1913"), looks := false }, kinds := [], alts := [], laidByText := true, laidKinds := [.data, .data, .data, .data, .pinned], laidTests := true, laidLooks := .later }
def BigTimesCardSaid : Prop := Claim7.holds Tryd.pinned (.plain (OpenSpec.ofChange bigTimesSpec)) bigTimesCard

/-- THE TIED CARD OF 'targumlaw4.BigOrder'. -/
def bigOrderCard : Claim7 := { stood := { row := bigOrderRow, standIns := [], harness := (true, "3b6cc28db7db6f80b0b6a4e3a07e0cde82786020bbb13a029dfb56f41dbf1913"), looks := false }, kinds := [], alts := [], laidByText := true, laidKinds := [.data, .data, .data, .data, .pinned], laidTests := true, laidLooks := .later }
def BigOrderCardSaid : Prop := Claim7.holds Tryd.pinned (.plain (OpenSpec.ofChange bigOrderSpec)) bigOrderCard

/-- THE TIED CARD OF 'targumlaw5.DecTells'. -/
def decTellsCard : Claim7 := { stood := { row := decTellsRow, standIns := [], harness := (true, "3b6cc28db7db6f80b0b6a4e3a07e0cde82786020bbb13a029dfb56f41dbf1913"), looks := false }, kinds := [], alts := [], laidByText := true, laidKinds := [.data, .data, .data, .data, .pinned], laidTests := true, laidLooks := .later }
def DecTellsCardSaid : Prop := Claim7.holds Tryd.pinned (.plain (OpenSpec.ofChange decTellsSpec)) decTellsCard

/-- THE TIED CARD OF 'targumlaw5.DecBack'. -/
def decBackCard : Claim7 := { stood := { row := decBackRow, standIns := [], harness := (true, "3b6cc28db7db6f80b0b6a4e3a07e0cde82786020bbb13a029dfb56f41dbf1913"), looks := false }, kinds := [], alts := [], laidByText := true, laidKinds := [.data, .data, .data, .data, .pinned], laidTests := true, laidLooks := .later }
def DecBackCardSaid : Prop := Claim7.holds Tryd.pinned (.plain (OpenSpec.ofChange decBackSpec)) decBackCard

/-- THE TIED CARD OF 'targumlaw5.DecShifts'. -/
def decShiftsCard : Claim7 := { stood := { row := decShiftsRow, standIns := [], harness := (true, "3b6cc28db7db6f80b0b6a4e3a07e0cde82786020bbb13a029dfb56f41dbf1913"), looks := false }, kinds := [], alts := [], laidByText := true, laidKinds := [.data, .data, .data, .data, .pinned], laidTests := true, laidLooks := .later }
def DecShiftsCardSaid : Prop := Claim7.holds Tryd.pinned (.plain (OpenSpec.ofChange decShiftsSpec)) decShiftsCard

/-- THE TIED CARD OF 'targumlaw5.DecWhole'. -/
def decWholeCard : Claim7 := { stood := { row := decWholeRow, standIns := [], harness := (true, "3b6cc28db7db6f80b0b6a4e3a07e0cde82786020bbb13a029dfb56f41dbf1913"), looks := false }, kinds := [], alts := [], laidByText := true, laidKinds := [.data, .data, .data, .data, .pinned], laidTests := true, laidLooks := .later }
def DecWholeCardSaid : Prop := Claim7.holds Tryd.pinned (.plain (OpenSpec.ofChange decWholeSpec)) decWholeCard

/-- THE TIED CARD OF 'targumlaw5.DecRefuses'. -/
def decRefusesCard : Claim7 := { stood := { row := decRefusesRow, standIns := [], harness := (true, "3b6cc28db7db6f80b0b6a4e3a07e0cde82786020bbb13a029dfb56f41dbf1913"), looks := false }, kinds := [], alts := [], laidByText := true, laidKinds := [.data, .data, .data, .data, .pinned], laidTests := true, laidLooks := .later }
def DecRefusesCardSaid : Prop := Claim7.holds Tryd.pinned (.plain (OpenSpec.ofChange decRefusesSpec)) decRefusesCard

/-- THE SECOND FORM's CARD OF 'targumlaw4.BigTells'. -/
def bigTellsUptoCard : Claim7 := { stood := { row := bigTellsUptoRow, standIns := [], harness := (true, "3b6cc28db7db6f80b0b6a4e3a07e0cde82786020bbb13a029dfb56f41dbf1913"), looks := false }, kinds := [], alts := [], laidByText := true, laidKinds := [.data, .data, .data, .data, .pinned], laidTests := true, laidLooks := .later }
def BigTellsUptoCardSaid : Prop := Claim7.holds Tryd.pinned (.plain (OpenSpec.upto bigTellsSpec)) bigTellsUptoCard

/-- THE SECOND FORM's CARD OF 'targumlaw4.BigDigits'. -/
def bigDigitsUptoCard : Claim7 := { stood := { row := bigDigitsUptoRow, standIns := [], harness := (true, "3b6cc28db7db6f80b0b6a4e3a07e0cde82786020bbb13a029dfb56f41dbf1913"), looks := false }, kinds := [], alts := [], laidByText := true, laidKinds := [.data, .data, .data, .data, .pinned], laidTests := true, laidLooks := .later }
def BigDigitsUptoCardSaid : Prop := Claim7.holds Tryd.pinned (.plain (OpenSpec.upto bigDigitsSpec)) bigDigitsUptoCard

/-- THE SECOND FORM's CARD OF 'targumlaw4.BigSums'. -/
def bigSumsUptoCard : Claim7 := { stood := { row := bigSumsUptoRow, standIns := [], harness := (true, "3b6cc28db7db6f80b0b6a4e3a07e0cde82786020bbb13a029dfb56f41dbf1913"), looks := false }, kinds := [], alts := [], laidByText := true, laidKinds := [.data, .data, .data, .data, .pinned], laidTests := true, laidLooks := .later }
def BigSumsUptoCardSaid : Prop := Claim7.holds Tryd.pinned (.plain (OpenSpec.upto bigSumsSpec)) bigSumsUptoCard

/-- THE SECOND FORM's CARD OF 'targumlaw4.BigBases'. -/
def bigBasesUptoCard : Claim7 := { stood := { row := bigBasesUptoRow, standIns := [], harness := (true, "3b6cc28db7db6f80b0b6a4e3a07e0cde82786020bbb13a029dfb56f41dbf1913"), looks := false }, kinds := [], alts := [], laidByText := true, laidKinds := [.data, .data, .data, .data, .pinned], laidTests := true, laidLooks := .later }
def BigBasesUptoCardSaid : Prop := Claim7.holds Tryd.pinned (.plain (OpenSpec.upto bigBasesSpec)) bigBasesUptoCard

/-- THE SECOND FORM's CARD OF 'targumlaw4.BigTimes'. -/
def bigTimesUptoCard : Claim7 := { stood := { row := bigTimesUptoRow, standIns := [], harness := (true, "3b6cc28db7db6f80b0b6a4e3a07e0cde82786020bbb13a029dfb56f41dbf1913"), looks := false }, kinds := [], alts := [], laidByText := true, laidKinds := [.data, .data, .data, .data, .pinned], laidTests := true, laidLooks := .later }
def BigTimesUptoCardSaid : Prop := Claim7.holds Tryd.pinned (.plain (OpenSpec.upto bigTimesSpec)) bigTimesUptoCard

/-- THE SECOND FORM's CARD OF 'targumlaw4.BigOrder'. -/
def bigOrderUptoCard : Claim7 := { stood := { row := bigOrderUptoRow, standIns := [], harness := (true, "3b6cc28db7db6f80b0b6a4e3a07e0cde82786020bbb13a029dfb56f41dbf1913"), looks := false }, kinds := [], alts := [], laidByText := true, laidKinds := [.data, .data, .data, .data, .pinned], laidTests := true, laidLooks := .later }
def BigOrderUptoCardSaid : Prop := Claim7.holds Tryd.pinned (.plain (OpenSpec.upto bigOrderSpec)) bigOrderUptoCard

/-- THE SECOND FORM's CARD OF 'targumlaw5.DecTells'. -/
def decTellsUptoCard : Claim7 := { stood := { row := decTellsUptoRow, standIns := [], harness := (true, "3b6cc28db7db6f80b0b6a4e3a07e0cde82786020bbb13a029dfb56f41dbf1913"), looks := false }, kinds := [], alts := [], laidByText := true, laidKinds := [.data, .data, .data, .data, .pinned], laidTests := true, laidLooks := .later }
def DecTellsUptoCardSaid : Prop := Claim7.holds Tryd.pinned (.plain (OpenSpec.upto decTellsSpec)) decTellsUptoCard

/-- THE SECOND FORM's CARD OF 'targumlaw5.DecBack'. -/
def decBackUptoCard : Claim7 := { stood := { row := decBackUptoRow, standIns := [], harness := (true, "3b6cc28db7db6f80b0b6a4e3a07e0cde82786020bbb13a029dfb56f41dbf1913"), looks := false }, kinds := [], alts := [], laidByText := true, laidKinds := [.data, .data, .data, .data, .pinned], laidTests := true, laidLooks := .later }
def DecBackUptoCardSaid : Prop := Claim7.holds Tryd.pinned (.plain (OpenSpec.upto decBackSpec)) decBackUptoCard

/-- THE SECOND FORM's CARD OF 'targumlaw5.DecShifts'. -/
def decShiftsUptoCard : Claim7 := { stood := { row := decShiftsUptoRow, standIns := [], harness := (true, "3b6cc28db7db6f80b0b6a4e3a07e0cde82786020bbb13a029dfb56f41dbf1913"), looks := false }, kinds := [], alts := [], laidByText := true, laidKinds := [.data, .data, .data, .data, .pinned], laidTests := true, laidLooks := .later }
def DecShiftsUptoCardSaid : Prop := Claim7.holds Tryd.pinned (.plain (OpenSpec.upto decShiftsSpec)) decShiftsUptoCard

/-- THE SECOND FORM's CARD OF 'targumlaw5.DecWhole'. -/
def decWholeUptoCard : Claim7 := { stood := { row := decWholeUptoRow, standIns := [], harness := (true, "3b6cc28db7db6f80b0b6a4e3a07e0cde82786020bbb13a029dfb56f41dbf1913"), looks := false }, kinds := [], alts := [], laidByText := true, laidKinds := [.data, .data, .data, .data, .pinned], laidTests := true, laidLooks := .later }
def DecWholeUptoCardSaid : Prop := Claim7.holds Tryd.pinned (.plain (OpenSpec.upto decWholeSpec)) decWholeUptoCard

/-- THE SECOND FORM's CARD OF 'targumlaw5.DecRefuses'. -/
def decRefusesUptoCard : Claim7 := { stood := { row := decRefusesUptoRow, standIns := [], harness := (true, "3b6cc28db7db6f80b0b6a4e3a07e0cde82786020bbb13a029dfb56f41dbf1913"), looks := false }, kinds := [], alts := [], laidByText := true, laidKinds := [.data, .data, .data, .data, .pinned], laidTests := true, laidLooks := .later }
def DecRefusesUptoCardSaid : Prop := Claim7.holds Tryd.pinned (.plain (OpenSpec.upto decRefusesSpec)) decRefusesUptoCard
end Rows
end Go.Proofs.YtddaggnomcoejaaDoor
