/-
  DERIVED. GIVEN WITH THE SEED: THE CARDS: each row of YtkijneohhilboaaDoorRows.lean that lists a variable, with what it lists TIED to the program's text (the seventh form; the later family's looks); each row that meets fmt, with fmt's text TOLD by the authors' own Lean function (tested against real Go, not proved from fmt's source: count such statements apart). THE CARD IS WHAT COUNTS. Prove the row's statement (the work); the ties are given (YtkijneohhilboaaDoorTie.lean); close each card by the builder's one call (the guide's Derived/Test/ToyasCard.lean, 'card_holds'). Laid BY PROGRAM, IN A SANDBOX (cutbox-door.mjs). By AI agents, Wed Nov 11 2026. No macro, syntax, notation, axiom, sorry.
-/
import Derived.Test.YtkijneohhilboaaDoorRows
import GoSem.ClaimSeven
namespace Go.Proofs.YtkijneohhilboaaDoor
namespace Rows

/-- THE TIED CARD OF 'targumlaw6.Int11Bases'. -/
def int11BasesCard : Claim7 := { stood := { row := int11BasesRow, standIns := [], harness := (true, "5574bdada42168bda8f7b6b9cd0775c7adc16136c6a96de31038b64b94548eb5"), looks := false }, kinds := [], alts := [], laidByText := true, laidKinds := [.data, .data, .data, .data, .pinned], laidTests := true, laidLooks := .later }
def Int11BasesCardSaid : Prop := Claim7.holds Tryd.pinned (.plain (OpenSpec.ofChange int11BasesSpec)) int11BasesCard

/-- THE TIED CARD OF 'targumlaw6.Int11Gaps'. -/
def int11GapsCard : Claim7 := { stood := { row := int11GapsRow, standIns := [], harness := (true, "5574bdada42168bda8f7b6b9cd0775c7adc16136c6a96de31038b64b94548eb5"), looks := false }, kinds := [], alts := [], laidByText := true, laidKinds := [.data, .data, .data, .data, .pinned], laidTests := true, laidLooks := .later }
def Int11GapsCardSaid : Prop := Claim7.holds Tryd.pinned (.plain (OpenSpec.ofChange int11GapsSpec)) int11GapsCard

/-- THE TIED CARD OF 'targumlaw6.Int11Tells'. -/
def int11TellsCard : Claim7 := { stood := { row := int11TellsRow, standIns := [], harness := (true, "5574bdada42168bda8f7b6b9cd0775c7adc16136c6a96de31038b64b94548eb5"), looks := false }, kinds := [], alts := [], laidByText := true, laidKinds := [.data, .data, .data, .data, .pinned], laidTests := true, laidLooks := .later }
def Int11TellsCardSaid : Prop := Claim7.holds Tryd.pinned (.plain (OpenSpec.ofChange int11TellsSpec)) int11TellsCard

/-- THE TIED CARD OF 'targumlaw6.Int11Sixty'. -/
def int11SixtyCard : Claim7 := { stood := { row := int11SixtyRow, standIns := [], harness := (true, "5574bdada42168bda8f7b6b9cd0775c7adc16136c6a96de31038b64b94548eb5"), looks := false }, kinds := [], alts := [], laidByText := true, laidKinds := [.data, .data, .data, .data, .pinned], laidTests := true, laidLooks := .later }
def Int11SixtyCardSaid : Prop := Claim7.holds Tryd.pinned (.plain (OpenSpec.ofChange int11SixtySpec)) int11SixtyCard

/-- THE TIED CARD OF 'targumlaw6.Int11Apart'. -/
def int11ApartCard : Claim7 := { stood := { row := int11ApartRow, standIns := [], harness := (true, "5574bdada42168bda8f7b6b9cd0775c7adc16136c6a96de31038b64b94548eb5"), looks := false }, kinds := [], alts := [], laidByText := true, laidKinds := [.data, .data, .data, .data, .pinned], laidTests := true, laidLooks := .later }
def Int11ApartCardSaid : Prop := Claim7.holds Tryd.pinned (.plain (OpenSpec.ofChange int11ApartSpec)) int11ApartCard

/-- THE TIED CARD OF 'targumlaw7.Float11Odd'. -/
def float11OddCard : Claim7 := { stood := { row := float11OddRow, standIns := [], harness := (true, "5574bdada42168bda8f7b6b9cd0775c7adc16136c6a96de31038b64b94548eb5"), looks := false }, kinds := [], alts := [], laidByText := true, laidKinds := [.data, .data, .data, .data, .pinned], laidTests := true, laidLooks := .later }
def Float11OddCardSaid : Prop := Claim7.holds Tryd.pinned (.plain (OpenSpec.ofChange float11OddSpec)) float11OddCard

/-- THE TIED CARD OF 'targumlaw7.Float11Apart'. -/
def float11ApartCard : Claim7 := { stood := { row := float11ApartRow, standIns := [], harness := (true, "5574bdada42168bda8f7b6b9cd0775c7adc16136c6a96de31038b64b94548eb5"), looks := false }, kinds := [], alts := [], laidByText := true, laidKinds := [.data, .data, .data, .data, .pinned], laidTests := true, laidLooks := .later }
def Float11ApartCardSaid : Prop := Claim7.holds Tryd.pinned (.plain (OpenSpec.ofChange float11ApartSpec)) float11ApartCard

/-- THE SECOND FORM's CARD OF 'targumlaw6.Int11Bases'. -/
def int11BasesUptoCard : Claim7 := { stood := { row := int11BasesUptoRow, standIns := [], harness := (true, "5574bdada42168bda8f7b6b9cd0775c7adc16136c6a96de31038b64b94548eb5"), looks := false }, kinds := [], alts := [], laidByText := true, laidKinds := [.data, .data, .data, .data, .pinned], laidTests := true, laidLooks := .later }
def Int11BasesUptoCardSaid : Prop := Claim7.holds Tryd.pinned (.plain (OpenSpec.upto int11BasesSpec)) int11BasesUptoCard

/-- THE SECOND FORM's CARD OF 'targumlaw6.Int11Gaps'. -/
def int11GapsUptoCard : Claim7 := { stood := { row := int11GapsUptoRow, standIns := [], harness := (true, "5574bdada42168bda8f7b6b9cd0775c7adc16136c6a96de31038b64b94548eb5"), looks := false }, kinds := [], alts := [], laidByText := true, laidKinds := [.data, .data, .data, .data, .pinned], laidTests := true, laidLooks := .later }
def Int11GapsUptoCardSaid : Prop := Claim7.holds Tryd.pinned (.plain (OpenSpec.upto int11GapsSpec)) int11GapsUptoCard

/-- THE SECOND FORM's CARD OF 'targumlaw6.Int11Tells'. -/
def int11TellsUptoCard : Claim7 := { stood := { row := int11TellsUptoRow, standIns := [], harness := (true, "5574bdada42168bda8f7b6b9cd0775c7adc16136c6a96de31038b64b94548eb5"), looks := false }, kinds := [], alts := [], laidByText := true, laidKinds := [.data, .data, .data, .data, .pinned], laidTests := true, laidLooks := .later }
def Int11TellsUptoCardSaid : Prop := Claim7.holds Tryd.pinned (.plain (OpenSpec.upto int11TellsSpec)) int11TellsUptoCard

/-- THE SECOND FORM's CARD OF 'targumlaw6.Int11Sixty'. -/
def int11SixtyUptoCard : Claim7 := { stood := { row := int11SixtyUptoRow, standIns := [], harness := (true, "5574bdada42168bda8f7b6b9cd0775c7adc16136c6a96de31038b64b94548eb5"), looks := false }, kinds := [], alts := [], laidByText := true, laidKinds := [.data, .data, .data, .data, .pinned], laidTests := true, laidLooks := .later }
def Int11SixtyUptoCardSaid : Prop := Claim7.holds Tryd.pinned (.plain (OpenSpec.upto int11SixtySpec)) int11SixtyUptoCard

/-- THE SECOND FORM's CARD OF 'targumlaw6.Int11Apart'. -/
def int11ApartUptoCard : Claim7 := { stood := { row := int11ApartUptoRow, standIns := [], harness := (true, "5574bdada42168bda8f7b6b9cd0775c7adc16136c6a96de31038b64b94548eb5"), looks := false }, kinds := [], alts := [], laidByText := true, laidKinds := [.data, .data, .data, .data, .pinned], laidTests := true, laidLooks := .later }
def Int11ApartUptoCardSaid : Prop := Claim7.holds Tryd.pinned (.plain (OpenSpec.upto int11ApartSpec)) int11ApartUptoCard

/-- THE SECOND FORM's CARD OF 'targumlaw7.Float11Odd'. -/
def float11OddUptoCard : Claim7 := { stood := { row := float11OddUptoRow, standIns := [], harness := (true, "5574bdada42168bda8f7b6b9cd0775c7adc16136c6a96de31038b64b94548eb5"), looks := false }, kinds := [], alts := [], laidByText := true, laidKinds := [.data, .data, .data, .data, .pinned], laidTests := true, laidLooks := .later }
def Float11OddUptoCardSaid : Prop := Claim7.holds Tryd.pinned (.plain (OpenSpec.upto float11OddSpec)) float11OddUptoCard

/-- THE SECOND FORM's CARD OF 'targumlaw7.Float11Apart'. -/
def float11ApartUptoCard : Claim7 := { stood := { row := float11ApartUptoRow, standIns := [], harness := (true, "5574bdada42168bda8f7b6b9cd0775c7adc16136c6a96de31038b64b94548eb5"), looks := false }, kinds := [], alts := [], laidByText := true, laidKinds := [.data, .data, .data, .data, .pinned], laidTests := true, laidLooks := .later }
def Float11ApartUptoCardSaid : Prop := Claim7.holds Tryd.pinned (.plain (OpenSpec.upto float11ApartSpec)) float11ApartUptoCard
end Rows
end Go.Proofs.YtkijneohhilboaaDoor
