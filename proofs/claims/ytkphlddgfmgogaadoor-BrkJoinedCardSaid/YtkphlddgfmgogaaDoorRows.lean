/-
  NARROWER THAN 'FOR EVERY INPUT', by the rows' own cells (each row's printed sentence says how): BrkWhole: laid · BrkVersions: laid · BrkJoined: laid · BrkChecks: laid · BrkTells: laid · BrkBegins: laid.
  DERIVED. THE GIVEN ROWS OF THIS SEAT. 6 by the template 'for every input the law returns true; each argument reads behind the call as it read before'; 0 by the template 'total and deterministic' (their statements: YtkphlddgfmgogaaDoorTotals.lean).
  GIVEN WITH THE SEED: the statements are not yours to turn. If you find one false, say at which input.
  Laid BY PROGRAM, IN A SANDBOX (cutbox-rows.mjs): the forced cells as the released guide's own fill.sh prints them over the translation d83871f0c9d78421… (all of the seat's roots in one cut). By AI agents, Wed Nov 11 2026. No macro, syntax, notation, axiom, sorry.
-/
import Derived.Test.YtkphlddgfmgogaaDoorChecked
import GoSem.PinnedTables
import GoSem.Claim
import GoSem.ClaimJoined
import GoSem.ClaimMapViews
import Derived.JoinedTies
import Derived.KernelRfl
namespace Go.Proofs.YtkphlddgfmgogaaDoor
/- THE CELL 'sum', in the pinned program and in every row, IS THE sha256 OF THE DUMP (.gsa) THAT YtkphlddgfmgogaaDoorProg.lean LOADS. Nothing in Lean hashes anything: it is a label: what it is worth is what the hold of that sum in a sandbox is worth. -/
noncomputable def Tryd.pinned : Pinned := { name := "ytkphlddgfmgogaadoor", sum := "d83871f0c9d7842197bd9f21297ac2b898e466cac8dff424854f61661602b680", checked := Tryd.checked }
namespace Rows
def none {H : Type} : Left H := { results := [], args := [] }

/- WHAT THE LISTED PACKAGE-LEVEL VARIABLES READ AS WHEN THE CALL BEGINS. Each datum BY PROGRAM (the guide's laid-datum.mjs) off the statement by which the dump's own 'gosem.cut.vars' lays the variable. In a bare row this is a premise. The card (YtkphlddgfmgogaaDoorCards.lean) ties it to the program's text. -/
def laid_unicode_utf8_acceptRanges {H : Type} : DataW H := .agg [.agg [.lit (.int .u8 128), .lit (.int .u8 191)], .agg [.lit (.int .u8 160), .lit (.int .u8 191)], .agg [.lit (.int .u8 128), .lit (.int .u8 159)], .agg [.lit (.int .u8 144), .lit (.int .u8 191)], .agg [.lit (.int .u8 128), .lit (.int .u8 143)], .agg [.lit (.int .u8 0), .lit (.int .u8 0)], .agg [.lit (.int .u8 0), .lit (.int .u8 0)], .agg [.lit (.int .u8 0), .lit (.int .u8 0)], .agg [.lit (.int .u8 0), .lit (.int .u8 0)], .agg [.lit (.int .u8 0), .lit (.int .u8 0)], .agg [.lit (.int .u8 0), .lit (.int .u8 0)], .agg [.lit (.int .u8 0), .lit (.int .u8 0)], .agg [.lit (.int .u8 0), .lit (.int .u8 0)], .agg [.lit (.int .u8 0), .lit (.int .u8 0)], .agg [.lit (.int .u8 0), .lit (.int .u8 0)], .agg [.lit (.int .u8 0), .lit (.int .u8 0)]]
/-- One of Go's own tables, pinned by name: the form's constant. -/
def laid_unicode_utf8_first : DataW Unit := Go.Pinned.utf8First

/-- 'targumlaw2.BrkWhole': WHATEVER THE INPUT: true; the input reads as it did. -/
def brkWholeSpec : ChangeSpec := { name := "brkWhole", fn := fun _ => fun
  | [d1, d2] => { results := [.lit (.bool true)], args := [d1, d2] }
  | _ => none }
def brkWholeRow : OpenClaim := { program := "ytkphlddgfmgogaadoor", sum := "d83871f0c9d7842197bd9f21297ac2b898e466cac8dff424854f61661602b680", func := "targum/targumlaw2.BrkWhole", spec := "brkWhole", named := ["unicode/utf8.first", "unicode/utf8.acceptRanges"], apart := false, laid := [("unicode/utf8.acceptRanges", laid_unicode_utf8_acceptRanges), ("unicode/utf8.first", laid_unicode_utf8_first)] }
def BrkWholeSaid : Prop := brkWholeRow.holds Tryd.pinned (OpenSpec.ofChange brkWholeSpec)

/-- ITS FALSE NEIGHBOUR: 'it returns false'. Refute it at one input. -/
def brkWholeWrong : ChangeSpec := { name := "brkWhole", fn := fun _ => fun
  | [d1, d2] => { results := [.lit (.bool false)], args := [d1, d2] }
  | _ => none }
def BrkWholeWrongFalsely : Prop := brkWholeRow.holds Tryd.pinned (OpenSpec.ofChange brkWholeWrong)

/-- 'targumlaw2.BrkVersions': WHATEVER THE INPUT: true; the input reads as it did. -/
def brkVersionsSpec : ChangeSpec := { name := "brkVersions", fn := fun _ => fun
  | [d] => { results := [.lit (.bool true)], args := [d] }
  | _ => none }
def brkVersionsRow : OpenClaim := { program := "ytkphlddgfmgogaadoor", sum := "d83871f0c9d7842197bd9f21297ac2b898e466cac8dff424854f61661602b680", func := "targum/targumlaw2.BrkVersions", spec := "brkVersions", named := ["unicode/utf8.first", "unicode/utf8.acceptRanges"], apart := false, laid := [("unicode/utf8.acceptRanges", laid_unicode_utf8_acceptRanges), ("unicode/utf8.first", laid_unicode_utf8_first)] }
def BrkVersionsSaid : Prop := brkVersionsRow.holds Tryd.pinned (OpenSpec.ofChange brkVersionsSpec)

/-- ITS FALSE NEIGHBOUR: 'it returns false'. Refute it at one input. -/
def brkVersionsWrong : ChangeSpec := { name := "brkVersions", fn := fun _ => fun
  | [d] => { results := [.lit (.bool false)], args := [d] }
  | _ => none }
def BrkVersionsWrongFalsely : Prop := brkVersionsRow.holds Tryd.pinned (OpenSpec.ofChange brkVersionsWrong)

/-- 'targumlaw2.BrkJoined': WHATEVER THE INPUT: true; the input reads as it did. -/
def brkJoinedSpec : ChangeSpec := { name := "brkJoined", fn := fun _ => fun
  | [d1, d2] => { results := [.lit (.bool true)], args := [d1, d2] }
  | _ => none }
def brkJoinedRow : OpenClaim := { program := "ytkphlddgfmgogaadoor", sum := "d83871f0c9d7842197bd9f21297ac2b898e466cac8dff424854f61661602b680", func := "targum/targumlaw2.BrkJoined", spec := "brkJoined", named := ["unicode/utf8.first", "unicode/utf8.acceptRanges"], apart := false, laid := [("unicode/utf8.acceptRanges", laid_unicode_utf8_acceptRanges), ("unicode/utf8.first", laid_unicode_utf8_first)] }
def BrkJoinedSaid : Prop := brkJoinedRow.holds Tryd.pinned (OpenSpec.ofChange brkJoinedSpec)

/-- ITS FALSE NEIGHBOUR: 'it returns false'. Refute it at one input. -/
def brkJoinedWrong : ChangeSpec := { name := "brkJoined", fn := fun _ => fun
  | [d1, d2] => { results := [.lit (.bool false)], args := [d1, d2] }
  | _ => none }
def BrkJoinedWrongFalsely : Prop := brkJoinedRow.holds Tryd.pinned (OpenSpec.ofChange brkJoinedWrong)

/-- 'targumlaw2.BrkChecks': WHATEVER THE INPUT: true; the input reads as it did. -/
def brkChecksSpec : ChangeSpec := { name := "brkChecks", fn := fun _ => fun
  | [d1, d2] => { results := [.lit (.bool true)], args := [d1, d2] }
  | _ => none }
def brkChecksRow : OpenClaim := { program := "ytkphlddgfmgogaadoor", sum := "d83871f0c9d7842197bd9f21297ac2b898e466cac8dff424854f61661602b680", func := "targum/targumlaw2.BrkChecks", spec := "brkChecks", named := ["unicode/utf8.first", "unicode/utf8.acceptRanges"], apart := false, laid := [("unicode/utf8.acceptRanges", laid_unicode_utf8_acceptRanges), ("unicode/utf8.first", laid_unicode_utf8_first)] }
def BrkChecksSaid : Prop := brkChecksRow.holds Tryd.pinned (OpenSpec.ofChange brkChecksSpec)

/-- ITS FALSE NEIGHBOUR: 'it returns false'. Refute it at one input. -/
def brkChecksWrong : ChangeSpec := { name := "brkChecks", fn := fun _ => fun
  | [d1, d2] => { results := [.lit (.bool false)], args := [d1, d2] }
  | _ => none }
def BrkChecksWrongFalsely : Prop := brkChecksRow.holds Tryd.pinned (OpenSpec.ofChange brkChecksWrong)

/-- 'targumlaw2.BrkTells': WHATEVER THE INPUT: true; the input reads as it did. -/
def brkTellsSpec : ChangeSpec := { name := "brkTells", fn := fun _ => fun
  | [d1, d2, d3, d4] => { results := [.lit (.bool true)], args := [d1, d2, d3, d4] }
  | _ => none }
def brkTellsRow : OpenClaim := { program := "ytkphlddgfmgogaadoor", sum := "d83871f0c9d7842197bd9f21297ac2b898e466cac8dff424854f61661602b680", func := "targum/targumlaw2.BrkTells", spec := "brkTells", inPlace := ["internal/bytealg.IndexByteString", "internal/bytealg.IndexString"], named := ["unicode/utf8.first", "unicode/utf8.acceptRanges", "internal/bytealg.MaxLen"], apart := false, laid := [("unicode/utf8.acceptRanges", laid_unicode_utf8_acceptRanges), ("unicode/utf8.first", laid_unicode_utf8_first)] }
def BrkTellsSaid : Prop := brkTellsRow.holds Tryd.pinned (OpenSpec.ofChange brkTellsSpec)

/-- ITS FALSE NEIGHBOUR: 'it returns false'. Refute it at one input. -/
def brkTellsWrong : ChangeSpec := { name := "brkTells", fn := fun _ => fun
  | [d1, d2, d3, d4] => { results := [.lit (.bool false)], args := [d1, d2, d3, d4] }
  | _ => none }
def BrkTellsWrongFalsely : Prop := brkTellsRow.holds Tryd.pinned (OpenSpec.ofChange brkTellsWrong)

/-- 'targumlaw2.BrkBegins': WHATEVER THE INPUT: true; the input reads as it did. -/
def brkBeginsSpec : ChangeSpec := { name := "brkBegins", fn := fun _ => fun
  | [d1, d2, d3, d4] => { results := [.lit (.bool true)], args := [d1, d2, d3, d4] }
  | _ => none }
def brkBeginsRow : OpenClaim := { program := "ytkphlddgfmgogaadoor", sum := "d83871f0c9d7842197bd9f21297ac2b898e466cac8dff424854f61661602b680", func := "targum/targumlaw2.BrkBegins", spec := "brkBegins", inPlace := ["internal/bytealg.IndexByteString", "internal/bytealg.IndexString"], named := ["unicode/utf8.first", "unicode/utf8.acceptRanges", "internal/bytealg.MaxLen"], apart := false, laid := [("unicode/utf8.acceptRanges", laid_unicode_utf8_acceptRanges), ("unicode/utf8.first", laid_unicode_utf8_first)] }
def BrkBeginsSaid : Prop := brkBeginsRow.holds Tryd.pinned (OpenSpec.ofChange brkBeginsSpec)

/-- ITS FALSE NEIGHBOUR: 'it returns false'. Refute it at one input. -/
def brkBeginsWrong : ChangeSpec := { name := "brkBegins", fn := fun _ => fun
  | [d1, d2, d3, d4] => { results := [.lit (.bool false)], args := [d1, d2, d3, d4] }
  | _ => none }
def BrkBeginsWrongFalsely : Prop := brkBeginsRow.holds Tryd.pinned (OpenSpec.ofChange brkBeginsWrong)

/- THE SECOND FORM. 'bulk': how many values and letters a reading holds, each counted each time it is reached (what is shared counts as often as it is met; a slice's spare places count too). A statement '..UptoSaid' is the law's where the arguments, and the package variables that the reading takes, are together of bulk at most 1048576: NARROWER than '..Said'. Prove '..Said' where nothing that the law and all that it calls make is longer than what came in: it says more and counts as full. Else prove '..UptoSaid'. A law counts once. -/
mutual
def uptoBulk {H : Type} : DataW H → Nat
  | .lit (.string bytes) => bytes.length + 1
  | .lit _ => 1
  | .nil => 1
  | .ptr d => uptoBulk d + 1
  | .slice elems spare => uptoBulkAll elems + uptoBulkAll spare + 1
  | .agg parts => uptoBulkAll parts + 1
  | .iface _ d => uptoBulk d + 1
  | .map entries => uptoBulkEntries entries + 1
  | .held _ => 1
def uptoBulkAll {H : Type} : List (DataW H) → Nat
  | [] => 0
  | d :: r => uptoBulk d + uptoBulkAll r
def uptoBulkEntries {H : Type} : List (Lit × DataW H) → Nat
  | [] => 0
  | x :: r => uptoBulkEntry x + uptoBulkEntries r
def uptoBulkEntry {H : Type} : Lit × DataW H → Nat
  | (.string bytes, d) => bytes.length + uptoBulk d + 1
  | (_, d) => uptoBulk d + 1
 end
def uptoSmall : (H : Type) → List (DataW H) → Bool := fun _ ds => decide (uptoBulkAll ds ≤ 1048576)
def OpenSpec.upto (s : _root_.Go.ChangeSpec) : _root_.Go.OpenSpec := { _root_.Go.OpenSpec.ofChange s with cond := some uptoSmall }

/-- 'targumlaw2.BrkWhole', WHERE WHAT IT READS IS OF BULK AT MOST 1048576: true; the input reads as it did. -/
def brkWholeUptoRow : OpenClaim := { program := "ytkphlddgfmgogaadoor", sum := "d83871f0c9d7842197bd9f21297ac2b898e466cac8dff424854f61661602b680", func := "targum/targumlaw2.BrkWhole", spec := "brkWhole", named := ["unicode/utf8.first", "unicode/utf8.acceptRanges"], apart := false, laid := [("unicode/utf8.acceptRanges", laid_unicode_utf8_acceptRanges), ("unicode/utf8.first", laid_unicode_utf8_first)], narrowed := true }
def BrkWholeUptoSaid : Prop := brkWholeUptoRow.holds Tryd.pinned (OpenSpec.upto brkWholeSpec)

/-- 'targumlaw2.BrkVersions', WHERE WHAT IT READS IS OF BULK AT MOST 1048576: true; the input reads as it did. -/
def brkVersionsUptoRow : OpenClaim := { program := "ytkphlddgfmgogaadoor", sum := "d83871f0c9d7842197bd9f21297ac2b898e466cac8dff424854f61661602b680", func := "targum/targumlaw2.BrkVersions", spec := "brkVersions", named := ["unicode/utf8.first", "unicode/utf8.acceptRanges"], apart := false, laid := [("unicode/utf8.acceptRanges", laid_unicode_utf8_acceptRanges), ("unicode/utf8.first", laid_unicode_utf8_first)], narrowed := true }
def BrkVersionsUptoSaid : Prop := brkVersionsUptoRow.holds Tryd.pinned (OpenSpec.upto brkVersionsSpec)

/-- 'targumlaw2.BrkJoined', WHERE WHAT IT READS IS OF BULK AT MOST 1048576: true; the input reads as it did. -/
def brkJoinedUptoRow : OpenClaim := { program := "ytkphlddgfmgogaadoor", sum := "d83871f0c9d7842197bd9f21297ac2b898e466cac8dff424854f61661602b680", func := "targum/targumlaw2.BrkJoined", spec := "brkJoined", named := ["unicode/utf8.first", "unicode/utf8.acceptRanges"], apart := false, laid := [("unicode/utf8.acceptRanges", laid_unicode_utf8_acceptRanges), ("unicode/utf8.first", laid_unicode_utf8_first)], narrowed := true }
def BrkJoinedUptoSaid : Prop := brkJoinedUptoRow.holds Tryd.pinned (OpenSpec.upto brkJoinedSpec)

/-- 'targumlaw2.BrkChecks', WHERE WHAT IT READS IS OF BULK AT MOST 1048576: true; the input reads as it did. -/
def brkChecksUptoRow : OpenClaim := { program := "ytkphlddgfmgogaadoor", sum := "d83871f0c9d7842197bd9f21297ac2b898e466cac8dff424854f61661602b680", func := "targum/targumlaw2.BrkChecks", spec := "brkChecks", named := ["unicode/utf8.first", "unicode/utf8.acceptRanges"], apart := false, laid := [("unicode/utf8.acceptRanges", laid_unicode_utf8_acceptRanges), ("unicode/utf8.first", laid_unicode_utf8_first)], narrowed := true }
def BrkChecksUptoSaid : Prop := brkChecksUptoRow.holds Tryd.pinned (OpenSpec.upto brkChecksSpec)

/-- 'targumlaw2.BrkTells', WHERE WHAT IT READS IS OF BULK AT MOST 1048576: true; the input reads as it did. -/
def brkTellsUptoRow : OpenClaim := { program := "ytkphlddgfmgogaadoor", sum := "d83871f0c9d7842197bd9f21297ac2b898e466cac8dff424854f61661602b680", func := "targum/targumlaw2.BrkTells", spec := "brkTells", inPlace := ["internal/bytealg.IndexByteString", "internal/bytealg.IndexString"], named := ["unicode/utf8.first", "unicode/utf8.acceptRanges", "internal/bytealg.MaxLen"], apart := false, laid := [("unicode/utf8.acceptRanges", laid_unicode_utf8_acceptRanges), ("unicode/utf8.first", laid_unicode_utf8_first)], narrowed := true }
def BrkTellsUptoSaid : Prop := brkTellsUptoRow.holds Tryd.pinned (OpenSpec.upto brkTellsSpec)

/-- 'targumlaw2.BrkBegins', WHERE WHAT IT READS IS OF BULK AT MOST 1048576: true; the input reads as it did. -/
def brkBeginsUptoRow : OpenClaim := { program := "ytkphlddgfmgogaadoor", sum := "d83871f0c9d7842197bd9f21297ac2b898e466cac8dff424854f61661602b680", func := "targum/targumlaw2.BrkBegins", spec := "brkBegins", inPlace := ["internal/bytealg.IndexByteString", "internal/bytealg.IndexString"], named := ["unicode/utf8.first", "unicode/utf8.acceptRanges", "internal/bytealg.MaxLen"], apart := false, laid := [("unicode/utf8.acceptRanges", laid_unicode_utf8_acceptRanges), ("unicode/utf8.first", laid_unicode_utf8_first)], narrowed := true }
def BrkBeginsUptoSaid : Prop := brkBeginsUptoRow.holds Tryd.pinned (OpenSpec.upto brkBeginsSpec)

end Rows
end Go.Proofs.YtkphlddgfmgogaaDoor
