/-
  No cell of these rows narrows 'for every input' (looked for: loops, veiled, ifaces, maps, wideKeys, modest, calm, conditions, laid).
  DERIVED. THE GIVEN ROWS OF THIS SEAT. 4 by the template 'for every input the law returns true; each argument reads behind the call as it read before'; 0 by the template 'total and deterministic' (their statements: YtkphlddgfmgogaaTotals.lean).
  GIVEN WITH THE SEED: the statements are not yours to turn. If you find one false, say at which input.
  Laid BY PROGRAM, IN A SANDBOX (cutbox-rows.mjs): the forced cells as the released guide's own fill.sh prints them over the translation ba522fbd3bd0b4a6… (all of the seat's roots in one cut). By AI agents, Wed Nov 11 2026. No macro, syntax, notation, axiom, sorry.
-/
import Derived.Test.YtkphlddgfmgogaaChecked
import GoSem.Claim
import GoSem.ClaimJoined
import GoSem.ClaimMapViews
import Derived.JoinedTies
import Derived.KernelRfl
namespace Go.Proofs.Ytkphlddgfmgogaa
/- THE CELL 'sum', in the pinned program and in every row, IS THE sha256 OF THE DUMP (.gsa) THAT YtkphlddgfmgogaaProg.lean LOADS. Nothing in Lean hashes anything: it is a label: what it is worth is what the hold of that sum in a sandbox is worth. -/
noncomputable def Try.pinned : Pinned := { name := "ytkphlddgfmgogaa", sum := "ba522fbd3bd0b4a61f0973bca880b8f92489b08a05c249e232ba23893137eca5", checked := Try.checked }
namespace Rows
def none {H : Type} : Left H := { results := [], args := [] }

/-- 'targumlaw9.WordTells': WHATEVER THE INPUT: true; the input reads as it did. -/
def wordTellsSpec : ChangeSpec := { name := "wordTells", fn := fun _ => fun
  | [d1, d2, d3] => { results := [.lit (.bool true)], args := [d1, d2, d3] }
  | _ => none }
def wordTellsRow : OpenClaim := { program := "ytkphlddgfmgogaa", sum := "ba522fbd3bd0b4a61f0973bca880b8f92489b08a05c249e232ba23893137eca5", func := "targum/targumlaw9.WordTells", spec := "wordTells", apart := false }
def WordTellsSaid : Prop := wordTellsRow.holds Try.pinned (OpenSpec.ofChange wordTellsSpec)

/-- ITS FALSE NEIGHBOUR: 'it returns false'. Refute it at one input. -/
def wordTellsWrong : ChangeSpec := { name := "wordTells", fn := fun _ => fun
  | [d1, d2, d3] => { results := [.lit (.bool false)], args := [d1, d2, d3] }
  | _ => none }
def WordTellsWrongFalsely : Prop := wordTellsRow.holds Try.pinned (OpenSpec.ofChange wordTellsWrong)

/-- 'targumlaw9.WordMore': WHATEVER THE INPUT: true; the input reads as it did. -/
def wordMoreSpec : ChangeSpec := { name := "wordMore", fn := fun _ => fun
  | [d] => { results := [.lit (.bool true)], args := [d] }
  | _ => none }
def wordMoreRow : OpenClaim := { program := "ytkphlddgfmgogaa", sum := "ba522fbd3bd0b4a61f0973bca880b8f92489b08a05c249e232ba23893137eca5", func := "targum/targumlaw9.WordMore", spec := "wordMore", apart := false }
def WordMoreSaid : Prop := wordMoreRow.holds Try.pinned (OpenSpec.ofChange wordMoreSpec)

/-- ITS FALSE NEIGHBOUR: 'it returns false'. Refute it at one input. -/
def wordMoreWrong : ChangeSpec := { name := "wordMore", fn := fun _ => fun
  | [d] => { results := [.lit (.bool false)], args := [d] }
  | _ => none }
def WordMoreWrongFalsely : Prop := wordMoreRow.holds Try.pinned (OpenSpec.ofChange wordMoreWrong)

/-- 'targumlaw9.WordThree': WHATEVER THE INPUT: true; the input reads as it did. -/
def wordThreeSpec : ChangeSpec := { name := "wordThree", fn := fun _ => fun
  | [d1, d2, d3] => { results := [.lit (.bool true)], args := [d1, d2, d3] }
  | _ => none }
def wordThreeRow : OpenClaim := { program := "ytkphlddgfmgogaa", sum := "ba522fbd3bd0b4a61f0973bca880b8f92489b08a05c249e232ba23893137eca5", func := "targum/targumlaw9.WordThree", spec := "wordThree", apart := false }
def WordThreeSaid : Prop := wordThreeRow.holds Try.pinned (OpenSpec.ofChange wordThreeSpec)

/-- ITS FALSE NEIGHBOUR: 'it returns false'. Refute it at one input. -/
def wordThreeWrong : ChangeSpec := { name := "wordThree", fn := fun _ => fun
  | [d1, d2, d3] => { results := [.lit (.bool false)], args := [d1, d2, d3] }
  | _ => none }
def WordThreeWrongFalsely : Prop := wordThreeRow.holds Try.pinned (OpenSpec.ofChange wordThreeWrong)

/-- 'targumlaw9.WordPlain': WHATEVER THE INPUT: true; the input reads as it did. -/
def wordPlainSpec : ChangeSpec := { name := "wordPlain", fn := fun _ => fun
  | [d1, d2, d3] => { results := [.lit (.bool true)], args := [d1, d2, d3] }
  | _ => none }
def wordPlainRow : OpenClaim := { program := "ytkphlddgfmgogaa", sum := "ba522fbd3bd0b4a61f0973bca880b8f92489b08a05c249e232ba23893137eca5", func := "targum/targumlaw9.WordPlain", spec := "wordPlain", apart := false }
def WordPlainSaid : Prop := wordPlainRow.holds Try.pinned (OpenSpec.ofChange wordPlainSpec)

/-- ITS FALSE NEIGHBOUR: 'it returns false'. Refute it at one input. -/
def wordPlainWrong : ChangeSpec := { name := "wordPlain", fn := fun _ => fun
  | [d1, d2, d3] => { results := [.lit (.bool false)], args := [d1, d2, d3] }
  | _ => none }
def WordPlainWrongFalsely : Prop := wordPlainRow.holds Try.pinned (OpenSpec.ofChange wordPlainWrong)

/- THE SECOND FORM. 'bulk': how many values and letters a reading holds, each counted each time it is reached (what is shared counts as often as it is met; a slice's spare places count too). A statement '..UptoSaid' is the law's where the arguments, and the package variables that the reading takes, are together of bulk at most 1048576: NARROWER than '..Said'. Prove '..Said' where nothing that the law and all that it calls make is longer than what came in: it says more and counts as full. Else prove '..UptoSaid'. A law counts once. -/
mutual
def uptoBulk {H : Type} : DataW H → Nat
  | .lit (.string bytes) => bytes.length + 1
  | .lit _ => 1
  | .nil => 1
  | .ptr d => uptoBulk d + 1
  | .slice elems spare => uptoBulkAll elems + uptoBulkAll spare + 1
  | .agg parts => uptoBulkAll parts + 1
  | .iface _ d => uptoBulk d + 1
  | .map entries => uptoBulkEntries entries + 1
  | .held _ => 1
def uptoBulkAll {H : Type} : List (DataW H) → Nat
  | [] => 0
  | d :: r => uptoBulk d + uptoBulkAll r
def uptoBulkEntries {H : Type} : List (Lit × DataW H) → Nat
  | [] => 0
  | x :: r => uptoBulkEntry x + uptoBulkEntries r
def uptoBulkEntry {H : Type} : Lit × DataW H → Nat
  | (.string bytes, d) => bytes.length + uptoBulk d + 1
  | (_, d) => uptoBulk d + 1
 end
def uptoSmall : (H : Type) → List (DataW H) → Bool := fun _ ds => decide (uptoBulkAll ds ≤ 1048576)
def OpenSpec.upto (s : _root_.Go.ChangeSpec) : _root_.Go.OpenSpec := { _root_.Go.OpenSpec.ofChange s with cond := some uptoSmall }

/-- 'targumlaw9.WordTells', WHERE WHAT IT READS IS OF BULK AT MOST 1048576: true; the input reads as it did. -/
def wordTellsUptoRow : OpenClaim := { program := "ytkphlddgfmgogaa", sum := "ba522fbd3bd0b4a61f0973bca880b8f92489b08a05c249e232ba23893137eca5", func := "targum/targumlaw9.WordTells", spec := "wordTells", apart := false, narrowed := true }
def WordTellsUptoSaid : Prop := wordTellsUptoRow.holds Try.pinned (OpenSpec.upto wordTellsSpec)

/-- 'targumlaw9.WordMore', WHERE WHAT IT READS IS OF BULK AT MOST 1048576: true; the input reads as it did. -/
def wordMoreUptoRow : OpenClaim := { program := "ytkphlddgfmgogaa", sum := "ba522fbd3bd0b4a61f0973bca880b8f92489b08a05c249e232ba23893137eca5", func := "targum/targumlaw9.WordMore", spec := "wordMore", apart := false, narrowed := true }
def WordMoreUptoSaid : Prop := wordMoreUptoRow.holds Try.pinned (OpenSpec.upto wordMoreSpec)

/-- 'targumlaw9.WordThree', WHERE WHAT IT READS IS OF BULK AT MOST 1048576: true; the input reads as it did. -/
def wordThreeUptoRow : OpenClaim := { program := "ytkphlddgfmgogaa", sum := "ba522fbd3bd0b4a61f0973bca880b8f92489b08a05c249e232ba23893137eca5", func := "targum/targumlaw9.WordThree", spec := "wordThree", apart := false, narrowed := true }
def WordThreeUptoSaid : Prop := wordThreeUptoRow.holds Try.pinned (OpenSpec.upto wordThreeSpec)

/-- 'targumlaw9.WordPlain', WHERE WHAT IT READS IS OF BULK AT MOST 1048576: true; the input reads as it did. -/
def wordPlainUptoRow : OpenClaim := { program := "ytkphlddgfmgogaa", sum := "ba522fbd3bd0b4a61f0973bca880b8f92489b08a05c249e232ba23893137eca5", func := "targum/targumlaw9.WordPlain", spec := "wordPlain", apart := false, narrowed := true }
def WordPlainUptoSaid : Prop := wordPlainUptoRow.holds Try.pinned (OpenSpec.upto wordPlainSpec)

end Rows
end Go.Proofs.Ytkphlddgfmgogaa
