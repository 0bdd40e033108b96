/- big.less, digit by digit from the right: what it returns. Conditions: decimal digits, not too many. -/
import Derived.Test.YtkijneohhilboaaDoorBigTimes
import Derived.Test.YtkijneohhilboaaDoorXW
import Derived.Lib.LazyBuf
namespace Go.Proofs.YtkijneohhilboaaDoor.Room
set_option linter.unusedSimpArgs false
set_option linter.unusedVariables false
open Go.Shelf Go.RowKit Go.Sort Go.Lib Go.Proofs.YtkijneohhilboaaDoorW.PrintWords Go.Proofs.YtkijneohhilboaaDoor.Aid
/-- what is owed at a digit: the other number's digit, and one if one was owed -/
def owes (bs : List UInt8) (ow : Bool) : Int := (if ow then 1 else 0) + (match bs with | [] => 0 | y :: _ => (y.toNat : Int) - 48)
/-- digits (from the right) without those of another number -/
def les : List UInt8 → List UInt8 → Bool → List UInt8
  | [], _, _ => []
  | x :: r, bs, ow => if (x.toNat : Int) < 48 + owes bs ow then les r bs.tail true ++ [UInt8.ofNat ((x.toNat : Int) + 10 - owes bs ow).toNat] else les r bs.tail false ++ [UInt8.ofNat ((x.toNat : Int) - owes bs ow).toNat]
def lesL (a b : List UInt8) : List UInt8 := les a.reverse b.reverse false
def cellsOf (l : List UInt8) : List Value := l.map fun b => Value.int .u8 (b.toNat : Int)
theorem both {x y : Int} (h0 : -9223372036854775808 ≤ y) (h1 : y ≤ 9223372036854775807) (h : x = y) : wrap64 x = y ∧ IntKind.i64.wrap x = y := by
  subst h
  exact ⟨wrap_id h0 h1, by rw [IntKind.wrap_i64]; omega⟩
theorem ow_eq (ow : Bool) : (if ow then (1 : Int) else 0) = 0 ∨ (if ow then (1 : Int) else 0) = 1 := by cases ow <;> simp
end Go.Proofs.YtkijneohhilboaaDoor.Room
