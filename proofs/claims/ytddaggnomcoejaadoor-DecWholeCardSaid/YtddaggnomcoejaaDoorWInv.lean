/- Words of the print (or contracts of the library) that this seat's proofs use, in plain theorems. Conditions: those that each names. -/
import Derived.Test.YtddaggnomcoejaaDoorWTab
/-! ### 57. A region of open order by ONE relation over what is listed so far: each operation is shown once, whatever came up before it -/
namespace Go.Proofs.YtddaggnomcoejaaDoorW.PrintLast
def up (b : Nat → Bool) (i : Nat) : Nat → Bool := fun j => if j = i then true else b j
section
end
end Go.Proofs.YtddaggnomcoejaaDoorW.PrintLast
