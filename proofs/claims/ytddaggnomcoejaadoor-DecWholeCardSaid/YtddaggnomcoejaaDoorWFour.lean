/- Words of the print (or contracts of the library) that this seat's proofs use, in plain theorems. Conditions: those that each names. -/
import Derived.Test.YtddaggnomcoejaaDoorWTab
/-! ### 56. Four, five, six operations that may come up next, in any order -/
namespace Go.Proofs.YtddaggnomcoejaaDoorW.PrintLast
section
end
end Go.Proofs.YtddaggnomcoejaaDoorW.PrintLast
