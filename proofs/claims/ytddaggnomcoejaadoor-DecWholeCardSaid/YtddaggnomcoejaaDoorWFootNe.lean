/- Words of the print (or contracts of the library) that this seat's proofs use, in plain theorems. Conditions: those that each names. -/
import Derived.Test.YtddaggnomcoejaaDoorWN
/-! ### 52. A row that stays read whatever happens to a block (a set of blocks) doesn't lie there -/
namespace Go.Proofs.YtddaggnomcoejaaDoorW.PrintWords
open Go.RowKit
namespace Kd
section
end
end Kd
end Go.Proofs.YtddaggnomcoejaaDoorW.PrintWords
