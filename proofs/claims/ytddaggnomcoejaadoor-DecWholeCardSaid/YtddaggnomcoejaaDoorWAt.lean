/- Words of the print (or contracts of the library) that this seat's proofs use, in plain theorems. Conditions: those that each names. -/
import Derived.Test.YtddaggnomcoejaaDoorWFootNe
/-! ### 54. Behind orders that were drawn quietly: the same facts at the world's new name; a flat row's foot -/
namespace Go.Proofs.YtddaggnomcoejaaDoorW.PrintWords
open Go.RowKit
section
end
namespace Kd
section
end
end Kd
end Go.Proofs.YtddaggnomcoejaaDoorW.PrintWords
