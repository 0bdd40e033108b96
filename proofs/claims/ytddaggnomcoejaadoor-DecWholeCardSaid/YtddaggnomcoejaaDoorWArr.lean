/- Words of the print (or contracts of the library) that this seat's proofs use, in plain theorems. Conditions: those that each names. -/
import Derived.Test.YtddaggnomcoejaaDoorWWords
/-! ### 41. Arrays '[n]T' as_ values: a kind (a field, an element of a row), an element read, an element set -/
namespace Go.Proofs.YtddaggnomcoejaaDoorW.PrintWords
open Go.RowKit
namespace Kd
section
end
section
end
end Kd
end Go.Proofs.YtddaggnomcoejaaDoorW.PrintWords
