/- Words of the print (or contracts of the library) that this seat's proofs use, in plain theorems. Conditions: those that each names. -/
import Derived.Test.YtddaggnomcoejaaDoorWApart
import Derived.Test.YtddaggnomcoejaaDoorWArr
/-! ### 42. append(v, make([]T, n)...): the operation comes as_ append with the number in the second place -/
namespace Go.Proofs.YtddaggnomcoejaaDoorW.PrintWords
open Go.RowKit
section
end
namespace Kd
section
end
section
end
section
end
end Kd
end Go.Proofs.YtddaggnomcoejaaDoorW.PrintWords
