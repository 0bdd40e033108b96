/- Words of the print (or contracts of the library) that this seat's proofs use, in plain theorems. Conditions: those that each names. -/
import Derived.Test.YtddaggnomcoejaaDoorWInv
import Derived.Test.YtddaggnomcoejaaDoorWFootNe
namespace Go.Proofs.YtddaggnomcoejaaDoorW.PrintWords
open Go.RowKit
end Go.Proofs.YtddaggnomcoejaaDoorW.PrintWords
namespace Go.Proofs.YtddaggnomcoejaaDoorW.PrintLast
section
end
end Go.Proofs.YtddaggnomcoejaaDoorW.PrintLast
