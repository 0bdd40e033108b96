/- Words of the print (or contracts of the library) that this seat's proofs use, in plain theorems. Conditions: those that each names. -/
import Derived.Test.YtddaggnomcoejaaDoorWN
/-! ### 48. N's events: append, a whole row appended, zeros appended, literals, make, stores, cuts, an element taken out -/
namespace Go.Proofs.YtddaggnomcoejaaDoorW.PrintWords
open Go.RowKit
namespace Kd
section
end
section
end
end Kd
end Go.Proofs.YtddaggnomcoejaaDoorW.PrintWords
