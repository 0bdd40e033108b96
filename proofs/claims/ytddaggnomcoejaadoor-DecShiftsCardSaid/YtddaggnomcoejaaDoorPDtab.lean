/- What the walks of this seat know of the library's variables. No conditions. -/
import Derived.Test.YtddaggnomcoejaaDoorWWords
import Derived.Test.YtddaggnomcoejaaDoorShelf
import Derived.Test.YtddaggnomcoejaaDoorBigRoom
namespace Go.Proofs.YtddaggnomcoejaaDoor.PDT
open Go.Proofs Go.RowKit
structure Tabs (w : World) : Prop where
  max : ∃ m, w.cell? ⟨0, 0, none⟩ = some (.int .i64 m)
  pow : Go.Proofs.YtddaggnomcoejaaDoor.Room.PowTab w
theorem Tabs_below {w w' : World} (h : Tabs w) (hb : Below w.heap.size w w') : Tabs w' := ⟨(let ⟨m, hm⟩ := h.max; ⟨m, Go.Proofs.YtddaggnomcoejaaDoorW.PrintWords.pw_cell_below hb hm⟩), Go.Proofs.YtddaggnomcoejaaDoor.Room.PowTab_below h.pow hb⟩
end Go.Proofs.YtddaggnomcoejaaDoor.PDT
