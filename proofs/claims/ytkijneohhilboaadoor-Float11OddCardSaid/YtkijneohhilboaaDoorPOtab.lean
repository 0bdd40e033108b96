/- What the walks of this seat know of the library's variables. No conditions. -/
import Derived.Test.YtkijneohhilboaaDoorWWords
import Derived.Test.YtkijneohhilboaaDoorShelf
import Derived.Test.YtkijneohhilboaaDoorBigRoom
namespace Go.Proofs.YtkijneohhilboaaDoor.POT
open Go.Proofs Go.RowKit
structure Tabs (w : World) : Prop where
  max : ∃ m, w.cell? ⟨0, 0, none⟩ = some (.int .i64 m)
  pow : Go.Proofs.YtkijneohhilboaaDoor.Room.PowTab w
theorem Tabs_below {w w' : World} (h : Tabs w) (hb : Below w.heap.size w w') : Tabs w' := ⟨(let ⟨m, hm⟩ := h.max; ⟨m, Go.Proofs.YtkijneohhilboaaDoorW.PrintWords.pw_cell_below hb hm⟩), Go.Proofs.YtkijneohhilboaaDoor.Room.PowTab_below h.pow hb⟩
end Go.Proofs.YtkijneohhilboaaDoor.POT
