/- What the walks of this seat know of the library's variables. No conditions. -/
import Derived.Test.YtkijneohhilboaaGreatDoorWWords
import Derived.Test.YtkijneohhilboaaGreatDoorShelf
import Derived.Test.YtkijneohhilboaaGreatDoorBigRoom
namespace Go.Proofs.YtkijneohhilboaaGreatDoor.PTT
open Go.Proofs Go.RowKit
structure Tabs (w : World) : Prop where
  max : ∃ m, w.cell? ⟨0, 0, none⟩ = some (.int .i64 m)
  pow : Go.Proofs.YtkijneohhilboaaGreatDoor.Room.PowTab w
theorem Tabs_below {w w' : World} (h : Tabs w) (hb : Below w.heap.size w w') : Tabs w' := ⟨(let ⟨m, hm⟩ := h.max; ⟨m, Go.Proofs.YtkijneohhilboaaGreatDoorW.PrintWords.pw_cell_below hb hm⟩), Go.Proofs.YtkijneohhilboaaGreatDoor.Room.PowTab_below h.pow hb⟩
end Go.Proofs.YtkijneohhilboaaGreatDoor.PTT
