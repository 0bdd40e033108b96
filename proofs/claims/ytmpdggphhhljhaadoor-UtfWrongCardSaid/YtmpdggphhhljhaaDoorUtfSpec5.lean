/- The encoding that bytes are in: layer 1's and its reference's answers are one. No conditions but bytes. -/
import Derived.Test.YtmpdggphhhljhaaDoorUtfSpec4
import Derived.Test.YtmpdggphhhljhaaDoorPCx3
namespace Go.Proofs.YtmpdggphhhljhaaDoor.UtfSpec
set_option linter.unusedSimpArgs false
set_option linter.unusedVariables false
open Go.RowKit Go.Proofs.YtmpdggphhhljhaaDoor.PC Go.Proofs.YtmpdggphhhljhaaDoorW.PrintWords Go.Proofs.YtmpdggphhhljhaaDoor.Aid Go.Proofs.YtmpdggphhhljhaaDoor.BrkFns
/-- what the first four bytes say; -1: there is none -/
def d7 (w x y : Int) : Int × Int := if w = 239 ∧ x = 187 ∧ y = 191 then (1, 3) else (1, 0)
def d6 (w x y : Int) : Int × Int := if w > 0 ∧ x = 0 then (3, 0) else d7 w x y
def d5 (w x y : Int) : Int × Int := if w = 255 ∧ x = 254 then (3, 2) else d6 w x y
def d4 (w x y : Int) : Int × Int := if w = 0 ∧ x > 0 then (2, 0) else d5 w x y
def d3 (w x y : Int) : Int × Int := if w = 254 ∧ x = 255 then (2, 2) else d4 w x y
def d2 (w x y z : Int) : Int × Int := if w > 0 ∧ x = 0 ∧ y = 0 ∧ z = 0 then (5, 0) else d3 w x y
def d1 (w x y z : Int) : Int × Int := if w = 255 ∧ x = 254 ∧ y = 0 ∧ z = 0 then (5, 4) else d2 w x y z
def d0 (w x y z : Int) : Int × Int := if w = 0 ∧ x = 0 ∧ y = 0 ∧ z > 0 then (4, 0) else d1 w x y z
def dd (w x y z : Int) : Int × Int := if w = 0 ∧ x = 0 ∧ y = 254 ∧ z = 255 then (4, 4) else d0 w x y z
/-- byte i, or -1 -/
def atI (l : List Int) (i : Nat) : Int := l.getD i (-1)
end Go.Proofs.YtmpdggphhhljhaaDoor.UtfSpec
