/- Small lemmas for this session's own printed walks: steps of a region in short form, arrays in memory. No conditions. -/
import Derived.Test.YtkphlddgfmgogaaDoorWMore
import Derived.Test.YtkphlddgfmgogaaDoorWTab
import Derived.Test.YtkphlddgfmgogaaDoorWLast
import Derived.Laws.Tables
namespace Go.Proofs.YtkphlddgfmgogaaDoor.XW
open Go.RowKit Go.Proofs.YtkphlddgfmgogaaDoorW.PrintWords Go.Proofs.YtkphlddgfmgogaaDoorW.PrintLast
section
variable {P : Program} {md : Region.Mode} {ops : Array Oper} {ds : List Nat} {Q : Exit → Act → World → Prop} {S : World → Prop} {T : Bool × List (List Nat × List Nat)} {B : List Nat}
theorem P1 {oi : Oper} {fuel : Nat} {l : Array Bool} {a : Act} {w : World} (v : Value) (i n : Nat) (l' : Array Bool) (hi : ops[i]? = some oi) (hN : oi.dst = some n) (hT : rtab md ops = T) (hk : anyT T l.toList l'.toList i = true)
    (hQ : ∀ c a w, Q (.panic c) (a.put oi.dst v) w → Q (.panic c) a w) (hy : Yields P ops oi v a) (a' : Act) (ha : a.put (some n) v = a')
    (h : wpAnyLast P md ops Q S ds fuel l' a' w) : wpAnyLast P md ops Q S ds (fuel + 1) l a w := pure_ l' hi hN (any_of hT hk) hQ hy ha h
theorem T1 {oi : Oper} {fuel : Nat} {l : Array Bool} {a : Act} {w : World} (v : Value) (i n : Nat) (l' : Array Bool) (hi : ops[i]? = some oi) (hN : oi.dst = some n) (hT : rtab md ops = T) (hB : waitsOk T.2 B = true) (hk : takeW T B ds l.toList l'.toList i = true)
    (hQ : ∀ c a w, Q (.panic c) (a.put oi.dst v) w → Q (.panic c) a w) (hy : YieldsIf P ops S oi v a) (hS : S w) (a' : Act) (ha : a.put (some n) v = a')
    (h : wpAnyLast P md ops Q S ds fuel l' a' w) : wpAnyLast P md ops Q S ds (fuel + 1) l a w := take_ l' hi hN (take_ofW hT hB hk) hQ hy hS ha h
end
theorem pa (l : List Value) (d : List Deferred) (n : Nat) (v : Value) : (({ tmps := l.toArray, defers := d } : Act).put (some n) v) = { tmps := (l.set n v).toArray, defers := d } := by
  simp [Act.put, List.setIfInBounds_toArray]
end Go.Proofs.YtkphlddgfmgogaaDoor.XW
