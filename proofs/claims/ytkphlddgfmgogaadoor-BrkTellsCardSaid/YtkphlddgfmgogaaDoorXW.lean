/- Small lemmas for this session's own printed walks: steps of a region in short form, arrays in memory. No conditions. -/
import Derived.Test.YtkphlddgfmgogaaDoorWMore
import Derived.Test.YtkphlddgfmgogaaDoorWTab
import Derived.Test.YtkphlddgfmgogaaDoorWLast
import Derived.Laws.Tables
namespace Go.Proofs.YtkphlddgfmgogaaDoor.XW
open Go.RowKit Go.Proofs.YtkphlddgfmgogaaDoorW.PrintWords Go.Proofs.YtkphlddgfmgogaaDoorW.PrintLast
section
variable {P : Program} {md : Region.Mode} {ops : Array Oper} {ds : List Nat} {Q : Exit → Act → World → Prop} {S : World → Prop} {T : Bool × List (List Nat × List Nat)} {B : List Nat}
theorem P1 {oi : Oper} {fuel : Nat} {l : Array Bool} {a : Act} {w : World} (v : Value) (i n : Nat) (l' : Array Bool) (hi : ops[i]? = some oi) (hN : oi.dst = some n) (hT : rtab md ops = T) (hk : anyT T l.toList l'.toList i = true)
    (hQ : ∀ c a w, Q (.panic c) (a.put oi.dst v) w → Q (.panic c) a w) (hy : Yields P ops oi v a) (a' : Act) (ha : a.put (some n) v = a')
    (h : wpAnyLast P md ops Q S ds fuel l' a' w) : wpAnyLast P md ops Q S ds (fuel + 1) l a w := pure_ l' hi hN (any_of hT hk) hQ hy ha h
theorem T1 {oi : Oper} {fuel : Nat} {l : Array Bool} {a : Act} {w : World} (v : Value) (i n : Nat) (l' : Array Bool) (hi : ops[i]? = some oi) (hN : oi.dst = some n) (hT : rtab md ops = T) (hB : waitsOk T.2 B = true) (hk : takeW T B ds l.toList l'.toList i = true)
    (hQ : ∀ c a w, Q (.panic c) (a.put oi.dst v) w → Q (.panic c) a w) (hy : YieldsIf P ops S oi v a) (hS : S w) (a' : Act) (ha : a.put (some n) v = a')
    (h : wpAnyLast P md ops Q S ds fuel l' a' w) : wpAnyLast P md ops Q S ds (fuel + 1) l a w := take_ l' hi hN (take_ofW hT hB hk) hQ hy hS ha h
end
theorem pa (l : List Value) (d : List Deferred) (n : Nat) (v : Value) : (({ tmps := l.toArray, defers := d } : Act).put (some n) v) = { tmps := (l.set n v).toArray, defers := d } := by
  simp [Act.put, List.setIfInBounds_toArray]
/-! Short names for lemmas that a printed walk names by the hundred. -/
theorem qz {α : Type _} {a b : α} {l : List α} : (a :: l).set 0 b = b :: l := rfl
theorem qs {α : Type _} {a b : α} {n : Nat} {l : List α} : (a :: l).set (n + 1) b = a :: l.set n b := rfl
theorem AM {p : Prop} (h : p) : Aside0 p := Aside0.mk h
theorem qT {α β : Type _} (f : α → β) (l : List α) : l.toArray.map f = (l.map f).toArray := List.map_toArray
theorem qC {α β : Type _} {f : α → β} {a : α} {l : List α} : (a :: l).map f = f a :: l.map f := rfl
theorem qN {α β : Type _} {f : α → β} : ([] : List α).map f = [] := rfl
theorem qD {α : Type _} {i : Nat} {l : List α} : (l.drop i).length = l.length - i := List.length_drop
theorem qU {α : Type _} {i : Nat} {l : List α} : (l.take i).length = min i l.length := List.length_take
theorem qI {α : Type _} (l : List α) (i : Nat) (a : α) : l.toArray.setIfInBounds i a = (l.set i a).toArray := List.setIfInBounds_toArray l i a
theorem wN {B : Nat} {w W : World} (h : Below B w W) (n : Nat) : Below B w (W.drewN n) := pw_below_drewN h n
theorem wD {B : Nat} {w W : World} (h : Below B w W) : Below B w W.drew := below_drew1 h
theorem wA {w W : World} (h : Below w.heap.size w W) (o : Obj) : Below w.heap.size w (W.alloc o) := below_alloc h o
theorem wS {w W : World} {g j : Nat} {v : Value} (h : Below w.heap.size w W) (hg : w.heap.size ≤ g) : Below w.heap.size w (W.setCell ⟨g, j, none⟩ v) := below_set h hg
theorem vA {w : World} {g : Nat} {o : Obj} (h : w.heap[g]? = some o) (o' : Obj) : (w.alloc o').heap[g]? = some o := blk_alloc h o'
theorem vD {w : World} {g : Nat} {o : Obj} (h : w.heap[g]? = some o) : w.drew.heap[g]? = some o := h
theorem vN {w : World} {g : Nat} {o : Obj} (h : w.heap[g]? = some o) (n : Nat) : (w.drewN n).heap[g]? = some o := h
theorem qi (n : Int) : IntKind.i64.wrap n = wrap64 n := i64_w n
theorem qj (n : Int) : IntKind.i32.wrap n = wrap32 n := i32_w n
end Go.Proofs.YtkphlddgfmgogaaDoor.XW
