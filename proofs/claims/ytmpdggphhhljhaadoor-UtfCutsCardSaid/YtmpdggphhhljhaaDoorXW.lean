/- Small lemmas for this session's own printed walks: steps of a region in short form, arrays in memory. No conditions. -/
import Derived.Test.YtmpdggphhhljhaaDoorWWords
import Derived.Laws.Tables
import Derived.Laws.IdiomCopy
import Derived.Scope
namespace Go.Proofs.YtmpdggphhhljhaaDoor.XW
open Go.RowKit Go.Proofs.YtmpdggphhhljhaaDoorW.PrintWords Go.Proofs.YtmpdggphhhljhaaDoorW.PrintLast
section
variable {P : Program} {md : Region.Mode} {ops : Array Oper} {ds : List Nat} {Q : Exit → Act → World → Prop} {S : World → Prop} {T : Bool × List (List Nat × List Nat)} {B : List Nat}
theorem P1 {oi : Oper} {fuel : Nat} {l : Array Bool} {a : Act} {w : World} (v : Value) (i n : Nat) (l' : Array Bool) (hi : ops[i]? = some oi) (hN : oi.dst = some n) (hT : rtab md ops = T) (hk : anyT T l.toList l'.toList i = true)
    (hQ : ∀ c a w, Q (.panic c) (a.put oi.dst v) w → Q (.panic c) a w) (hy : Yields P ops oi v a) (a' : Act) (ha : a.put (some n) v = a')
    (h : wpAnyLast P md ops Q S ds fuel l' a' w) : wpAnyLast P md ops Q S ds (fuel + 1) l a w := pure_ l' hi hN (any_of hT hk) hQ hy ha h
theorem T1 {oi : Oper} {fuel : Nat} {l : Array Bool} {a : Act} {w : World} (v : Value) (i n : Nat) (l' : Array Bool) (hi : ops[i]? = some oi) (hN : oi.dst = some n) (hT : rtab md ops = T) (hB : waitsOk T.2 B = true) (hk : takeW T B ds l.toList l'.toList i = true)
    (hQ : ∀ c a w, Q (.panic c) (a.put oi.dst v) w → Q (.panic c) a w) (hy : YieldsIf P ops S oi v a) (hS : S w) (a' : Act) (ha : a.put (some n) v = a')
    (h : wpAnyLast P md ops Q S ds fuel l' a' w) : wpAnyLast P md ops Q S ds (fuel + 1) l a w := take_ l' hi hN (take_ofW hT hB hk) hQ hy hS ha h
end
theorem pa (l : List Value) (d : List Deferred) (n : Nat) (v : Value) : (({ tmps := l.toArray, defers := d } : Act).put (some n) v) = { tmps := (l.set n v).toArray, defers := d } := by
  simp [Act.put, List.setIfInBounds_toArray]
/-- an operation whose guard says no, in a region of any length: passed over -/
theorem skipL {P : Program} {ops : Array Oper} {Q : Exit → Act → World → Prop} {a : Act} {w : World} {rest : List Oper} {o : Oper} {t d e : Nat} {b : Bool} {L : List Oper} {l : List Value} {D : List Deferred} (hg : o.guard = some (t, b)) (hd : o.dst = some d)
    (ho : ops = L.toArray) (hs : a = { tmps := l.toArray, defers := D }) (hj : (L[t]?).bind (·.dst) = some e) (hv : (match l[e]? with | some (.bool c) => c == b | _ => false) = false) (hu : l[d]? = some undef) (h : wpList P ops Q rest a w) : wpList P ops Q (o :: rest) a w := by
  have hl : l.set d undef = l := by
    obtain ⟨hi, he⟩ := List.getElem?_eq_some_iff.1 hu
    rw [← he]
    exact List.set_getElem_self hi
  refine wpList_skip ?_ ?_
  · unfold Region.wanted
    rw [hg]
    show (yielded ops a.tmps t == some b) = false
    have hy : yielded ops a.tmps t = match l[e]? with | some (.bool c) => some c | _ => none := by
      unfold yielded
      rw [ho, hs, List.getElem?_toArray, hj]
      show (match l.toArray[e]? with | some (.bool b) => some b | _ => none) = _
      rw [List.getElem?_toArray]
    rw [hy]
    revert hv
    generalize l[e]? = z
    intro hv
    split at hv
    · rename_i c
      cases c <;> cases b <;> first | rfl | exact absurd hv (by decide)
    · first | rfl | (split; first | rfl | exact absurd rfl (by assumption))
  · rw [hd, hs, pa, hl, ← hs]
    exact h
/-- an array's element, at an index that varies (a word of its own: simp leaves it) -/
def arrAt {α : Type} (l : List α) (i : Nat) (d : α) : α := l.getD i d
/-- a cell of a block, by its list: the kernel steps through it once -/
theorem cellL {w : World} {g : Nat} {t : TypeId} {l : List Value} (h : w.heap[g]? = some (.cells l.toArray t (0, 0))) (i : Nat) : w.cell? ⟨g, i, none⟩ = l[i]? := (blk_cell h i).trans (by simp)
theorem putL {w : World} {g : Nat} {t : TypeId} {l l' : List Value} (h : w.heap[g]? = some (.cells l.toArray t (0, 0))) (i : Nat) (u : Value) (e : l.set i u = l') : (w.setCell ⟨g, i, none⟩ u).heap[g]? = some (.cells l'.toArray t (0, 0)) := blk_put h i u (by rw [List.setIfInBounds_toArray, e])
theorem setCells_row (g : Nat) (t : TypeId) (fr : Nat × Nat) : ∀ (l old pre : List Value) (w : World), w.heap[g]? = some (.cells (pre ++ old).toArray t fr) → old.length = l.length → w.setRow g (pre ++ l).toArray = w.setCells g pre.length l
  | [], [], pre, w, h, _ => setRow_self w g _ t fr h
  | v :: l, o :: old, pre, w, h, he => by
    have hs : w.setCell ⟨g, pre.length, none⟩ v = w.setRow g ((pre ++ [v]) ++ old).toArray := by
      rw [setCell_eq_setRow w g _ _ t fr v h, List.setIfInBounds_toArray, List.set_append_right _ _ (Nat.le_refl _), Nat.sub_self, List.set_cons_zero, List.append_assoc, List.singleton_append]
    have hr := setCells_row g t fr l old (pre ++ [v]) (w.setCell ⟨g, pre.length, none⟩ v) (by rw [hs]; exact setRow_heap w g _ _ t fr h) (by simpa using he)
    rw [World.setCells, ← (by simp : (pre ++ [v]).length = pre.length + 1), ← hr, hs, setRow_setRow, List.append_assoc, List.singleton_append]
/-- a whole array stored: its cells, one by one -/
theorem store_arr {P : Program} {ops : Array Oper} {rest : List Oper} {o : Oper} {a : Act} {Q : Exit → Act → World → Prop} {W W1 : World} (hgd : o.guard = none) {t : TypeId} {p : Tmp} {v : Operand} (ho : o.op = .store t (.tmp p) v) (hN : o.dst = none)
    (g : Nat) (old l : List Value) {t' : TypeId} (hg : W.heap[g]? = some (.cells old.toArray t' (0, 0))) (hx : a.eval (.tmp p) = .pointer (some ⟨g, 0, none⟩)) (hy : a.eval v = .agg l.toArray) (n : Nat) (hl : l.length = n) (hold : old.length = n)
    (hi : (P.info? t).map (·.size) = some n) (h1 : l.all (·.oneCell') = true) (hW : W.setCells g 0 l = W1) (h : ∀ w', w' = W1 → wpList P ops Q rest a w') : wpList P ops Q (o :: rest) a W := by
  refine wpList_store_row hgd t (.tmp p) v ho g l.toArray hx hy t' old.toArray hg (by rw [hi, List.size_toArray, hl]) (by rw [List.size_toArray, List.size_toArray, hl, hold]) (by rw [List.all_toArray]; exact h1) ?_
  rw [hN]
  have := setCells_row g t' (0, 0) l old [] W hg (by rw [hl, hold])
  rw [List.nil_append] at this
  exact h _ (this.trans hW)
/-- the cell of an array in memory, at an index that varies -/
theorem arr_cell {α : Type} {w : World} {g : Nat} {t : TypeId} {cs : Array Value} (h : w.heap[g]? = some (.cells cs t (0, 0))) (l : List α) (d : α) (f : α → Value) (hc : cs = (l.map f).toArray) {i : Nat} (hi : i < l.length) : w.cell? ⟨g, i, none⟩ = some (f (arrAt l i d)) := by
  rw [blk_cell h i, hc]
  simp [arrAt, List.getD_eq_getElem?_getD, List.getElem?_eq_getElem hi]
/-! Short names for lemmas that a printed walk names by the hundred. -/
/-- a cell that is written twice reads as the second value -/
theorem cell_twice {w : World} {p : Addr} {u v : Value} (h : (w.cell? p).isSome = true) : ((w.setCell p u).setCell p v).cell? p = some v := World.cell?_setCell_same' _ _ _ (by rw [World.cell?_setCell_same' w p u h]; rfl)
/-- what lies below the call is as it was: by the facts at hand -/
theorem bl {w W : World} (h : Below w.heap.size w W := by repeat (first | (with_reducible first | exact HB.out | apply below_alloc | apply pw_below_drewN | apply below_drew1 | refine below_set ?_ (Aside0.out (by assumption))) | exact HB.out)) : Below w.heap.size w W := h
/-- what a block holds: by the facts at hand -/
theorem bk {w : World} {g : Nat} {o : Obj} (h : w.heap[g]? = some o := by repeat (first | (with_reducible first | exact Aside0.out (by assumption) | apply blk_drewN | apply blk_drew | apply blk_alloc | apply blk_put | apply blk_far) | exact Aside0.out (by assumption) | rfl)) : w.heap[g]? = some o := h
theorem qz {α : Type _} {a b : α} {l : List α} : (a :: l).set 0 b = b :: l := rfl
theorem qs {α : Type _} {a b : α} {n : Nat} {l : List α} : (a :: l).set (n + 1) b = a :: l.set n b := rfl
theorem AM {p : Prop} (h : p) : Aside0 p := Aside0.mk h
theorem qT {α β : Type _} (f : α → β) (l : List α) : l.toArray.map f = (l.map f).toArray := List.map_toArray
theorem qC {α β : Type _} {f : α → β} {a : α} {l : List α} : (a :: l).map f = f a :: l.map f := rfl
theorem qN {α β : Type _} {f : α → β} : ([] : List α).map f = [] := rfl
theorem qD {α : Type _} {i : Nat} {l : List α} : (l.drop i).length = l.length - i := List.length_drop
theorem qU {α : Type _} {i : Nat} {l : List α} : (l.take i).length = min i l.length := List.length_take
theorem qI {α : Type _} (l : List α) (i : Nat) (a : α) : l.toArray.setIfInBounds i a = (l.set i a).toArray := List.setIfInBounds_toArray l i a
theorem wN {B : Nat} {w W : World} (h : Below B w W) (n : Nat) : Below B w (W.drewN n) := pw_below_drewN h n
theorem wD {B : Nat} {w W : World} (h : Below B w W) : Below B w W.drew := below_drew1 h
theorem wA {w W : World} (h : Below w.heap.size w W) (o : Obj) : Below w.heap.size w (W.alloc o) := below_alloc h o
theorem wS {w W : World} {g j : Nat} {v : Value} (h : Below w.heap.size w W) (hg : w.heap.size ≤ g) : Below w.heap.size w (W.setCell ⟨g, j, none⟩ v) := below_set h hg
theorem vA {w : World} {g : Nat} {o : Obj} (h : w.heap[g]? = some o) (o' : Obj) : (w.alloc o').heap[g]? = some o := blk_alloc h o'
theorem vD {w : World} {g : Nat} {o : Obj} (h : w.heap[g]? = some o) : w.drew.heap[g]? = some o := h
theorem vN {w : World} {g : Nat} {o : Obj} (h : w.heap[g]? = some o) (n : Nat) : (w.drewN n).heap[g]? = some o := h
theorem qi (n : Int) : IntKind.i64.wrap n = wrap64 n := i64_w n
theorem qj (n : Int) : IntKind.i32.wrap n = wrap32 n := i32_w n
/-- what holds where a run leaves a scope that it goes through with at most n jumps -/
def hop (P : Program) (c : Code) (Q : Exit → Act → World → Prop) : Nat → Exit → Act → World → Prop
  | 0 => Exit.noGoto Q
  | n + 1 => fun e a w => match e with | .goto l => ∃ rest, findLabel c l = some rest ∧ rest.wp P (hop P c Q n) a w | e => Q e a w
section
variable {P : Program} {c : Code} {Q : Exit → Act → World → Prop} {a : Act} {w : World}
theorem hop_ret (n : Nat) : hop P c Q n .ret a w = Q .ret a w := by cases n <;> rfl
theorem hop_normal (n : Nat) : hop P c Q n .normal a w = Q .normal a w := by cases n <;> rfl
theorem hop_exit (n id : Nat) : hop P c Q n (.exit id) a w = Q (.exit id) a w := by cases n <;> rfl
theorem hop_panic (n : Nat) (ch : List PanicEntry) : hop P c Q n (.panic ch) a w = Q (.panic ch) a w := by cases n <;> rfl
theorem hop_goto {n l : Nat} {rest : Code} (h : findLabel c l = some rest) (k : rest.wp P (hop P c Q n) a w) : (Code.goto l).wp P (hop P c Q (n + 1)) a w := wp_goto ⟨rest, h, k⟩
theorem hop_scope (n : Nat) (h : c.wp P (hop P c Q n) a w) : (Code.scope c).wp P Q a w := by
  intro b k cs
  have key : ∀ (n : Nat) (a : Act) (w : World) (d : Code), d.wp P (hop P c Q n) a w → ∃ e a' w', Q e a' w' ∧ Arrives P (lone (b.at a (.code d :: .inScope c :: k)) cs w) b k cs e a' w' := by
    intro n
    induction n with
    | zero =>
      intro a w d hd
      obtain ⟨e, a₁, w₁, hq, harr⟩ := hd b (.inScope c :: k) cs
      cases e with
      | normal => exact ⟨.normal, a₁, w₁, hq, Steps.trans harr (.one step_inScope)⟩
      | exit id => exact ⟨.exit id, a₁, w₁, hq, fun k' hk => harr k' (by simp [exitTo, hk])⟩
      | goto l => exact hq.elim
      | ret => exact ⟨_, a₁, w₁, hq, harr⟩
      | panic ch => exact ⟨_, a₁, w₁, hq, harr⟩
      | outgrown => exact ⟨_, a₁, w₁, hq, harr⟩
    | succ n ih =>
      intro a w d hd
      obtain ⟨e, a₁, w₁, hq, harr⟩ := hd b (.inScope c :: k) cs
      cases e with
      | normal => exact ⟨.normal, a₁, w₁, hq, Steps.trans harr (.one step_inScope)⟩
      | exit id => exact ⟨.exit id, a₁, w₁, hq, fun k' hk => harr k' (by simp [exitTo, hk])⟩
      | goto l =>
        obtain ⟨rest, hr, hp⟩ := hq
        obtain ⟨e₂, a₂, w₂, hq₂, harr₂⟩ := ih a₁ w₁ rest hp
        have hg : gotoIn l (.inScope c :: k) = some (.code rest :: .inScope c :: k) := by simp [gotoIn, hr]
        exact ⟨e₂, a₂, w₂, hq₂, .of_steps (harr _ hg) harr₂⟩
      | ret => exact ⟨_, a₁, w₁, hq, harr⟩
      | panic ch => exact ⟨_, a₁, w₁, hq, harr⟩
      | outgrown => exact ⟨_, a₁, w₁, hq, harr⟩
  obtain ⟨e, a', w', hq, harr⟩ := key n a w c h
  refine ⟨e, a', w', hq, ?_⟩
  cases e with
  | normal => exact .head step_scope harr
  | exit id => exact fun k' hk => .head step_scope (harr k' hk)
  | goto l => exact fun k' hk => .head step_scope (harr k' hk)
  | ret => exact .of_steps (.one step_scope) harr
  | panic ch => exact .of_steps (.one step_scope) harr
  | outgrown => exact .of_steps (.one step_scope) harr
theorem hop_at {n l : Nat} {rest : Code} (h : findLabel c l = some rest) (k : rest.wp P (hop P c Q n) a w) : hop P c Q (n + 1) (.goto l) a w := ⟨rest, h, k⟩
theorem ext00 (b : ByteArray) : b.extract 0 (0 : Int).toNat = ByteArray.empty := by
  apply ByteArray.ext
  simp
/-- temporaries that stay as they were -/
def keepOk (T T' : Array Value) : List Nat → Prop
  | [] => True
  | i :: r => T'[i]? = T[i]? ∧ keepOk T T' r
theorem frameOf (n : Nat) (T : Array Value) (h : T.size = n) : ∃ u : Nat → Value, T = ((List.range n).map u).toArray := by
  refine ⟨fun i => T.getD i undef, ?_⟩
  apply Array.ext
  · simp [h]
  · intro i h1 h2
    simp [Array.getD, h1]
/-- a label that is jumped back to, at most k times: what stands behind it -/
theorem hop_label (n : Nat) {l : Nat} {rest : Code} {T : Array Value} {D : List Deferred} (hf : findLabel c l = some (.seq .skip rest)) (I : Array Value → Nat → Act → World → Prop) (k : Nat) (start : I T k ⟨T, D⟩ w)
    (round : ∀ k a w, I T k a w → (∀ k1, k = k1 + 1 → ∀ a w, I T k1 a w → hop P c Q (k + n) (.goto l) a w) → rest.wp P (hop P c Q (k + n)) a w) : rest.wp P (hop P c Q (k + n)) ⟨T, D⟩ w := by
  have key : ∀ k a w, I T k a w → rest.wp P (hop P c Q (k + n)) a w := by
    intro k
    induction k with
    | zero => exact fun a w h => round 0 a w h fun k1 e => absurd e (by omega)
    | succ k ih =>
      refine fun a w h => round (k + 1) a w h fun k1 e a w hI => ?_
      obtain rfl : k = k1 := by omega
      rw [show k + 1 + n = (k + n) + 1 by omega]
      exact ⟨_, hf, wp_seq (wp_skip (ih a w hI))⟩
  exact key k _ w start
end
end Go.Proofs.YtmpdggphhhljhaaDoor.XW
