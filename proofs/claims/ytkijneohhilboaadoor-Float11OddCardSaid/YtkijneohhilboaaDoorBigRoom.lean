/- A whole number's decimal text appended, in place, to a slice with room for it: internal/strconv's AppendUint and AppendInt, strconv.AppendInt. Conditions: the number's range; the cells are there and may be written. -/
import Derived.Test.YtkijneohhilboaaDoorShelf
import Derived.ArgAppend
import Derived.Lib.AppendStr
import Derived.Lib.AppendIntMem
import Derived.Lib.Hide
import Derived.Lib.Slices
import Derived.OwnWalk
import Derived.WalkKit
import Derived.BigCall
import Derived.BigGuard
import Derived.Tactics
import Derived.Below
namespace Go.Proofs.YtkijneohhilboaaDoor.Room
set_option linter.unusedSimpArgs false
set_option linter.unusedVariables false
open Go.Shelf Go.RowKit Go.Sort Go.Lib
section
variable {P : Program} (w : World)
/-- a text's bytes appended where there is room, by the cells alone -/
theorem run_room_str (t u ty e : TypeId) (i : TypeInfo) (ht : P.underlying t = some (.slice e)) (hu : P.underlying u = some .string) (hi : P.info? e = some i) (hs1 : i.size = 1) (b off n cap : Nat) (s : ByteArray) (hroom : n + s.size ≤ cap)
    (hc : ∀ j, j < s.size → (w.cell? ⟨b, off + n + j, none⟩).isSome = true) (hf : ∀ j, j < s.size → w.frozen? ⟨b, off + n + j, none⟩ = false) :
    (Builtin.append_ #[t, u] ty #[.slice (some ⟨b, off, none⟩) n cap, .string s]).run P w = .ok (.slice (some ⟨b, off, none⟩) (n + s.size) cap) (w.setCells b (off + n) (strCells s)) := by
  have h1 := run_firstCells_string (P := P) w 1 s
  have hst := run_storeCells_cells (P := P) b (off + n) (strCells s) 0 w (by simpa [strCells_length] using hc) (by simpa [strCells_length] using hf) (strCells_oneCell s)
  simp only [Nat.add_zero] at hst
  simp [Builtin.append_, run_underlying ht, run_underlying hu, sizeOf, typeInfo, hi, hs1, Builtin.lenOf, hroom, h1, Addr.add_lit, hst]
theorem wpList_room_str {ops : Array Oper} {rest : List Oper} {o : Oper} {a : Act} {Q : Exit → Act → World → Prop} (hgd : o.guard = none) (sl x : Operand) (t u : TypeId) (ho : o.op = .call { callee := .builtin .append, args := #[sl, x], argTypes := #[t, u] })
    (e : TypeId) (i : TypeInfo) (ht : P.underlying t = some (.slice e)) (hu : P.underlying u = some .string) (hi : P.info? e = some i) (hs1 : i.size = 1) (b off n cap : Nat) (hs : a.eval sl = .slice (some ⟨b, off, none⟩) n cap) (s : ByteArray) (hx : a.eval x = .string s) (hroom : n + s.size ≤ cap)
    (hc : ∀ j, j < s.size → (w.cell? ⟨b, off + n + j, none⟩).isSome = true) (hf : ∀ j, j < s.size → w.frozen? ⟨b, off + n + j, none⟩ = false)
    (h : wpList P ops Q rest (a.put o.dst (.slice (some ⟨b, off, none⟩) (n + s.size) cap)) (w.setCells b (off + n) (strCells s))) : wpList P ops Q (o :: rest) a w := by
  refine wpList_plain hgd fun K hK => ?_
  have hr := run_room_str (P := P) w t u o.type e i ht hu hi hs1 b off n cap s hroom hc hf
  unfold Oper.wp execOp
  simp only [ho, resolve, invoke, builtin, Sem.run_bind, Sem.run_pure, Result.andThen_ok, List.map_toArray, List.map_cons, List.map_nil, hs, hx, hr]
  exact hK _ _ h
theorem wpList_room {ops : Array Oper} {rest : List Oper} {o : Oper} {a : Act} {Q : Exit → Act → World → Prop} (hgd : o.guard = none) (sl x : Operand) (t : TypeId) (ho : o.op = .call { callee := .builtin .append, args := #[sl, x], argTypes := #[t, t] })
    (e : TypeId) (i : TypeInfo) (ht : P.underlying t = some (.slice e)) (hi : P.info? e = some i) (hs1 : i.size = 1) (b off n cap : Nat) (hs : a.eval sl = .slice (some ⟨b, off, none⟩) n cap) (ad : Addr) (m c : Nat) (news : List Value) (hx : a.eval x = .slice (some ad) m c) (hl : news.length = m)
    (hnews : ∀ j u, news[j]? = some u → w.cell? (ad.add j) = some u) (h1 : ∀ u ∈ news, u.oneCell' = true) (hroom : n + m ≤ cap)
    (hc : ∀ j, j < m → (w.cell? ⟨b, off + n + j, none⟩).isSome = true) (hf : ∀ j, j < m → w.frozen? ⟨b, off + n + j, none⟩ = false)
    (h : wpList P ops Q rest (a.put o.dst (.slice (some ⟨b, off, none⟩) (n + m) cap)) (w.setCells b (off + n) news)) : wpList P ops Q (o :: rest) a w := by
  refine wpList_plain hgd fun K hK => ?_
  have hr := run_append_room_cells (P := P) w t o.type e i ht hi b off n cap ad m c news (by rw [hs1, hl, Nat.mul_one]) hnews h1 hroom (by rw [hs1, Nat.mul_one, hl]; exact hc) (by rw [hs1, Nat.mul_one, hl]; exact hf)
  rw [hs1, Nat.mul_one] at hr
  unfold Oper.wp execOp
  simp only [ho, resolve, invoke, builtin, Sem.run_bind, Sem.run_pure, Result.andThen_ok, List.map_toArray, List.map_cons, List.map_nil, hs, hx, hr]
  exact hK _ _ h
end
theorem info5 : ∃ i, Tryd.prog.info? 5 = some i ∧ i.size = 1 := by
  have h : (Tryd.prog.info? 5).map (·.size) = some 1 := by kernel_rfl
  obtain ⟨i, hi, hs⟩ := Option.map_eq_some_iff.1 h
  exact ⟨i, hi, hs⟩
theorem dec_len {u : Nat} (hu : u < 100) : (decDigits u).length ≤ 2 := by
  rw [decDigits_length]
  by_cases h10 : u < 10
  · rw [nDigits_small h10]; omega
  · rw [nDigits_big h10, nDigits_small (show u / 10 < 10 by omega)]; omega
set_option maxHeartbeats 6400000 in
set_option maxRecDepth 100000 in
theorem uint_small (b off n cap u : Nat) (hu : u < 100) (w : World) (hroom : n + (decDigits u).length ≤ cap) (hc : ∀ j, j < (decDigits u).length → (w.cell? ⟨b, off + n + j, none⟩).isSome = true) (hf : ∀ j, j < (decDigits u).length → w.frozen? ⟨b, off + n + j, none⟩ = false) :
    Calls Tryd.prog 105 #[.slice (some ⟨b, off, none⟩) n cap, .int .u64 u, .int .i64 10] w fun e w' => e = .returned (.slice (some ⟨b, off, none⟩) (n + (decDigits u).length) cap) ∧ w' = w.setCells b (off + n) (byteCells (decDigits u)) := by
  obtain ⟨i0, hi, hz1⟩ := info5
  have hsz : (⟨(decDigits u).toArray⟩ : ByteArray).size = (decDigits u).length := by simp [ByteArray.size]
  have iu : (u : Int) < 100 := by omega
  go_enter Tryd.func105, Tryd.ntmps105
  go_wp2_with (first
    | (go_at_call 112; refine (Tryd.internal_strconv_small u hu _).mono ?_; rintro e w' ⟨rfl, rfl⟩)
    | (at_builtin; refine wpList_room_str _ rfl _ _ 33 9 rfl 5 i0 Tryd.underlying33 Tryd.underlying9 hi hz1 b off n cap rfl ⟨(decDigits u).toArray⟩ rfl (by rw [hsz]; exact hroom) (by rw [hsz]; exact hc) (by rw [hsz]; exact hf) ?_))
  go_ret
  exact ⟨rfl, rfl⟩
theorem cell_lt {w : World} {b o : Nat} (h : (w.cell? ⟨b, o, none⟩).isSome = true) : b < w.heap.size := by
  rcases Nat.lt_or_ge b w.heap.size with h' | h'
  · exact h'
  · simp [World.cell?, Array.getElem?_eq_none h'] at h
set_option maxHeartbeats 12800000 in
set_option maxRecDepth 100000 in
theorem uint_big (b off n cap u : Nat) (hu : 100 ≤ u) (hu64 : u < 18446744073709551616) (w : World) (hroom : n + (decDigits u).length ≤ cap) (hc : ∀ j, j < (decDigits u).length → (w.cell? ⟨b, off + n + j, none⟩).isSome = true) (hf : ∀ j, j < (decDigits u).length → w.frozen? ⟨b, off + n + j, none⟩ = false)
    (htab : TabIs Tryd.prog w "internal/strconv.uint64pow10" .u64 pow10Tab) :
    Calls Tryd.prog 105 #[.slice (some ⟨b, off, none⟩) n cap, .int .u64 u, .int .i64 10] w fun e w' => e = .returned (.slice (some ⟨b, off, none⟩) (n + (decDigits u).length) cap) ∧ ∃ W2, Below w.heap.size w W2 ∧ w' = W2.setCells b (off + n) (byteCells (decDigits u)) := by
  obtain ⟨i0, hi, hz1⟩ := info5
  have hu1 : 1 ≤ u := by omega
  have hnd20 : nDigits u ≤ 20 := by have := numDigits_eq u hu1 hu64; split at this <;> omega
  have hdl : (decDigits u).length = nDigits u := decDigits_length u
  have hnd1 : 0 < (decDigits u).length := by rw [hdl]; exact nDigits_pos u
  have hb : b < w.heap.size := cell_lt (hc 0 hnd1)
  have hal : Tryd.prog.arrayLen 110 = 24 := by kernel_rfl
  have hsl : ∀ W, (Instr.sliceAt 110 (.pointer (some ⟨w.heap.size, 0, none⟩)) none (some (.int .i64 (nDigits u : Int))) none).run Tryd.prog W = .ok (.slice (some ⟨w.heap.size, 0, none⟩) (nDigits u) 24) W := fun W => by
    rw [run_sliceAt_array_h W 110 ⟨w.heap.size, 0, none⟩ (by kernel_rfl) .i64 (nDigits u : Int) (by omega) (by rw [hal]; omega)]
    go_simp
  have hH0 := holds_zero0 w 110 (nDigits u) (by omega)
  have hfmt := Tryd.internal_strconv_formatBase10 w.heap.size 0 24 u (Array.replicate (nDigits u) 0) (w.alloc (.cells zeros24 110)) hH0 (by rw [Array.size_replicate]; exact lt_pow_nDigits u) hu64 (by rw [Array.size_replicate]; omega)
  rw [Array.size_replicate] at hfmt
  have HH0 := hid hH0
  have iu : (100 : Int) ≤ (u : Int) := by omega
  clear hH0 hal
  go_enter Tryd.func105, Tryd.ntmps105
  go_wp2_with (first
    | (go_at_call 113; refine (Tryd.internal_strconv_numDigits u hu1 hu64 _ (tabIs_alloc htab _)).mono ?_; rintro e w' ⟨rfl, rfl⟩))
  go_at_call 114
  refine hfmt.mono ?_
  rintro e w' ⟨rfl, k, v', dk, rfl, hF⟩
  have hcells : ∀ j u', (byteCells (decDigits u))[j]? = some u' → ((putRow (fun (b : UInt8) => Value.int .u8 (b.toNat : Int)) (w.alloc (.cells zeros24 110)) w.heap.size 0 dk).drewN k).cell? ((⟨w.heap.size, 0, none⟩ : Addr).add j) = some u' := by
    intro j u' hj
    have hjl : j < (decDigits u).length := by
      have h5 := (List.getElem?_eq_some_iff.1 hj).1
      rwa [byteCells_length] at h5
    have e5 : (byteCells (decDigits u))[j]? = some (Value.int .u8 ((decDigits u)[j].toNat : Int)) := by simp [byteCells, hjl]
    rw [e5] at hj
    cases hj
    rw [row_is_numeral hF j hjl, add_plain, World.cell?_drewN]
    exact cell?_putRow (fun (b : UInt8) => Value.int .u8 (b.toNat : Int)) _ w.heap.size 0 _ dk HH0.out (by rw [hF.size, Array.size_replicate]) j (by rw [hF.size]; rw [decDigits_length] at hjl; exact hjl)
  obtain ⟨os, eo⟩ := fin_at w (.cells zeros24 110) dk k 0
  have hbel : Below w.heap.size w ((putRow (fun (b : UInt8) => Value.int .u8 (b.toNat : Int)) (w.alloc (.cells zeros24 110)) w.heap.size 0 dk).drewN k) := by rw [eo]; exact below_grow w.heap.size w (Nat.le_refl _) k os
  generalize (putRow (fun (b : UInt8) => Value.int .u8 (b.toNat : Int)) (w.alloc (.cells zeros24 110)) w.heap.size 0 dk).drewN k = W2 at hcells hbel ⊢
  clear eo HH0 hfmt
  have hkeep : ∀ o, W2.cell? ⟨b, o, none⟩ = w.cell? ⟨b, o, none⟩ ∧ W2.frozen? ⟨b, o, none⟩ = w.frozen? ⟨b, o, none⟩ := fun o => ⟨World.cell?_of_block (hbel.block b hb), World.frozen?_of_block (hbel.block b hb)⟩
  go_wp2_with (at_builtin; refine wpList_room _ rfl _ _ 33 rfl 5 i0 Tryd.underlying33 hi hz1 b off n cap rfl ⟨w.heap.size, 0, none⟩ (nDigits u) 24 (byteCells (decDigits u)) rfl ?c0 hcells ?c1 ?c2 ?c3 ?c4 ?_)
  case c0 => rw [byteCells_length, hdl]
  case c1 => intro u' hu'; simp only [byteCells, List.mem_map] at hu'; obtain ⟨b, _, rfl⟩ := hu'; rfl
  case c2 => rw [← hdl]; exact hroom
  case c3 => intro j hj; rw [(hkeep _).1]; exact hc j (by rw [hdl]; exact hj)
  case c4 => intro j hj; rw [(hkeep _).2]; exact hf j (by rw [hdl]; exact hj)
  go_wp2
  go_ret
  exact ⟨by rw [hdl]; rfl, W2, hbel, rfl⟩
theorem uint_any (b off n cap u : Nat) (hu64 : u < 18446744073709551616) (w : World) (hroom : n + (decDigits u).length ≤ cap) (hc : ∀ j, j < (decDigits u).length → (w.cell? ⟨b, off + n + j, none⟩).isSome = true) (hf : ∀ j, j < (decDigits u).length → w.frozen? ⟨b, off + n + j, none⟩ = false)
    (htab : TabIs Tryd.prog w "internal/strconv.uint64pow10" .u64 pow10Tab) :
    Calls Tryd.prog 105 #[.slice (some ⟨b, off, none⟩) n cap, .int .u64 u, .int .i64 10] w fun e w' => e = .returned (.slice (some ⟨b, off, none⟩) (n + (decDigits u).length) cap) ∧ ∃ W2, Below w.heap.size w W2 ∧ w' = W2.setCells b (off + n) (byteCells (decDigits u)) := by
  by_cases hu : u < 100
  · exact (uint_small b off n cap u hu w hroom hc hf).mono fun e w' h => ⟨h.1, w, Below.refl _ _, h.2⟩
  · exact uint_big b off n cap u (by omega) hu64 w hroom hc hf htab
set_option maxHeartbeats 6400000 in
set_option maxRecDepth 100000 in
theorem int_room (b off n cap u : Nat) (hu : u ≤ 9223372036854775807) (w : World) (hroom : n + (decDigits u).length ≤ cap) (hc : ∀ j, j < (decDigits u).length → (w.cell? ⟨b, off + n + j, none⟩).isSome = true) (hf : ∀ j, j < (decDigits u).length → w.frozen? ⟨b, off + n + j, none⟩ = false)
    (htab : TabIs Tryd.prog w "internal/strconv.uint64pow10" .u64 pow10Tab) :
    Calls Tryd.prog 93 #[.slice (some ⟨b, off, none⟩) n cap, .int .i64 u, .int .i64 10] w fun e w' => e = .returned (.slice (some ⟨b, off, none⟩) (n + (decDigits u).length) cap) ∧ ∃ W2, Below w.heap.size w W2 ∧ w' = W2.setCells b (off + n) (byteCells (decDigits u)) := by
  have h0 : ¬ ((u : Int) < 0) := by omega
  have hw : IntKind.u64.wrap (u : Int) = u := by
    have e : IntKind.u64.wrap (u : Int) = (u : Int) % 18446744073709551616 := by simp [IntKind.wrap, IntKind.bits, IntKind.signed]
    rw [e]; omega
  go_enter Tryd.func93, Tryd.ntmps93
  go_wp2_with (go_at_call 105; refine (uint_any b off n cap u (by omega) _ hroom hc hf htab).mono ?_; rintro e w' ⟨rfl, W2, hb, rfl⟩)
  go_ret
  exact ⟨rfl, W2, hb, rfl⟩
set_option maxHeartbeats 6400000 in
set_option maxRecDepth 100000 in
theorem append_room (b off n cap u : Nat) (hu : u ≤ 9223372036854775807) (w : World) (hroom : n + (decDigits u).length ≤ cap) (hc : ∀ j, j < (decDigits u).length → (w.cell? ⟨b, off + n + j, none⟩).isSome = true) (hf : ∀ j, j < (decDigits u).length → w.frozen? ⟨b, off + n + j, none⟩ = false)
    (htab : TabIs Tryd.prog w "internal/strconv.uint64pow10" .u64 pow10Tab) :
    Calls Tryd.prog 70 #[.slice (some ⟨b, off, none⟩) n cap, .int .i64 u, .int .i64 10] w fun e w' => e = .returned (.slice (some ⟨b, off, none⟩) (n + (decDigits u).length) cap) ∧ ∃ W2, Below w.heap.size w W2 ∧ w' = W2.setCells b (off + n) (byteCells (decDigits u)) := by
  go_enter Tryd.func70, Tryd.ntmps70
  go_wp2_with (go_at_call 93; refine (int_room b off n cap u hu _ hroom hc hf htab).mono ?_; rintro e w' ⟨rfl, W2, hb, rfl⟩)
  go_ret
  exact ⟨rfl, W2, hb, rfl⟩
/-- the powers of ten stand in memory, below all that is made from here on -/
def PowTab (w : World) : Prop := TabBelow Tryd.prog w.heap.size w "internal/strconv.uint64pow10" .u64 pow10Tab
theorem PowTab_below {w w' : World} (h : PowTab w) (hb : Below w.heap.size w w') : PowTab w' := fun w2 h2 => h w2 (hb.trans (h2.mono hb.size))
end Go.Proofs.YtkijneohhilboaaDoor.Room
