/- big.times, digit by digit from the right: what it hands to Norm. Conditions: decimal digits, both numbers from 0 to api.MaxStep, Norm's own contract. -/
import Derived.Test.YtkijneohhilboaaDoorBigRoom
import Derived.Laws.IdiomStrings
import Derived.Laws.MakeOwn
import Derived.RowKit
import Derived.Laws.Slices
import Derived.Test.YtkijneohhilboaaDoorWWords
import Derived.Deep.LoopGhost
import Derived.Test.YtkijneohhilboaaDoorAid
namespace Go.Proofs.YtkijneohhilboaaDoor.Room
set_option linter.unusedSimpArgs false
set_option linter.unusedVariables false
open Go.Shelf Go.RowKit Go.Sort Go.Lib Go.Proofs.YtkijneohhilboaaDoorW.PrintWords Go.Proofs.YtkijneohhilboaaDoor.Aid
/-- the digits of a number times m, and c: the bytes of the lower digits, and what is carried -/
def tim (m : Int) : List UInt8 → Int → List UInt8 × Int
  | [], c => ([], c)
  | x :: r, c => ((tim m r ((c + ((x.toNat : Int) - 48) * m) / 10)).1 ++ [UInt8.ofNat (48 + (c + ((x.toNat : Int) - 48) * m) % 10).toNat], (tim m r ((c + ((x.toNat : Int) - 48) * m) / 10)).2)
def timesL (m c : Int) (l : List UInt8) : List UInt8 := decDigits (tim m l.reverse c).2.toNat ++ (tim m l.reverse c).1
theorem tim_length (m : Int) : ∀ (l : List UInt8) (c : Int), (tim m l c).1.length = l.length
  | [], _ => rfl
  | x :: r, c => by rw [tim, List.length_append, tim_length m r]; rfl
def isDig (x : UInt8) : Prop := 48 ≤ x.toNat ∧ x.toNat ≤ 57
theorem step_bound {x : UInt8} (hx : isDig x) {m c : Int} (hm0 : 0 ≤ m) (hm1 : m ≤ 1099511627776) (hc0 : 0 ≤ c) (hc1 : c ≤ 1099511627776) :
    0 ≤ ((x.toNat : Int) - 48) * m ∧ ((x.toNat : Int) - 48) * m ≤ 9895604649984 ∧ 0 ≤ (c + ((x.toNat : Int) - 48) * m) / 10 ∧ (c + ((x.toNat : Int) - 48) * m) / 10 ≤ 1099511627776 := by
  obtain ⟨h0, h1⟩ := hx
  have a : 0 ≤ ((x.toNat : Int) - 48) * m := Int.mul_nonneg (by omega) hm0
  have b : ((x.toNat : Int) - 48) * m ≤ 9 * m := Int.mul_le_mul_of_nonneg_right (by omega) hm0
  omega
theorem tim_carry (m : Int) (hm0 : 0 ≤ m) (hm1 : m ≤ 1099511627776) : ∀ (l : List UInt8) (c : Int), (∀ x ∈ l, isDig x) → 0 ≤ c → c ≤ 1099511627776 → 0 ≤ (tim m l c).2 ∧ (tim m l c).2 ≤ 1099511627776
  | [], c, _, h0, h1 => ⟨h0, h1⟩
  | x :: r, c, hl, h0, h1 => by
    have := step_bound (hl x (by simp)) hm0 hm1 h0 h1
    exact tim_carry m hm0 hm1 r _ (fun y hy => hl y (by simp [hy])) this.2.2.1 this.2.2.2
theorem made0 (n : Nat) : madeCells (Value.int .u8 0).cells n = (List.replicate n (Value.int .u8 0)).toArray := by
  apply Array.ext
  · simp [madeCells]
  · intro i h1 h2
    simp [madeCells, Value.cells, Nat.mod_one]
theorem nDigits_le : ∀ (k u : Nat), u < 10 ^ (k + 1) → nDigits u ≤ k + 1
  | 0, u, h => by rw [nDigits_small (by simpa using h)]; exact Nat.le_refl _
  | k + 1, u, h => by
    by_cases h10 : u < 10
    · rw [nDigits_small h10]; omega
    · rw [nDigits_big h10]
      have := nDigits_le k (u / 10) (by rw [Nat.div_lt_iff_lt_mul (by decide)]; rw [Nat.pow_succ] at h; exact h)
      omega
theorem below_set0 {B g o : Nat} {v : Value} {w W : World} (h : Below B w W) (hg : B ≤ g) : Below B w (W.setCell ⟨g, o, none⟩ v) := ⟨h.os, h.tape, h.output, Nat.le_trans h.size (by simp [World.setCell]), fun k hk => (Below.heap_setCell W _ v k (by show k ≠ g; omega)).trans (h.block k hk)⟩
theorem below_setCells {B g : Nat} {w : World} (hg : B ≤ g) : ∀ (vs : List Value) (o : Nat) {W : World}, Below B w W → Below B w (W.setCells g o vs)
  | [], _, _, h => h
  | v :: vs, o, _, h => below_setCells hg vs (o + 1) (below_set0 h hg)
theorem setCells_size (g : Nat) : ∀ (vs : List Value) (o : Nat) (W : World), (W.setCells g o vs).heap.size = W.heap.size
  | [], _, _ => rfl
  | v :: vs, o, W => by
    rw [World.setCells, setCells_size g vs]
    simp [World.setCell]
theorem info5z : ∃ i, Tryd.prog.info? 5 = some i ∧ i.size = 1 ∧ i.zero = some (.int .u8 0) ∧ i.bytes = 1 := by
  have h : (Tryd.prog.info? 5).map (fun i => (i.size, i.zero, i.bytes)) = some (1, some (.int .u8 0), 1) := by kernel_rfl
  obtain ⟨i, hi, hs⟩ := Option.map_eq_some_iff.1 h
  simp only [Prod.mk.injEq] at hs
  exact ⟨i, hi, hs.1, hs.2.1, hs.2.2⟩
set_option maxHeartbeats 6400000 in
set_option maxRecDepth 100000 in
theorem times_calls (d : ByteArray) (hd : ∀ x ∈ d.data.toList, isDig x) (hs : d.size ≤ 1000000) (m c : Int) (hm0 : 0 ≤ m) (hm1 : m ≤ 1099511627776) (hc0 : 0 ≤ c) (hc1 : c ≤ 1099511627776) (r : ByteArray) (w : World)
    (htab : TabBelow Tryd.prog w.heap.size w "internal/strconv.uint64pow10" .u64 pow10Tab)
    (hN : ∀ W, Calls Tryd.prog 27 #[.bool false, .string ⟨(timesL m c d.data.toList).toArray⟩] W fun e w' => e = .returned (.string r) ∧ Below W.heap.size W w') :
    Calls Tryd.prog 42 #[.string d, .int .i64 m, .int .i64 c] w fun e w' => e = .returned (.string r) ∧ Below w.heap.size w w' := by
  obtain ⟨i0, hi, hz1, hz2, hz3⟩ := info5z
  have hw1 : IntKind.i64.wrap ((d.size : Int) + 16) = (d.size : Int) + 16 := by rw [IntKind.wrap_i64]; omega
  have hmk : ∀ W : World, (Instr.makeSlice 33 (.int .i64 ((d.size : Int) + 16)) (.int .i64 ((d.size : Int) + 16))).run Tryd.prog W = .ok (.slice (some ⟨W.heap.size, 0, none⟩) (d.size + 16) (d.size + 16)) (W.alloc (.cells (List.replicate (d.size + 16) (Value.int .u8 0)).toArray 5)) := fun W => by
    have h := run_make (P := Tryd.prog) W 33 5 i0 (.int .u8 0) Tryd.underlying33 hi hz2 .i64 .i64 ((d.size : Int) + 16) ((d.size : Int) + 16) (by omega) (Int.le_refl _) (by rw [hz3]; omega) (by omega)
    rw [hz1, Nat.mul_one, made0, show ((d.size : Int) + 16).toNat = d.size + 16 by omega] at h
    exact h
  go_enter Tryd.func42, Tryd.ntmps42
  go_wp2
  have hG2 : ∀ (x : Obj) (C : Array Value), ((w.alloc x).alloc (.cells C 5)).heap[w.heap.size + 1]? = some (.cells C 5 (0, 0)) := fun x C => by
    have h := heap_alloc_new (w.alloc x) (.cells C 5)
    rw [show (w.alloc x).heap.size = w.heap.size + 1 from Array.size_push _] at h
    exact h
  have hG1 : ∀ (x y : Obj), ((w.alloc x).alloc y).heap[w.heap.size]? = some x := fun x y => by
    rw [Below.heap_alloc (w.alloc x) y _ (by rw [show (w.alloc x).heap.size = w.heap.size + 1 from Array.size_push _]; omega)]
    exact heap_alloc_new w x
  have hBL : ∀ (x y : Obj), Below w.heap.size w ((w.alloc x).alloc y) := fun x y => below_alloc (below_alloc (Below.refl _ _) x) y
  generalize hz16 : (#[Value.int IntKind.u8 0, Value.int IntKind.u8 0, Value.int IntKind.u8 0, Value.int IntKind.u8 0, Value.int IntKind.u8 0, Value.int IntKind.u8 0, Value.int IntKind.u8 0, Value.int IntKind.u8 0, Value.int IntKind.u8 0, Value.int IntKind.u8 0, Value.int IntKind.u8 0, Value.int IntKind.u8 0, Value.int IntKind.u8 0, Value.int IntKind.u8 0, Value.int IntKind.u8 0, Value.int IntKind.u8 0] : Array Value) = z16
  go_loopg [2, 9, 10] d.size (fun kq v2 v9 v10 w' => ∃ (kk : Int) (o : List UInt8), v2 = .int .i64 kk ∧ v9 = .int .i64 ((kq : Int) + 16) ∧ v10 = .int .i64 ((kq : Int) - 1) ∧ Aside0 (kq ≤ d.size ∧ o.length + kq = d.size ∧ 0 ≤ kk ∧ kk ≤ 1099511627776 ∧ (tim m (d.data.toList.take kq).reverse kk).1 ++ o = (tim m d.data.toList.reverse c).1 ∧ (tim m (d.data.toList.take kq).reverse kk).2 = (tim m d.data.toList.reverse c).2) ∧
      Aside0 (w'.heap[w.heap.size + 1]? = some (.cells (List.replicate (kq + 16) (Value.int .u8 0) ++ o.map (fun b => Value.int .u8 (b.toNat : Int))).toArray 5 (0, 0))) ∧ Aside0 (w'.heap[w.heap.size]? = some (.cells z16 82 (0, 0))) ∧ Aside0 (Below w.heap.size w w'))
  case atStart =>
    refine ⟨c, [], rfl, rfl, rfl, ⟨Nat.le_refl _, by simp, hc0, hc1, ?_, ?_⟩, ⟨?_⟩, ⟨?_⟩, ⟨hBL _ _⟩⟩
    · rw [List.append_nil, List.take_of_length_le (Nat.le_of_eq (Lib.size_eq d).symm)]
    · rw [List.take_of_length_le (Nat.le_of_eq (Lib.size_eq d).symm)]
    · rw [hG2]; simp
    · rw [hG1]
  case round =>
    obtain ⟨kk, o, rfl, rfl, rfl, HF, HG2, HG1, HB⟩ := hrel
    cases gk with
    | zero =>
      obtain ⟨f1, f2, f3, f4, f5, f6⟩ := HF.out
      rw [List.take_zero, List.reverse_nil, tim] at f5 f6
      rw [List.nil_append] at f5
      have f6' : kk = (tim m d.data.toList.reverse c).2 := f6
      obtain ⟨u, rfl⟩ : ∃ u : Nat, kk = u := ⟨kk.toNat, by omega⟩
      have hT : timesL m c d.data.toList = decDigits u ++ o := by unfold timesL; rw [← f5, ← f6', Int.toNat_natCast]
      have hD13 : (decDigits u).length ≤ 16 := by
        rw [decDigits_length]
        exact nDigits_le 15 u (by omega)
      have hD1 : 0 < (decDigits u).length := by rw [decDigits_length]; exact nDigits_pos u
      have hsl : ∀ W, (Instr.sliceAt 82 (.pointer (some ⟨w.heap.size, 0, none⟩)) none (some (.int .i64 0)) none).run Tryd.prog W = .ok (.slice (some ⟨w.heap.size, 0, none⟩) 0 16) W := fun W => by
        rw [run_sliceAt_array_h W 82 ⟨w.heap.size, 0, none⟩ (by kernel_rfl) .i64 0 (by omega) (by rw [show Tryd.prog.arrayLen 82 = 16 by kernel_rfl]; omega)]
        rw [show Tryd.prog.arrayLen 82 = 16 by kernel_rfl]
        go_simp
      have hc1 : ∀ j, j < (decDigits u).length → (wr.cell? ⟨w.heap.size, 0 + 0 + j, none⟩).isSome = true := fun j hj => by
        rw [blk_cell HG1.out, ← hz16, Nat.add_zero, Nat.zero_add]
        have : j < 16 := by omega
        simp [this]
      have hf1 : ∀ j, j < (decDigits u).length → wr.frozen? ⟨w.heap.size, 0 + 0 + j, none⟩ = false := fun j hj => blk_frozen HG1.out _
      have happ := append_room w.heap.size 0 0 16 u (by omega) wr (by omega) hc1 hf1 (htab.on HB.out).here
      clear f5 f6 f6' HF
      go_wp2_with (go_at_call 70; refine happ.mono ?_; rintro e w2 ⟨rfl, W2, hb2, rfl⟩)
      have hlt1 : w.heap.size < wr.heap.size := blk_lt HG1.out
      have hlt2 : w.heap.size + 1 < wr.heap.size := blk_lt HG2.out
      have k1 := hb2.block _ hlt1
      have k2 := hb2.block _ hlt2
      rw [HG1.out] at k1
      rw [HG2.out, Nat.zero_add] at k2
      have hbl : (byteCells (decDigits u)).length = (decDigits u).length := byteCells_length _
      have hin1 := World.cell?_setCells_in w.heap.size (byteCells (decDigits u)) 0 W2 (fun j hj => by
        rw [blk_cell k1, ← hz16, Nat.zero_add]
        have : j < 16 := by omega
        simp [this])
      have hout1 : ∀ q, (W2.setCells w.heap.size 0 (byteCells (decDigits u))).cell? ⟨w.heap.size + 1, q, none⟩ = W2.cell? ⟨w.heap.size + 1, q, none⟩ := fun q => World.cell?_setCells_out _ _ _ _ _ (fun h => absurd h (by show w.heap.size + 1 ≠ w.heap.size; omega))
      have hone : ∀ v ∈ byteCells (decDigits u), v.oneCell' = true := fun v hv => by
        simp only [byteCells, List.mem_map] at hv
        obtain ⟨b, _, rfl⟩ := hv
        rfl
      have hrow : ∀ q, W2.cell? ⟨w.heap.size + 1, q, none⟩ = (List.replicate 16 (Value.int .u8 0) ++ o.map (fun b => Value.int .u8 (b.toNat : Int)))[q]? := fun q => by rw [blk_cell k2, List.getElem?_toArray]
      have hrl : (List.replicate 16 (Value.int .u8 0) ++ o.map (fun b => Value.int .u8 (b.toNat : Int))).length = d.size + 16 := by rw [List.length_append, List.length_replicate, List.length_map]; omega
      have hc3 : ∀ j, j < (byteCells (decDigits u)).length → ((W2.setCells w.heap.size 0 (byteCells (decDigits u))).cell? ⟨w.heap.size + 1, 16 - (decDigits u).length + j, none⟩).isSome = true := fun j hj => by
        rw [hout1, hrow, List.getElem?_eq_getElem (by rw [hrl]; omega)]
        rfl
      have hf3 : ∀ j, j < (byteCells (decDigits u)).length → (W2.setCells w.heap.size 0 (byteCells (decDigits u))).frozen? ⟨w.heap.size + 1, 16 - (decDigits u).length + j, none⟩ = false := fun j hj => by
        rw [World.frozen?_setCells]
        exact blk_frozen k2 _
      have hcp := run_copy_cells (P := Tryd.prog) (W2.setCells w.heap.size 0 (byteCells (decDigits u))) 33 33 3 5 (w.heap.size + 1) (16 - (decDigits u).length) (16 - (16 - (decDigits u).length)) (d.size + 16 - (16 - (decDigits u).length)) ⟨w.heap.size, 0, none⟩ (decDigits u).length 16 (byteCells (decDigits u)) Tryd.underlying33 (by rw [hi, Option.map_some, hz1]) (by rw [hbl]; show _ = min _ _; omega) (fun j v hj => by
        have hj' := (List.getElem?_eq_some_iff.1 hj).1
        have h := hin1 j hj'
        rw [List.getElem?_eq_getElem hj'] at hj
        rw [show (⟨w.heap.size, 0, none⟩ : Addr).add j = ⟨w.heap.size, 0 + j, none⟩ from Addr.add_lit _ _ _ , h]
        exact hj) hc3 hf3 hone
      rw [hbl] at hcp
      have hin2 := World.cell?_setCells_in (w.heap.size + 1) (byteCells (decDigits u)) (16 - (decDigits u).length) (W2.setCells w.heap.size 0 (byteCells (decDigits u))) hc3
      generalize hW4 : (W2.setCells w.heap.size 0 (byteCells (decDigits u))).setCells (w.heap.size + 1) (16 - (decDigits u).length) (byteCells (decDigits u)) = W4 at hcp hin2
      have hlen : (decDigits u ++ o).length = d.size + 16 - (16 - (decDigits u).length) := by rw [List.length_append]; omega
      have hcv := run_convert_bytes_back W4 33 9 5 ⟨w.heap.size + 1, 16 - (decDigits u).length, none⟩ (d.size + 16 - (16 - (decDigits u).length)) (decDigits u ++ o) Tryd.underlying33 Tryd.underlying5 Tryd.underlying9 (fun j hj => by
        rw [show (⟨w.heap.size + 1, 16 - (decDigits u).length, none⟩ : Addr).add j = ⟨w.heap.size + 1, 16 - (decDigits u).length + j, none⟩ from Addr.add_lit _ _ _]
        by_cases hjd : j < (decDigits u).length
        · rw [hin2 j (by rw [hbl]; exact hjd), List.getElem_append_left hjd]
          simp [byteCells]
        · rw [← hW4, World.cell?_setCells_out _ _ _ _ _ (fun _ _ => Or.inr (by show _ ≤ 16 - (decDigits u).length + j; rw [hbl]; omega)), hout1, hrow, List.getElem?_append_right (by rw [List.length_replicate]; omega), List.length_replicate, List.getElem_append_right (by omega), show 16 - (decDigits u).length + j - 16 = j - (decDigits u).length by omega, List.getElem?_map, List.getElem?_eq_getElem (by rw [List.length_append] at hj; omega)]
          rfl)
      rw [hlen] at hcv
      have hbel4 : Below w.heap.size w W4 := by
        rw [← hW4]
        exact below_setCells (by omega) _ _ (below_setCells (Nat.le_refl _) _ _ (HB.out.trans (hb2.mono (by omega))))
      have hN4 := hN W4
      rw [hT] at hN4
      clear hin1 hin2 hout1 hone hrow hrl hc3 hf3 hW4 k1 k2 hN hc1 hf1 hsl
      rw [hcp, Result.andThen_ok]
      go_wp2_with (go_at_call 27; refine hN4.mono ?_; rintro e w5 ⟨rfl, hb5⟩)
      go_ret
      exact ⟨rfl, hbel4.trans (hb5.mono hbel4.size)⟩
    | succ j =>
      obtain ⟨f1, f2, f3, f4, f5, f6⟩ := HF.out
      have hlt : j < d.data.toList.length := by rw [← Lib.size_eq]; omega
      obtain ⟨x, hxe, hdr⟩ := drop_cons hlt
      have hmem : x ∈ d.data.toList := List.mem_of_mem_drop (by rw [hdr]; exact List.mem_cons_self)
      have hdx := hd x hmem
      have hst := step_bound hdx hm0 hm1 f3 f4
      have hbx : bt d (j : Int) = (x.toNat : Int) := by rw [bt_nat, hxe]
      have p5 : (0 ≤ (j : Int)) = True := eq_true (by omega)
      have q5 : ((j : Int) < (d.size : Int)) = True := eq_true (by omega)
      have hx5 := bt_at d (j : Int)
      have e1 : ((j + 1 : Nat) : Int) - 1 = (j : Int) := by omega
      have e2 : ((j + 1 : Nat) : Int) + 16 = (j : Int) + 17 := by omega
      rw [e1, e2]
      have hdj : d[j]'(by omega) = x := by
        apply UInt8.toNat_inj.1
        have h1 : ((d[j]'(by omega)).toNat : Int) = ba d.data.toList j := by unfold ba; rw [List.getD_eq_getElem?_getD, List.getElem?_eq_getElem hlt]; rfl
        omega
      have s1 : ((x.toNat : Int) - 48) % 256 = (x.toNat : Int) - 48 := by have := hdx.1; have := hdx.2; omega
      obtain ⟨S, hS⟩ : ∃ S, kk + ((x.toNat : Int) - 48) * m = S := ⟨_, rfl⟩
      have s3 : wrap64 (((x.toNat : Int) - 48) * m) = ((x.toNat : Int) - 48) * m := wrap_id (by omega) (by omega)
      rw [hS] at hst
      have hS0 : 0 ≤ S := by omega
      have hS1 : S ≤ 20000000000000 := by omega
      have s4 : wrap64 S = S := wrap_id (by omega) (by omega)
      have s5 : S.tmod 10 = S % 10 := Int.tmod_eq_emod_of_nonneg hS0
      have s6 : wrap64 (48 + S % 10) = 48 + S % 10 := wrap_id (by omega) (by omega)
      have s7 : (48 + S % 10) % 256 = 48 + S % 10 := by omega
      have s8 : S.tdiv 10 = S / 10 := Int.tdiv_eq_ediv_of_nonneg hS0
      have s9 : wrap64 (S / 10) = S / 10 := wrap_id (by omega) (by omega)
      have hcl : wr.cell? ⟨w.heap.size + 1, j + 16, none⟩ = some (.int .u8 0) := by
        rw [blk_cell HG2.out, List.getElem?_toArray, List.getElem?_append_left (by rw [List.length_replicate]; omega), List.getElem?_replicate, if_pos (by omega)]
      have hfr := blk_frozen HG2.out (j + 16)
      have htk : (d.data.toList.take (j + 1)).reverse = x :: (d.data.toList.take j).reverse := by
        have h1 : d.data.toList[j] = x := by rw [List.drop_eq_getElem_cons hlt] at hdr; exact (List.cons.inj hdr).1
        rw [List.take_succ_eq_append_getElem hlt, List.reverse_append, h1]
        rfl
      clear hxe hdr
      go_wp2
      go_roundg j
      case measure => omega
      case rel =>
        have hb : (UInt8.ofNat (48 + S % 10).toNat).toNat = (48 + S % 10).toNat := by rw [UInt8.toNat_ofNat']; omega
        refine ⟨S / 10, UInt8.ofNat (48 + S % 10).toNat :: o, by first | rfl | (congr 1; omega), by first | rfl | (congr 1; omega), by first | rfl | (congr 1; omega), ⟨by omega, by simp only [List.length_cons]; omega, by omega, by omega, ?_, ?_⟩, ⟨?_⟩, ⟨?_⟩, ⟨below_set HB.out (by omega)⟩⟩
        · rw [← f5, htk, tim, hS, List.append_assoc]
          rfl
        · rw [← f6, htk, tim, hS]
        · rw [blk_set HG2.out]
          congr 2
          rw [List.setIfInBounds_toArray, show j + 1 + 16 = (j + 16) + 1 by omega, List.replicate_succ', List.append_assoc, List.set_append_right _ _ (by rw [List.length_replicate]; exact Nat.le_refl _), List.length_replicate, Nat.sub_self]
          simp only [List.singleton_append, List.set_cons_zero, List.map_cons, hb]
          rw [show (((48 + S % 10).toNat : Nat) : Int) = 48 + S % 10 by omega]
        · rw [Below.heap_setCell _ _ _ _ (by show w.heap.size ≠ w.heap.size + 1; omega)]
          exact HG1.out
end Go.Proofs.YtkijneohhilboaaDoor.Room
