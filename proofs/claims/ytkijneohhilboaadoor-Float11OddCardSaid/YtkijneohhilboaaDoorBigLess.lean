/- big.less, digit by digit from the right: what it returns. Conditions: decimal digits, not too many. -/
import Derived.Test.YtkijneohhilboaaDoorBigTimes
import Derived.Test.YtkijneohhilboaaDoorXW
import Derived.Lib.LazyBuf
namespace Go.Proofs.YtkijneohhilboaaDoor.Room
set_option linter.unusedSimpArgs false
set_option linter.unusedVariables false
open Go.Shelf Go.RowKit Go.Sort Go.Lib Go.Proofs.YtkijneohhilboaaDoorW.PrintWords Go.Proofs.YtkijneohhilboaaDoor.Aid
/-- what is owed at a digit: the other number's digit, and one if one was owed -/
def owes (bs : List UInt8) (ow : Bool) : Int := (if ow then 1 else 0) + (match bs with | [] => 0 | y :: _ => (y.toNat : Int) - 48)
/-- digits (from the right) without those of another number -/
def les : List UInt8 → List UInt8 → Bool → List UInt8
  | [], _, _ => []
  | x :: r, bs, ow => if (x.toNat : Int) < 48 + owes bs ow then les r bs.tail true ++ [UInt8.ofNat ((x.toNat : Int) + 10 - owes bs ow).toNat] else les r bs.tail false ++ [UInt8.ofNat ((x.toNat : Int) - owes bs ow).toNat]
def lesL (a b : List UInt8) : List UInt8 := les a.reverse b.reverse false
def cellsOf (l : List UInt8) : List Value := l.map fun b => Value.int .u8 (b.toNat : Int)
theorem both {x y : Int} (h0 : -9223372036854775808 ≤ y) (h1 : y ≤ 9223372036854775807) (h : x = y) : wrap64 x = y ∧ IntKind.i64.wrap x = y := by
  subst h
  exact ⟨wrap_id h0 h1, by rw [IntKind.wrap_i64]; omega⟩
theorem ow_eq (ow : Bool) : (if ow then (1 : Int) else 0) = 0 ∨ (if ow then (1 : Int) else 0) = 1 := by cases ow <;> simp
set_option maxHeartbeats 6400000 in
set_option maxRecDepth 100000 in
theorem less_calls (a b : ByteArray) (ha : ∀ x ∈ a.data.toList, isDig x) (hb : ∀ x ∈ b.data.toList, isDig x) (hs : a.size ≤ 1000000) (hs' : b.size ≤ 1000000) (w : World) :
    Calls Tryd.prog 86 #[.string a, .string b] w fun e w' => e = .returned (.string ⟨(lesL a.data.toList b.data.toList).toArray⟩) ∧ Below w.heap.size w w' := by
  obtain ⟨i0, hi, hz1, hz2, hz3⟩ := info5z
  have hmk : ∀ W : World, (Instr.makeSlice 33 (.int .i64 (a.size : Int)) (.int .i64 (a.size : Int))).run Tryd.prog W = .ok (.slice (some ⟨W.heap.size, 0, none⟩) a.size a.size) (W.alloc (.cells (List.replicate a.size (Value.int .u8 0)).toArray 5)) := fun W => by
    have h := run_make (P := Tryd.prog) W 33 5 i0 (.int .u8 0) Tryd.underlying33 hi hz2 .i64 .i64 (a.size : Int) (a.size : Int) (by omega) (Int.le_refl _) (by rw [hz3]; omega) (by omega)
    rw [hz1, Nat.mul_one, made0, Int.toNat_natCast] at h
    exact h
  have hG0 : (w.alloc (.cells (List.replicate a.size (Value.int .u8 0)).toArray 5)).heap[w.heap.size]? = some (.cells (List.replicate a.size (Value.int .u8 0)).toArray 5 (0, 0)) := heap_alloc_new w _
  have hasz : a.data.toList.length = a.size := (Lib.size_eq a).symm
  have hbsz : b.data.toList.length = b.size := (Lib.size_eq b).symm
  have hcp := run_copy_string (P := Tryd.prog) (w.alloc (.cells (List.replicate a.size (Value.int .u8 0)).toArray 5)) 33 9 3 5 w.heap.size 0 a.size a.size a Tryd.underlying33 (fun W => by
      simp [sizeOf, typeInfo, hi, hz1]) (Nat.le_refl _) (fun j hj => by
      rw [blk_cell hG0, List.getElem?_toArray, Nat.zero_add, List.getElem?_replicate, if_pos hj]
      rfl) (fun j hj => blk_frozen hG0 _)
  have hW1 : ((w.alloc (.cells (List.replicate a.size (Value.int .u8 0)).toArray 5)).setCells w.heap.size 0 (cellsOf a.data.toList)).heap[w.heap.size]? = some (.cells (cellsOf a.data.toList).toArray 5 (0, 0)) := by
    have h := Go.Proofs.YtkijneohhilboaaDoor.XW.setCells_row w.heap.size 5 (0, 0) (cellsOf a.data.toList) (List.replicate a.size (Value.int .u8 0)) [] _ hG0 (by rw [List.length_replicate, cellsOf, List.length_map, hasz])
    rw [List.nil_append] at h
    have h2 : (w.alloc (.cells (List.replicate a.size (Value.int .u8 0)).toArray 5)).setRow w.heap.size (cellsOf a.data.toList).toArray = (w.alloc (.cells (List.replicate a.size (Value.int .u8 0)).toArray 5)).setCells w.heap.size 0 (cellsOf a.data.toList) := h
    rw [← h2]
    exact setRow_heap _ _ _ _ _ _ hG0
  have hBel : Below w.heap.size w ((w.alloc (.cells (List.replicate a.size (Value.int .u8 0)).toArray 5)).setCells w.heap.size 0 (cellsOf a.data.toList)) := below_setCells (Nat.le_refl _) _ _ (below_alloc (Below.refl _ _) _)
  change _ = Result.ok (goInt a.size) ((w.alloc (.cells (List.replicate a.size (Value.int .u8 0)).toArray 5)).setCells w.heap.size 0 (cellsOf a.data.toList)) at hcp
  rw [List.toArray_replicate] at hcp hW1 hBel
  generalize hWW : (w.alloc (.cells (Array.replicate a.size (Value.int .u8 0)) 5)).setCells w.heap.size 0 (cellsOf a.data.toList) = W1 at hcp hW1 hBel
  go_enter Tryd.func86, Tryd.ntmps86
  go_wp2
  go_loopg [6, 7] a.size (fun kq v6 v7 w' => ∃ (ow : Bool) (o : List UInt8), v6 = .int .u8 (if ow then 1 else 0) ∧ v7 = .int .i64 ((kq : Int) - 1) ∧ Aside0 (kq ≤ a.size ∧ o.length + kq = a.size ∧ les (a.data.toList.take kq).reverse (b.data.toList.take (kq + b.size - a.size)).reverse ow ++ o = lesL a.data.toList b.data.toList) ∧
      Aside0 (w'.heap[w.heap.size]? = some (.cells (cellsOf (a.data.toList.take kq) ++ cellsOf o).toArray 5 (0, 0))) ∧ Aside0 (Below w.heap.size w w'))
  case atStart =>
    refine ⟨false, [], rfl, rfl, ⟨Nat.le_refl _, by simp, ?_⟩, ⟨?_⟩, ⟨hBel⟩⟩
    · rw [List.append_nil, List.take_of_length_le (Nat.le_of_eq hasz), List.take_of_length_le (by omega)]
      rfl
    · rw [hW1, List.take_of_length_le (Nat.le_of_eq hasz), show cellsOf [] = [] from rfl, List.append_nil]
  case round =>
    obtain ⟨ow, o, rfl, rfl, HF, HG, HB⟩ := hrel
    clear hcp hW1 hBel hmk hG0
    cases gk with
    | zero =>
      obtain ⟨f1, f2, f3⟩ := HF.out
      rw [List.take_zero, List.reverse_nil, les, List.nil_append] at f3
      have hgo := HG.out
      rw [List.take_zero, show cellsOf [] = [] from rfl, List.nil_append] at hgo
      have hcv := run_convert_bytes_back wr 33 9 5 ⟨w.heap.size, 0, none⟩ a.size o Tryd.underlying33 Tryd.underlying5 Tryd.underlying9 (fun j hj => by
        rw [show (⟨w.heap.size, 0, none⟩ : Addr).add j = ⟨w.heap.size, 0 + j, none⟩ from Addr.add_lit _ _ _, Nat.zero_add, blk_cell hgo, List.getElem?_toArray, cellsOf, List.getElem?_map, List.getElem?_eq_getElem hj]
        rfl)
      rw [show o.length = a.size by omega] at hcv
      rw [f3] at hcv
      obtain ⟨O, hO⟩ : ∃ O : Int, (if ow then (1 : Int) else 0) = O := ⟨_, rfl⟩
      rw [hO]
      clear f3 HF hO
      go_wp2
      go_ret
      exact ⟨rfl, HB.out⟩
    | succ j =>
      obtain ⟨f1, f2, f3⟩ := HF.out
      have hlt : j < a.data.toList.length := by omega
      obtain ⟨x, hxe, hdr⟩ := drop_cons hlt
      have hxa : a.data.toList[j] = x := by rw [List.drop_eq_getElem_cons hlt] at hdr; exact (List.cons.inj hdr).1
      have hdx := ha x (List.mem_of_mem_drop (by rw [hdr]; exact List.mem_cons_self))
      have htk : (a.data.toList.take (j + 1)).reverse = x :: (a.data.toList.take j).reverse := by
        rw [List.take_succ_eq_append_getElem hlt, List.reverse_append, hxa]
        rfl
      obtain ⟨hx0, hx1⟩ := hdx
      have e1 : ((j + 1 : Nat) : Int) - 1 = (j : Int) := by omega
      rw [e1]
      have hcl : wr.cell? ⟨w.heap.size, j, none⟩ = some (.int .u8 (x.toNat : Int)) := by
        rw [blk_cell HG.out, List.getElem?_toArray, List.getElem?_append_left (by simp [cellsOf]; omega), cellsOf, List.getElem?_map, List.getElem?_take_of_lt (by omega), List.getElem?_eq_getElem hlt, hxa]
        rfl
      have hfr := blk_frozen HG.out j
      have qa : ((j : Int) < (a.size : Int)) = True := eq_true (by omega)
      have pa0 : (0 ≤ (j : Int)) = True := eq_true (by omega)
      obtain ⟨w1, w1'⟩ := both (x := (a.size : Int) - (b.size : Int)) (by omega) (by omega) rfl
      obtain ⟨O, hO⟩ : ∃ O : Int, (if ow then (1 : Int) else 0) = O := ⟨_, rfl⟩
      have hOr : O = 0 ∨ O = 1 := hO ▸ ow_eq ow
      rw [hO]
      rw [htk, les] at f3
      have put : ∀ v : UInt8, (wr.setCell ⟨w.heap.size, j, none⟩ (.int .u8 (v.toNat : Int))).heap[w.heap.size]? = some (.cells (cellsOf (a.data.toList.take j) ++ cellsOf (v :: o)).toArray 5 (0, 0)) := fun v => by
        rw [blk_set HG.out]
        congr 2
        rw [List.setIfInBounds_toArray, List.take_succ_eq_append_getElem hlt]
        have hlj : (cellsOf (a.data.toList.take j)).length = j := by simp [cellsOf]; omega
        simp only [cellsOf, List.map_append, List.map_cons, List.map_nil, List.append_assoc, List.singleton_append] at hlj ⊢
        rw [List.set_append_right _ _ (by omega), hlj, Nat.sub_self, List.set_cons_zero]
      have put2 : ∀ (u : Value) (v : UInt8), ((wr.setCell ⟨w.heap.size, j, none⟩ u).setCell ⟨w.heap.size, j, none⟩ (.int .u8 (v.toNat : Int))).heap[w.heap.size]? = some (.cells (cellsOf (a.data.toList.take j) ++ cellsOf (v :: o)).toArray 5 (0, 0)) := fun u v => by
        rw [blk_set (blk_set HG.out j u)]
        have h := put v
        rw [blk_set HG.out] at h
        rw [← h]
        congr 2
        simp
      by_cases hk : a.size ≤ j + b.size
      · have hkl : j + b.size - a.size < b.data.toList.length := by omega
        obtain ⟨y, hye, hyr⟩ := drop_cons hkl
        have hyb : b.data.toList[j + b.size - a.size] = y := by rw [List.drop_eq_getElem_cons hkl] at hyr; exact (List.cons.inj hyr).1
        have hdy := hb y (List.mem_of_mem_drop (by rw [hyr]; exact List.mem_cons_self))
        obtain ⟨hy0, hy1⟩ := hdy
        have htb : (b.data.toList.take (j + 1 + b.size - a.size)).reverse = y :: (b.data.toList.take (j + b.size - a.size)).reverse := by
          rw [show j + 1 + b.size - a.size = (j + b.size - a.size) + 1 by omega, List.take_succ_eq_append_getElem hkl, List.reverse_append, hyb]
          rfl
        obtain ⟨K, hK⟩ : ∃ K : Nat, j + b.size - a.size = K := ⟨_, rfl⟩
        obtain ⟨w2, w2'⟩ := both (x := (j : Int) - ((a.size : Int) - (b.size : Int))) (y := (K : Int)) (by omega) (by omega) (by omega)
        have qb : ((K : Int) < (b.size : Int)) = True := eq_true (by omega)
        have pb0 : (0 ≤ (K : Int)) = True := eq_true (by omega)
        have hKb : K < b.size := by omega
        have hdyK : b[K]'hKb = y := by
          rw [← hyb]
          simp only [hK]
          rfl
        obtain ⟨T, hT⟩ : ∃ T : Int, O + ((y.toNat : Int) - 48) = T := ⟨_, rfl⟩
        have howes : owes (b.data.toList.take (j + 1 + b.size - a.size)).reverse ow = T := by rw [htb, owes, hO]; exact hT
        have u1 : ((y.toNat : Int) - 48) % 256 = (y.toNat : Int) - 48 := by omega
        have u2 : T % 256 = T := by omega
        have htail : (b.data.toList.take (j + 1 + b.size - a.size)).reverse.tail = (b.data.toList.take (j + b.size - a.size)).reverse := by rw [htb]; rfl
        rw [howes, htail] at f3
        clear hye hyr htb howes htail hyb
        have u3 : (48 + T) % 256 = 48 + T := by omega
        clear hxe hdr htk HF
        by_cases hless : (x.toNat : Int) < 48 + T
        · rw [if_pos hless] at f3
          have h5 := eq_true hless
          have u4 : ((x.toNat : Int) + 10) % 256 = (x.toNat : Int) + 10 := by omega
          have u5 : ((x.toNat : Int) + 10 - T) % 256 = (x.toNat : Int) + 10 - T := by omega
          have hv : ((UInt8.ofNat ((x.toNat : Int) + 10 - T).toNat).toNat : Int) = (x.toNat : Int) + 10 - T := by rw [UInt8.toNat_ofNat']; omega
          go_wp2
          go_roundg j
          case measure => omega
          case rel =>
            refine ⟨true, UInt8.ofNat ((x.toNat : Int) + 10 - T).toNat :: o, rfl, by first | rfl | (congr 1; omega), ⟨by omega, by simp only [List.length_cons]; omega, ?_⟩, ⟨?_⟩, ⟨below_set0 (below_set0 HB.out (Nat.le_refl _)) (Nat.le_refl _)⟩⟩
            · rw [← f3, List.append_assoc]
              rfl
            · have h := put2 (.int .u8 ((x.toNat : Int) + 10)) (UInt8.ofNat ((x.toNat : Int) + 10 - T).toNat)
              rw [hv] at h
              exact h
        · rw [if_neg hless] at f3
          have h5 := eq_false hless
          have u5 : ((x.toNat : Int) - T) % 256 = (x.toNat : Int) - T := by omega
          have hv : ((UInt8.ofNat ((x.toNat : Int) - T).toNat).toNat : Int) = (x.toNat : Int) - T := by rw [UInt8.toNat_ofNat']; omega
          go_wp2
          go_roundg j
          case measure => omega
          case rel =>
            refine ⟨false, UInt8.ofNat ((x.toNat : Int) - T).toNat :: o, rfl, by first | rfl | (congr 1; omega), ⟨by omega, by simp only [List.length_cons]; omega, ?_⟩, ⟨?_⟩, ⟨below_set0 HB.out (Nat.le_refl _)⟩⟩
            · rw [← f3, List.append_assoc]
              rfl
            · have h := put (UInt8.ofNat ((x.toNat : Int) - T).toNat)
              rw [hv] at h
              exact h
      · obtain ⟨K, hK⟩ : ∃ K : Int, (j : Int) - ((a.size : Int) - (b.size : Int)) = K := ⟨_, rfl⟩
        obtain ⟨w2, w2'⟩ := both (x := K) (y := K) (by omega) (by omega) rfl
        have pb0 : (0 ≤ K) = False := eq_false (by omega)
        obtain ⟨T, hT⟩ : ∃ T : Int, O = T := ⟨_, rfl⟩
        have htb : (b.data.toList.take (j + 1 + b.size - a.size)).reverse = [] := by rw [show j + 1 + b.size - a.size = 0 by omega, List.take_zero]; rfl
        have htb0 : (b.data.toList.take (j + b.size - a.size)).reverse = [] := by rw [show j + b.size - a.size = 0 by omega, List.take_zero]; rfl
        have howes : owes (b.data.toList.take (j + 1 + b.size - a.size)).reverse ow = T := by rw [htb, owes, hO, Int.add_zero]; exact hT
        have htail : (b.data.toList.take (j + 1 + b.size - a.size)).reverse.tail = (b.data.toList.take (j + b.size - a.size)).reverse := by rw [htb, htb0]; rfl
        rw [howes, htail] at f3
        clear htb htb0 howes htail
        have u3 : (48 + T) % 256 = 48 + T := by omega
        clear hxe hdr htk HF
        by_cases hless : (x.toNat : Int) < 48 + T
        · rw [if_pos hless] at f3
          have h5 := eq_true hless
          have u4 : ((x.toNat : Int) + 10) % 256 = (x.toNat : Int) + 10 := by omega
          have u5 : ((x.toNat : Int) + 10 - T) % 256 = (x.toNat : Int) + 10 - T := by omega
          have hv : ((UInt8.ofNat ((x.toNat : Int) + 10 - T).toNat).toNat : Int) = (x.toNat : Int) + 10 - T := by rw [UInt8.toNat_ofNat']; omega
          go_wp2
          go_roundg j
          case measure => omega
          case rel =>
            refine ⟨true, UInt8.ofNat ((x.toNat : Int) + 10 - T).toNat :: o, rfl, by first | rfl | (congr 1; omega), ⟨by omega, by simp only [List.length_cons]; omega, ?_⟩, ⟨?_⟩, ⟨below_set0 (below_set0 HB.out (Nat.le_refl _)) (Nat.le_refl _)⟩⟩
            · rw [← f3, List.append_assoc]
              rfl
            · have h := put2 (.int .u8 ((x.toNat : Int) + 10)) (UInt8.ofNat ((x.toNat : Int) + 10 - T).toNat)
              rw [hv] at h
              exact h
        · rw [if_neg hless] at f3
          have h5 := eq_false hless
          have u5 : ((x.toNat : Int) - T) % 256 = (x.toNat : Int) - T := by omega
          have hv : ((UInt8.ofNat ((x.toNat : Int) - T).toNat).toNat : Int) = (x.toNat : Int) - T := by rw [UInt8.toNat_ofNat']; omega
          go_wp2
          go_roundg j
          case measure => omega
          case rel =>
            refine ⟨false, UInt8.ofNat ((x.toNat : Int) - T).toNat :: o, rfl, by first | rfl | (congr 1; omega), ⟨by omega, by simp only [List.length_cons]; omega, ?_⟩, ⟨?_⟩, ⟨below_set0 HB.out (Nat.le_refl _)⟩⟩
            · rw [← f3, List.append_assoc]
              rfl
            · have h := put (UInt8.ofNat ((x.toNat : Int) - T).toNat)
              rw [hv] at h
              exact h
end Go.Proofs.YtkijneohhilboaaDoor.Room
