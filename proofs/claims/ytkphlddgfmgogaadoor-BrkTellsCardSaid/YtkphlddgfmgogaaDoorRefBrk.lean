/- What the reference's functions of layer 2 compute: the same as layer 2's own. No conditions. -/
import Derived.Test.YtkphlddgfmgogaaDoorBrkMarks
import Derived.Test.YtkphlddgfmgogaaDoorBrkLines
import Derived.Test.YtkphlddgfmgogaaDoorPBx10
import Derived.Test.YtkphlddgfmgogaaDoorPBx11
namespace Go.Proofs.YtkphlddgfmgogaaDoor.RefBrk
set_option linter.unusedSimpArgs false
set_option linter.unusedVariables false
open Go.RowKit Go.Proofs.YtkphlddgfmgogaaDoor.PB Go.Proofs.YtkphlddgfmgogaaDoorW.PrintWords Go.Proofs.YtkphlddgfmgogaaDoor.Aid Go.Proofs.YtkphlddgfmgogaaDoor.BrkFns Go.Proofs.YtkphlddgfmgogaaDoor.BrkMarks

theorem u8_eq (x : UInt8) (n : Nat) (hn : n < 256) : x = UInt8.ofNat n ↔ (x.toNat : Int) = n := by
  have e : (UInt8.ofNat n).toNat = n := by rw [UInt8.toNat_ofNat']; omega
  constructor
  · rintro rfl; rw [e]
  · intro h; apply UInt8.toNat_inj.1; rw [e]; omega
theorem pre2 (a b : Nat) (ha : a < 256) (hb : b < 256) : ∀ l : List UInt8, ([UInt8.ofNat a, UInt8.ofNat b] : List UInt8).isPrefixOf l = true ↔ 2 ≤ l.length ∧ ba l 0 = a ∧ ba l 1 = b
  | [] => by simp [List.isPrefixOf]
  | [x] => by simp [List.isPrefixOf]
  | x :: y :: t => by
    have h0 : ba (x :: y :: t) 0 = x.toNat := rfl
    have h1 : ba (x :: y :: t) 1 = y.toNat := rfl
    rw [h0, h1, ← u8_eq x a ha, ← u8_eq y b hb]
    simp only [List.isPrefixOf, Bool.and_eq_true, beq_iff_eq, and_true, List.length_cons]
    exact ⟨fun h => ⟨by omega, h.1.symm, h.2.symm⟩, fun h => ⟨h.2.1.symm, h.2.2.symm⟩⟩
theorem pre3 (a b c : Nat) (ha : a < 256) (hb : b < 256) (hc : c < 256) : ∀ l : List UInt8, ([UInt8.ofNat a, UInt8.ofNat b, UInt8.ofNat c] : List UInt8).isPrefixOf l = true ↔ 3 ≤ l.length ∧ ba l 0 = a ∧ ba l 1 = b ∧ ba l 2 = c
  | [] => by simp [List.isPrefixOf]
  | [x] => by simp [List.isPrefixOf]
  | [x, y] => by simp [List.isPrefixOf]
  | x :: y :: z :: t => by
    have h0 : ba (x :: y :: z :: t) 0 = x.toNat := rfl
    have h1 : ba (x :: y :: z :: t) 1 = y.toNat := rfl
    have h2 : ba (x :: y :: z :: t) 2 = z.toNat := rfl
    rw [h0, h1, h2, ← u8_eq x a ha, ← u8_eq y b hb, ← u8_eq z c hc]
    simp only [List.isPrefixOf, Bool.and_eq_true, beq_iff_eq, and_true, List.length_cons]
    exact ⟨fun h => ⟨by omega, h.1.symm, h.2.1.symm, h.2.2.symm⟩, fun h => ⟨h.2.1.symm, h.2.2.1.symm, h.2.2.2.symm⟩⟩
theorem brkW_num (v : Int) (l : List UInt8) : brkW v l =
    if v = 11 ∧ 3 ≤ l.length ∧ ba l 0 = 226 ∧ ba l 1 = 128 ∧ (ba l 2 = 168 ∨ ba l 2 = 169) then 3
    else if (v = 11 ∧ 2 ≤ l.length ∧ ba l 0 = 194 ∧ ba l 1 = 133) ∨ (2 ≤ l.length ∧ ba l 0 = 13 ∧ ba l 1 = 10) then 2
    else if ba l 0 = 13 ∨ ba l 0 = 10 then 1 else 0 := by
  have p1 := pre3 226 128 168 (by omega) (by omega) (by omega) l
  have p2 := pre3 226 128 169 (by omega) (by omega) (by omega) l
  have p3 := pre2 194 133 (by omega) (by omega) l
  have p4 := pre2 13 10 (by omega) (by omega) l
  change ([226, 128, 168] : List UInt8).isPrefixOf l = true ↔ _ at p1
  change ([226, 128, 169] : List UInt8).isPrefixOf l = true ↔ _ at p2
  change ([194, 133] : List UInt8).isPrefixOf l = true ↔ _ at p3
  change ([13, 10] : List UInt8).isPrefixOf l = true ↔ _ at p4
  unfold brkW
  simp only [p1, p2, p3, p4]
  generalize ba l 0 = x0
  generalize ba l 1 = x1
  generalize ba l 2 = x2
  generalize l.length = n
  repeat' split
  all_goals first | rfl | (exfalso; omega)

set_option maxHeartbeats 4000000 in
theorem RefBreak_eq (k : Nat) (hk : 13 ≤ k) (v : Int) (s : ByteArray) (hs : s.size ≤ 140737488351232) (i : Int) :
    targumref1_Break.f k v s i = some (if 0 ≤ i ∧ i < s.size then brkW v (s.data.toList.drop i.toNat) else 0) := by
  obtain ⟨k, rfl⟩ : ∃ m, k = m + 3 := ⟨k - 3, by omega⟩
  unfold targumref1_Break.f
  by_cases h : 0 ≤ i ∧ i < s.size
  · obtain ⟨h0, h1⟩ := h
    rw [if_pos (⟨h0, h1⟩ : 0 ≤ i ∧ i < (s.size : Int)), if_neg (by omega), decide_eq_false (by omega)]
    have hlen : (s.data.toList.drop i.toNat).length = s.size - i.toNat := by rw [List.length_drop, ← Lib.size_eq]
    have b0 : bt s i = ba (s.data.toList.drop i.toNat) 0 := by rw [bt_ba, ba_drop]; rfl
    have b1 : bt s (i + 1) = ba (s.data.toList.drop i.toNat) 1 := by rw [bt_ba, ba_drop]; congr 1; omega
    have hne : s.data.toList.drop i.toNat ≠ [] := by intro e; rw [e] at hlen; simp at hlen; omega
    simp only [targumref1_Break.j0, targumref1_Break.j1, targumref1_Break.j2]
    rw [Next_eq k (by omega) s hs i, if_pos (⟨h0, h1⟩ : 0 ≤ i ∧ i < (s.size : Int)), wrap_id (x := i + 1) (by omega) (by omega), b0, b1, brkW_num]
    simp only [Option.bind_some, Bool.false_eq_true, if_false, if_true, if_pos h0, if_pos h1, if_pos (show 0 ≤ i + 1 by omega)]
    generalize s.data.toList.drop i.toNat = l at hlen hne
    have n1 : (i + 1 < (s.size : Int)) ↔ 2 ≤ l.length := by omega
    simp only [n1]
    have r0 := ba_range l 0; have r1 := ba_range l 1; have r2 := ba_range l 2; have r3 := ba_range l 3
    obtain ⟨x0, e0⟩ : ∃ x : Nat, ba l 0 = x := ⟨(ba l 0).toNat, by omega⟩
    obtain ⟨x1, e1⟩ : ∃ x : Nat, ba l 1 = x := ⟨(ba l 1).toNat, by omega⟩
    obtain ⟨x2, e2⟩ : ∃ x : Nat, ba l 2 = x := ⟨(ba l 2).toNat, by omega⟩
    obtain ⟨x3, e3⟩ : ∃ x : Nat, ba l 3 = x := ⟨(ba l 3).toNat, by omega⟩
    have hp : 0 < l.length := List.length_pos_iff.2 hne
    have hn := nx_cases l hne x0 x1 x2 x3 e0 e1 e2 e3
    rw [e0] at r0; rw [e1] at r1; rw [e2] at r2; rw [e3] at r3
    rw [e0, e1, e2]
    generalize hN : l.length = n at hn hp ⊢
    have key : (x0 ≠ 10 ∧ x0 ≠ 13) → (if ((nx l).1 : Int) = 133 then some ((nx l).2 : Int) else if ((nx l).1 : Int) = 8232 then some ((nx l).2 : Int) else if ((nx l).1 : Int) = 8233 then some ((nx l).2 : Int) else some 0) =
        some (if 3 ≤ n ∧ x0 = 226 ∧ x1 = 128 ∧ (x2 = 168 ∨ x2 = 169) then (3 : Int) else if 2 ≤ n ∧ x0 = 194 ∧ x1 = 133 then 2 else 0) := fun hx => by
      clear hN e0 e1 e2 e3 hlen n1 b0 b1 hne
      rw [hn]
      clear hn
      by_cases c1 : x0 < 128
      · simp only [if_pos c1]
        rw [if_neg (by omega), if_neg (by omega), if_neg (by omega), if_neg (by omega), if_neg (by omega)]
      · simp only [if_neg c1]
        by_cases c2 : 192 ≤ x0 ∧ x0 < 224
        · simp only [if_pos c2]
          rw [if_neg (show ¬ (3 ≤ n ∧ x0 = 226 ∧ x1 = 128 ∧ (x2 = 168 ∨ x2 = 169)) by omega)]
          split
          · simp only
            rw [if_neg (show ¬ (((x0 % 32 * 64 + x1 % 64 : Nat) : Int) = 8232) by omega), if_neg (show ¬ (((x0 % 32 * 64 + x1 % 64 : Nat) : Int) = 8233) by omega)]
            by_cases d : 2 ≤ n ∧ x0 = 194 ∧ x1 = 133
            · rw [if_pos d, if_pos (by omega)]; rfl
            · rw [if_neg d, if_neg (by omega)]
          · simp only
            rw [if_neg (by omega), if_neg (by omega), if_neg (by omega), if_neg (by omega)]
        · simp only [if_neg c2]
          rw [if_neg (show ¬ (2 ≤ n ∧ x0 = 194 ∧ x1 = 133) by omega)]
          by_cases c3 : 224 ≤ x0 ∧ x0 < 240
          · simp only [if_pos c3]
            split
            · rename_i q
              simp only
              rw [if_neg (show ¬ (((x0 % 16 * 4096 + x1 % 64 * 64 + x2 % 64 : Nat) : Int) = 133) by omega)]
              by_cases d : 3 ≤ n ∧ x0 = 226 ∧ x1 = 128 ∧ (x2 = 168 ∨ x2 = 169)
              · rw [if_pos d]
                by_cases d2 : x2 = 168
                · rw [if_pos (by omega)]; rfl
                · rw [if_neg (by omega), if_pos (by omega)]; rfl
              · rw [if_neg d, if_neg (by omega), if_neg (by omega)]
            · rename_i q
              simp only
              rw [if_neg (by omega), if_neg (by omega), if_neg (by omega), if_neg (by omega)]
          · simp only [if_neg c3]
            rw [if_neg (show ¬ (3 ≤ n ∧ x0 = 226 ∧ x1 = 128 ∧ (x2 = 168 ∨ x2 = 169)) by omega)]
            split
            · split
              · rename_i q
                simp only
                rw [if_neg (by omega), if_neg (by omega), if_neg (by omega)]
              · simp only
                rw [if_neg (by omega), if_neg (by omega), if_neg (by omega)]
            · simp only
              rw [if_neg (by omega), if_neg (by omega), if_neg (by omega)]
    by_cases hx : x0 ≠ 10 ∧ x0 ≠ 13
    · rw [key hx]
      have i13 : ¬ ((x0 : Int) = 13) := by omega
      have i10 : ¬ ((x0 : Int) = 10) := by omega
      have f13 : ((x0 : Int) == 13) = false := beq_eq_false_iff_ne.2 i13
      simp only [if_neg i13, if_neg i10, f13, Bool.false_eq_true, if_false]
      by_cases hv : v = 11
      · subst hv
        rw [if_pos rfl]
        congr 1
        repeat' split
        all_goals first | rfl | (exfalso; omega)
      · rw [if_neg hv]
        congr 1
        repeat' split
        all_goals first | rfl | (exfalso; omega)
    · clear key hn
      rcases (show x0 = 10 ∨ x0 = 13 by omega) with rfl | rfl
      · simp
        repeat' split
        all_goals first | rfl | (exfalso; omega)
      · by_cases h2 : 2 ≤ n
        · by_cases ht : x1 = 10
          · subst ht; simp [h2]
          · have : ((x1 : Int) == 10) = false := beq_eq_false_iff_ne.2 (by omega)
            simp [h2, this, ht]
            omega
        · simp [h2]
  · rw [if_neg h]
    by_cases h1 : i < 0
    · rw [if_pos h1]; simp [targumref1_Break.j0]
    · rw [if_neg h1, decide_eq_true (by omega)]; simp [targumref1_Break.j0]

theorem RefMay_eq (k : Nat) (hk : 9 ≤ k) (s : ByteArray) (hs : s.size ≤ 140737488351232) (i : Int) :
    targumref1_May.f k s i = some (if 0 ≤ i ∧ i < s.size then (mayW (s.data.toList.drop i.toNat) : Int) else 0) := by
  unfold targumref1_May.f
  rw [Next_eq k hk s hs i]
  obtain ⟨k, rfl⟩ : ∃ m, k = m + 1 := ⟨k - 1, by omega⟩
  have all : ∀ c w : Nat, (if (c : Int) = 9 then targumref1_May.j0 (k + 1) c w true else if (c : Int) = 10 then targumref1_May.j0 (k + 1) c w true else if (c : Int) = 13 then targumref1_May.j0 (k + 1) c w true
      else if (c : Int) ≥ 32 then (if (c : Int) ≤ 126 then targumref1_May.j0 (k + 1) c w true else targumref1_May.j0 (k + 1) c w ((c : Int) == 133)) else targumref1_May.j0 (k + 1) c w ((c : Int) == 133)) = some (if mayS c = true then (w : Int) else 0) := fun c w => by
    have yes : targumref1_May.j0 (k + 1) c w true = some (w : Int) := by simp [targumref1_May.j0]
    have no : ∀ b : Bool, targumref1_May.j0 (k + 1) c w b = some (if b = true ∨ (160 ≤ c ∧ c ≤ 65533 ∧ c ≠ 65279) ∨ 65536 ≤ c then (w : Int) else 0) := fun b => by
      simp only [targumref1_May.j0]
      cases b <;> simp only [Bool.false_eq_true, if_false, if_true, true_or, false_or]
      repeat' split
      all_goals first | rfl | (exfalso; omega)
    rw [yes, no]
    unfold mayS
    simp only [decide_eq_true_eq, beq_iff_eq]
    repeat' split
    all_goals first | rfl | (exfalso; omega)
  by_cases h : 0 ≤ i ∧ i < s.size
  · rw [if_pos h, if_pos h]
    simp only [Option.bind_some]
    rw [all]
    unfold mayW
    split <;> rfl
  · rw [if_neg h, if_neg h]
    simp only [Option.bind_some]
    have := all 0 0
    simpa using this

theorem RefCheck_l0 (s : ByteArray) (hs : s.size ≤ 140737488351232) : ∀ (d k : Nat) (i : Nat), i ≤ s.size → s.size - i = d → d + 10 ≤ k →
    targumref1_Check.l0 k s i = some (chkF d (s.data.toList.drop i) i) := by
  intro d
  induction d using Nat.strongRecOn with
  | _ d ih =>
    intro k i hi hd hk
    obtain ⟨k, rfl⟩ : ∃ m, k = m + 1 := ⟨k - 1, by omega⟩
    simp only [targumref1_Check.l0]
    cases d with
    | zero => rw [if_neg (by omega)]; rfl
    | succ d =>
      have hne : s.data.toList.drop i ≠ [] := by
        intro e
        have := congrArg List.length e
        rw [List.length_drop, ← Lib.size_eq] at this
        simp at this
        omega
      rw [if_pos (by omega), RefMay_eq k (by omega) s hs, if_pos ⟨by omega, by omega⟩]
      simp only [Option.bind_some, Int.toNat_natCast, chkF, if_neg hne]
      by_cases hw : mayW (s.data.toList.drop i) = 0
      · rw [if_pos hw, if_pos (by omega)]
      · have hle := mayW_le (s.data.toList.drop i)
        rw [List.length_drop, ← Lib.size_eq] at hle
        rw [if_neg hw, if_neg (by omega), wrap_id (by omega) (by omega)]
        have := ih (d + 1 - mayW (s.data.toList.drop i)) (by omega) k (i + mayW (s.data.toList.drop i)) (by omega) (by omega) (by omega)
        rw [show ((i : Int) + (mayW (s.data.toList.drop i) : Int)) = ((i + mayW (s.data.toList.drop i) : Nat) : Int) by omega, this, List.drop_drop]
        congr 1
        exact chkF_enough _ _ _ _ (by rw [List.length_drop, ← Lib.size_eq]; omega) (by rw [List.length_drop, ← Lib.size_eq]; omega)
theorem RefCheck_eq (s : ByteArray) (hs : s.size ≤ 140737488351232) (k : Nat) (hk : s.size + 10 ≤ k) : targumref1_Check.f k s = some (chk s.data.toList) := by
  unfold targumref1_Check.f
  have := RefCheck_l0 s hs s.size k 0 (by omega) (by omega) hk
  rw [show (0 : Int) = ((0 : Nat) : Int) from rfl, this, List.drop_zero]
  unfold chk
  rw [← Lib.size_eq]
  rfl

theorem RefLines_l0 (v : Int) (s : ByteArray) (hs : s.size ≤ 140737488351232) (acc0 : Nat) (hacc : acc0 + s.size < 5864062014000) : ∀ (d k : Nat) (i : Nat) (a : Int) (acc : List S27), i ≤ s.size → s.size - i = d → d + 15 ≤ k → 0 ≤ a → a ≤ i → acc.length ≤ acc0 + i →
    targumref1_Lines.l0 k v s acc a i = some (acc ++ lns d v (s.data.toList.drop i) a i) := by
  intro d
  induction d using Nat.strongRecOn with
  | _ d ih =>
    intro k i a acc hi hd hk ha hai hl
    obtain ⟨k, rfl⟩ : ∃ m, k = m + 1 := ⟨k - 1, by omega⟩
    simp only [targumref1_Lines.l0]
    cases d with
    | zero =>
      rw [if_neg (by omega)]
      simp only [lns]
      by_cases h : a < (s.size : Int)
      · rw [if_pos h, if_pos (by omega), if_pos (by omega)]
        have : (s.size : Int) = i := by omega
        rw [this]
      · rw [if_neg h, if_neg (by omega), List.append_nil]
    | succ d =>
      have hlen : (s.data.toList.drop i).length = s.size - i := by rw [List.length_drop, ← Lib.size_eq]
      have hne : s.data.toList.drop i ≠ [] := by intro e; rw [e] at hlen; simp at hlen; omega
      have hb := brkW_range v (s.data.toList.drop i)
      rw [if_pos (by omega), RefBreak_eq k (by omega) v s hs, if_pos ⟨by omega, by omega⟩]
      simp only [Option.bind_some, Int.toNat_natCast, lns, if_neg hne]
      by_cases hw : brkW v (s.data.toList.drop i) = 0
      · rw [if_pos hw, if_pos hw, wrap_id (by omega) (by omega)]
        have := ih d (by omega) k (i + 1) a acc (by omega) (by omega) (by omega) ha (by omega) (by omega)
        rw [show ((i : Int) + 1) = ((i + 1 : Nat) : Int) by omega, this, List.drop_drop]
      · rw [if_neg hw, if_neg hw, if_pos (by omega), wrap_id (by omega) (by omega)]
        obtain ⟨w, hw'⟩ : ∃ w : Nat, brkW v (s.data.toList.drop i) = w := ⟨(brkW v (s.data.toList.drop i)).toNat, by omega⟩
        rw [hw'] at hb hw ⊢
        rw [hlen] at hb
        have := ih (d + 1 - w) (by omega) k (i + w) ((i + w : Nat) : Int) (acc ++ [⟨a, i, ((i + w : Nat) : Int)⟩]) (by omega) (by omega) (by omega) (by omega) (by omega) (by rw [List.length_append, List.length_singleton]; omega)
        rw [show ((i : Int) + (w : Int)) = ((i + w : Nat) : Int) by omega, this, List.append_assoc, List.singleton_append, Int.toNat_natCast, List.drop_drop]
        congr 3
        exact lns_enough _ _ _ _ _ _ (by rw [List.length_drop, ← Lib.size_eq]; omega) (by rw [List.length_drop, ← Lib.size_eq]; omega)
theorem RefLines_eq (v : Int) (s : ByteArray) (hs : s.size ≤ 1000000) (k : Nat) (hk : s.size + 15 ≤ k) : targumref1_Lines.f k v s = some (lines v s) := by
  unfold targumref1_Lines.f
  have := RefLines_l0 v s (by omega) 0 (by omega) s.size k 0 0 [] (by omega) (by omega) hk (by omega) (by omega) (by simp)
  show targumref1_Lines.l0 k v s [] 0 ((0 : Nat) : Int) = _
  rw [this, List.drop_zero, List.nil_append]
  rfl

/-! ### one line -/
def isL (s : ByteArray) (a b c : Int) : Prop := 0 ≤ a ∧ a ≤ b ∧ b ≤ c ∧ c ≤ s.size
instance (s : ByteArray) (a b c : Int) : Decidable (isL s a b c) := by unfold isL; infer_instance
def lineOf (s : ByteArray) (a b c : Int) : List UInt8 := if isL s a b c then (s.data.toList.drop a.toNat).take (b.toNat - a.toNat) else []
theorem says_eq (s : ByteArray) (a b c : Int) : ∃ t : ByteArray, brk_says.f s a b c = some (t, decide (isL s a b c)) ∧ t.data.toList = lineOf s a b c ∧ t.size ≤ s.size := by
  unfold brk_says.f lineOf
  by_cases h : isL s a b c
  · obtain ⟨h0, h1, h2, h3⟩ := id h
    rw [if_neg (by omega), if_neg (by omega), if_neg (by omega), if_neg (by omega), if_pos (by omega), if_pos (by omega), if_pos (by omega), if_pos h, decide_eq_true h]
    exact ⟨_, rfl, Lib.extract_data _ _ _, by rw [Lib.size_eq, Lib.extract_data, List.length_take, List.length_drop, ← Lib.size_eq]; omega⟩
  · rw [if_neg h, decide_eq_false h]
    unfold isL at h
    repeat' split
    all_goals first | exact ⟨_, rfl, rfl, by show 0 ≤ _; omega⟩ | (exfalso; omega)
theorem isLine_eq (s : ByteArray) (a b c : Int) : targumref1_isLine.f s a b c = some (decide (isL s a b c)) := by
  unfold targumref1_isLine.f
  have e : isL s a b c ↔ 0 ≤ a ∧ a ≤ b ∧ b ≤ c ∧ c ≤ s.size := Iff.rfl
  simp only [e]
  repeat' split
  all_goals (congr 1; first | (symm; apply decide_eq_false; omega) | (rw [decide_eq_decide]; omega))
theorem lineOf_is (s : ByteArray) (a b c : Int) (h : isL s a b c) : lineOf s a b c = (s.data.toList.drop a.toNat).take (b.toNat - a.toNat) := by unfold lineOf; rw [if_pos h]
theorem lineOf_not (s : ByteArray) (a b c : Int) (h : ¬ isL s a b c) : lineOf s a b c = [] := by unfold lineOf; rw [if_neg h]

theorem RefIndent_l0 (s : ByteArray) (hs : s.size ≤ 140737488351232) (a b : Nat) (c : Int) (hab : a ≤ b) (hb : b ≤ s.size) : ∀ (d k n : Nat), a + n + d = b → d + 1 ≤ k →
    targumref1_Indent.l0 k s n a b c = some (n + leadS ((s.data.toList.drop (a + n)).take d))
  | 0, k, n, h, hk => by
    obtain ⟨k, rfl⟩ : ∃ m, k = m + 1 := ⟨k - 1, by omega⟩
    simp only [targumref1_Indent.l0]
    rw [wrap_id (x := (a : Int) + n) (by omega) (by omega), if_neg (by omega)]
    simp [leadS]
  | d + 1, k, n, h, hk => by
    obtain ⟨k, rfl⟩ : ∃ m, k = m + 1 := ⟨k - 1, by omega⟩
    simp only [targumref1_Indent.l0]
    rw [wrap_id (x := (a : Int) + n) (by omega) (by omega), if_pos (by omega), if_pos (by omega), if_pos (by omega)]
    obtain ⟨x, hx, hd⟩ := drop_cons (l := s.data.toList) (i := a + n) (by rw [← Lib.size_eq]; omega)
    have hbt : bt s ((a : Int) + n) = x.toNat := by rw [bt_ba, hx]; congr 1
    rw [hbt, hd, List.take_succ_cons]
    unfold leadS
    rw [List.takeWhile_cons]
    by_cases h32 : x = 32
    · subst h32
      have ih := RefIndent_l0 s hs a b c hab hb d k (n + 1) (by omega) (by omega)
      rw [if_pos (by rfl), wrap_id (by omega) (by omega)]
      rw [show ((n + 1 : Nat) : Int) = (n : Int) + 1 by omega] at ih
      rw [ih]
      unfold leadS
      simp only [beq_self_eq_true, if_true, List.length_cons]
      rw [show a + (n + 1) = a + n + 1 by omega]
      congr 1
      omega
    · rw [if_neg (show ¬ ((x.toNat : Int) = 32) from fun e => h32 ((u8_eq x 32 (by omega)).2 e)), if_neg (show ¬ ((x == 32) = true) by simp [h32])]
      simp
theorem RefIndent_eq (k : Nat) (s : ByteArray) (hs : s.size ≤ 140737488351232) (hk : s.size + 1 ≤ k) (a b c : Int) : targumref1_Indent.f k s a b c = some (leadS (lineOf s a b c)) := by
  unfold targumref1_Indent.f
  rw [isLine_eq]
  simp only [Option.bind_some]
  by_cases h : isL s a b c
  · rw [if_pos (decide_eq_true h), lineOf_is _ _ _ _ h]
    obtain ⟨h0, h1, h2, h3⟩ := h
    obtain ⟨a, rfl⟩ : ∃ n : Nat, a = n := ⟨a.toNat, by omega⟩
    obtain ⟨b, rfl⟩ : ∃ n : Nat, b = n := ⟨b.toNat, by omega⟩
    have := RefIndent_l0 s hs a b c (by omega) (by omega) (b - a) k 0 (by omega) (by omega)
    rw [show ((0 : Nat) : Int) = 0 from rfl, Int.zero_add] at this
    exact this
  · rw [if_neg (by simp [h]), lineOf_not _ _ _ _ h]; rfl
theorem IsBlank_eq (s : ByteArray) (i : Nat) (h : i < s.size) : targumref1_IsBlank.f s i = some (decide (ba s.data.toList i = 32 ∨ ba s.data.toList i = 9)) := by
  unfold targumref1_IsBlank.f
  rw [if_pos (by omega), if_pos (by omega), if_pos (by omega), bt_nat]
  by_cases h1 : ba s.data.toList i = 32
  · rw [if_pos h1, decide_eq_true (.inl h1)]
  · rw [if_neg h1]
    congr 1
    rw [Bool.eq_iff_iff, beq_iff_eq, decide_eq_true_eq]
    exact ⟨.inr, fun q => q.resolve_left h1⟩
theorem RefBlank_l0 (s : ByteArray) (hs : s.size ≤ 140737488351232) (a c : Int) (b : Nat) (hb : b ≤ s.size) : ∀ (d k i : Nat), i + d = b → d + 1 ≤ k →
    targumref1_Blank.l0 k s i a b c = some (blankS ((s.data.toList.drop i).take d))
  | 0, k, i, h, hk => by
    obtain ⟨k, rfl⟩ : ∃ m, k = m + 1 := ⟨k - 1, by omega⟩
    simp only [targumref1_Blank.l0]
    rw [if_neg (by omega)]
    simp [blankS]
  | d + 1, k, i, h, hk => by
    obtain ⟨k, rfl⟩ : ∃ m, k = m + 1 := ⟨k - 1, by omega⟩
    simp only [targumref1_Blank.l0]
    rw [if_pos (by omega), IsBlank_eq s i (by omega)]
    obtain ⟨x, hx, hd⟩ := drop_cons (l := s.data.toList) (i := i) (by rw [← Lib.size_eq]; omega)
    rw [← hx, hd, List.take_succ_cons]
    have e32 := u8_eq x 32 (by omega)
    have e9 := u8_eq x 9 (by omega)
    change x = 32 ↔ (x.toNat : Int) = 32 at e32
    change x = 9 ↔ (x.toNat : Int) = 9 at e9
    simp only [Option.bind_some, decide_eq_true_eq]
    have ih := RefBlank_l0 s hs a c b hb d k (i + 1) (by omega) (by omega)
    rw [show ((i + 1 : Nat) : Int) = (i : Int) + 1 by omega] at ih
    unfold blankS at ih ⊢
    rw [List.all_cons]
    by_cases hc : (x.toNat : Int) = 32 ∨ (x.toNat : Int) = 9
    · rw [if_pos hc, wrap_id (by omega) (by omega), ih]
      rcases hc with q | q
      · rw [e32.2 q]; rfl
      · rw [e9.2 q]; rfl
    · rw [if_neg hc]
      have : (x == 32 || x == 9) = false := by
        rw [← e32, ← e9] at hc
        simpa using hc
      rw [this]; rfl
theorem RefBlank_eq (k : Nat) (s : ByteArray) (hs : s.size ≤ 140737488351232) (hk : s.size + 1 ≤ k) (a b c : Int) : targumref1_Blank.f k s a b c = some (decide (isL s a b c) && blankS (lineOf s a b c)) := by
  unfold targumref1_Blank.f
  rw [isLine_eq]
  simp only [Option.bind_some]
  by_cases h : isL s a b c
  · rw [if_pos (decide_eq_true h), lineOf_is _ _ _ _ h, decide_eq_true h, Bool.true_and]
    obtain ⟨h0, h1, h2, h3⟩ := h
    obtain ⟨a, rfl⟩ : ∃ n : Nat, a = n := ⟨a.toNat, by omega⟩
    obtain ⟨b, rfl⟩ : ∃ n : Nat, b = n := ⟨b.toNat, by omega⟩
    exact RefBlank_l0 s hs a c b (by omega) (b - a) k a (by omega) (by omega)
  · rw [if_neg (by simp [h]), decide_eq_false h]; rfl
theorem RefMarker_eq (k : Nat) (s : ByteArray) (hs : s.size ≤ 140737488351232) (hk : 1 ≤ k) (a b c : Int) : targumref1_Marker.f k s a b c = some (markS (lineOf s a b c)) := by
  obtain ⟨k, rfl⟩ : ∃ m, k = m + 1 := ⟨k - 1, by omega⟩
  unfold targumref1_Marker.f
  rw [isLine_eq]
  simp only [Option.bind_some]
  have stop : ∀ x y z : Int, targumref1_Marker.j0 (k + 1) s true x y z = some 0 := fun x y z => by simp [targumref1_Marker.j0]
  by_cases h : isL s a b c
  · rw [if_pos (decide_eq_true h), lineOf_is _ _ _ _ h]
    obtain ⟨h0, h1, h2, h3⟩ := h
    obtain ⟨a, rfl⟩ : ∃ n : Nat, a = n := ⟨a.toNat, by omega⟩
    obtain ⟨b, rfl⟩ : ∃ n : Nat, b = n := ⟨b.toNat, by omega⟩
    rw [wrap_id (x := (b : Int) - a) (by omega) (by omega), Int.toNat_natCast, Int.toNat_natCast]
    have hlen : ((s.data.toList.drop a).take (b - a)).length = b - a := by rw [List.length_take, List.length_drop, ← Lib.size_eq]; omega
    have hpre : ∀ m : List UInt8, m.length = 3 → 3 ≤ b - a → (m.isPrefixOf ((s.data.toList.drop a).take (b - a)) = true ↔ (s.data.toList.drop a).take 3 = m) := fun m hm h3' => by
      rw [List.isPrefixOf_iff_prefix, List.prefix_iff_eq_take, hm, List.take_take, show min 3 (b - a) = 3 by omega]
      exact eq_comm
    by_cases c1 : (b : Int) - a < 3
    · rw [if_pos c1, stop]
      congr 1
      unfold markS
      have np : ∀ m : List UInt8, m.length = 3 → ¬ (m.isPrefixOf ((s.data.toList.drop a).take (b - a)) = true) := fun m hm hp => by
        have := (List.isPrefixOf_iff_prefix.1 hp).length_le
        omega
      rw [if_neg (by rw [hlen]; omega), if_neg (np _ rfl), if_neg (np _ rfl)]
    · rw [if_neg c1]
      have go : targumref1_Marker.j0 (k + 1) s false a b c = some (if ([45, 45, 45] : List UInt8).isPrefixOf ((s.data.toList.drop a).take (b - a)) = true then (1 : Int) else if ([46, 46, 46] : List UInt8).isPrefixOf ((s.data.toList.drop a).take (b - a)) = true then 2 else 0) := by
        simp only [targumref1_Marker.j0]
        rw [if_neg (by decide), wrap_id (x := (a : Int) + 3) (by omega) (by omega), if_pos (by omega), if_pos (by omega), if_pos (by omega)]
        have ex : (s.extract ((a : Int)).toNat ((a : Int) + 3).toNat).toList = (s.data.toList.drop a).take 3 := by
          rw [Lib.extract_toList, Int.toNat_natCast, show ((a : Int) + 3).toNat - a = 3 by omega]
        rw [ex]
        simp only [hpre [45, 45, 45] rfl (by omega), hpre [46, 46, 46] rfl (by omega)]
        split
        · rfl
        · split <;> rfl
      by_cases c2 : (b : Int) - a > 3
      · rw [if_pos c2, wrap_id (x := (a : Int) + 3) (by omega) (by omega)]
        have := IsBlank_eq s (a + 3) (by omega)
        rw [show ((a + 3 : Nat) : Int) = (a : Int) + 3 by omega] at this
        rw [this]
        simp only [Option.bind_some]
        have e3 : ba ((s.data.toList.drop a).take (b - a)) 3 = ba s.data.toList (a + 3) := by rw [ba_take (by omega), ba_drop]
        unfold markS
        rw [e3, hlen]
        by_cases hb : ba s.data.toList (a + 3) = 32 ∨ ba s.data.toList (a + 3) = 9
        · rw [decide_eq_true hb, if_neg (by omega)]
          exact go
        · rw [decide_eq_false hb, if_pos (by omega)]
          exact stop _ _ _
      · rw [if_neg c2, go]
        unfold markS
        rw [hlen, if_neg (show ¬ (3 < b - a ∧ ba ((s.data.toList.drop a).take (b - a)) 3 ≠ 32 ∧ ba ((s.data.toList.drop a).take (b - a)) 3 ≠ 9) from fun q => by have := q.1; omega)]
  · rw [if_neg (by simp [h]), lineOf_not _ _ _ _ h, stop]; rfl

theorem Indent_eq (s : ByteArray) (hs : s.size ≤ 140737488351232) (a b c : Int) : brk_Indent.f s a b c = some (leadS (lineOf s a b c)) := by
  obtain ⟨t, h, hl, hz⟩ := says_eq s a b c
  rw [Indent_says s t _ a b c (by omega) h, hl]
theorem Blank_eq (s : ByteArray) (hs : s.size ≤ 140737488351232) (a b c : Int) : brk_Blank.f s a b c = some (decide (isL s a b c) && blankS (lineOf s a b c)) := by
  obtain ⟨t, h, hl, hz⟩ := says_eq s a b c
  rw [Blank_says s t _ a b c (by omega) h, hl]
theorem Marker_eq (k : Nat) (hk : 1 ≤ k) (s : ByteArray) (a b c : Int) : brk_Marker.f k s a b c = some (markS (lineOf s a b c)) := by
  obtain ⟨t, h, hl, hz⟩ := says_eq s a b c
  rw [Marker_says k hk s t _ a b c h, hl]
end Go.Proofs.YtkphlddgfmgogaaDoor.RefBrk
