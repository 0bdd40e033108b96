/- The reference's Break: what it computes, in plain words. No conditions. -/
import Derived.Test.YtkphlddgfmgogaaDoorBrkLines
import Derived.Test.YtkphlddgfmgogaaDoorPJx6
namespace Go.Proofs.YtkphlddgfmgogaaDoor.RefBrk1
set_option linter.unusedSimpArgs false
set_option linter.unusedVariables false
open Go.RowKit Go.Proofs.YtkphlddgfmgogaaDoor.PJ Go.Proofs.YtkphlddgfmgogaaDoorW.PrintWords Go.Proofs.YtkphlddgfmgogaaDoor.Aid Go.Proofs.YtkphlddgfmgogaaDoor.BrkFns

theorem u8_eq (x : UInt8) (n : Nat) (hn : n < 256) : x = UInt8.ofNat n ↔ (x.toNat : Int) = n := by
  have e : (UInt8.ofNat n).toNat = n := by rw [UInt8.toNat_ofNat']; omega
  constructor
  · rintro rfl; rw [e]
  · intro h; apply UInt8.toNat_inj.1; rw [e]; omega
theorem pre2 (a b : Nat) (ha : a < 256) (hb : b < 256) : ∀ l : List UInt8, ([UInt8.ofNat a, UInt8.ofNat b] : List UInt8).isPrefixOf l = true ↔ 2 ≤ l.length ∧ ba l 0 = a ∧ ba l 1 = b
  | [] => by simp [List.isPrefixOf]
  | [x] => by simp [List.isPrefixOf]
  | x :: y :: t => by
    have h0 : ba (x :: y :: t) 0 = x.toNat := rfl
    have h1 : ba (x :: y :: t) 1 = y.toNat := rfl
    rw [h0, h1, ← u8_eq x a ha, ← u8_eq y b hb]
    simp only [List.isPrefixOf, Bool.and_eq_true, beq_iff_eq, and_true, List.length_cons]
    exact ⟨fun h => ⟨by omega, h.1.symm, h.2.symm⟩, fun h => ⟨h.2.1.symm, h.2.2.symm⟩⟩
theorem pre3 (a b c : Nat) (ha : a < 256) (hb : b < 256) (hc : c < 256) : ∀ l : List UInt8, ([UInt8.ofNat a, UInt8.ofNat b, UInt8.ofNat c] : List UInt8).isPrefixOf l = true ↔ 3 ≤ l.length ∧ ba l 0 = a ∧ ba l 1 = b ∧ ba l 2 = c
  | [] => by simp [List.isPrefixOf]
  | [x] => by simp [List.isPrefixOf]
  | [x, y] => by simp [List.isPrefixOf]
  | x :: y :: z :: t => by
    have h0 : ba (x :: y :: z :: t) 0 = x.toNat := rfl
    have h1 : ba (x :: y :: z :: t) 1 = y.toNat := rfl
    have h2 : ba (x :: y :: z :: t) 2 = z.toNat := rfl
    rw [h0, h1, h2, ← u8_eq x a ha, ← u8_eq y b hb, ← u8_eq z c hc]
    simp only [List.isPrefixOf, Bool.and_eq_true, beq_iff_eq, and_true, List.length_cons]
    exact ⟨fun h => ⟨by omega, h.1.symm, h.2.1.symm, h.2.2.symm⟩, fun h => ⟨h.2.1.symm, h.2.2.1.symm, h.2.2.2.symm⟩⟩
theorem brkW_num (v : Int) (l : List UInt8) : brkW v l =
    if v = 11 ∧ 3 ≤ l.length ∧ ba l 0 = 226 ∧ ba l 1 = 128 ∧ (ba l 2 = 168 ∨ ba l 2 = 169) then 3
    else if (v = 11 ∧ 2 ≤ l.length ∧ ba l 0 = 194 ∧ ba l 1 = 133) ∨ (2 ≤ l.length ∧ ba l 0 = 13 ∧ ba l 1 = 10) then 2
    else if ba l 0 = 13 ∨ ba l 0 = 10 then 1 else 0 := by
  have p1 := pre3 226 128 168 (by omega) (by omega) (by omega) l
  have p2 := pre3 226 128 169 (by omega) (by omega) (by omega) l
  have p3 := pre2 194 133 (by omega) (by omega) l
  have p4 := pre2 13 10 (by omega) (by omega) l
  change ([226, 128, 168] : List UInt8).isPrefixOf l = true ↔ _ at p1
  change ([226, 128, 169] : List UInt8).isPrefixOf l = true ↔ _ at p2
  change ([194, 133] : List UInt8).isPrefixOf l = true ↔ _ at p3
  change ([13, 10] : List UInt8).isPrefixOf l = true ↔ _ at p4
  unfold brkW
  simp only [p1, p2, p3, p4]
  generalize ba l 0 = x0
  generalize ba l 1 = x1
  generalize ba l 2 = x2
  generalize l.length = n
  repeat' split
  all_goals first | rfl | (exfalso; omega)

set_option maxHeartbeats 4000000 in
theorem RefBreak_eq (k : Nat) (hk : 13 ≤ k) (v : Int) (s : ByteArray) (hs : s.size ≤ 140737488351232) (i : Int) :
    targumref1_Break.f k v s i = some (if 0 ≤ i ∧ i < s.size then brkW v (s.data.toList.drop i.toNat) else 0) := by
  obtain ⟨k, rfl⟩ : ∃ m, k = m + 3 := ⟨k - 3, by omega⟩
  unfold targumref1_Break.f
  by_cases h : 0 ≤ i ∧ i < s.size
  · obtain ⟨h0, h1⟩ := h
    rw [if_pos (⟨h0, h1⟩ : 0 ≤ i ∧ i < (s.size : Int)), if_neg (by omega), decide_eq_false (by omega)]
    have hlen : (s.data.toList.drop i.toNat).length = s.size - i.toNat := by rw [List.length_drop, ← Lib.size_eq]
    have b0 : bt s i = ba (s.data.toList.drop i.toNat) 0 := by rw [bt_ba, ba_drop]; rfl
    have b1 : bt s (i + 1) = ba (s.data.toList.drop i.toNat) 1 := by rw [bt_ba, ba_drop]; congr 1; omega
    have hne : s.data.toList.drop i.toNat ≠ [] := by intro e; rw [e] at hlen; simp at hlen; omega
    simp only [targumref1_Break.j0, targumref1_Break.j1, targumref1_Break.j2]
    rw [Next_eq k (by omega) s hs i, if_pos (⟨h0, h1⟩ : 0 ≤ i ∧ i < (s.size : Int)), wrap_id (x := i + 1) (by omega) (by omega), b0, b1, brkW_num]
    simp only [Option.bind_some, Bool.false_eq_true, if_false, if_true, if_pos h0, if_pos h1, if_pos (show 0 ≤ i + 1 by omega)]
    generalize s.data.toList.drop i.toNat = l at hlen hne
    have n1 : (i + 1 < (s.size : Int)) ↔ 2 ≤ l.length := by omega
    simp only [n1]
    have r0 := ba_range l 0; have r1 := ba_range l 1; have r2 := ba_range l 2; have r3 := ba_range l 3
    obtain ⟨x0, e0⟩ : ∃ x : Nat, ba l 0 = x := ⟨(ba l 0).toNat, by omega⟩
    obtain ⟨x1, e1⟩ : ∃ x : Nat, ba l 1 = x := ⟨(ba l 1).toNat, by omega⟩
    obtain ⟨x2, e2⟩ : ∃ x : Nat, ba l 2 = x := ⟨(ba l 2).toNat, by omega⟩
    obtain ⟨x3, e3⟩ : ∃ x : Nat, ba l 3 = x := ⟨(ba l 3).toNat, by omega⟩
    have hp : 0 < l.length := List.length_pos_iff.2 hne
    have hn := nx_cases l hne x0 x1 x2 x3 e0 e1 e2 e3
    rw [e0] at r0; rw [e1] at r1; rw [e2] at r2; rw [e3] at r3
    rw [e0, e1, e2]
    generalize hN : l.length = n at hn hp ⊢
    have key : (x0 ≠ 10 ∧ x0 ≠ 13) → (if ((nx l).1 : Int) = 133 then some ((nx l).2 : Int) else if ((nx l).1 : Int) = 8232 then some ((nx l).2 : Int) else if ((nx l).1 : Int) = 8233 then some ((nx l).2 : Int) else some 0) =
        some (if 3 ≤ n ∧ x0 = 226 ∧ x1 = 128 ∧ (x2 = 168 ∨ x2 = 169) then (3 : Int) else if 2 ≤ n ∧ x0 = 194 ∧ x1 = 133 then 2 else 0) := fun hx => by
      clear hN e0 e1 e2 e3 hlen n1 b0 b1 hne
      rw [hn]
      clear hn
      by_cases c1 : x0 < 128
      · simp only [if_pos c1]
        rw [if_neg (by omega), if_neg (by omega), if_neg (by omega), if_neg (by omega), if_neg (by omega)]
      · simp only [if_neg c1]
        by_cases c2 : 192 ≤ x0 ∧ x0 < 224
        · simp only [if_pos c2]
          rw [if_neg (show ¬ (3 ≤ n ∧ x0 = 226 ∧ x1 = 128 ∧ (x2 = 168 ∨ x2 = 169)) by omega)]
          split
          · simp only
            rw [if_neg (show ¬ (((x0 % 32 * 64 + x1 % 64 : Nat) : Int) = 8232) by omega), if_neg (show ¬ (((x0 % 32 * 64 + x1 % 64 : Nat) : Int) = 8233) by omega)]
            by_cases d : 2 ≤ n ∧ x0 = 194 ∧ x1 = 133
            · rw [if_pos d, if_pos (by omega)]; rfl
            · rw [if_neg d, if_neg (by omega)]
          · simp only
            rw [if_neg (by omega), if_neg (by omega), if_neg (by omega), if_neg (by omega)]
        · simp only [if_neg c2]
          rw [if_neg (show ¬ (2 ≤ n ∧ x0 = 194 ∧ x1 = 133) by omega)]
          by_cases c3 : 224 ≤ x0 ∧ x0 < 240
          · simp only [if_pos c3]
            split
            · rename_i q
              simp only
              rw [if_neg (show ¬ (((x0 % 16 * 4096 + x1 % 64 * 64 + x2 % 64 : Nat) : Int) = 133) by omega)]
              by_cases d : 3 ≤ n ∧ x0 = 226 ∧ x1 = 128 ∧ (x2 = 168 ∨ x2 = 169)
              · rw [if_pos d]
                by_cases d2 : x2 = 168
                · rw [if_pos (by omega)]; rfl
                · rw [if_neg (by omega), if_pos (by omega)]; rfl
              · rw [if_neg d, if_neg (by omega), if_neg (by omega)]
            · rename_i q
              simp only
              rw [if_neg (by omega), if_neg (by omega), if_neg (by omega), if_neg (by omega)]
          · simp only [if_neg c3]
            rw [if_neg (show ¬ (3 ≤ n ∧ x0 = 226 ∧ x1 = 128 ∧ (x2 = 168 ∨ x2 = 169)) by omega)]
            split
            · split
              · rename_i q
                simp only
                rw [if_neg (by omega), if_neg (by omega), if_neg (by omega)]
              · simp only
                rw [if_neg (by omega), if_neg (by omega), if_neg (by omega)]
            · simp only
              rw [if_neg (by omega), if_neg (by omega), if_neg (by omega)]
    by_cases hx : x0 ≠ 10 ∧ x0 ≠ 13
    · rw [key hx]
      have i13 : ¬ ((x0 : Int) = 13) := by omega
      have i10 : ¬ ((x0 : Int) = 10) := by omega
      have f13 : ((x0 : Int) == 13) = false := beq_eq_false_iff_ne.2 i13
      simp only [if_neg i13, if_neg i10, f13, Bool.false_eq_true, if_false]
      by_cases hv : v = 11
      · subst hv
        rw [if_pos rfl]
        congr 1
        repeat' split
        all_goals first | rfl | (exfalso; omega)
      · rw [if_neg hv]
        congr 1
        repeat' split
        all_goals first | rfl | (exfalso; omega)
    · clear key hn
      rcases (show x0 = 10 ∨ x0 = 13 by omega) with rfl | rfl
      · simp
        repeat' split
        all_goals first | rfl | (exfalso; omega)
      · by_cases h2 : 2 ≤ n
        · by_cases ht : x1 = 10
          · subst ht; simp [h2]
          · have : ((x1 : Int) == 10) = false := beq_eq_false_iff_ne.2 (by omega)
            simp [h2, this, ht]
            omega
        · simp [h2]
  · rw [if_neg h]
    by_cases h1 : i < 0
    · rw [if_pos h1]; simp [targumref1_Break.j0]
    · rw [if_neg h1, decide_eq_true (by omega)]; simp [targumref1_Break.j0]
end Go.Proofs.YtkphlddgfmgogaaDoor.RefBrk1
