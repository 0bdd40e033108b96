/- What the reference's functions of layer 9 compute: the same as layer 9's own. No conditions. -/
import Derived.Test.YtkphlddgfmgogaaWordFns
import Derived.Test.YtkphlddgfmgogaaPZx3
import Derived.Test.YtkphlddgfmgogaaPZx4
namespace Go.Proofs.Ytkphlddgfmgogaa.WordRef
set_option linter.unusedSimpArgs false
set_option linter.unusedVariables false
open Go.RowKit Go.Proofs.Ytkphlddgfmgogaa.PZ Go.Proofs.YtkphlddgfmgogaaW.PrintWords Go.Proofs.Ytkphlddgfmgogaa.Aid Go.Proofs.Ytkphlddgfmgogaa.WordFns

theorem RefBool_eq (k : Nat) (hk : 3 ≤ k) (v : Int) (s : ByteArray) : targumref6_Bool.f k v s = some (boolOf v s.data.toList) := by
  obtain ⟨k, rfl⟩ : ∃ m, k = m + 3 := ⟨k - 3, by omega⟩
  have hs : s.toList = s.data.toList := Lib.toList_data s
  unfold targumref6_Bool.f boolOf
  simp only [targumref6_Bool.j0, targumref6_Bool.j1, hs]
  generalize s.data.toList = l
  by_cases hv : v = 11
  · subst hv
    by_cases h1 : l ∈ trueW ∨ l ∈ falseW ∨ l ∈ yesW ∨ l ∈ noW
    · simp only [trueW, falseW, yesW, noW, List.mem_cons, List.not_mem_nil, or_false] at h1
      rcases h1 with (rfl | rfl | rfl) | (rfl | rfl | rfl) | (rfl | rfl | rfl | rfl | rfl | rfl | rfl | rfl) | (rfl | rfl | rfl | rfl | rfl | rfl | rfl | rfl) <;> rfl
    · simp only [not_or] at h1
      obtain ⟨t, f, y, n⟩ := h1
      rw [if_neg t, if_neg f, if_neg y, if_neg n]
      simp only [trueW, falseW, yesW, noW, List.mem_cons, List.not_mem_nil, or_false, not_or] at t f y n
      simp only [y, n, t, f, if_false, if_true, beq_eq_false_iff_ne.2 y.2.2.2.2.2.2.2, beq_eq_false_iff_ne.2 t.2.2, Bool.false_eq_true]
  · have hb : (v == 11) = false := beq_eq_false_iff_ne.2 hv
    simp only [hb, if_neg hv]
    by_cases h1 : l ∈ trueW ∨ l ∈ falseW
    · simp only [trueW, falseW, List.mem_cons, List.not_mem_nil, or_false] at h1
      rcases h1 with (rfl | rfl | rfl) | (rfl | rfl | rfl) <;> rfl
    · simp only [not_or] at h1
      obtain ⟨t, f⟩ := h1
      rw [if_neg t, if_neg f]
      have e : (if l ∈ yesW then (false, false) else if l ∈ noW then ((false, false) : Bool × Bool) else (false, false)) = (false, false) := by
        split
        · rfl
        · split <;> rfl
      rw [e]
      simp only [trueW, falseW, List.mem_cons, List.not_mem_nil, or_false, not_or] at t f
      simp only [t, f, if_false, beq_eq_false_iff_ne.2 t.2.2, Bool.false_eq_true]
theorem RefNull_eq (s : ByteArray) : targumref6_Null.f s = some (nullOf s.data.toList) := by
  have hs : s.toList = s.data.toList := Lib.toList_data s
  unfold targumref6_Null.f nullOf
  rw [hs]
  generalize s.data.toList = l
  by_cases h : l ∈ nullW
  · rw [decide_eq_true h]
    simp only [nullW, List.mem_cons, List.not_mem_nil, or_false] at h
    rcases h with rfl | rfl | rfl | rfl | rfl <;> rfl
  · rw [decide_eq_false h]
    simp only [nullW, List.mem_cons, List.not_mem_nil, or_false, not_or] at h
    simp only [h, if_false, beq_eq_false_iff_ne.2 h.2.2.2.2]
theorem RefLetter_eq (c : Int) : targumref6_Letter.f c = some (isLetter c) := by
  unfold targumref6_Letter.f isLetter
  repeat' split
  all_goals (congr 1; symm; first | (apply decide_eq_true; omega) | (apply decide_eq_false; omega) | (rw [Bool.eq_iff_iff, decide_eq_true_eq, decide_eq_true_eq]; omega))
theorem RefDigit_eq (c : Int) : targumref4_IsDigit.f c = some (decide (48 ≤ c ∧ c ≤ 57)) := by
  unfold targumref4_IsDigit.f
  split
  · congr 1; rw [Bool.eq_iff_iff, decide_eq_true_eq, decide_eq_true_eq]; omega
  · congr 1; symm; apply decide_eq_false; omega
theorem RefPlain_l0 (s : ByteArray) (hs : s.size ≤ 140737488351232) : ∀ (d k i : Nat), i ≤ s.size → s.size - i = d → d + 4 ≤ k →
    targumref6_Plain.l0 k s i = some (okSigns false (s.data.toList.drop i) && (!(boolOf 11 s.data.toList).2 && !(boolOf 12 s.data.toList).2)) := by
  intro d
  induction d with
  | zero =>
    intro k i hi hd hk
    obtain ⟨k, rfl⟩ : ∃ m, k = m + 1 := ⟨k - 1, by omega⟩
    simp only [targumref6_Plain.l0]
    rw [if_neg (by omega), RefBool_eq k (by omega), RefBool_eq k (by omega), List.drop_of_length_le (by rw [← Lib.size_eq]; omega)]
    simp only [Option.bind_some, okSigns, Bool.true_and]
    cases (boolOf 11 s.data.toList).2 <;> rfl
  | succ d ih =>
    intro k i hi hd hk
    obtain ⟨k, rfl⟩ : ∃ m, k = m + 1 := ⟨k - 1, by omega⟩
    have hlt : i < s.data.toList.length := by rw [← Lib.size_eq]; omega
    obtain ⟨x, hx, hdr⟩ := drop_cons hlt
    have hb : bt s (i : Int) = x.toNat := by rw [bt_nat, hx]
    have go := ih k (i + 1) (by omega) (by omega) (by omega)
    rw [show ((i + 1 : Nat) : Int) = wrap64 ((i : Int) + 1) by rw [wrap_id (by omega) (by omega)]; omega] at go
    simp only [targumref6_Plain.l0]
    rw [if_pos (by omega), if_pos (by omega), RefLetter_eq, RefDigit_eq, hb, hdr]
    simp only [Option.bind_some, okSigns]
    rw [go]
    have yes : ∀ b : Bool, b = true → ∀ R : Bool, some R = some (b && R) := fun b hb R => by rw [hb, Bool.true_and]
    have no : ∀ b : Bool, b = false → ∀ R : Bool, some false = some (b && R) := fun b hb R => by rw [hb, Bool.false_and]
    rw [Bool.and_assoc]
    by_cases hl : isLetter (x.toNat : Int) = true
    · rw [if_pos hl]
      exact yes _ (by simp only [okSign, hl, Bool.true_or]) _
    · rw [if_neg hl]
      have hl' : isLetter (x.toNat : Int) = false := by simpa using hl
      have e : okSign false (x.toNat : Int) = decide ((x.toNat : Int) = 95 ∨ (x.toNat : Int) = 45 ∨ (48 ≤ (x.toNat : Int) ∧ (x.toNat : Int) ≤ 57)) := by simp only [okSign, hl', Bool.false_or, Bool.not_false, Bool.true_and]
      rw [e]
      simp only [decide_eq_true_eq]
      by_cases h3 : 48 ≤ (x.toNat : Int) ∧ (x.toNat : Int) ≤ 57
      · rw [if_pos h3]; exact yes _ (decide_eq_true (Or.inr (Or.inr h3))) _
      · rw [if_neg h3]
        by_cases h1 : (x.toNat : Int) = 95
        · rw [if_pos h1]; exact yes _ (decide_eq_true (Or.inl h1)) _
        · rw [if_neg h1]
          by_cases h2 : (x.toNat : Int) = 45
          · rw [if_pos h2]; exact yes _ (decide_eq_true (Or.inr (Or.inl h2))) _
          · rw [if_neg h2]; exact no _ (decide_eq_false (by omega)) _
theorem bool12 (l : List UInt8) (h : (boolOf 11 l).2 = false) : (boolOf 12 l).2 = false := by
  unfold boolOf at h ⊢
  split at h
  · cases h
  · rename_i h1
    rw [if_neg h1]
    split at h
    · cases h
    · rename_i h2
      rw [if_neg h2]
      split
      · rfl
      · split <;> rfl
theorem RefPlain_eq (s : ByteArray) (hs : s.size ≤ 140737488351232) (k : Nat) (hk : s.size + 6 ≤ k) : targumref6_Plain.f k s = some (plainOf s.data.toList) := by
  obtain ⟨k, rfl⟩ : ∃ m, k = m + 1 := ⟨k - 1, by omega⟩
  have ht : s.toList = s.data.toList := Lib.toList_data s
  unfold targumref6_Plain.f plainOf
  have stop : targumref6_Plain.j0 (k + 1) s true = some false := by simp [targumref6_Plain.j0]
  have go : targumref6_Plain.j0 (k + 1) s false = some (okSigns false s.data.toList && (!(boolOf 11 s.data.toList).2 && !(boolOf 12 s.data.toList).2)) := by
    simp only [targumref6_Plain.j0]
    rw [if_neg (by decide)]
    have := RefPlain_l0 s hs s.size k 0 (by omega) (by omega) (by omega)
    rw [List.drop_zero] at this
    exact this
  have h12 := bool12 s.data.toList
  rw [ht, stop, ← Lib.size_eq]
  by_cases h0 : s.data.toList = []
  · rw [if_pos h0, h0]; rfl
  · rw [if_neg h0]
    have hpos : 0 < s.data.toList.length := List.length_pos_iff.2 h0
    have hp : 0 < s.size := by rw [Lib.size_eq]; exact hpos
    by_cases h1 : (s.size : Int) > 40
    · rw [if_pos h1, decide_eq_false (p := s.size ≤ 40) (by omega), Bool.and_false]
    · rw [if_neg h1, if_pos (by omega), decide_eq_true (p := s.size ≤ 40) (by omega), Bool.and_true, RefLetter_eq, RefNull_eq]
      simp only [Option.bind_some]
      obtain ⟨x, hx, hdr⟩ := drop_cons (i := 0) hpos
      rw [List.drop_zero] at hdr
      have hb : bt s 0 = x.toNat := by
        have := bt_nat s 0
        rw [show ((0 : Nat) : Int) = 0 from rfl] at this
        rw [this, hx]
      rw [hb]
      have e1 : okSigns true s.data.toList = (isLetter (x.toNat : Int) && okSigns false (s.data.toList.drop 1)) := by
        rw [hdr]; simp [okSigns, okSign]
      have e2 : isLetter (x.toNat : Int) = true → okSigns false s.data.toList = okSigns false (s.data.toList.drop 1) := fun hl => by
        rw [hdr]; simp [okSigns, okSign, hl]
      by_cases hl : isLetter (x.toNat : Int) = true
      · rw [if_pos hl, e1, hl, Bool.true_and]
        cases hn : nullOf s.data.toList
        · rw [go, e2 hl]
          cases hq : (boolOf 11 s.data.toList).2
          · rw [h12 hq]; simp
          · simp
        · rw [stop]; simp
      · have hl' : isLetter (x.toNat : Int) = false := by simpa using hl
        rw [if_neg hl, e1, hl']; rfl
end Go.Proofs.Ytkphlddgfmgogaa.WordRef
