/- What the functions of layer 9 compute, in plain words. No conditions. -/
import Derived.Test.YtkphlddgfmgogaaAid
import Derived.Test.YtkphlddgfmgogaaPZx1
import Derived.Test.YtkphlddgfmgogaaPZx2
namespace Go.Proofs.Ytkphlddgfmgogaa.WordFns
set_option linter.unusedSimpArgs false
set_option linter.unusedVariables false
open Go.RowKit Go.Proofs.Ytkphlddgfmgogaa.PZ Go.Proofs.YtkphlddgfmgogaaW.PrintWords Go.Proofs.Ytkphlddgfmgogaa.Aid

def yesW : List (List UInt8) := [[121], [89], [121, 101, 115], [89, 101, 115], [89, 69, 83], [111, 110], [79, 110], [79, 78]]
def noW : List (List UInt8) := [[110], [78], [110, 111], [78, 111], [78, 79], [111, 102, 102], [79, 102, 102], [79, 70, 70]]
def trueW : List (List UInt8) := [[116, 114, 117, 101], [84, 114, 117, 101], [84, 82, 85, 69]]
def falseW : List (List UInt8) := [[102, 97, 108, 115, 101], [70, 97, 108, 115, 101], [70, 65, 76, 83, 69]]
def nullW : List (List UInt8) := [[], [126], [110, 117, 108, 108], [78, 117, 108, 108], [78, 85, 76, 76]]
/-- what a word says, and whether it says anything -/
def boolOf (v : Int) (l : List UInt8) : Bool × Bool :=
  if l ∈ trueW then (true, true) else if l ∈ falseW then (false, true) else if l ∈ yesW then (v == 11, v == 11) else if l ∈ noW then (false, v == 11) else (false, false)

theorem Bool_eq (k : Nat) (hk : 3 ≤ k) (v : Int) (s : ByteArray) : word_Bool.f k v s = some (boolOf v s.data.toList) := by
  obtain ⟨k, rfl⟩ : ∃ m, k = m + 3 := ⟨k - 3, by omega⟩
  have hs : s.toList = s.data.toList := Lib.toList_data s
  unfold word_Bool.f boolOf
  simp only [word_Bool.j0, word_Bool.j1, word_Bool.j2, hs]
  generalize s.data.toList = l
  by_cases h1 : l ∈ trueW ∨ l ∈ falseW ∨ l ∈ yesW ∨ l ∈ noW
  · simp only [trueW, falseW, yesW, noW, List.mem_cons, List.not_mem_nil, or_false] at h1
    rcases h1 with (rfl | rfl | rfl) | (rfl | rfl | rfl) | (rfl | rfl | rfl | rfl | rfl | rfl | rfl | rfl) | (rfl | rfl | rfl | rfl | rfl | rfl | rfl | rfl) <;> rfl
  · simp only [not_or] at h1
    obtain ⟨t, f, y, n⟩ := h1
    rw [if_neg t, if_neg f, if_neg y, if_neg n]
    simp only [trueW, falseW, yesW, noW, List.mem_cons, List.not_mem_nil, or_false, not_or] at t f y n
    simp only [y, n, t, f, if_false, beq_eq_false_iff_ne.2 y.2.2.2.2.2.2.2, beq_eq_false_iff_ne.2 n.2.2.2.2.2.2.2, beq_eq_false_iff_ne.2 t.2.2, Bool.false_eq_true]

def nullOf (l : List UInt8) : Bool := decide (l ∈ nullW)
theorem Null_eq (s : ByteArray) : word_Null.f s = some (nullOf s.data.toList) := by
  have hs : s.toList = s.data.toList := Lib.toList_data s
  unfold word_Null.f nullOf
  rw [hs]
  generalize s.data.toList = l
  by_cases h : l ∈ nullW
  · rw [decide_eq_true h]
    simp only [nullW, List.mem_cons, List.not_mem_nil, or_false] at h
    rcases h with rfl | rfl | rfl | rfl | rfl <;> rfl
  · rw [decide_eq_false h]
    simp only [nullW, List.mem_cons, List.not_mem_nil, or_false, not_or] at h
    simp only [h, if_false]
theorem Merge_eq (s : ByteArray) : word_Merge.f s = some (decide (s.data.toList = [60, 60])) := by
  have hs : s.toList = s.data.toList := Lib.toList_data s
  unfold word_Merge.f
  rw [hs]
  congr 1
  rw [Bool.eq_iff_iff, beq_iff_eq, decide_eq_true_eq]

def isLetter (c : Int) : Bool := decide ((97 ≤ c ∧ c ≤ 122) ∨ (65 ≤ c ∧ c ≤ 90))
theorem letter_eq (c : Int) : word_letter.f c = some (isLetter c) := by
  unfold word_letter.f isLetter
  repeat' split
  all_goals (congr 1; symm; first | (apply decide_eq_true; omega) | (apply decide_eq_false; omega) | (rw [Bool.eq_iff_iff, decide_eq_true_eq, decide_eq_true_eq]; omega))
/-- may this sign stand in a plain text (first: as its first sign)? -/
def okSign (first : Bool) (c : Int) : Bool := isLetter c || (!first && decide (c = 95 ∨ c = 45 ∨ (48 ≤ c ∧ c ≤ 57)))
def okSigns : Bool → List UInt8 → Bool
  | _, [] => true
  | b, x :: r => okSign b x.toNat && okSigns false r
def plainOf (l : List UInt8) : Bool := okSigns true l && !(boolOf 11 l).2 && !nullOf l && decide (l.length ≤ 40)

theorem Plain_l0 (s : ByteArray) (hs : s.size ≤ 140737488351232) : ∀ (d k i : Nat), i ≤ s.size → s.size - i = d → d + 4 ≤ k →
    word_Plain.l0 k s s.size i = some (okSigns (i == 0) (s.data.toList.drop i) && !(boolOf 11 s.data.toList).2 && !nullOf s.data.toList && decide (s.data.toList.length ≤ 40)) := by
  intro d
  induction d with
  | zero =>
    intro k i hi hd hk
    obtain ⟨k, rfl⟩ : ∃ m, k = m + 1 := ⟨k - 1, by omega⟩
    simp only [word_Plain.l0]
    rw [if_neg (by omega), Bool_eq k (by omega), Null_eq, List.drop_of_length_le (by rw [← Lib.size_eq]; omega), ← Lib.size_eq]
    simp only [Option.bind_some, okSigns, Bool.true_and]
    cases (boolOf 11 s.data.toList).2
    · cases nullOf s.data.toList
      · simp only [Bool.false_eq_true, if_false, Bool.not_false, Bool.true_and, Option.some.injEq]
        rw [Bool.eq_iff_iff, decide_eq_true_eq, decide_eq_true_eq]
        omega
      · rfl
    · rfl
  | succ d ih =>
    intro k i hi hd hk
    obtain ⟨k, rfl⟩ : ∃ m, k = m + 1 := ⟨k - 1, by omega⟩
    have hlt : i < s.data.toList.length := by rw [← Lib.size_eq]; omega
    obtain ⟨x, hx, hdr⟩ := drop_cons hlt
    have hb : bt s (i : Int) = x.toNat := by rw [bt_nat, hx]
    have go := ih k (i + 1) (by omega) (by omega) (by omega)
    rw [show ((i + 1 : Nat) : Int) = wrap64 ((i : Int) + 1) by rw [wrap_id (by omega) (by omega)]; omega, show ((i + 1 == 0) = false) from rfl] at go
    simp only [word_Plain.l0]
    rw [if_pos (by omega), if_pos (by omega), if_pos (by omega), letter_eq, hb, hdr]
    simp only [Option.bind_some, okSigns]
    rw [go]
    by_cases hl : isLetter (x.toNat : Int) = true
    · rw [if_pos hl]
      simp only [okSign, hl, Bool.true_or, Bool.true_and]
    · rw [if_neg hl]
      have hl' : isLetter (x.toNat : Int) = false := by simpa using hl
      by_cases h0 : i = 0
      · subst h0
        simp [okSign, hl']
      · have hz : (i == 0) = false := beq_eq_false_iff_ne.2 h0
        have h0' : ¬ (i : Int) = 0 := by omega
        rw [if_neg h0', hz]
        have e : okSign false (x.toNat : Int) = decide ((x.toNat : Int) = 95 ∨ (x.toNat : Int) = 45 ∨ (48 ≤ (x.toNat : Int) ∧ (x.toNat : Int) ≤ 57)) := by simp only [okSign, hl', Bool.false_or, Bool.not_false, Bool.true_and]
        rw [e]
        have yes : ∀ b : Bool, b = true → ∀ R : Bool, some R = some (b && R) := fun b hb R => by rw [hb, Bool.true_and]
        have no : ∀ b : Bool, b = false → ∀ R : Bool, some false = some (b && R) := fun b hb R => by rw [hb, Bool.false_and]
        simp only [Bool.and_assoc]
        by_cases h1 : (x.toNat : Int) = 95
        · rw [if_pos h1]; exact yes _ (decide_eq_true (Or.inl h1)) _
        · rw [if_neg h1]
          by_cases h2 : (x.toNat : Int) = 45
          · rw [if_pos h2]; exact yes _ (decide_eq_true (Or.inr (Or.inl h2))) _
          · rw [if_neg h2]
            by_cases h3 : (x.toNat : Int) < 48
            · rw [if_pos h3]; exact no _ (decide_eq_false (by omega)) _
            · rw [if_neg h3]
              by_cases h4 : (x.toNat : Int) > 57
              · rw [if_pos h4]; exact no _ (decide_eq_false (by omega)) _
              · rw [if_neg h4]; exact yes _ (decide_eq_true (by omega)) _
theorem Plain_eq (s : ByteArray) (hs : s.size ≤ 140737488351232) (k : Nat) (hk : s.size + 4 ≤ k) : word_Plain.f k s = some (plainOf s.data.toList) := by
  unfold word_Plain.f
  have := Plain_l0 s hs s.size k 0 (by omega) (by omega) hk
  show word_Plain.l0 k s s.size ((0 : Nat) : Int) = _
  rw [this, List.drop_zero]
  rfl
end Go.Proofs.Ytkphlddgfmgogaa.WordFns
