/- The pure law WordMore: what the new schema has for a word the old one has, too, and says the same; no word is two things; a plain one is none in either. No conditions. -/
import Derived.Test.YtkphlddgfmgogaaWordFns
import Derived.Test.YtkphlddgfmgogaaPWx2
namespace Go.Proofs.Ytkphlddgfmgogaa.Pure
set_option linter.unusedSimpArgs false
set_option linter.unusedVariables false
open Go.RowKit Go.Proofs.Ytkphlddgfmgogaa.PW Go.Proofs.YtkphlddgfmgogaaW.PrintWords Go.Proofs.Ytkphlddgfmgogaa.Aid Go.Proofs.Ytkphlddgfmgogaa.WordFns

theorem known9 (k : Nat) (hk : 60 ≤ k) : targumlaw9_known.f k = some true := at_rounds targumlaw9_known.mono hk (by decide +kernel)

theorem new_old (l : List UInt8) : ((boolOf 12 l).2 = true → (boolOf 11 l).2 = true ∧ (boolOf 12 l).1 = (boolOf 11 l).1) := by
  unfold boolOf
  repeat' split
  all_goals simp
theorem bool_null (l : List UInt8) : (boolOf 11 l).2 = true → nullOf l = false := by
  intro h
  have hm : l ∈ trueW ∨ l ∈ falseW ∨ l ∈ yesW ∨ l ∈ noW := by
    unfold boolOf at h
    by_cases h1 : l ∈ trueW
    · exact .inl h1
    · by_cases h2 : l ∈ falseW
      · exact .inr (.inl h2)
      · by_cases h3 : l ∈ yesW
        · exact .inr (.inr (.inl h3))
        · by_cases h4 : l ∈ noW
          · exact .inr (.inr (.inr h4))
          · rw [if_neg h1, if_neg h2, if_neg h3, if_neg h4] at h; cases h
  simp only [trueW, falseW, yesW, noW, List.mem_cons, List.not_mem_nil, or_false] at hm
  rcases hm with (rfl | rfl | rfl) | (rfl | rfl | rfl) | (rfl | rfl | rfl | rfl | rfl | rfl | rfl | rfl) | (rfl | rfl | rfl | rfl | rfl | rfl | rfl | rfl) <;> rfl
theorem plain_not (l : List UInt8) (h : plainOf l = true) : (boolOf 11 l).2 = false ∧ nullOf l = false ∧ l ≠ [60, 60] := by
  unfold plainOf at h
  simp only [Bool.and_eq_true, Bool.not_eq_true', decide_eq_true_eq] at h
  refine ⟨h.1.1.2, h.1.2, ?_⟩
  rintro rfl
  have := h.1.1.1
  revert this
  decide

theorem WordMore : targumlaw9_WordMore.Pure := by
  intro s hs
  refine ⟨200, ?_⟩
  unfold targumlaw9_WordMore.f
  rw [known9 _ (by omega)]
  simp only [Option.bind_some, if_true]
  by_cases hb : (s.size : Int) > 100
  · rw [if_pos hb]
  · rw [if_neg hb, Bool_eq _ (by omega), Bool_eq _ (by omega), Null_eq, Merge_eq, Plain_eq s hs _ (by omega)]
    simp only [Option.bind_some]
    have n := new_old s.data.toList
    have b := bool_null s.data.toList
    have p := plain_not s.data.toList
    generalize boolOf 12 s.data.toList = x at *
    generalize boolOf 11 s.data.toList = y at *
    generalize nullOf s.data.toList = z at *
    generalize plainOf s.data.toList = q at *
    obtain ⟨x1, x2⟩ := x
    obtain ⟨y1, y2⟩ := y
    by_cases hm : s.data.toList = [60, 60]
    · cases q
      · cases x1 <;> cases x2 <;> cases y1 <;> cases y2 <;> cases z <;> simp_all
      · exact absurd hm (p rfl).2.2
    · cases x1 <;> cases x2 <;> cases y1 <;> cases y2 <;> cases z <;> cases q <;> simp_all
end Go.Proofs.Ytkphlddgfmgogaa.Pure
