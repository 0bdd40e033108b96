/- Whole numbers of the old schema: int11.Of tells the reference's number. No conditions but sizes. -/
import Derived.Test.YtkijneohhilboaaDoorIntProg2
import Derived.Lib.SplitLaws
import Derived.Test.YtkijneohhilboaaDoorPVx2
import Derived.Test.YtkijneohhilboaaDoorPVx5
namespace Go.Proofs.YtkijneohhilboaaDoor.IntSpec
set_option linter.unusedSimpArgs false
set_option linter.unusedVariables false
open Go.RowKit Go.Lib Go.Proofs.YtkijneohhilboaaDoor.Room Go.Proofs.YtkijneohhilboaaDoor.PV Go.Proofs.YtkijneohhilboaaDoorW.PrintWords Go.Proofs.YtkijneohhilboaaDoor.Aid Go.Proofs.YtkijneohhilboaaDoor.Num Go.Proofs.YtkijneohhilboaaDoor.BigFns Go.Proofs.YtkijneohhilboaaDoor.BigQ Go.Proofs.YtkijneohhilboaaDoor.RefBig Go.Proofs.YtkijneohhilboaaDoor.DecSpec Go.Proofs.YtkijneohhilboaaDoor.NumSpec Go.Proofs.YtkijneohhilboaaDoor.Jump
/-! ### a sign's first place; cutting at it, taking it out -/
theorem index_at (c : UInt8) : ∀ (p r : List UInt8), c ∉ p → Lib.index (p ++ c :: r) [c] = (p.length : Int)
  | [], r, _ => by rw [List.nil_append, Lib.index, if_pos (by simp [List.isPrefixOf])]; rfl
  | x :: p, r, h => by
    have hx : ¬ c = x := fun e => h (by simp [e])
    have ih := index_at c p r (fun e => h (by simp [e]))
    rw [List.cons_append, Lib.index, if_neg (by simp [List.isPrefixOf, hx]), ih, if_neg (by rw [beq_iff_eq]; omega), List.length_cons]
    omega
theorem index_miss (c : UInt8) : ∀ (p : List UInt8), c ∉ p → Lib.index p [c] = -1
  | [], _ => rfl
  | x :: p, h => by
    have hx : ¬ c = x := fun e => h (by simp [e])
    rw [Lib.index, if_neg (by simp [List.isPrefixOf, hx]), index_miss c p (fun e => h (by simp [e]))]; rfl
theorem spanC (c : UInt8) (q : List UInt8) : c ∉ q ∨ ∃ p r, q = p ++ c :: r ∧ c ∉ p := by
  induction q with
  | nil => exact .inl (by simp)
  | cons x q ih =>
    by_cases hx : x = c
    · exact .inr ⟨[], q, by rw [hx]; rfl, by simp⟩
    · rcases ih with h | ⟨p, r, e, hp⟩
      · left; intro q'
        rcases List.mem_cons.1 q' with e | e
        · exact hx e.symm
        · exact h e
      · right
        refine ⟨x :: p, r, by rw [e]; rfl, fun q' => ?_⟩
        rcases List.mem_cons.1 q' with e | e
        · exact hx e.symm
        · exact hp e
theorem sift_append (a b : List UInt8) : sift (a ++ b) = sift a ++ sift b := List.filter_append ..
theorem sift_no {p : List UInt8} (h : 95 ∉ p) : sift p = p := by
  unfold sift
  rw [List.filter_eq_self]
  intro x hx
  rw [bne_iff_ne]
  intro e; subst e; exact h hx
theorem replaceK_sift : ∀ (m : Nat) (l : List UInt8), l.length ≤ m → Lib.replaceK [95] [] (Lib.count l [95]) l = sift l := by
  intro m
  induction m with
  | zero =>
    intro l hl
    have : l = [] := List.length_eq_zero_iff.1 (by omega)
    subst this; rfl
  | succ m ih =>
    intro l hl
    rcases spanC 95 l with h | ⟨p, r, e, hp⟩
    · rw [Lib.count_miss (index_miss 95 l h)]
      exact (sift_no h).symm
    · have hi := index_at 95 p r hp
      have hlen : l.length = p.length + (r.length + 1) := by rw [e, List.length_append, List.length_cons]
      have hd : l.drop (p.length + 1) = r := by
        rw [e, show p ++ 95 :: r = (p ++ [95]) ++ r by simp, show p.length + 1 = (p ++ [95]).length by simp]
        exact List.drop_left' rfl
      rw [← e] at hi
      rw [Lib.count_hit (by simp) hi, show (([95] : List UInt8)).length = 1 from rfl, hd, Nat.add_comm 1, Lib.replaceK_hit _ _ _ _ p.length hi, show (([95] : List UInt8)).length = 1 from rfl, hd, ih r (by omega), List.append_nil, e, List.take_left' rfl, sift_append, sift_cons, if_pos rfl, sift_no hp]
theorem Replace_eq (l : List UInt8) (hl : l.length ≤ 1000000) : strings_ReplaceAll.f (txt l) (⟨#[95]⟩ : ByteArray) (⟨#[]⟩ : ByteArray) = some (txt (sift l)) := by
  unfold strings_ReplaceAll.f
  rw [if_pos ⟨by rw [txt_size]; omega, by decide, by rw [txt_size, show (⟨#[]⟩ : ByteArray).size = 0 from rfl, Nat.mul_zero]; omega⟩]
  congr 1
  apply ext_list
  show Lib.replaceAll l [95] [] = sift l
  unfold Lib.replaceAll Lib.replace Lib.replaceNum
  rw [if_neg (by decide), if_pos (.inl (by decide))]
  exact replaceK_sift l.length l (Nat.le_refl _)
theorem split_cols : ∀ (m : Nat) (l : List UInt8), l.length ≤ m → Lib.splitB (txt [58]) 0 (Lib.count l [58]) (txt l) = (cols l).map txt ∧ (cols l).length = Lib.count l [58] + 1 := by
  intro m
  induction m with
  | zero =>
    intro l hl
    have : l = [] := List.length_eq_zero_iff.1 (by omega)
    subst this; exact ⟨rfl, rfl⟩
  | succ m ih =>
    intro l hl
    rcases span58 l with ⟨h, hc⟩ | ⟨p, r, e, hp, hc, _⟩
    · have hi := index_miss 58 l h
      rw [Lib.count_miss hi, hc]
      exact ⟨Lib.splitB_zero _ _ _, rfl⟩
    · have hi := index_at 58 p r hp
      have hlen : l.length = p.length + (r.length + 1) := by rw [e, List.length_append, List.length_cons]
      have hd : l.drop (p.length + 1) = r := by
        rw [e, show p ++ 58 :: r = (p ++ [58]) ++ r by simp, show p.length + 1 = (p ++ [58]).length by simp]
        exact List.drop_left' rfl
      rw [← e] at hi
      obtain ⟨i1, i2⟩ := ih r (by omega)
      have hB : Lib.indexB (txt l) (txt [58]) = (p.length : Int) := hi
      have e1 : (txt l).extract 0 (p.length + 0) = txt p := by apply ext_list; rw [extract_take, txt_list, txt_list, e, Nat.add_zero]; exact List.take_left' rfl
      have e2 : (txt l).extract (p.length + (txt [58]).size) (txt l).size = txt r := by apply ext_list; rw [extract_end, txt_list, txt_list, txt_size]; exact hd
      rw [Lib.count_hit (by simp) hi, show (([58] : List UInt8)).length = 1 from rfl, hd, Nat.add_comm 1, Lib.splitB_hit _ _ _ _ p.length hB, e1, e2, i1, hc, List.map_cons, List.length_cons, i2]
      exact ⟨rfl, rfl⟩
theorem Split_eq (l : List UInt8) (hl : l.length ≤ 1000000) : strings_Split.f (txt l) (⟨#[58]⟩ : ByteArray) = some ((cols l).map txt) := by
  obtain ⟨h1, h2⟩ := split_cols l.length l (Nat.le_refl _)
  have hcl := cols_len l
  have hc : Lib.countB (txt l) (⟨#[58]⟩ : ByteArray) = Lib.count l [58] := rfl
  unfold strings_Split.f
  have hs : Lib.splitB (⟨#[58]⟩ : ByteArray) 0 (Lib.countB (txt l) (⟨#[58]⟩ : ByteArray)) (txt l) = (cols l).map txt := h1
  rw [hs, hc, if_pos ⟨by rw [txt_size]; omega, by decide, by rw [List.length_map, h2], by unfold maxLen; omega⟩]
end Go.Proofs.YtkijneohhilboaaDoor.IntSpec
