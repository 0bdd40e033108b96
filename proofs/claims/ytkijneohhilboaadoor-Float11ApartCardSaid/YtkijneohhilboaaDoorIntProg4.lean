/- Whole numbers of the old schema: int11.Of tells the reference's number. No conditions but sizes. -/
import Derived.Test.YtkijneohhilboaaDoorIntProg3
namespace Go.Proofs.YtkijneohhilboaaDoor.IntSpec
set_option linter.unusedSimpArgs false
set_option linter.unusedVariables false
open Go.RowKit Go.Lib Go.Proofs.YtkijneohhilboaaDoor.Room Go.Proofs.YtkijneohhilboaaDoor.PV Go.Proofs.YtkijneohhilboaaDoorW.PrintWords Go.Proofs.YtkijneohhilboaaDoor.Aid Go.Proofs.YtkijneohhilboaaDoor.Num Go.Proofs.YtkijneohhilboaaDoor.BigFns Go.Proofs.YtkijneohhilboaaDoor.BigQ Go.Proofs.YtkijneohhilboaaDoor.RefBig Go.Proofs.YtkijneohhilboaaDoor.DecSpec Go.Proofs.YtkijneohhilboaaDoor.NumSpec Go.Proofs.YtkijneohhilboaaDoor.Jump
theorem cols_mem : ∀ (q : List UInt8) (x : UInt8), x ∈ q → x = 58 ∨ ∃ p ∈ cols q, x ∈ p := by
  intro q
  induction q with
  | nil => intro x h; cases h
  | cons y q ih =>
    intro x h
    by_cases hy : y = 58
    · rcases List.mem_cons.1 h with e | e
      · exact .inl (e.trans hy)
      · rcases ih x e with h' | ⟨p, hp, hx⟩
        · exact .inl h'
        · right
          refine ⟨p, ?_, hx⟩
          rw [cols, if_pos hy]; exact List.mem_cons_of_mem _ hp
    · obtain ⟨p0, ps, hc⟩ : ∃ p0 ps, cols q = p0 :: ps := by
        cases hc : cols q with
        | nil => exact absurd hc (cols_ne q)
        | cons a b => exact ⟨a, b, rfl⟩
      have e1 : cols (y :: q) = (y :: p0) :: ps := by rw [cols, if_neg hy, hc]
      rw [e1]
      rcases List.mem_cons.1 h with e | e
      · exact .inr ⟨y :: p0, by simp, by rw [e]; simp⟩
      · rcases ih x e with h' | ⟨p, hp, hx⟩
        · exact .inl h'
        · rw [hc] at hp
          rcases List.mem_cons.1 hp with rfl | hp
          · exact .inr ⟨y :: p, by simp, by simp [hx]⟩
          · exact .inr ⟨p, by simp [hp], hx⟩
theorem parts_no95 {q : List UInt8} (h : (cols q).all okPart = true) : 95 ∉ q := by
  intro hx
  rcases cols_mem q 95 hx with e | ⟨p, hp, hx⟩
  · exact absurd e (by decide)
  · have := (okPart_digs (List.all_eq_true.1 h p hp)).1 95 hx
    exact absurd this.2 (by decide)
theorem okG_no58 {p : List UInt8} (h : okG 10 p = true) : 58 ∉ p := by
  intro hx
  have := List.all_eq_true.1 h 58 hx
  exact absurd this (by decide)
theorem Is_eq (l : List UInt8) (hl : l.length ≤ 100000) : int11_Is.f (txt l) = some ((int11 l).2 != 0) := by
  unfold int11_Is.f
  rw [Form_eq l hl]; rfl
end Go.Proofs.YtkijneohhilboaaDoor.IntSpec
