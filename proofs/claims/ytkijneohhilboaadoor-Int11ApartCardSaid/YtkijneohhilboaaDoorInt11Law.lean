/- What the laws of chapter 6 have in common: the known answers. No conditions. -/
import Derived.Test.YtkijneohhilboaaDoorIntProg4
import Derived.Test.YtkijneohhilboaaDoorPIx3
namespace Go.Proofs.YtkijneohhilboaaDoor.IntSpec
set_option linter.unusedSimpArgs false
set_option linter.unusedVariables false
open Go.RowKit Go.Lib Go.Proofs.YtkijneohhilboaaDoor.Room Go.Proofs.YtkijneohhilboaaDoor.PI Go.Proofs.YtkijneohhilboaaDoorW.PrintWords Go.Proofs.YtkijneohhilboaaDoor.Aid Go.Proofs.YtkijneohhilboaaDoor.Num Go.Proofs.YtkijneohhilboaaDoor.BigFns Go.Proofs.YtkijneohhilboaaDoor.BigQ Go.Proofs.YtkijneohhilboaaDoor.RefBig Go.Proofs.YtkijneohhilboaaDoor.DecSpec Go.Proofs.YtkijneohhilboaaDoor.NumSpec
theorem known6_at : targumlaw6_known.f 300 = some true := by decide +kernel
theorem known6 (k : Nat) (hk : 300 ≤ k) : targumlaw6_known.f k = some true := at_rounds targumlaw6_known.mono hk known6_at
theorem int11_pos (l : List UInt8) : (int11 l).2 = 0 ∨ (int11 l).2 > 0 := by
  rw [int11_form]
  unfold formT
  cases h : core11 (sg l).2 with
  | none => exact .inl rfl
  | some p =>
    right
    show p.2 > 0
    unfold core11 at h
    by_cases h1 : (sg l).2.take 2 = [48, 98]
    · rw [if_pos h1] at h; obtain ⟨d, _, e⟩ := Option.map_eq_some_iff.1 h; rw [← e]; exact (show (1 : Int) > 0 by decide)
    · rw [if_neg h1] at h
      by_cases h2 : (sg l).2.take 2 = [48, 120]
      · rw [if_pos h2] at h; obtain ⟨d, _, e⟩ := Option.map_eq_some_iff.1 h; rw [← e]; exact (show (2 : Int) > 0 by decide)
      · rw [if_neg h2] at h
        by_cases h3 : (sg l).2 = [48]
        · rw [if_pos h3] at h; rw [← Option.some.inj h]; exact (show (4 : Int) > 0 by decide)
        · rw [if_neg h3] at h
          by_cases h4 : (sg l).2.head? = some 48
          · rw [if_pos h4] at h; obtain ⟨d, _, e⟩ := Option.map_eq_some_iff.1 h; rw [← e]; exact (show (3 : Int) > 0 by decide)
          · rw [if_neg h4] at h
            split at h
            · split at h
              · rw [← Option.some.inj h]; exact (show (5 : Int) > 0 by decide)
              · obtain ⟨d, _, e⟩ := Option.map_eq_some_iff.1 h; rw [← e]; exact (show (6 : Int) > 0 by decide)
            · cases h
end Go.Proofs.YtkijneohhilboaaDoor.IntSpec
