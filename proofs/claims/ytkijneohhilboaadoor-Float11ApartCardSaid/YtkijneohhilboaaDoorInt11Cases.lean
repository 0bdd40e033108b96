/- What the core of a whole number is, by cases. No conditions. -/
import Derived.Test.YtkijneohhilboaaDoorIntProg4
namespace Go.Proofs.YtkijneohhilboaaDoor.IntSpec
set_option linter.unusedSimpArgs false
set_option linter.unusedVariables false
open Go.RowKit Go.Lib Go.Proofs.YtkijneohhilboaaDoor.Room Go.Proofs.YtkijneohhilboaaDoor.PV Go.Proofs.YtkijneohhilboaaDoorW.PrintWords Go.Proofs.YtkijneohhilboaaDoor.Aid Go.Proofs.YtkijneohhilboaaDoor.Num Go.Proofs.YtkijneohhilboaaDoor.BigFns Go.Proofs.YtkijneohhilboaaDoor.BigQ Go.Proofs.YtkijneohhilboaaDoor.RefBig Go.Proofs.YtkijneohhilboaaDoor.DecSpec Go.Proofs.YtkijneohhilboaaDoor.NumSpec
/-- what the core is, by cases -/
theorem core_cases {t : List UInt8} {n : Nat} {f : Int} (h : core11 t = some (n, f)) :
    (∃ d, t = 48 :: 98 :: d ∧ ∃ e, bareL 2 d = some e ∧ n = bval 2 e ∧ f = 1) ∨ (∃ d, t = 48 :: 120 :: d ∧ ∃ e, bareL 16 d = some e ∧ n = bval 16 e ∧ f = 2) ∨ (t = [48] ∧ n = 0 ∧ f = 4) ∨
    (∃ d, t = 48 :: d ∧ d.head? ≠ some 98 ∧ d.head? ≠ some 120 ∧ ∃ e, bareL 8 d = some e ∧ n = bval 8 e ∧ f = 3) ∨
    (∃ x r, t = x :: r ∧ (49 ≤ x.toNat ∧ x.toNat ≤ 57) ∧ ((∃ e, bareL 10 (x :: r) = some e ∧ n = val e ∧ f = 5) ∨ (bareL 10 (x :: r) = none ∧ six (x :: r) = some n ∧ f = 6))) := by
  unfold core11 at h
  split at h
  · rename_i h1
    obtain ⟨e, he, hh⟩ := Option.map_eq_some_iff.1 h
    refine .inl ⟨t.drop 2, ?_, e, he, (Prod.mk.inj hh).1.symm, (Prod.mk.inj hh).2.symm⟩
    rw [← List.take_append_drop 2 t, h1]; rfl
  · split at h
    · rename_i h1
      obtain ⟨e, he, hh⟩ := Option.map_eq_some_iff.1 h
      refine .inr (.inl ⟨t.drop 2, ?_, e, he, (Prod.mk.inj hh).1.symm, (Prod.mk.inj hh).2.symm⟩)
      rw [← List.take_append_drop 2 t, h1]; rfl
    · split at h
      · rename_i h1
        have hh := Option.some.inj h
        exact .inr (.inr (.inl ⟨h1, (Prod.mk.inj hh).1.symm, (Prod.mk.inj hh).2.symm⟩))
      · split at h
        · rename_i n1 n2 n3 h1
          obtain ⟨e, he, hh⟩ := Option.map_eq_some_iff.1 h
          obtain ⟨d, rfl⟩ : ∃ d, t = 48 :: d := by
            cases t with
            | nil => cases h1
            | cons x r => exact ⟨r, by rw [Option.some.inj (show some x = some 48 from h1)]⟩
          refine .inr (.inr (.inr (.inl ⟨d, rfl, fun q => n1 ?_, fun q => n2 ?_, e, he, (Prod.mk.inj hh).1.symm, (Prod.mk.inj hh).2.symm⟩)))
          · cases d with
            | nil => cases q
            | cons y r => rw [Option.some.inj (show some y = some 98 from q)]; rfl
          · cases d with
            | nil => cases q
            | cons y r => rw [Option.some.inj (show some y = some 120 from q)]; rfl
        · split at h
          · rename_i h1
            obtain ⟨x, hx, hd⟩ := h1
            obtain ⟨r, rfl⟩ : ∃ r, t = x :: r := by
              cases t with
              | nil => cases hx
              | cons y r => exact ⟨r, by rw [Option.some.inj (show some y = some x from hx)]⟩
            refine .inr (.inr (.inr (.inr ⟨x, r, rfl, hd, ?_⟩)))
            cases hb : bareL 10 (x :: r) with
            | some e =>
              rw [hb] at h
              have hh := Option.some.inj h
              exact .inl ⟨e, rfl, (Prod.mk.inj hh).1.symm, (Prod.mk.inj hh).2.symm⟩
            | none =>
              rw [hb] at h
              obtain ⟨e, he, hh⟩ := Option.map_eq_some_iff.1 h
              exact .inr ⟨rfl, by rw [he, (Prod.mk.inj hh).1], (Prod.mk.inj hh).2.symm⟩
          · cases h
end Go.Proofs.YtkijneohhilboaaDoor.IntSpec
