/- The pure law Float11Odd: of the nine cases of sign and spelling each is reckoned. No conditions. -/
import Derived.Test.YtkijneohhilboaaDoorXW
import Derived.Test.YtkijneohhilboaaDoorPOx10
namespace Go.Proofs.YtkijneohhilboaaDoor.Pure
set_option linter.unusedSimpArgs false
set_option linter.unusedVariables false
open Go.RowKit Go.Lib Go.Proofs.YtkijneohhilboaaDoor.PO
theorem odd_at : ∀ s : Fin 3, ∀ w : Fin 3, targumlaw7_Float11Odd.f 300 (s.val : Int) (w.val : Int) = some true := by decide +kernel
theorem odd_mod (k : Nat) (a b : Int) : targumlaw7_Float11Odd.f k (Int.tmod a 3) (Int.tmod b 3) = targumlaw7_Float11Odd.f k a b := by
  have e : ∀ x : Int, Int.tmod (Int.tmod x 3) 3 = Int.tmod x 3 := fun x => Int.tmod_tmod_of_dvd x (Int.dvd_refl 3)
  have h0 : targumlaw7_Float11Odd.n0 (Int.tmod a 3) = targumlaw7_Float11Odd.n0 a := by unfold targumlaw7_Float11Odd.n0; rw [e]
  have h1 : targumlaw7_Float11Odd.n1 (Int.tmod b 3) = targumlaw7_Float11Odd.n1 b := by unfold targumlaw7_Float11Odd.n1; rw [e]
  have h2 : targumlaw7_Float11Odd.n2 (Int.tmod b 3) = targumlaw7_Float11Odd.n2 b := by unfold targumlaw7_Float11Odd.n2; rw [e]
  unfold targumlaw7_Float11Odd.f
  rw [e, e, h0, h1, h2]
theorem Float11Odd : targumlaw7_Float11Odd.Pure := by
  intro a b ha hb
  have key : ∀ x : Int, (Lit.int .u8 x).wf = true → ∃ i : Fin 3, Int.tmod x 3 = (i.val : Int) := by
    intro x hx
    have : (decide (IntKind.u8.min ≤ x) && decide (x ≤ IntKind.u8.max)) = true := hx
    rw [Bool.and_eq_true, decide_eq_true_iff, decide_eq_true_iff] at this
    have h0 : IntKind.u8.min = 0 := rfl
    rw [h0] at this
    have := Int.tmod_eq_emod_of_nonneg (b := 3) this.1
    exact ⟨⟨(Int.tmod x 3).toNat, by omega⟩, by show _ = ((Int.tmod x 3).toNat : Int); omega⟩
  obtain ⟨i, hi⟩ := key a ha
  obtain ⟨j, hj⟩ := key b hb
  exact ⟨300, by rw [← odd_mod, hi, hj]; exact odd_at i j⟩
end Go.Proofs.YtkijneohhilboaaDoor.Pure
