/- The reference's sums, orders, bases (targumref4) and layer 4's are the same, of every text. No conditions but sizes. -/
import Derived.Test.YtkijneohhilboaaDoorRefBig2
namespace Go.Proofs.YtkijneohhilboaaDoor.RefBig
set_option linter.unusedSimpArgs false
set_option linter.unusedVariables false
open Go.RowKit Go.Lib Go.Proofs.YtkijneohhilboaaDoor.Room Go.Proofs.YtkijneohhilboaaDoor.PV Go.Proofs.YtkijneohhilboaaDoorW.PrintWords Go.Proofs.YtkijneohhilboaaDoor.Aid Go.Proofs.YtkijneohhilboaaDoor.Num Go.Proofs.YtkijneohhilboaaDoor.BigFns Go.Proofs.YtkijneohhilboaaDoor.BigQ
theorem itoa_len (z : Int) : (itoa z).length ≤ (decDigits z.natAbs).length + 1 ∧ (decDigits z.natAbs).length ≤ (itoa z).length := by
  by_cases h : z < 0
  · rw [itoa_off h, List.length_cons]; omega
  · rw [itoa_of (by omega)]; omega
theorem num_size (z : Int) : (num z).size = (itoa z).length := txt_size _
theorem dec_len_add (u x : Nat) (hx : x ≤ 1099511627776) : (decDigits (u + x)).length ≤ (decDigits u).length + 16 := by
  have h1 := val_lt _ (dec_digs u)
  rw [dec_val] at h1
  rw [decDigits_length (u + x)]
  refine nDigits_le ((decDigits u).length + 15) _ ?_
  have h2 : 10 ^ ((decDigits u).length + 15 + 1) = 10 ^ (decDigits u).length * 10000000000000000 := by
    rw [show (decDigits u).length + 15 + 1 = (decDigits u).length + 16 by omega, Nat.pow_add]
  rw [h2]
  generalize 10 ^ (decDigits u).length = P at h1
  omega
theorem head45 (u : Nat) : ¬ bt (txt (decDigits u)) 0 = 45 := by
  obtain ⟨x, r, e, hx⟩ := dec_no45 u
  rw [e, bt_head]
  exact ne45 hx
/-! ### what is refused -/
theorem Add_no (l : List UInt8) (n : Int) (hs : l.length ≤ 300000) (h : ¬ IsNum l ∨ n < -1099511627776 ∨ 1099511627776 < n) (k : Nat) (hk : l.length + 5 ≤ k) : big_Add.f k (txt l) n = some ⟨#[]⟩ := by
  have j : ∀ k : Nat, big_Add.j0 (k + 1) (txt l) n true = some ⟨#[]⟩ := fun k => by simp only [big_Add.j0, if_true]
  obtain ⟨k, rfl⟩ : ∃ j, k = j + 1 := ⟨k - 1, by omega⟩
  unfold big_Add.f
  rcases num_or (txt l) with ⟨z, hz⟩ | hno
  · have hz' : l = itoa z := txt_inj hz
    have hl := itoa_len z
    have hb : big_Good.f (k + 1) (txt l) = some true := by rw [hz]; rw [hz'] at hs hk; exact Good_num z (by omega) _ (by omega)
    rw [hb]
    simp only [Option.bind_some, if_true]
    have h' : n < -1099511627776 ∨ 1099511627776 < n := h.resolve_left (fun q => q ⟨z, hz'⟩)
    by_cases h1 : n > 1099511627776
    · rw [if_pos h1]; exact j k
    · rw [if_neg h1, decide_eq_true (by omega)]; exact j k
  · rw [Good_no l (by omega) (k + 1) (by omega) hno]
    exact j k
/-- what a sum says of a text: the sum, or nothing -/
def addT (s : ByteArray) (n : Int) (r : ByteArray) : Prop := (∃ z, s = num z ∧ -1099511627776 ≤ n ∧ n ≤ 1099511627776 ∧ r = num (z + n)) ∨ ((¬ IsNum s.data.toList ∨ n < -1099511627776 ∨ 1099511627776 < n) ∧ r = ⟨#[]⟩)
/-- what digits are as a number's text -/
def normT (neg : Bool) (s r : ByteArray) : Prop := (Digs s.data.toList ∧ s.data.toList ≠ [] ∧ r = num (if neg then -(val s.data.toList : Int) else (val s.data.toList : Int))) ∨ (okD s.data.toList = false ∧ r = ⟨#[]⟩)
end Go.Proofs.YtkijneohhilboaaDoor.RefBig
