/- Layer 4's functions on numbers below a bound of a hundred digits: sums, products, the order. No conditions but sizes. -/
import Derived.Test.YtkijneohhilboaaGreatDoorBigFns
namespace Go.Proofs.YtkijneohhilboaaGreatDoor.BigQ
set_option linter.unusedSimpArgs false
set_option linter.unusedVariables false
open Go.RowKit Go.Lib Go.Proofs.YtkijneohhilboaaGreatDoor.Room Go.Proofs.YtkijneohhilboaaGreatDoor.PT Go.Proofs.YtkijneohhilboaaGreatDoorW.PrintWords Go.Proofs.YtkijneohhilboaaGreatDoor.Aid Go.Proofs.YtkijneohhilboaaGreatDoor.Num Go.Proofs.YtkijneohhilboaaGreatDoor.BigFns
theorem num_zero : (⟨#[48]⟩ : ByteArray) = num 0 := by
  apply ext_list
  rw [show (0 : Int) = ((0 : Nat) : Int) from rfl, num_nat, txt_list, dec_zero]
theorem len_le {z : Int} (h : z.natAbs < 10 ^ (99 + 1)) : (decDigits z.natAbs).length ≤ 100 := by
  rw [decDigits_length]; exact nDigits_le 99 _ h
theorem AddQ {Q : Nat} (hQ : Q = 10 ^ (99 + 1)) {z n : Int} (hz : z.natAbs < Q) (h0 : -1099511627776 ≤ n) (h1 : n ≤ 1099511627776) {k : Nat} (hk : 300 ≤ k) : big_Add.f k (num z) n = some (num (z + n)) := by
  subst hQ
  have := len_le hz
  exact Add_eq z n h0 h1 (by omega) k (by omega)
theorem MulQ {Q : Nat} (hQ : Q = 10 ^ (99 + 1)) {z m c : Int} (hz0 : 0 ≤ z) (hz : z.natAbs < Q) (hm : 0 ≤ m) (hm1 : m ≤ 1099511627776) (hc : 0 ≤ c) (hc1 : c ≤ 1099511627776) {k : Nat} (hk : 300 ≤ k) : big_MulAdd.f k (num z) m c = some (num (z * m + c)) := by
  subst hQ
  have hl := len_le hz
  unfold big_MulAdd.f
  rw [Good_num z (by omega) k (by omega)]
  simp only [Option.bind_some, if_true]
  obtain ⟨u, rfl⟩ : ∃ u : Nat, z = u := ⟨z.toNat, by omega⟩
  rw [Int.natAbs_natCast] at hl
  obtain ⟨x, r, e, hx⟩ := dec_no45 u
  have hp := dec_pos u
  rw [num_nat, if_pos (by rw [txt_size]; omega), if_neg]
  · unfold big_step.f
    rw [if_pos hm, if_pos hc, decide_eq_true hm1, decide_eq_true hc1]
    simp only [Option.bind_some, if_true]
    rw [times_eq u m c hm hm1 hc hc1 (by omega) k (by omega)]
    rfl
  · rw [show (0 : Int) = ((0 : Nat) : Int) from rfl, bt_nat, txt_list, e]
    intro h
    have h' : (x.toNat : Int) = 45 := h
    exact hx (UInt8.toNat_inj.1 (by have e45 : (45 : UInt8).toNat = 45 := rfl; omega))
theorem NormQ (neg : Bool) (s : ByteArray) (hs0 : 0 < s.size) (hs : s.size ≤ 60) {k : Nat} (hk : 100 ≤ k) : big_Norm.f k neg (txt (digL s.data.toList)) = some (num (if neg then -(val (digL s.data.toList) : Int) else (val (digL s.data.toList) : Int))) := by
  have hdl := digL_length s.data.toList
  rw [← Lib.size_eq] at hdl
  exact Norm_eq neg _ (digL_digs _) (fun e => by rw [e] at hdl; simp at hdl; omega) (by omega) k (by omega)
theorem val_small (s : ByteArray) (n : Nat) (hs : s.size ≤ n) : val (digL s.data.toList) < 10 ^ n := by
  have hdl := digL_length s.data.toList
  rw [← Lib.size_eq] at hdl
  exact Nat.lt_of_lt_of_le (val_lt _ (digL_digs _)) (Nat.pow_le_pow_right (by decide) (by omega))
end Go.Proofs.YtkijneohhilboaaGreatDoor.BigQ
