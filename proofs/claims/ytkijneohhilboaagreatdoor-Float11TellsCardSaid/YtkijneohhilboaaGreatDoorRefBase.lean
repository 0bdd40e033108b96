/- Other bases: the reference's and layer 4's, of every text. No conditions but sizes. -/
import Derived.Test.YtkijneohhilboaaGreatDoorRefBig3
import Derived.Test.YtkijneohhilboaaGreatDoorBigBase
import Derived.Test.YtkijneohhilboaaGreatDoorPTx13
namespace Go.Proofs.YtkijneohhilboaaGreatDoor.RefBig
set_option linter.unusedSimpArgs false
set_option linter.unusedVariables false
open Go.RowKit Go.Lib Go.Proofs.YtkijneohhilboaaGreatDoor.Room Go.Proofs.YtkijneohhilboaaGreatDoor.PT Go.Proofs.YtkijneohhilboaaGreatDoorW.PrintWords Go.Proofs.YtkijneohhilboaaGreatDoor.Aid Go.Proofs.YtkijneohhilboaaGreatDoor.Num Go.Proofs.YtkijneohhilboaaGreatDoor.BigFns Go.Proofs.YtkijneohhilboaaGreatDoor.BigQ
/-! ### other bases -/
theorem Value_eq (x : UInt8) (k : Nat) (hk : 3 ≤ k) : ∃ v : Int, targumref4_Value.f k (x.toNat : Int) = some v ∧ ((digV x < 16 ∧ v = digV x) ∨ (digV x = 16 ∧ v = 99)) := by
  obtain ⟨k, rfl⟩ : ∃ j, k = j + 2 := ⟨k - 2, by omega⟩
  have hx : x.toNat < 256 := x.toNat_lt
  unfold targumref4_Value.f digV
  generalize x.toNat = n at hx
  by_cases h1 : 48 ≤ n ∧ n ≤ 57
  · rw [if_pos (by omega), decide_eq_true (by omega), if_pos h1]
    simp only [targumref4_Value.j0, if_true]
    exact ⟨_, rfl, .inl (by omega)⟩
  · rw [if_neg h1]
    have e : (if (n : Int) ≥ 48 then targumref4_Value.j0 (k + 2) n (decide ((n : Int) ≤ 57)) else targumref4_Value.j0 (k + 2) n false) = targumref4_Value.j0 (k + 2) n false := by
      split
      · rw [decide_eq_false (by omega)]
      · rfl
    rw [e]
    simp only [targumref4_Value.j0, Bool.false_eq_true, if_false]
    by_cases h2 : 97 ≤ n ∧ n ≤ 102
    · rw [if_pos (by omega), decide_eq_true (by omega), if_pos h2]
      simp only [targumref4_Value.j1, if_true]
      exact ⟨_, rfl, .inl (by omega)⟩
    · rw [if_neg h2]
      have e : (if (n : Int) ≥ 97 then targumref4_Value.j1 (k + 1) n (decide ((n : Int) ≤ 102)) else targumref4_Value.j1 (k + 1) n false) = targumref4_Value.j1 (k + 1) n false := by
        split
        · rw [decide_eq_false (by omega)]
        · rfl
      rw [e]
      simp only [targumref4_Value.j1, Bool.false_eq_true, if_false]
      by_cases h3 : 65 ≤ n ∧ n ≤ 70
      · rw [if_pos (by omega), if_pos (by omega), if_pos h3]
        exact ⟨_, rfl, .inl (by omega)⟩
      · rw [if_neg h3]
        split
        · split
          · omega
          · exact ⟨_, rfl, .inr ⟨rfl, rfl⟩⟩
        · exact ⟨_, rfl, .inr ⟨rfl, rfl⟩⟩
def goodB (B : Nat) (l : List UInt8) : Bool := l.all fun x => decide (digV x < B)
/-- a number's text of the digits, or nothing -/
def baseT (B : Nat) (l : List UInt8) : ByteArray := if goodB B l = true then num (bval B l : Nat) else ⟨#[]⟩
theorem bval_lim {B : Nat} (hB : B ≤ 16) {l : List UInt8} (h : goodB B l = true) (hl : l.length ≤ 100) : (decDigits (bval B l)).length ≤ 130 := by
  have h1 := bval_lt B l (fun x hx => of_decide_eq_true (p := digV x < B) (List.all_eq_true.1 h x hx))
  have h2 : B ^ l.length ≤ 16 ^ l.length := Nat.pow_le_pow_left hB _
  have h3 : 16 ^ l.length ≤ 16 ^ 100 := Nat.pow_le_pow_right (by decide) hl
  have h4 : (16 : Nat) ^ 100 ≤ 10 ^ (129 + 1) := by decide +kernel
  rw [decDigits_length]
  exact nDigits_le 129 _ (by omega)
theorem goodB_take {B : Nat} {l : List UInt8} {i : Nat} (hi : i < l.length) : goodB B (l.take (i + 1)) = (goodB B (l.take i) && decide (digV l[i] < B)) := by
  unfold goodB
  rw [List.take_succ_eq_append_getElem hi, List.all_append]
  simp
theorem goodB_take_all {B : Nat} {l : List UInt8} {i : Nat} (h : goodB B l = true) : goodB B (l.take i) = true :=
  List.all_eq_true.2 fun x hx => List.all_eq_true.1 h x (List.mem_of_mem_take hx)
end Go.Proofs.YtkijneohhilboaaGreatDoor.RefBig
