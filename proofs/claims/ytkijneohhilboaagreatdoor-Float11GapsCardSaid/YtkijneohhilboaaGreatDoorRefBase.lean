/- Other bases: the reference's and layer 4's, of every text. No conditions but sizes. -/
import Derived.Test.YtkijneohhilboaaGreatDoorRefBig3
import Derived.Test.YtkijneohhilboaaGreatDoorBigBase
namespace Go.Proofs.YtkijneohhilboaaGreatDoor.RefBig
set_option linter.unusedSimpArgs false
set_option linter.unusedVariables false
open Go.RowKit Go.Lib Go.Proofs.YtkijneohhilboaaGreatDoor.Room Go.Proofs.YtkijneohhilboaaGreatDoor.PK Go.Proofs.YtkijneohhilboaaGreatDoorW.PrintWords Go.Proofs.YtkijneohhilboaaGreatDoor.Aid Go.Proofs.YtkijneohhilboaaGreatDoor.Num Go.Proofs.YtkijneohhilboaaGreatDoor.BigFns Go.Proofs.YtkijneohhilboaaGreatDoor.BigQ
/-! ### other bases -/
def goodB (B : Nat) (l : List UInt8) : Bool := l.all fun x => decide (digV x < B)
/-- a number's text of the digits, or nothing -/
def baseT (B : Nat) (l : List UInt8) : ByteArray := if goodB B l = true then num (bval B l : Nat) else ⟨#[]⟩
theorem bval_lim {B : Nat} (hB : B ≤ 16) {l : List UInt8} (h : goodB B l = true) (hl : l.length ≤ 100) : (decDigits (bval B l)).length ≤ 130 := by
  have h1 := bval_lt B l (fun x hx => of_decide_eq_true (p := digV x < B) (List.all_eq_true.1 h x hx))
  have h2 : B ^ l.length ≤ 16 ^ l.length := Nat.pow_le_pow_left hB _
  have h3 : 16 ^ l.length ≤ 16 ^ 100 := Nat.pow_le_pow_right (by decide) hl
  have h4 : (16 : Nat) ^ 100 ≤ 10 ^ (129 + 1) := by decide +kernel
  rw [decDigits_length]
  exact nDigits_le 129 _ (by omega)
theorem goodB_take {B : Nat} {l : List UInt8} {i : Nat} (hi : i < l.length) : goodB B (l.take (i + 1)) = (goodB B (l.take i) && decide (digV l[i] < B)) := by
  unfold goodB
  rw [List.take_succ_eq_append_getElem hi, List.all_append]
  simp
theorem goodB_take_all {B : Nat} {l : List UInt8} {i : Nat} (h : goodB B l = true) : goodB B (l.take i) = true :=
  List.all_eq_true.2 fun x hx => List.all_eq_true.1 h x (List.mem_of_mem_take hx)
end Go.Proofs.YtkijneohhilboaaGreatDoor.RefBig
