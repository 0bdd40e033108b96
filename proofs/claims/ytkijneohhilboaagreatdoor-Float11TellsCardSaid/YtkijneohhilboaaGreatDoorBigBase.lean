/- What big.Base computes: the number of digits of a base. No conditions but sizes. -/
import Derived.Test.YtkijneohhilboaaGreatDoorBigQ
namespace Go.Proofs.YtkijneohhilboaaGreatDoor.BigQ
set_option linter.unusedSimpArgs false
set_option linter.unusedVariables false
open Go.RowKit Go.Lib Go.Proofs.YtkijneohhilboaaGreatDoor.Room Go.Proofs.YtkijneohhilboaaGreatDoor.PT Go.Proofs.YtkijneohhilboaaGreatDoorW.PrintWords Go.Proofs.YtkijneohhilboaaGreatDoor.Aid Go.Proofs.YtkijneohhilboaaGreatDoor.Num Go.Proofs.YtkijneohhilboaaGreatDoor.BigFns
/-- what a sign says as a digit to sixteen; 16: it is none -/
def digV (x : UInt8) : Nat := if 48 ≤ x.toNat ∧ x.toNat ≤ 57 then x.toNat - 48 else if 97 ≤ x.toNat ∧ x.toNat ≤ 102 then x.toNat - 87 else if 65 ≤ x.toNat ∧ x.toNat ≤ 70 then x.toNat - 55 else 16
/-- the number of digits of a base -/
def bval (B : Nat) (l : List UInt8) : Nat := l.foldl (fun n x => n * B + digV x) 0
theorem bval_snoc (B : Nat) (l : List UInt8) (x : UInt8) : bval B (l ++ [x]) = bval B l * B + digV x := by unfold bval; rw [List.foldl_append]; rfl
theorem bval_lt' (B : Nat) : ∀ (n : Nat) (l : List UInt8), l.length = n → (∀ x ∈ l, digV x < B) → bval B l < B ^ n
  | 0, l, hn, _ => by
    have : l = [] := List.length_eq_zero_iff.1 hn
    subst this
    exact Nat.one_pos
  | n + 1, l, hn, h => by
    have hne : l ≠ [] := fun e => by rw [e] at hn; simp at hn
    obtain ⟨l', x, rfl⟩ : ∃ l' x, l = l' ++ [x] := ⟨l.dropLast, l.getLast hne, (List.dropLast_concat_getLast hne).symm⟩
    have h1 := bval_lt' B n l' (by rw [List.length_append, List.length_singleton] at hn; omega) (fun y hy => h y (by simp [hy]))
    have h2 := h x (by simp)
    rw [bval_snoc, Nat.pow_succ]
    have h3 : (bval B l' + 1) * B ≤ B ^ n * B := Nat.mul_le_mul_right _ h1
    rw [Nat.add_mul, Nat.one_mul] at h3
    omega
theorem bval_lt (B : Nat) (l : List UInt8) (h : ∀ x ∈ l, digV x < B) : bval B l < B ^ l.length := bval_lt' B _ l rfl h
end Go.Proofs.YtkijneohhilboaaGreatDoor.BigQ
