/- What big.Base computes: the number of digits of a base. No conditions but sizes. -/
import Derived.Test.YtkijneohhilboaaDoorBigQ
import Derived.Test.YtkijneohhilboaaDoorPIx2
namespace Go.Proofs.YtkijneohhilboaaDoor.BigQ
set_option linter.unusedSimpArgs false
set_option linter.unusedVariables false
open Go.RowKit Go.Lib Go.Proofs.YtkijneohhilboaaDoor.Room Go.Proofs.YtkijneohhilboaaDoor.PI Go.Proofs.YtkijneohhilboaaDoorW.PrintWords Go.Proofs.YtkijneohhilboaaDoor.Aid Go.Proofs.YtkijneohhilboaaDoor.Num Go.Proofs.YtkijneohhilboaaDoor.BigFns
/-- what a sign says as a digit to sixteen; 16: it is none -/
def digV (x : UInt8) : Nat := if 48 ≤ x.toNat ∧ x.toNat ≤ 57 then x.toNat - 48 else if 97 ≤ x.toNat ∧ x.toNat ≤ 102 then x.toNat - 87 else if 65 ≤ x.toNat ∧ x.toNat ≤ 70 then x.toNat - 55 else 16
theorem digit_eq (x : UInt8) (k : Nat) (hk : 3 ≤ k) : big_digit.f k (x.toNat : Int) = some (digV x : Int) := by
  obtain ⟨k, rfl⟩ : ∃ j, k = j + 2 := ⟨k - 2, by omega⟩
  have hx : x.toNat < 256 := x.toNat_lt
  unfold big_digit.f digV
  generalize x.toNat = n at hx
  by_cases h1 : 48 ≤ n ∧ n ≤ 57
  · rw [if_pos (by omega), decide_eq_true (by omega), if_pos h1]
    simp only [big_digit.j0, if_true]
    congr 1; omega
  · rw [if_neg h1]
    have e : (if (n : Int) ≥ 48 then big_digit.j0 (k + 2) n (decide ((n : Int) ≤ 57)) else big_digit.j0 (k + 2) n false) = big_digit.j0 (k + 2) n false := by
      split
      · rw [decide_eq_false (by omega)]
      · rfl
    rw [e]
    simp only [big_digit.j0, Bool.false_eq_true, if_false]
    by_cases h2 : 97 ≤ n ∧ n ≤ 102
    · rw [if_pos (by omega), decide_eq_true (by omega), if_pos h2]
      simp only [big_digit.j1, if_true]
      congr 1; omega
    · rw [if_neg h2]
      have e : (if (n : Int) ≥ 97 then big_digit.j1 (k + 1) n (decide ((n : Int) ≤ 102)) else big_digit.j1 (k + 1) n false) = big_digit.j1 (k + 1) n false := by
        split
        · rw [decide_eq_false (by omega)]
        · rfl
      rw [e]
      simp only [big_digit.j1, Bool.false_eq_true, if_false]
      by_cases h3 : 65 ≤ n ∧ n ≤ 70
      · rw [if_pos (by omega), if_pos (by omega), if_pos h3]
        congr 1; omega
      · rw [if_neg h3]
        split
        · split
          · omega
          · rfl
        · rfl
/-- the number of digits of a base -/
def bval (B : Nat) (l : List UInt8) : Nat := l.foldl (fun n x => n * B + digV x) 0
theorem bval_snoc (B : Nat) (l : List UInt8) (x : UInt8) : bval B (l ++ [x]) = bval B l * B + digV x := by unfold bval; rw [List.foldl_append]; rfl
theorem bval_lt' (B : Nat) : ∀ (n : Nat) (l : List UInt8), l.length = n → (∀ x ∈ l, digV x < B) → bval B l < B ^ n
  | 0, l, hn, _ => by
    have : l = [] := List.length_eq_zero_iff.1 hn
    subst this
    exact Nat.one_pos
  | n + 1, l, hn, h => by
    have hne : l ≠ [] := fun e => by rw [e] at hn; simp at hn
    obtain ⟨l', x, rfl⟩ : ∃ l' x, l = l' ++ [x] := ⟨l.dropLast, l.getLast hne, (List.dropLast_concat_getLast hne).symm⟩
    have h1 := bval_lt' B n l' (by rw [List.length_append, List.length_singleton] at hn; omega) (fun y hy => h y (by simp [hy]))
    have h2 := h x (by simp)
    rw [bval_snoc, Nat.pow_succ]
    have h3 : (bval B l' + 1) * B ≤ B ^ n * B := Nat.mul_le_mul_right _ h1
    rw [Nat.add_mul, Nat.one_mul] at h3
    omega
theorem bval_lt (B : Nat) (l : List UInt8) (h : ∀ x ∈ l, digV x < B) : bval B l < B ^ l.length := bval_lt' B _ l rfl h
theorem base_l0 (B : Nat) (hB2 : 2 ≤ B) (hB : B ≤ 16) (C : List UInt8) (hC : ∀ x ∈ C, digV x < B) (hl : C.length ≤ 70) : ∀ (d r i : Nat), i + d = C.length → 400 + d ≤ r →
    big_Base.l0 r (txt C) (B : Int) (num (bval B (C.take i) : Nat)) ((txt C).size : Int) (i : Int) = some (num (bval B C : Nat))
  | 0, r, i, hi, hr => by
    obtain ⟨r, rfl⟩ : ∃ q, r = q + 1 := ⟨r - 1, by omega⟩
    have hz := txt_size C
    simp only [big_Base.l0]
    rw [if_neg (by omega), List.take_of_length_le (by omega)]
  | d + 1, r, i, hi, hr => by
    obtain ⟨r, rfl⟩ : ∃ q, r = q + 1 := ⟨r - 1, by omega⟩
    have hz := txt_size C
    have hlt : i < C.length := by omega
    obtain ⟨x, hxe, hdr⟩ := drop_cons hlt
    have hxi : C[i] = x := by rw [List.drop_eq_getElem_cons hlt] at hdr; exact (List.cons.inj hdr).1
    have hdx := hC x (List.mem_of_mem_drop (by rw [hdr]; exact List.mem_cons_self))
    have hb : bt (txt C) (i : Int) = (x.toNat : Int) := by rw [bt_nat, txt_list, hxe]
    have hlim : bval B (C.take i) < 10 ^ (99 + 1) := by
      have h1 := bval_lt B (C.take i) (fun y hy => hC y (List.mem_of_mem_take hy))
      have h2 : B ^ (C.take i).length ≤ 16 ^ (C.take i).length := Nat.pow_le_pow_left hB _
      have h3 : 16 ^ (C.take i).length ≤ 16 ^ 70 := Nat.pow_le_pow_right (by decide) (by rw [List.length_take]; omega)
      have h4 : (16 : Nat) ^ 70 ≤ 10 ^ (99 + 1) := by decide
      exact Nat.lt_of_lt_of_le h1 (Nat.le_trans h2 (Nat.le_trans h3 h4))
    have hdl := len_le (z := (bval B (C.take i) : Nat)) (by rw [Int.natAbs_natCast]; exact hlim)
    rw [Int.natAbs_natCast] at hdl
    simp only [big_Base.l0]
    rw [if_pos (by omega), if_pos (by omega), if_pos (by omega), hb, digit_eq x r (by omega)]
    simp only [Option.bind_some]
    rw [if_neg (by omega), num_nat, times_eq _ B (digV x) (by omega) (by omega) (by omega) (by omega) (by omega) r (by omega)]
    simp only [Option.bind_some]
    rw [wrap_id (by omega) (by omega)]
    have := base_l0 B hB2 hB C hC hl d r (i + 1) (by omega) (by omega)
    have e1 : ((bval B (C.take (i + 1)) : Nat) : Int) = (bval B (C.take i) : Int) * (B : Int) + (digV x : Int) := by
      rw [List.take_succ_eq_append_getElem hlt, bval_snoc, hxi]
      simp
    rw [e1] at this
    rw [show ((i : Int) + 1) = ((i + 1 : Nat) : Int) by omega]
    exact this
theorem Base_eq (B : Nat) (hB : B = 2 ∨ B = 8 ∨ B = 16) (C : List UInt8) (hne : C ≠ []) (hl : C.length ≤ 70) (hC : ∀ x ∈ C, digV x < B) (k : Nat) (hk : 500 ≤ k) : big_Base.f k (txt C) (B : Int) = some (num (bval B C : Nat)) := by
  have hn : ((txt C).toList == ([] : List UInt8)) = false := by rw [txt_toList]; exact beq_eq_false_iff_ne.2 hne
  obtain ⟨k, rfl⟩ : ∃ q, k = q + 1 := ⟨k - 1, by omega⟩
  have h := base_l0 B (by omega) (by omega) C hC hl C.length k 0 (by omega) (by omega)
  rw [List.take_zero, show bval B [] = 0 from rfl] at h
  have J : big_Base.j0 (k + 1) (txt C) (B : Int) false = some (num (bval B C : Nat)) := by
    simp only [big_Base.j0, Bool.false_eq_true, if_false]
    rw [num_zero]
    exact h
  unfold big_Base.f
  rw [hn]
  rcases hB with rfl | rfl | rfl
  · rw [if_pos (by decide)]; exact J
  · rw [if_neg (by decide), if_pos (by decide)]; exact J
  · rw [if_neg (by decide), if_neg (by decide), if_pos (by decide)]; exact J
end Go.Proofs.YtkijneohhilboaaDoor.BigQ
