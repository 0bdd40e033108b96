/- Other bases: the reference's and layer 4's, of every text. No conditions but sizes. -/
import Derived.Test.YtkijneohhilboaaDoorRefBig3
import Derived.Test.YtkijneohhilboaaDoorBigBase
import Derived.Test.YtkijneohhilboaaDoorPIx5
namespace Go.Proofs.YtkijneohhilboaaDoor.RefBig
set_option linter.unusedSimpArgs false
set_option linter.unusedVariables false
open Go.RowKit Go.Lib Go.Proofs.YtkijneohhilboaaDoor.Room Go.Proofs.YtkijneohhilboaaDoor.PI Go.Proofs.YtkijneohhilboaaDoorW.PrintWords Go.Proofs.YtkijneohhilboaaDoor.Aid Go.Proofs.YtkijneohhilboaaDoor.Num Go.Proofs.YtkijneohhilboaaDoor.BigFns Go.Proofs.YtkijneohhilboaaDoor.BigQ
/-! ### other bases -/
theorem Value_eq (x : UInt8) (k : Nat) (hk : 3 ≤ k) : ∃ v : Int, targumref4_Value.f k (x.toNat : Int) = some v ∧ ((digV x < 16 ∧ v = digV x) ∨ (digV x = 16 ∧ v = 99)) := by
  obtain ⟨k, rfl⟩ : ∃ j, k = j + 2 := ⟨k - 2, by omega⟩
  have hx : x.toNat < 256 := x.toNat_lt
  unfold targumref4_Value.f digV
  generalize x.toNat = n at hx
  by_cases h1 : 48 ≤ n ∧ n ≤ 57
  · rw [if_pos (by omega), decide_eq_true (by omega), if_pos h1]
    simp only [targumref4_Value.j0, if_true]
    exact ⟨_, rfl, .inl (by omega)⟩
  · rw [if_neg h1]
    have e : (if (n : Int) ≥ 48 then targumref4_Value.j0 (k + 2) n (decide ((n : Int) ≤ 57)) else targumref4_Value.j0 (k + 2) n false) = targumref4_Value.j0 (k + 2) n false := by
      split
      · rw [decide_eq_false (by omega)]
      · rfl
    rw [e]
    simp only [targumref4_Value.j0, Bool.false_eq_true, if_false]
    by_cases h2 : 97 ≤ n ∧ n ≤ 102
    · rw [if_pos (by omega), decide_eq_true (by omega), if_pos h2]
      simp only [targumref4_Value.j1, if_true]
      exact ⟨_, rfl, .inl (by omega)⟩
    · rw [if_neg h2]
      have e : (if (n : Int) ≥ 97 then targumref4_Value.j1 (k + 1) n (decide ((n : Int) ≤ 102)) else targumref4_Value.j1 (k + 1) n false) = targumref4_Value.j1 (k + 1) n false := by
        split
        · rw [decide_eq_false (by omega)]
        · rfl
      rw [e]
      simp only [targumref4_Value.j1, Bool.false_eq_true, if_false]
      by_cases h3 : 65 ≤ n ∧ n ≤ 70
      · rw [if_pos (by omega), if_pos (by omega), if_pos h3]
        exact ⟨_, rfl, .inl (by omega)⟩
      · rw [if_neg h3]
        split
        · split
          · omega
          · exact ⟨_, rfl, .inr ⟨rfl, rfl⟩⟩
        · exact ⟨_, rfl, .inr ⟨rfl, rfl⟩⟩
def goodB (B : Nat) (l : List UInt8) : Bool := l.all fun x => decide (digV x < B)
/-- a number's text of the digits, or nothing -/
def baseT (B : Nat) (l : List UInt8) : ByteArray := if goodB B l = true then num (bval B l : Nat) else ⟨#[]⟩
theorem bval_lim {B : Nat} (hB : B ≤ 16) {l : List UInt8} (h : goodB B l = true) (hl : l.length ≤ 100) : (decDigits (bval B l)).length ≤ 130 := by
  have h1 := bval_lt B l (fun x hx => of_decide_eq_true (p := digV x < B) (List.all_eq_true.1 h x hx))
  have h2 : B ^ l.length ≤ 16 ^ l.length := Nat.pow_le_pow_left hB _
  have h3 : 16 ^ l.length ≤ 16 ^ 100 := Nat.pow_le_pow_right (by decide) hl
  have h4 : (16 : Nat) ^ 100 ≤ 10 ^ (129 + 1) := by decide +kernel
  rw [decDigits_length]
  exact nDigits_le 129 _ (by omega)
theorem goodB_take {B : Nat} {l : List UInt8} {i : Nat} (hi : i < l.length) : goodB B (l.take (i + 1)) = (goodB B (l.take i) && decide (digV l[i] < B)) := by
  unfold goodB
  rw [List.take_succ_eq_append_getElem hi, List.all_append]
  simp
theorem goodB_take_all {B : Nat} {l : List UInt8} {i : Nat} (h : goodB B l = true) : goodB B (l.take i) = true :=
  List.all_eq_true.2 fun x hx => List.all_eq_true.1 h x (List.mem_of_mem_take hx)
theorem base_any_l0 (B : Nat) (hB2 : 2 ≤ B) (hB : B ≤ 16) (C : List UInt8) (hl : C.length ≤ 100) : ∀ (d r i : Nat), i + d = C.length → 600 + d ≤ r → goodB B (C.take i) = true →
    big_Base.l0 r (txt C) (B : Int) (num (bval B (C.take i) : Nat)) ((txt C).size : Int) (i : Int) = some (baseT B C)
  | 0, r, i, hi, hr, hg => by
    obtain ⟨r, rfl⟩ : ∃ q, r = q + 1 := ⟨r - 1, by omega⟩
    have hz := txt_size C
    rw [List.take_of_length_le (by omega)] at hg ⊢
    simp only [big_Base.l0]
    unfold baseT
    rw [if_neg (by omega), if_pos hg]
  | d + 1, r, i, hi, hr, hg => by
    obtain ⟨r, rfl⟩ : ∃ q, r = q + 1 := ⟨r - 1, by omega⟩
    have hz := txt_size C
    have hlt : i < C.length := by omega
    have hlen := bval_lim hB hg (by rw [List.length_take]; omega)
    simp only [big_Base.l0]
    rw [if_pos (by omega), if_pos (by omega), if_pos (by omega), bt_at_ hlt, digit_eq _ r (by omega)]
    simp only [Option.bind_some]
    by_cases hx : digV C[i] < B
    · rw [if_neg (by omega), num_nat, times_eq _ B (digV C[i]) (by omega) (by omega) (by omega) (by omega) (by omega) r (by omega)]
      simp only [Option.bind_some]
      rw [wrap_id (by omega) (by omega)]
      have := base_any_l0 B hB2 hB C hl d r (i + 1) (by omega) (by omega) (by rw [goodB_take hlt, hg, decide_eq_true hx]; rfl)
      have e1 : ((bval B (C.take (i + 1)) : Nat) : Int) = (bval B (C.take i) : Int) * (B : Int) + (digV C[i] : Int) := by
        rw [List.take_succ_eq_append_getElem hlt, bval_snoc]
        simp
      rw [e1] at this
      rw [show ((i : Int) + 1) = ((i + 1 : Nat) : Int) by omega]
      exact this
    · rw [if_pos (by omega)]
      unfold baseT
      rw [if_neg]
      intro q
      exact hx (of_decide_eq_true (p := digV C[i] < B) (List.all_eq_true.1 q _ (List.getElem_mem hlt)))
theorem rbase_any_l0 (B : Nat) (hB2 : 2 ≤ B) (hB : B ≤ 16) (C : List UInt8) (hl : C.length ≤ 100) : ∀ (d r i : Nat), i + d = C.length → 600 + d ≤ r → goodB B (C.take i) = true →
    targumref4_Base.l0 r (txt C) (B : Int) (num (bval B (C.take i) : Nat)) (i : Int) = some (baseT B C)
  | 0, r, i, hi, hr, hg => by
    obtain ⟨r, rfl⟩ : ∃ q, r = q + 1 := ⟨r - 1, by omega⟩
    have hz := txt_size C
    rw [List.take_of_length_le (by omega)] at hg ⊢
    simp only [targumref4_Base.l0]
    unfold baseT
    rw [if_neg (by omega), if_pos hg]
  | d + 1, r, i, hi, hr, hg => by
    obtain ⟨r, rfl⟩ : ∃ q, r = q + 1 := ⟨r - 1, by omega⟩
    have hz := txt_size C
    have hlt : i < C.length := by omega
    have hlen := bval_lim hB hg (by rw [List.length_take]; omega)
    simp only [targumref4_Base.l0]
    obtain ⟨v, hv, hv2⟩ := Value_eq C[i] r (by omega)
    rw [if_pos (by omega), if_pos (by omega), bt_at_ hlt, hv]
    simp only [Option.bind_some]
    by_cases hx : digV C[i] < B
    · have hve : v = digV C[i] := by omega
      rw [hve, if_neg (by omega), num_nat, rmulAdd_eq _ (dec_digs _) (dec_ne _) (by omega) B (digV C[i]) (by omega) (by omega) (by omega) (by omega) r (by omega), dec_val]
      simp only [Option.bind_some]
      rw [wrap_id (by omega) (by omega)]
      have := rbase_any_l0 B hB2 hB C hl d r (i + 1) (by omega) (by omega) (by rw [goodB_take hlt, hg, decide_eq_true hx]; rfl)
      have e1 : ((bval B (C.take (i + 1)) : Nat) : Int) = (bval B (C.take i) : Int) * (B : Int) + (digV C[i] : Int) := by
        rw [List.take_succ_eq_append_getElem hlt, bval_snoc]
        simp
      rw [e1] at this
      rw [show ((i : Int) + 1) = ((i + 1 : Nat) : Int) by omega]
      exact this
    · rw [if_pos (by omega)]
      unfold baseT
      rw [if_neg]
      intro q
      exact hx (of_decide_eq_true (p := digV C[i] < B) (List.all_eq_true.1 q _ (List.getElem_mem hlt)))
theorem Base_any (B : Nat) (hB : B = 2 ∨ B = 8 ∨ B = 16) (C : List UInt8) (hl : C.length ≤ 100) (k : Nat) (hk : 800 ≤ k) : big_Base.f k (txt C) (B : Int) = some (if C = [] then ⟨#[]⟩ else baseT B C) := by
  obtain ⟨k, rfl⟩ : ∃ q, k = q + 1 := ⟨k - 1, by omega⟩
  have J : big_Base.j0 (k + 1) (txt C) (B : Int) ((txt C).toList == ([] : List UInt8)) = some (if C = [] then ⟨#[]⟩ else baseT B C) := by
    rw [txt_toList]
    by_cases h : C = []
    · rw [if_pos h, beq_iff_eq.2 h]; simp only [big_Base.j0, if_true]
    · rw [if_neg h, beq_eq_false_iff_ne.2 h]
      simp only [big_Base.j0, Bool.false_eq_true, if_false]
      have := base_any_l0 B (by omega) (by omega) C hl C.length k 0 (by omega) (by omega) rfl
      rw [List.take_zero, show bval B [] = 0 from rfl] at this
      rw [num_zero]
      exact this
  unfold big_Base.f
  rcases hB with rfl | rfl | rfl
  · rw [if_pos (by decide)]; exact J
  · rw [if_neg (by decide), if_pos (by decide)]; exact J
  · rw [if_neg (by decide), if_neg (by decide), if_pos (by decide)]; exact J
theorem rBase_any (B : Nat) (hB : B = 2 ∨ B = 8 ∨ B = 16) (C : List UInt8) (hl : C.length ≤ 100) (k : Nat) (hk : 800 ≤ k) : targumref4_Base.f k (txt C) (B : Int) = some (if C = [] then ⟨#[]⟩ else baseT B C) := by
  obtain ⟨k, rfl⟩ : ∃ q, k = q + 1 := ⟨k - 1, by omega⟩
  have J : targumref4_Base.j0 (k + 1) (txt C) (B : Int) ((txt C).toList == ([] : List UInt8)) = some (if C = [] then ⟨#[]⟩ else baseT B C) := by
    rw [txt_toList]
    by_cases h : C = []
    · rw [if_pos h, beq_iff_eq.2 h]; simp only [targumref4_Base.j0, if_true]
    · rw [if_neg h, beq_eq_false_iff_ne.2 h]
      simp only [targumref4_Base.j0, Bool.false_eq_true, if_false]
      have := rbase_any_l0 B (by omega) (by omega) C hl C.length k 0 (by omega) (by omega) rfl
      rw [List.take_zero, show bval B [] = 0 from rfl] at this
      rw [num_zero]
      exact this
  unfold targumref4_Base.f
  rcases hB with rfl | rfl | rfl
  · rw [if_pos (by decide)]; exact J
  · rw [if_neg (by decide), if_pos (by decide)]; exact J
  · rw [if_neg (by decide), if_neg (by decide), if_pos (by decide)]; exact J
theorem base_both (s : ByteArray) (b : Int) (hs : s.size ≤ 100) (k : Nat) (hk : 800 ≤ k) : ∃ r, big_Base.f k s b = some r ∧ targumref4_Base.f k s b = some r := by
  have hz : s.data.toList.length = s.size := (Lib.size_eq s).symm
  by_cases h : b = 2 ∨ b = 8 ∨ b = 16
  · obtain ⟨B, rfl, hB⟩ : ∃ B : Nat, b = (B : Int) ∧ (B = 2 ∨ B = 8 ∨ B = 16) := ⟨b.toNat, by omega, by omega⟩
    have h1 := Base_any B hB s.data.toList (by omega) k hk
    have h2 := rBase_any B hB s.data.toList (by omega) k hk
    rw [← of_list] at h1 h2
    exact ⟨_, h1, h2⟩
  · obtain ⟨k, rfl⟩ : ∃ q, k = q + 1 := ⟨k - 1, by omega⟩
    refine ⟨⟨#[]⟩, ?_, ?_⟩
    · unfold big_Base.f
      rw [if_neg (by omega), if_neg (by omega), if_neg (by omega)]
      simp only [big_Base.j0, if_true]
    · unfold targumref4_Base.f
      rw [if_neg (by omega), if_neg (by omega), if_neg (by omega)]
      simp only [targumref4_Base.j0, if_true]
end Go.Proofs.YtkijneohhilboaaDoor.RefBig
