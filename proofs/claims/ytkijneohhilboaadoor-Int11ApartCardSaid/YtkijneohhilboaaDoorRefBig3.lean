/- The reference's sums, orders, bases (targumref4) and layer 4's are the same, of every text. No conditions but sizes. -/
import Derived.Test.YtkijneohhilboaaDoorRefBig2
import Derived.Test.YtkijneohhilboaaDoorPIx6
import Derived.Test.YtkijneohhilboaaDoorPIx5
namespace Go.Proofs.YtkijneohhilboaaDoor.RefBig
set_option linter.unusedSimpArgs false
set_option linter.unusedVariables false
open Go.RowKit Go.Lib Go.Proofs.YtkijneohhilboaaDoor.Room Go.Proofs.YtkijneohhilboaaDoor.PI Go.Proofs.YtkijneohhilboaaDoorW.PrintWords Go.Proofs.YtkijneohhilboaaDoor.Aid Go.Proofs.YtkijneohhilboaaDoor.Num Go.Proofs.YtkijneohhilboaaDoor.BigFns Go.Proofs.YtkijneohhilboaaDoor.BigQ
theorem Norm_num (neg : Bool) (u : Nat) (hs : (decDigits u).length ≤ 900000) (k : Nat) (hk : (decDigits u).length + 1 ≤ k) : targumref4_Norm.f k neg (num (u : Int)) = some (num (if neg then -(u : Int) else (u : Int))) := by
  have := rNorm_eq neg (decDigits u) (dec_digs u) (dec_ne u) (by omega) k hk
  rw [dec_val] at this
  rw [num_nat]
  exact this
theorem itoa_len (z : Int) : (itoa z).length ≤ (decDigits z.natAbs).length + 1 ∧ (decDigits z.natAbs).length ≤ (itoa z).length := by
  by_cases h : z < 0
  · rw [itoa_off h, List.length_cons]; omega
  · rw [itoa_of (by omega)]; omega
theorem num_size (z : Int) : (num z).size = (itoa z).length := txt_size _
theorem dec_len_add (u x : Nat) (hx : x ≤ 1099511627776) : (decDigits (u + x)).length ≤ (decDigits u).length + 16 := by
  have h1 := val_lt _ (dec_digs u)
  rw [dec_val] at h1
  rw [decDigits_length (u + x)]
  refine nDigits_le ((decDigits u).length + 15) _ ?_
  have h2 : 10 ^ ((decDigits u).length + 15 + 1) = 10 ^ (decDigits u).length * 10000000000000000 := by
    rw [show (decDigits u).length + 15 + 1 = (decDigits u).length + 16 by omega, Nat.pow_add]
  rw [h2]
  generalize 10 ^ (decDigits u).length = P at h1
  omega
theorem head45 (u : Nat) : ¬ bt (txt (decDigits u)) 0 = 45 := by
  obtain ⟨x, r, e, hx⟩ := dec_no45 u
  rw [e, bt_head]
  exact ne45 hx
theorem rMulAdd_eq (z m c : Int) (hz : 0 ≤ z) (hm0 : 0 ≤ m) (hm1 : m ≤ 1099511627776) (hc0 : 0 ≤ c) (hc1 : c ≤ 1099511627776) (hs : (decDigits z.natAbs).length ≤ 300000) (k : Nat) (hk : 3 * (decDigits z.natAbs).length + 203 ≤ k) : targumref4_MulAdd.f k (num z) m c = some (num (z * m + c)) := by
  have hl := itoa_len z
  unfold targumref4_MulAdd.f
  rw [rGood_num z (by omega) k (by omega)]
  simp only [Option.bind_some, if_true]
  have hp := dec_pos z.natAbs
  have e : num z = txt (decDigits z.natAbs) := by unfold num; rw [itoa_of (by omega)]
  rw [if_pos (by rw [num_size]; omega), e, if_neg (head45 _), if_neg (by omega), if_neg (by omega), if_neg (by omega), if_neg (by omega), rmulAdd_eq _ (dec_digs _) (dec_ne _) (by omega) m c hm0 hm1 hc0 hc1 k (by omega), dec_val]
  simp only [Option.bind_some]
  rw [show ((z.natAbs : Nat) : Int) = z by omega]
/-! ### what is refused -/
/-- what a sum says of a text: the sum, or nothing -/
def addT (s : ByteArray) (n : Int) (r : ByteArray) : Prop := (∃ z, s = num z ∧ -1099511627776 ≤ n ∧ n ≤ 1099511627776 ∧ r = num (z + n)) ∨ ((¬ IsNum s.data.toList ∨ n < -1099511627776 ∨ 1099511627776 < n) ∧ r = ⟨#[]⟩)
theorem good_both (s : ByteArray) (hs : s.size ≤ 100000) (k : Nat) (hk : s.size + 10 ≤ k) : ∃ b : Bool, big_Good.f k s = some b ∧ targumref4_Good.f k s = some b ∧ (b = true ↔ IsNum s.data.toList) := by
  rcases num_or s with ⟨z, rfl⟩ | hno
  · have hl := itoa_len z
    rw [num_size] at hs hk
    exact ⟨true, Good_num z (by omega) k (by omega), rGood_num z (by omega) k (by omega), fun _ => num_isNum z, fun _ => rfl⟩
  · have hz : s.data.toList.length = s.size := (Lib.size_eq s).symm
    have h1 := Good_no s.data.toList (by omega) k (by omega) hno
    have h2 := rGood_no s.data.toList (by omega) k (by omega) hno
    rw [← of_list] at h1 h2
    exact ⟨false, h1, h2, fun q => (by cases q), fun q => absurd q hno⟩
/-- what digits are as a number's text -/
def normT (neg : Bool) (s r : ByteArray) : Prop := (Digs s.data.toList ∧ s.data.toList ≠ [] ∧ r = num (if neg then -(val s.data.toList : Int) else (val s.data.toList : Int))) ∨ (okD s.data.toList = false ∧ r = ⟨#[]⟩)
theorem norm_both (neg : Bool) (s : ByteArray) (hs : s.size ≤ 100000) (k : Nat) (hk : s.size + 10 ≤ k) : ∃ r, big_Norm.f k neg s = some r ∧ targumref4_Norm.f k neg s = some r ∧ normT neg s r := by
  have hz : s.data.toList.length = s.size := (Lib.size_eq s).symm
  cases h : okD s.data.toList with
  | true =>
    obtain ⟨hd, hne⟩ := (okD_iff _).1 h
    have h1 := Norm_eq neg s.data.toList hd hne (by omega) k (by omega)
    have h2 := rNorm_eq neg s.data.toList hd hne (by omega) k (by omega)
    rw [← of_list] at h1 h2
    exact ⟨_, h1, h2, .inl ⟨hd, hne, rfl⟩⟩
  | false =>
    have h1 := Norm_no neg s.data.toList (by omega) k (by omega) h
    have h2 := rNorm_no neg s.data.toList (by omega) k (by omega) h
    rw [← of_list] at h1 h2
    exact ⟨_, h1, h2, .inr ⟨h, rfl⟩⟩
theorem muladd_both (s : ByteArray) (m c : Int) (hs : s.size ≤ 100000) (k : Nat) (hk : 3 * s.size + 300 ≤ k) : ∃ r, big_MulAdd.f k s m c = some r ∧ targumref4_MulAdd.f k s m c = some r := by
  obtain ⟨b, e1, e2, hb⟩ := good_both s hs k (by omega)
  unfold big_MulAdd.f targumref4_MulAdd.f
  rw [e1, e2]
  simp only [Option.bind_some]
  cases b with
  | false => exact ⟨_, rfl, rfl⟩
  | true =>
    obtain ⟨z, hz⟩ : ∃ z, s = num z := (num_or s).resolve_right (fun q => q (hb.1 rfl))
    subst hz
    have hl := itoa_len z
    have hp := dec_pos z.natAbs
    rw [num_size] at hs hk
    have hsz : (0 : Int) < ((num z).size : Int) := by rw [num_size]; omega
    simp only [if_true, hsz]
    by_cases h : z < 0
    · have e : num z = txt (45 :: decDigits z.natAbs) := by unfold num; rw [itoa_off h]
      have h45 : bt (num z) 0 = 45 := by rw [e, bt_head]; rfl
      simp only [h45, if_true]
      exact ⟨_, rfl, rfl⟩
    · have e : num z = txt (decDigits z.natAbs) := by unfold num; rw [itoa_of (by omega)]
      have h45 : ¬ bt (num z) 0 = 45 := by rw [e]; exact head45 _
      simp only [h45, if_false]
      unfold big_step.f
      by_cases h1 : m < 0
      · have h1' : ¬ m ≥ 0 := by omega
        simp only [h1, h1', if_true, if_false, Option.bind_some, Bool.false_eq_true]
        exact ⟨_, rfl, rfl⟩
      · have h1' : m ≥ 0 := by omega
        by_cases h2 : m > 1099511627776
        · have h2' : decide (m ≤ 1099511627776) = false := decide_eq_false (by omega)
          simp only [h1, h1', h2, h2', if_true, if_false, Option.bind_some, Bool.false_eq_true]
          exact ⟨_, rfl, rfl⟩
        · have h2' : decide (m ≤ 1099511627776) = true := decide_eq_true (by omega)
          by_cases h3 : c < 0
          · have h3' : ¬ c ≥ 0 := by omega
            simp only [h1, h1', h2, h2', h3, h3', if_true, if_false, Option.bind_some, Bool.false_eq_true]
            exact ⟨_, rfl, rfl⟩
          · have h3' : c ≥ 0 := by omega
            by_cases h4 : c > 1099511627776
            · have h4' : decide (c ≤ 1099511627776) = false := decide_eq_false (by omega)
              simp only [h1, h1', h2, h2', h3, h3', h4, h4', if_true, if_false, Option.bind_some, Bool.false_eq_true]
              exact ⟨_, rfl, rfl⟩
            · have h4' : decide (c ≤ 1099511627776) = true := decide_eq_true (by omega)
              simp only [h1, h1', h2, h2', h3, h3', h4, h4', if_true, if_false, Option.bind_some, Bool.false_eq_true]
              rw [e, times_eq _ m c (by omega) (by omega) (by omega) (by omega) (by omega) k (by omega), rmulAdd_eq _ (dec_digs _) (dec_ne _) (by omega) m c (by omega) (by omega) (by omega) (by omega) k (by omega), dec_val]
              exact ⟨_, rfl, rfl⟩
end Go.Proofs.YtkijneohhilboaaDoor.RefBig
