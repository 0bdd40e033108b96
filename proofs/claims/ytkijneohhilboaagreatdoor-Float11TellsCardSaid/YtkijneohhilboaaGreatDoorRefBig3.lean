/- The reference's sums, orders, bases (targumref4) and layer 4's are the same, of every text. No conditions but sizes. -/
import Derived.Test.YtkijneohhilboaaGreatDoorRefBig2
import Derived.Test.YtkijneohhilboaaGreatDoorPTx11
import Derived.Test.YtkijneohhilboaaGreatDoorPTx14
namespace Go.Proofs.YtkijneohhilboaaGreatDoor.RefBig
set_option linter.unusedSimpArgs false
set_option linter.unusedVariables false
open Go.RowKit Go.Lib Go.Proofs.YtkijneohhilboaaGreatDoor.Room Go.Proofs.YtkijneohhilboaaGreatDoor.PT Go.Proofs.YtkijneohhilboaaGreatDoorW.PrintWords Go.Proofs.YtkijneohhilboaaGreatDoor.Aid Go.Proofs.YtkijneohhilboaaGreatDoor.Num Go.Proofs.YtkijneohhilboaaGreatDoor.BigFns Go.Proofs.YtkijneohhilboaaGreatDoor.BigQ
theorem Norm_num (neg : Bool) (u : Nat) (hs : (decDigits u).length ≤ 900000) (k : Nat) (hk : (decDigits u).length + 1 ≤ k) : targumref4_Norm.f k neg (num (u : Int)) = some (num (if neg then -(u : Int) else (u : Int))) := by
  have := rNorm_eq neg (decDigits u) (dec_digs u) (dec_ne u) (by omega) k hk
  rw [dec_val] at this
  rw [num_nat]
  exact this
theorem itoa_len (z : Int) : (itoa z).length ≤ (decDigits z.natAbs).length + 1 ∧ (decDigits z.natAbs).length ≤ (itoa z).length := by
  by_cases h : z < 0
  · rw [itoa_off h, List.length_cons]; omega
  · rw [itoa_of (by omega)]; omega
theorem num_size (z : Int) : (num z).size = (itoa z).length := txt_size _
theorem dec_len_add (u x : Nat) (hx : x ≤ 1099511627776) : (decDigits (u + x)).length ≤ (decDigits u).length + 16 := by
  have h1 := val_lt _ (dec_digs u)
  rw [dec_val] at h1
  rw [decDigits_length (u + x)]
  refine nDigits_le ((decDigits u).length + 15) _ ?_
  have h2 : 10 ^ ((decDigits u).length + 15 + 1) = 10 ^ (decDigits u).length * 10000000000000000 := by
    rw [show (decDigits u).length + 15 + 1 = (decDigits u).length + 16 by omega, Nat.pow_add]
  rw [h2]
  generalize 10 ^ (decDigits u).length = P at h1
  omega
theorem rAdd_j2 (neg down : Bool) (u v : Nat) (hv : v ≤ 1099511627776) (hs : (decDigits u).length ≤ 400000) (k : Nat) (hk : 3 * (decDigits u).length + 200 ≤ k) :
    targumref4_Add.j2 k (txt (decDigits u)) (v : Int) neg down = some (num ((if neg then -(u : Int) else (u : Int)) + (if down then -(v : Int) else (v : Int)))) := by
  obtain ⟨k, rfl⟩ : ∃ j, k = j + 1 := ⟨k - 1, by omega⟩
  have hvl : (decDigits v).length ≤ 16 := by rw [decDigits_length]; exact nDigits_le 15 v (by omega)
  simp only [targumref4_Add.j2]
  by_cases hnd : neg = down
  · subst hnd
    rw [if_pos (by simp), rmulAdd_eq _ (dec_digs u) (dec_ne u) (by omega) 1 v (by omega) (by omega) (by omega) (by omega) k (by omega), dec_val]
    simp only [Option.bind_some]
    have hl := dec_len_add u v hv
    rw [show (u : Int) * 1 + (v : Int) = ((u + v : Nat) : Int) by omega, Norm_num neg _ (by omega) k (by omega)]
    simp only [Option.bind_some]
    cases neg <;> simp <;> congr 2 <;> omega
  · have hb : ¬ ((neg == down) = true) := fun e => hnd (by simpa using e)
    rw [if_neg hb, rText_eq v (by omega) k (by omega)]
    simp only [Option.bind_some]
    rw [rcompare_eq]
    simp only [Option.bind_some]
    have hdn : down = !neg := by cases neg <;> cases down <;> simp at hnd ⊢
    subst hdn
    by_cases h1 : u < v
    · rw [show cmpN u v = -1 by unfold cmpN; rw [if_pos h1], if_pos (by decide), rless_eq v u (by omega) (by omega) (by omega) k (by omega)]
      simp only [Option.bind_some]
      have hdl : (decDigits (v - u)).length ≤ 16 := by rw [decDigits_length]; exact nDigits_le 15 _ (by omega)
      rw [show (v : Int) - (u : Int) = ((v - u : Nat) : Int) by omega, Norm_num (!neg) _ (by omega) k (by omega)]
      simp only [Option.bind_some]
      congr 2
      cases neg <;> simp only [Bool.not_true, Bool.not_false, Bool.false_eq_true, if_false, if_true, reduceIte] <;> omega
    · rw [if_neg (by unfold cmpN; rw [if_neg h1]; split <;> decide), rless_eq u v (by omega) (by omega) (by omega) k (by omega)]
      simp only [Option.bind_some]
      have hdl : (decDigits (u - v)).length ≤ (decDigits u).length := by
        rcases Nat.lt_or_ge (decDigits u).length (decDigits (u - v)).length with q | q
        · have := dec_len_lt q; omega
        · exact q
      rw [show (u : Int) - (v : Int) = ((u - v : Nat) : Int) by omega, Norm_num neg _ (by omega) k (by omega)]
      simp only [Option.bind_some]
      congr 2
      cases neg <;> simp only [Bool.not_true, Bool.not_false, Bool.false_eq_true, if_false, if_true, reduceIte] <;> omega
theorem rAdd_j1 (neg : Bool) (u : Nat) (n : Int) (hn0 : -1099511627776 ≤ n) (hn1 : n ≤ 1099511627776) (hs : (decDigits u).length ≤ 400000) (k : Nat) (hk : 3 * (decDigits u).length + 201 ≤ k) :
    targumref4_Add.j1 k (txt (decDigits u)) n neg (decide (n < 0)) = some (num ((if neg then -(u : Int) else (u : Int)) + n)) := by
  obtain ⟨k, rfl⟩ : ∃ j, k = j + 1 := ⟨k - 1, by omega⟩
  simp only [targumref4_Add.j1]
  by_cases h : n < 0
  · obtain ⟨v, rfl⟩ : ∃ v : Nat, n = -(v : Int) := ⟨n.natAbs, by omega⟩
    rw [decide_eq_true h, if_pos rfl, wrap_id (by omega) (by omega), Int.neg_neg, rAdd_j2 neg true u v (by omega) hs k (by omega), if_pos rfl]
  · obtain ⟨v, rfl⟩ : ∃ v : Nat, n = (v : Int) := ⟨n.toNat, by omega⟩
    rw [decide_eq_false h, if_neg (by decide), rAdd_j2 neg false u v (by omega) hs k (by omega)]
    rfl
theorem head45 (u : Nat) : ¬ bt (txt (decDigits u)) 0 = 45 := by
  obtain ⟨x, r, e, hx⟩ := dec_no45 u
  rw [e, bt_head]
  exact ne45 hx
theorem rAdd_eq (z n : Int) (hn0 : -1099511627776 ≤ n) (hn1 : n ≤ 1099511627776) (hs : (decDigits z.natAbs).length ≤ 300000) (k : Nat) (hk : 3 * (decDigits z.natAbs).length + 203 ≤ k) : targumref4_Add.f k (num z) n = some (num (z + n)) := by
  have hl := itoa_len z
  unfold targumref4_Add.f
  rw [rGood_num z (by omega) k (by omega)]
  simp only [Option.bind_some, if_true]
  rw [if_neg (by omega), decide_eq_false (by omega)]
  obtain ⟨k, rfl⟩ : ∃ j, k = j + 1 := ⟨k - 1, by omega⟩
  simp only [targumref4_Add.j0]
  have hp := dec_pos z.natAbs
  rw [if_neg (by decide), if_pos (by rw [num_size]; omega)]
  by_cases h : z < 0
  · have e : num z = txt (45 :: decDigits z.natAbs) := by unfold num; rw [itoa_off h]
    rw [e, bt_head, if_pos (show ((45 : UInt8).toNat : Int) = 45 from rfl), if_pos (by rw [txt_size, List.length_cons]; omega), extract_one, show (((45 : UInt8).toNat : Int) == 45) = true from rfl, rAdd_j1 true z.natAbs n hn0 hn1 (by omega) k (by omega), if_pos rfl]
    congr 2
    omega
  · have e : num z = txt (decDigits z.natAbs) := by unfold num; rw [itoa_of (by omega)]
    rw [e, if_neg (head45 _), beq_eq_false_iff_ne.2 (head45 _), rAdd_j1 false z.natAbs n hn0 hn1 (by omega) k (by omega), if_neg (by decide)]
    congr 2
    omega
theorem rMulAdd_eq (z m c : Int) (hz : 0 ≤ z) (hm0 : 0 ≤ m) (hm1 : m ≤ 1099511627776) (hc0 : 0 ≤ c) (hc1 : c ≤ 1099511627776) (hs : (decDigits z.natAbs).length ≤ 300000) (k : Nat) (hk : 3 * (decDigits z.natAbs).length + 203 ≤ k) : targumref4_MulAdd.f k (num z) m c = some (num (z * m + c)) := by
  have hl := itoa_len z
  unfold targumref4_MulAdd.f
  rw [rGood_num z (by omega) k (by omega)]
  simp only [Option.bind_some, if_true]
  have hp := dec_pos z.natAbs
  have e : num z = txt (decDigits z.natAbs) := by unfold num; rw [itoa_of (by omega)]
  rw [if_pos (by rw [num_size]; omega), e, if_neg (head45 _), if_neg (by omega), if_neg (by omega), if_neg (by omega), if_neg (by omega), rmulAdd_eq _ (dec_digs _) (dec_ne _) (by omega) m c hm0 hm1 hc0 hc1 k (by omega), dec_val]
  simp only [Option.bind_some]
  rw [show ((z.natAbs : Nat) : Int) = z by omega]
/-! ### what is refused -/
theorem Add_no (l : List UInt8) (n : Int) (hs : l.length ≤ 300000) (h : ¬ IsNum l ∨ n < -1099511627776 ∨ 1099511627776 < n) (k : Nat) (hk : l.length + 5 ≤ k) : big_Add.f k (txt l) n = some ⟨#[]⟩ := by
  have j : ∀ k : Nat, big_Add.j0 (k + 1) (txt l) n true = some ⟨#[]⟩ := fun k => by simp only [big_Add.j0, if_true]
  obtain ⟨k, rfl⟩ : ∃ j, k = j + 1 := ⟨k - 1, by omega⟩
  unfold big_Add.f
  rcases num_or (txt l) with ⟨z, hz⟩ | hno
  · have hz' : l = itoa z := txt_inj hz
    have hl := itoa_len z
    have hb : big_Good.f (k + 1) (txt l) = some true := by rw [hz]; rw [hz'] at hs hk; exact Good_num z (by omega) _ (by omega)
    rw [hb]
    simp only [Option.bind_some, if_true]
    have h' : n < -1099511627776 ∨ 1099511627776 < n := h.resolve_left (fun q => q ⟨z, hz'⟩)
    by_cases h1 : n > 1099511627776
    · rw [if_pos h1]; exact j k
    · rw [if_neg h1, decide_eq_true (by omega)]; exact j k
  · rw [Good_no l (by omega) (k + 1) (by omega) hno]
    exact j k
theorem rAdd_no (l : List UInt8) (n : Int) (hs : l.length ≤ 300000) (h : ¬ IsNum l ∨ n < -1099511627776 ∨ 1099511627776 < n) (k : Nat) (hk : l.length + 5 ≤ k) : targumref4_Add.f k (txt l) n = some ⟨#[]⟩ := by
  have j : ∀ k : Nat, targumref4_Add.j0 (k + 1) (txt l) n true = some ⟨#[]⟩ := fun k => by simp only [targumref4_Add.j0, if_true]
  obtain ⟨k, rfl⟩ : ∃ j, k = j + 1 := ⟨k - 1, by omega⟩
  unfold targumref4_Add.f
  rcases num_or (txt l) with ⟨z, hz⟩ | hno
  · have hz' : l = itoa z := txt_inj hz
    have hb : targumref4_Good.f (k + 1) (txt l) = some true := by rw [hz]; rw [hz'] at hs hk; exact rGood_num z (by omega) _ (by omega)
    rw [hb]
    simp only [Option.bind_some, if_true]
    have h' : n < -1099511627776 ∨ 1099511627776 < n := h.resolve_left (fun q => q ⟨z, hz'⟩)
    by_cases h1 : n < -1099511627776
    · rw [if_pos h1]; exact j k
    · rw [if_neg h1, decide_eq_true (by omega)]; exact j k
  · rw [rGood_no l (by omega) (k + 1) (by omega) hno]
    exact j k
/-- what a sum says of a text: the sum, or nothing -/
def addT (s : ByteArray) (n : Int) (r : ByteArray) : Prop := (∃ z, s = num z ∧ -1099511627776 ≤ n ∧ n ≤ 1099511627776 ∧ r = num (z + n)) ∨ ((¬ IsNum s.data.toList ∨ n < -1099511627776 ∨ 1099511627776 < n) ∧ r = ⟨#[]⟩)
theorem add_both (s : ByteArray) (n : Int) (hs : s.size ≤ 100000) (k : Nat) (hk : 3 * s.size + 300 ≤ k) : ∃ r, big_Add.f k s n = some r ∧ targumref4_Add.f k s n = some r ∧ addT s n r := by
  rcases num_or s with ⟨z, rfl⟩ | hno
  · have hl := itoa_len z
    rw [num_size] at hs hk
    by_cases hn : -1099511627776 ≤ n ∧ n ≤ 1099511627776
    · exact ⟨_, Add_eq z n hn.1 hn.2 (by omega) k (by omega), rAdd_eq z n hn.1 hn.2 (by omega) k (by omega), .inl ⟨z, rfl, hn.1, hn.2, rfl⟩⟩
    · have h' : n < -1099511627776 ∨ 1099511627776 < n := by omega
      exact ⟨_, Add_no (itoa z) n (by omega) (.inr h') k (by omega), rAdd_no (itoa z) n (by omega) (.inr h') k (by omega), .inr ⟨.inr h', rfl⟩⟩
  · have hz : s.data.toList.length = s.size := (Lib.size_eq s).symm
    have h1 := Add_no s.data.toList n (by omega) (.inl hno) k (by omega)
    have h2 := rAdd_no s.data.toList n (by omega) (.inl hno) k (by omega)
    rw [← of_list] at h1 h2
    exact ⟨_, h1, h2, .inr ⟨.inl hno, rfl⟩⟩
theorem good_both (s : ByteArray) (hs : s.size ≤ 100000) (k : Nat) (hk : s.size + 10 ≤ k) : ∃ b : Bool, big_Good.f k s = some b ∧ targumref4_Good.f k s = some b ∧ (b = true ↔ IsNum s.data.toList) := by
  rcases num_or s with ⟨z, rfl⟩ | hno
  · have hl := itoa_len z
    rw [num_size] at hs hk
    exact ⟨true, Good_num z (by omega) k (by omega), rGood_num z (by omega) k (by omega), fun _ => num_isNum z, fun _ => rfl⟩
  · have hz : s.data.toList.length = s.size := (Lib.size_eq s).symm
    have h1 := Good_no s.data.toList (by omega) k (by omega) hno
    have h2 := rGood_no s.data.toList (by omega) k (by omega) hno
    rw [← of_list] at h1 h2
    exact ⟨false, h1, h2, fun q => (by cases q), fun q => absurd q hno⟩
/-- what digits are as a number's text -/
def normT (neg : Bool) (s r : ByteArray) : Prop := (Digs s.data.toList ∧ s.data.toList ≠ [] ∧ r = num (if neg then -(val s.data.toList : Int) else (val s.data.toList : Int))) ∨ (okD s.data.toList = false ∧ r = ⟨#[]⟩)
theorem norm_both (neg : Bool) (s : ByteArray) (hs : s.size ≤ 100000) (k : Nat) (hk : s.size + 10 ≤ k) : ∃ r, big_Norm.f k neg s = some r ∧ targumref4_Norm.f k neg s = some r ∧ normT neg s r := by
  have hz : s.data.toList.length = s.size := (Lib.size_eq s).symm
  cases h : okD s.data.toList with
  | true =>
    obtain ⟨hd, hne⟩ := (okD_iff _).1 h
    have h1 := Norm_eq neg s.data.toList hd hne (by omega) k (by omega)
    have h2 := rNorm_eq neg s.data.toList hd hne (by omega) k (by omega)
    rw [← of_list] at h1 h2
    exact ⟨_, h1, h2, .inl ⟨hd, hne, rfl⟩⟩
  | false =>
    have h1 := Norm_no neg s.data.toList (by omega) k (by omega) h
    have h2 := rNorm_no neg s.data.toList (by omega) k (by omega) h
    rw [← of_list] at h1 h2
    exact ⟨_, h1, h2, .inr ⟨h, rfl⟩⟩
theorem muladd_both (s : ByteArray) (m c : Int) (hs : s.size ≤ 100000) (k : Nat) (hk : 3 * s.size + 300 ≤ k) : ∃ r, big_MulAdd.f k s m c = some r ∧ targumref4_MulAdd.f k s m c = some r := by
  obtain ⟨b, e1, e2, hb⟩ := good_both s hs k (by omega)
  unfold big_MulAdd.f targumref4_MulAdd.f
  rw [e1, e2]
  simp only [Option.bind_some]
  cases b with
  | false => exact ⟨_, rfl, rfl⟩
  | true =>
    obtain ⟨z, hz⟩ : ∃ z, s = num z := (num_or s).resolve_right (fun q => q (hb.1 rfl))
    subst hz
    have hl := itoa_len z
    have hp := dec_pos z.natAbs
    rw [num_size] at hs hk
    have hsz : (0 : Int) < ((num z).size : Int) := by rw [num_size]; omega
    simp only [if_true, hsz]
    by_cases h : z < 0
    · have e : num z = txt (45 :: decDigits z.natAbs) := by unfold num; rw [itoa_off h]
      have h45 : bt (num z) 0 = 45 := by rw [e, bt_head]; rfl
      simp only [h45, if_true]
      exact ⟨_, rfl, rfl⟩
    · have e : num z = txt (decDigits z.natAbs) := by unfold num; rw [itoa_of (by omega)]
      have h45 : ¬ bt (num z) 0 = 45 := by rw [e]; exact head45 _
      simp only [h45, if_false]
      unfold big_step.f
      by_cases h1 : m < 0
      · have h1' : ¬ m ≥ 0 := by omega
        simp only [h1, h1', if_true, if_false, Option.bind_some, Bool.false_eq_true]
        exact ⟨_, rfl, rfl⟩
      · have h1' : m ≥ 0 := by omega
        by_cases h2 : m > 1099511627776
        · have h2' : decide (m ≤ 1099511627776) = false := decide_eq_false (by omega)
          simp only [h1, h1', h2, h2', if_true, if_false, Option.bind_some, Bool.false_eq_true]
          exact ⟨_, rfl, rfl⟩
        · have h2' : decide (m ≤ 1099511627776) = true := decide_eq_true (by omega)
          by_cases h3 : c < 0
          · have h3' : ¬ c ≥ 0 := by omega
            simp only [h1, h1', h2, h2', h3, h3', if_true, if_false, Option.bind_some, Bool.false_eq_true]
            exact ⟨_, rfl, rfl⟩
          · have h3' : c ≥ 0 := by omega
            by_cases h4 : c > 1099511627776
            · have h4' : decide (c ≤ 1099511627776) = false := decide_eq_false (by omega)
              simp only [h1, h1', h2, h2', h3, h3', h4, h4', if_true, if_false, Option.bind_some, Bool.false_eq_true]
              exact ⟨_, rfl, rfl⟩
            · have h4' : decide (c ≤ 1099511627776) = true := decide_eq_true (by omega)
              simp only [h1, h1', h2, h2', h3, h3', h4, h4', if_true, if_false, Option.bind_some, Bool.false_eq_true]
              rw [e, times_eq _ m c (by omega) (by omega) (by omega) (by omega) (by omega) k (by omega), rmulAdd_eq _ (dec_digs _) (dec_ne _) (by omega) m c (by omega) (by omega) (by omega) (by omega) k (by omega), dec_val]
              exact ⟨_, rfl, rfl⟩
end Go.Proofs.YtkijneohhilboaaGreatDoor.RefBig
