/- What layer 4's functions compute, in whole numbers. No conditions but sizes. -/
import Derived.Test.YtkijneohhilboaaGreatDoorNum
import Derived.Test.YtkijneohhilboaaGreatDoorAid
import Derived.Test.YtkijneohhilboaaGreatDoorPTx5
import Derived.Test.YtkijneohhilboaaGreatDoorPTx3
import Derived.Test.YtkijneohhilboaaGreatDoorPTx6
namespace Go.Proofs.YtkijneohhilboaaGreatDoor.BigFns
set_option linter.unusedSimpArgs false
set_option linter.unusedVariables false
open Go.RowKit Go.Lib Go.Proofs.YtkijneohhilboaaGreatDoor.PT Go.Proofs.YtkijneohhilboaaGreatDoorW.PrintWords Go.Proofs.YtkijneohhilboaaGreatDoor.Aid Go.Proofs.YtkijneohhilboaaGreatDoor.Num Go.Proofs.YtkijneohhilboaaGreatDoor.Room
def txt (l : List UInt8) : ByteArray := ⟨l.toArray⟩
/-- a whole number's text -/
def num (z : Int) : ByteArray := txt (itoa z)
theorem txt_list (l : List UInt8) : (txt l).data.toList = l := rfl
theorem txt_size (l : List UInt8) : (txt l).size = l.length := by rw [Lib.size_eq, txt_list]
theorem txt_toList (l : List UInt8) : (txt l).toList = l := by rw [Lib.toList_data, txt_list]
theorem txt_inj {l m : List UInt8} (h : txt l = txt m) : l = m := by rw [← txt_list l, h, txt_list]
theorem num_nat (u : Nat) : num (u : Int) = txt (decDigits u) := by unfold num; rw [itoa_nonneg]
theorem num_neg (u : Nat) (h : 1 ≤ u) : num (-(u : Int)) = txt (45 :: decDigits u) := by unfold num; rw [itoa_neg u h]
theorem dec_no45 (u : Nat) : ∃ x r, decDigits u = x :: r ∧ x ≠ 45 := by
  cases h : decDigits u with
  | nil => exact absurd h (dec_ne u)
  | cons x r =>
    refine ⟨x, r, rfl, fun e => ?_⟩
    have := (dec_digs u) x (by rw [h]; simp)
    rw [e] at this
    exact absurd this.1 (by decide)
theorem num_inj {x y : Int} (h : num x = num y) : x = y := by
  have h' := txt_inj h
  by_cases hx : x < 0
  · by_cases hy : y < 0
    · unfold itoa at h'
      rw [if_pos hx, if_pos hy] at h'
      have := dec_inj (List.cons.inj h').2
      omega
    · unfold itoa at h'
      rw [if_pos hx, if_neg hy] at h'
      obtain ⟨z, r, e, hz⟩ := dec_no45 y.toNat
      rw [e] at h'
      exact absurd (List.cons.inj h').1.symm hz
  · by_cases hy : y < 0
    · unfold itoa at h'
      rw [if_neg hx, if_pos hy] at h'
      obtain ⟨z, r, e, hz⟩ := dec_no45 x.toNat
      rw [e] at h'
      exact absurd (List.cons.inj h').1 hz
    · unfold itoa at h'
      rw [if_neg hx, if_neg hy] at h'
      have := dec_inj h'
      omega
theorem extract_take (s : ByteArray) (n : Nat) : (s.extract 0 n).data.toList = s.data.toList.take n := by
  rw [ByteArray.data_extract, Array.toList_extract]
  simp
theorem parts_minus (l : List UInt8) : big_parts.f (txt (45 :: l)) = some (true, txt l) := by
  have hz : (txt (45 :: l)).size = l.length + 1 := by rw [txt_size]; rfl
  have h1 : (⟨#[45]⟩ : ByteArray).size = 1 := rfl
  have hp : ((txt (45 :: l)).extract 0 1).toList = [45] := by rw [Lib.toList_data, extract_take, txt_list]; rfl
  unfold big_parts.f strings_CutPrefix.f stringslite_CutPrefix.f stringslite_HasPrefix.f
  rw [h1, if_pos (by omega), if_pos (by omega), if_pos (by omega)]
  simp only [Option.bind_some, Int.toNat_natCast]
  rw [hp, show (⟨#[45]⟩ : ByteArray).toList = [45] by rw [Lib.toList_data]]
  rw [if_pos (by rfl), if_pos (by omega), if_pos (by omega)]
  simp only [Option.bind_some]
  congr 2
  apply ext_list
  rw [extract_end, txt_list, txt_list]
  rfl
theorem parts_plain (x : UInt8) (l : List UInt8) (hx : x ≠ 45) : big_parts.f (txt (x :: l)) = some (false, txt (x :: l)) := by
  have hz : (txt (x :: l)).size = l.length + 1 := by rw [txt_size]; rfl
  have h1 : (⟨#[45]⟩ : ByteArray).size = 1 := rfl
  have hp : ((txt (x :: l)).extract 0 1).toList = [x] := by rw [Lib.toList_data, extract_take, txt_list]; rfl
  have h45 : (⟨#[45]⟩ : ByteArray).toList = [45] := by rw [Lib.toList_data]
  unfold big_parts.f strings_CutPrefix.f stringslite_CutPrefix.f stringslite_HasPrefix.f
  rw [h1, if_pos (by omega), if_pos (by omega), if_pos (by omega)]
  simp only [Option.bind_some, Int.toNat_natCast]
  rw [hp, h45, show (([x] : List UInt8) == [45]) = false from beq_eq_false_iff_ne.2 (fun e => hx (List.cons.inj e).1)]
  rfl
theorem parts_num (z : Int) : big_parts.f (num z) = some (decide (z < 0), txt (decDigits z.natAbs)) := by
  by_cases h : z < 0
  · obtain ⟨u, rfl⟩ : ∃ u : Nat, z = -(u : Int) := ⟨z.natAbs, by omega⟩
    rw [num_neg u (by omega), parts_minus, decide_eq_true h, Int.natAbs_neg, Int.natAbs_natCast]
  · obtain ⟨u, rfl⟩ : ∃ u : Nat, z = (u : Int) := ⟨z.toNat, by omega⟩
    obtain ⟨x, r, e, hx⟩ := dec_no45 u
    rw [num_nat, e, parts_plain x r hx, decide_eq_false h, Int.natAbs_natCast, e]
theorem digits_l0 (L : List UInt8) (hL : Digs L) (hne : L ≠ []) (hs : L.length ≤ 1000000) : ∀ (d k i : Nat), i + d = L.length → d + 1 ≤ k → big_digits.l0 k (txt L) (txt L).size i = some true
  | 0, k, i, hi, hk => by
    obtain ⟨k, rfl⟩ : ∃ m, k = m + 1 := ⟨k - 1, by omega⟩
    have hz := txt_size L
    simp only [big_digits.l0]
    rw [if_neg (by omega), txt_toList]
    simp [hne]
  | d + 1, k, i, hi, hk => by
    obtain ⟨k, rfl⟩ : ∃ m, k = m + 1 := ⟨k - 1, by omega⟩
    have hz := txt_size L
    have hlt : i < L.length := by omega
    obtain ⟨x, hx, hdr⟩ := drop_cons hlt
    have hd := hL x (List.mem_of_mem_drop (by rw [hdr]; exact List.mem_cons_self))
    have hb : bt (txt L) (i : Int) = x.toNat := by rw [bt_nat, txt_list, hx]
    obtain ⟨h0, h1⟩ := hd
    simp only [big_digits.l0]
    rw [if_pos (by omega), if_pos (by omega), if_pos (by omega), hb, if_neg (by omega), if_neg (by omega), wrap_id (by omega) (by omega)]
    have := digits_l0 L hL hne hs d k (i + 1) (by omega) (by omega)
    rw [show ((i + 1 : Nat) : Int) = (i : Int) + 1 by omega] at this
    exact this
theorem digits_yes (L : List UInt8) (hL : Digs L) (hne : L ≠ []) (hs : L.length ≤ 1000000) (k : Nat) (hk : L.length + 1 ≤ k) : big_digits.f k (txt L) = some true := digits_l0 L hL hne hs L.length k 0 (by omega) hk
theorem Good_num (z : Int) (hs : (decDigits z.natAbs).length ≤ 1000000) (k : Nat) (hk : (decDigits z.natAbs).length + 1 ≤ k) : big_Good.f k (num z) = some true := by
  unfold big_Good.f
  rw [parts_num]
  simp only [Option.bind_some]
  rw [digits_yes _ (dec_digs _) (dec_ne _) hs k hk]
  simp only [Option.bind_some, if_true]
  have hp := dec_pos z.natAbs
  rw [if_pos (by rw [txt_size]; omega)]
  by_cases h0 : z.natAbs = 0
  · have : z = 0 := by omega
    subst this
    rw [h0, dec_zero, if_pos (by decide), if_pos (by rw [txt_toList])]
    rfl
  · obtain ⟨x, r, e, hx⟩ := dec_head z.natAbs (by omega)
    rw [e, if_neg]
    intro h
    rw [show (0 : Int) = ((0 : Nat) : Int) from rfl, bt_nat, txt_list] at h
    have : (x.toNat : Int) = 48 := h
    exact hx (UInt8.toNat_inj.1 (by have e48 : (48 : UInt8).toNat = 48 := rfl; omega))
theorem Norm_eq (neg : Bool) (L : List UInt8) (hL : Digs L) (hne : L ≠ []) (hs : L.length ≤ 1000000) (k : Nat) (hk : L.length + 1 ≤ k) : big_Norm.f k neg (txt L) = some (num (if neg then -(val L : Int) else (val L : Int))) := by
  unfold big_Norm.f
  rw [digits_yes L hL hne hs k hk]
  simp only [Option.bind_some, if_true]
  obtain ⟨t1, t2, t3, t4⟩ := trim_nought L hL
  have hT : strings_TrimLeft.f (txt L) (⟨#[48]⟩ : ByteArray) = some (txt (trimLeftS L [48])) := by
    unfold strings_TrimLeft.f
    rw [if_pos ⟨by decide, by decide, by rw [txt_size]; omega⟩]
    rfl
  rw [hT]
  simp only [Option.bind_some]
  rw [txt_toList]
  rcases t3 with h | ⟨x, r, h, hx⟩
  · rw [h, val_nil] at t1
    rw [if_pos h, ← t1]
    cases neg
    · show some (txt [48]) = _
      rw [show (if false = true then -((0 : Nat) : Int) else ((0 : Nat) : Int)) = ((0 : Nat) : Int) from rfl, num_nat, dec_zero]
    · show some (txt [48]) = _
      rw [show (if true = true then -((0 : Nat) : Int) else ((0 : Nat) : Int)) = ((0 : Nat) : Int) from rfl, num_nat, dec_zero]
  · have hc := canon _ _ rfl t2 ⟨x, r, h, hx⟩
    rw [t1] at hc
    rw [if_neg (by rw [h]; simp), hc]
    have hv : val L ≠ 0 := fun h0 => by
      rw [h0, dec_zero] at hc
      rw [h] at hc
      exact hx (List.cons.inj hc).1
    have hcl : (decDigits (val L)).length ≤ L.length := by rw [← hc]; exact t4
    cases neg
    · rw [if_neg (by decide), if_neg (by decide), num_nat]
      unfold strings_Clone.f stringslite_Clone.f
      rw [if_pos (by rw [txt_size]; omega)]
      rfl
    · rw [if_pos rfl, if_pos rfl, num_neg _ (by omega), if_pos (by rw [txt_size]; omega)]
      congr 1
theorem digs_all {L : List UInt8} (h : Digs L) : (L.all fun x => decide (48 ≤ x.toNat ∧ x.toNat ≤ 57)) = true := List.all_eq_true.2 fun x hx => decide_eq_true (h x hx)
theorem times_eq (u : Nat) (m c : Int) (hm : 0 ≤ m) (hm1 : m ≤ 1099511627776) (hc : 0 ≤ c) (hc1 : c ≤ 1099511627776) (hs : (decDigits u).length ≤ 500000) (k : Nat) (hk : (decDigits u).length + 20 ≤ k) : big_times.f k (txt (decDigits u)) m c = some (num ((u : Int) * m + c)) := by
  unfold big_times.f
  rw [if_pos ⟨by rw [txt_list]; exact digs_all (dec_digs u), by rw [txt_size]; omega, hm, hm1, hc, hc1⟩, txt_list]
  have hC := tim_carry m hm hm1 (decDigits u).reverse c (fun x hx => dec_digs u x (List.mem_reverse.1 hx)) hc hc1
  have hl : (timesL m c (decDigits u)).length ≤ (decDigits u).length + 16 := by
    unfold timesL
    rw [List.length_append, tim_length, List.length_reverse, decDigits_length]
    have := nDigits_le 15 (tim m (decDigits u).reverse c).2.toNat (by omega)
    omega
  have hv := timesL_val m c hm hm1 hc hc1 (decDigits u) (dec_digs u)
  rw [dec_val] at hv
  have := Norm_eq false (timesL m c (decDigits u)) (timesL_digs m c _) (by unfold timesL; intro h; exact dec_ne _ (List.append_eq_nil_iff.1 h).1) (by omega) k (by omega)
  rw [if_neg (by decide), hv] at this
  exact this
/-! ### which is less -/
def cmpN (u v : Nat) : Int := if u < v then -1 else if u = v then 0 else 1
theorem val_cons (x : UInt8) (l : List UInt8) : val (x :: l) = val l + 10 ^ l.length * dv x := by
  rw [show x :: l = [x] ++ l from rfl, val_append, show val [x] = dv x by simp [val, rv]]
theorem cmp_digits : ∀ l m : List UInt8, l.length = m.length → Digs l → Digs m → compareBytes l m = cmpN (val l) (val m)
  | [], [], _, _, _ => rfl
  | [], y :: m, h, _, _ => by simp at h
  | x :: l, [], h, _, _ => by simp at h
  | x :: l, y :: m, h, hl, hm => by
    have hlen : l.length = m.length := by simpa using h
    have hl' : Digs l := fun z hz => hl z (by simp [hz])
    have hm' : Digs m := fun z hz => hm z (by simp [hz])
    have hx := hl x (by simp)
    have hy := hm y (by simp)
    have ih := cmp_digits l m hlen hl' hm'
    have b1 := val_lt l hl'
    have b2 := val_lt m hm'
    rw [compareBytes, val_cons, val_cons, hlen]
    rw [hlen] at b1
    have hxy : (x < y) ↔ dv x < dv y := by rw [UInt8.lt_iff_toNat_lt]; unfold dv; have := hx.1; have := hy.1; omega
    have hyx : (y < x) ↔ dv y < dv x := by rw [UInt8.lt_iff_toNat_lt]; unfold dv; have := hx.1; have := hy.1; omega
    generalize 10 ^ m.length = P at b1 b2 ⊢
    by_cases h1 : x < y
    · rw [if_pos h1]
      have h2 := hxy.1 h1
      have : P * (dv x + 1) ≤ P * dv y := Nat.mul_le_mul_left _ h2
      rw [Nat.mul_add, Nat.mul_one] at this
      generalize P * dv x = A at this ⊢
      generalize P * dv y = B at this ⊢
      unfold cmpN
      rw [if_pos (by omega)]
    · rw [if_neg h1]
      by_cases h2 : y < x
      · rw [if_pos h2]
        have h3 := hyx.1 h2
        have : P * (dv y + 1) ≤ P * dv x := Nat.mul_le_mul_left _ h3
        rw [Nat.mul_add, Nat.mul_one] at this
        generalize P * dv x = A at this ⊢
        generalize P * dv y = B at this ⊢
        unfold cmpN
        rw [if_neg (by omega), if_neg (by omega)]
      · rw [if_neg h2, ih]
        have e : dv x = dv y := Nat.le_antisymm (Nat.not_lt.1 (fun q => h2 (hyx.2 q))) (Nat.not_lt.1 (fun q => h1 (hxy.2 q)))
        rw [e]
        generalize P * dv y = B
        unfold cmpN
        by_cases h4 : val l < val m
        · rw [if_pos h4, if_pos (by omega)]
        · rw [if_neg h4]
          by_cases h5 : val l = val m
          · rw [if_pos h5, if_neg (by omega), if_pos (by omega)]
          · rw [if_neg h5, if_neg (by omega), if_neg (by omega)]
theorem dec_len_lt {u v : Nat} (h : (decDigits u).length < (decDigits v).length) : u < v := by
  have h1 := val_lt _ (dec_digs u)
  rw [dec_val] at h1
  have hv : 0 < v := by
    rcases Nat.eq_zero_or_pos v with e | e
    · rw [e, dec_zero] at h
      have := dec_pos u
      simp only [List.length_singleton] at h
      omega
    · exact e
  obtain ⟨x, r, e, hx⟩ := dec_head v hv
  have h2 := dec_val v
  have hdx := dec_digs v x (by rw [e]; simp)
  have hx1 : 1 ≤ dv x := by
    unfold dv
    have e48 : (48 : UInt8).toNat = 48 := rfl
    have : x.toNat ≠ 48 := fun q => hx (UInt8.toNat_inj.1 (by omega))
    have := hdx.1
    omega
  rw [e] at h h2
  rw [val_cons] at h2
  simp only [List.length_cons] at h
  have h3 : 10 ^ (decDigits u).length ≤ 10 ^ r.length := Nat.pow_le_pow_right (by decide) (by omega)
  have h4 : 10 ^ r.length * 1 ≤ 10 ^ r.length * dv x := Nat.mul_le_mul_left _ hx1
  omega
theorem above_eq (u v : Nat) : big_above.f (txt (decDigits u)) (txt (decDigits v)) = some (cmpN u v) := by
  unfold big_above.f
  rw [txt_size, txt_size]
  by_cases h : (decDigits u).length = (decDigits v).length
  · rw [if_pos (by omega)]
    unfold strings_Compare.f
    simp only [Option.bind_some]
    rw [txt_list, txt_list, cmp_digits _ _ h (dec_digs u) (dec_digs v), dec_val, dec_val]
  · rw [if_neg (by omega)]
    by_cases h2 : (decDigits u).length < (decDigits v).length
    · rw [if_pos (by omega), cmpN, if_pos (dec_len_lt h2)]
    · have := dec_len_lt (show (decDigits v).length < (decDigits u).length by omega)
      rw [if_neg (by omega), cmpN, if_neg (by omega), if_neg (by omega)]
/-! ### sums -/
theorem less_eq (u v : Nat) (h : v ≤ u) (hs : (decDigits u).length ≤ 500000) (hs' : (decDigits v).length ≤ 500000) : ∃ L, big_less.f (txt (decDigits u)) (txt (decDigits v)) = some (txt L) ∧ Digs L ∧ L ≠ [] ∧ L.length = (decDigits u).length ∧ val L = u - v := by
  refine ⟨lesL (decDigits u) (decDigits v), ?_, lesL_digs _ _ (dec_digs u) (dec_digs v), ?_, ?_, ?_⟩
  · unfold big_less.f
    rw [if_pos ⟨by rw [txt_list]; exact digs_all (dec_digs u), by rw [txt_list]; exact digs_all (dec_digs v), by rw [txt_size]; omega, by rw [txt_size]; omega⟩]
    rfl
  · intro e
    have := les_length (decDigits u).reverse (decDigits v).reverse false
    unfold lesL at e
    rw [e, List.length_reverse] at this
    have := dec_pos u
    simp at *
    omega
  · unfold lesL
    rw [les_length, List.length_reverse]
  · rw [lesL_val _ _ (dec_digs u) (dec_digs v) (by rw [dec_val, dec_val]; exact h), dec_val, dec_val]
theorem Add_j1 (neg : Bool) (u : Nat) (x : Int) (hx0 : -1099511627776 ≤ x) (hx1 : x ≤ 1099511627776) (hs : (decDigits u).length ≤ 400000) (k : Nat) (hk : (decDigits u).length + 60 ≤ k) :
    big_Add.j1 k x neg (txt (decDigits u)) = some (num (if neg then -((u : Int) + x) else (u : Int) + x)) := by
  obtain ⟨k, rfl⟩ : ∃ j, k = j + 1 := ⟨k - 1, by omega⟩
  simp only [big_Add.j1]
  by_cases h0 : x ≥ 0
  · rw [if_pos h0, times_eq u 1 x (by omega) (by omega) (by omega) hx1 (by omega) k (by omega)]
    simp only [Option.bind_some]
    obtain ⟨U, hU⟩ : ∃ U : Nat, (u : Int) * 1 + x = U := ⟨((u : Int) * 1 + x).toNat, by omega⟩
    have hl : (timesL 1 x (decDigits u)).length ≤ (decDigits u).length + 16 := by
      have hC := tim_carry 1 (by omega) (by omega) (decDigits u).reverse x (fun y hy => dec_digs u y (List.mem_reverse.1 hy)) h0 hx1
      unfold timesL
      rw [List.length_append, tim_length, List.length_reverse, decDigits_length]
      have := nDigits_le 15 (tim 1 (decDigits u).reverse x).2.toNat (by omega)
      omega
    have hUl : (decDigits U).length ≤ (decDigits u).length + 16 := by
      have hv := timesL_val 1 x (by omega) (by omega) h0 hx1 (decDigits u) (dec_digs u)
      rw [dec_val, hU] at hv
      have h1 := val_lt _ (timesL_digs 1 x (decDigits u))
      have hv' : val (timesL 1 x (decDigits u)) = U := by omega
      rw [hv'] at h1
      have h2 : U < 10 ^ ((decDigits u).length + 15 + 1) := Nat.lt_of_lt_of_le h1 (Nat.pow_le_pow_right (by decide) (by omega))
      rw [decDigits_length]
      exact nDigits_le _ _ h2
    rw [hU, num_nat, Norm_eq neg _ (dec_digs U) (dec_ne U) (by omega) k (by omega), dec_val]
    rw [show (u : Int) + x = (U : Int) by omega]
    rfl
  · rw [if_neg h0, wrap_id (by omega) (by omega)]
    obtain ⟨v, hv⟩ : ∃ v : Nat, -x = v := ⟨(-x).toNat, by omega⟩
    have hI : strconv_Itoa.f (-x) = some (txt (decDigits v)) := by
      unfold strconv_Itoa.f
      rw [if_pos ⟨by omega, by omega⟩, hv, itoa_nonneg]
      rfl
    have hvl : (decDigits v).length ≤ 16 := by rw [decDigits_length]; exact nDigits_le 15 v (by omega)
    rw [hI]
    simp only [Option.bind_some]
    rw [above_eq]
    simp only [Option.bind_some]
    by_cases h1 : u < v
    · rw [show cmpN u v = -1 by unfold cmpN; rw [if_pos h1], if_pos (by decide)]
      obtain ⟨L, e1, e2, e3, e4, e5⟩ := less_eq v u (by omega) (by omega) (by omega)
      rw [e1]
      simp only [Option.bind_some]
      rw [Norm_eq (!neg) L e2 e3 (by omega) k (by omega), e5]
      simp only [Option.bind_some]
      cases neg
      · rw [if_pos (show (!false) = true from rfl), if_neg (by decide), show -((v - u : Nat) : Int) = (u : Int) + x by omega]
      · rw [if_neg (by decide), if_pos rfl, show ((v - u : Nat) : Int) = -((u : Int) + x) by omega]
    · rw [if_neg (by unfold cmpN; rw [if_neg h1]; split <;> decide)]
      obtain ⟨L, e1, e2, e3, e4, e5⟩ := less_eq u v (by omega) (by omega) (by omega)
      rw [e1]
      simp only [Option.bind_some]
      rw [Norm_eq neg L e2 e3 (by omega) k (by omega), e5]
      simp only [Option.bind_some]
      rw [show ((u - v : Nat) : Int) = (u : Int) + x by omega]
theorem Add_eq (z n : Int) (hn0 : -1099511627776 ≤ n) (hn1 : n ≤ 1099511627776) (hs : (decDigits z.natAbs).length ≤ 400000) (k : Nat) (hk : (decDigits z.natAbs).length + 70 ≤ k) : big_Add.f k (num z) n = some (num (z + n)) := by
  unfold big_Add.f
  rw [Good_num z (by omega) k (by omega)]
  simp only [Option.bind_some, if_true]
  rw [if_neg (by omega), decide_eq_false (by omega)]
  obtain ⟨k, rfl⟩ : ∃ j, k = j + 1 := ⟨k - 1, by omega⟩
  simp only [big_Add.j0]
  rw [if_neg (by decide), parts_num]
  simp only [Option.bind_some]
  by_cases h : z < 0
  · rw [decide_eq_true h, if_pos rfl, wrap_id (by omega) (by omega), Add_j1 true z.natAbs (-n) (by omega) (by omega) (by omega) k (by omega), if_pos rfl]
    rw [show -(((z.natAbs : Nat) : Int) + -n) = z + n by omega]
  · rw [decide_eq_false h, if_neg (by decide), Add_j1 false z.natAbs n hn0 hn1 (by omega) k (by omega), if_neg (by decide)]
    rw [show ((z.natAbs : Nat) : Int) + n = z + n by omega]
/-! ### the law's own digits -/
def digL (l : List UInt8) : List UInt8 := l.map fun x => UInt8.ofNat (48 + x.toNat % 10)
theorem digL_digs (l : List UInt8) : Digs (digL l) := fun x hx => by
  obtain ⟨y, _, rfl⟩ := List.mem_map.1 hx
  exact (digit_of (Nat.mod_lt _ (by decide))).1
theorem digL_length (l : List UInt8) : (digL l).length = l.length := by unfold digL; rw [List.length_map]
/-! ### the order of whole numbers -/
def cmpZ (x y : Int) : Int := if x < y then -1 else if x = y then 0 else 1
end Go.Proofs.YtkijneohhilboaaGreatDoor.BigFns
