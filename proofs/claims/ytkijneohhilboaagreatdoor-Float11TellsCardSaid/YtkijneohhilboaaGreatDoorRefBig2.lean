/- The reference's products, differences, sums, orders (targumref4): the numbers that they say. No conditions but sizes. -/
import Derived.Test.YtkijneohhilboaaGreatDoorRefBig
import Derived.Test.YtkijneohhilboaaGreatDoorPTx10
import Derived.Test.YtkijneohhilboaaGreatDoorPTx9
namespace Go.Proofs.YtkijneohhilboaaGreatDoor.RefBig
set_option linter.unusedSimpArgs false
set_option linter.unusedVariables false
open Go.RowKit Go.Lib Go.Proofs.YtkijneohhilboaaGreatDoor.Room Go.Proofs.YtkijneohhilboaaGreatDoor.PT Go.Proofs.YtkijneohhilboaaGreatDoorW.PrintWords Go.Proofs.YtkijneohhilboaaGreatDoor.Aid Go.Proofs.YtkijneohhilboaaGreatDoor.Num Go.Proofs.YtkijneohhilboaaGreatDoor.BigFns Go.Proofs.YtkijneohhilboaaGreatDoor.BigQ
/-- bytes as numbers -/
def bz (l : List UInt8) : List Int := l.map fun b => (b.toNat : Int)
theorem bz_str (l : List UInt8) : strOfNums (bz l) = txt l := by
  apply ext_list
  rw [strOfNums_data, txt_list]
  unfold bz
  rw [List.map_map]
  refine (List.map_congr_left fun b _ => ?_).trans (List.map_id l)
  exact UInt8.toNat_inj.1 (by show (UInt8.ofNat (b.toNat : Int).toNat).toNat = b.toNat; rw [UInt8.toNat_ofNat']; have := b.toNat_lt; omega)
theorem bz_cons (x : UInt8) (l : List UInt8) : bz (x :: l) = (x.toNat : Int) :: bz l := rfl
theorem drop_set {l : List Int} {n : Nat} (h : n < l.length) (v : Int) : (l.set n v).drop n = v :: l.drop (n + 1) := by
  rw [List.drop_eq_getElem_cons (by rw [List.length_set]; exact h), List.getElem_set_self, List.drop_set_of_lt (by omega)]
theorem take_rev {l : List UInt8} {n : Nat} (h : n < l.length) : (l.take (n + 1)).reverse = l[n] :: (l.take n).reverse := by
  rw [List.take_succ_eq_append_getElem h, List.reverse_append]; rfl
theorem bt_at_ {l : List UInt8} {n : Nat} (h : n < l.length) : bt (txt l) (n : Int) = ((l[n]).toNat : Int) := by
  rw [bt_nat, txt_list]
  unfold ba
  rw [List.getD_eq_getElem?_getD, List.getElem?_eq_getElem h]
  rfl
theorem u8_dig {z : Int} (h0 : 0 ≤ z) (h1 : z < 256) : ((UInt8.ofNat z.toNat).toNat : Int) = z := by
  rw [UInt8.toNat_ofNat']; omega
/-! ### one digit ahead of another: a number's numeral -/
def decD (u : Nat) : List UInt8 := if u = 0 then [] else decDigits u
theorem decD_step {u : Nat} (h : 0 < u) : decD u = decD (u / 10) ++ [UInt8.ofNat (48 + u % 10)] := by
  unfold decD
  rw [if_neg (by omega)]
  by_cases h1 : u < 10
  · rw [if_pos (by omega), decDigits, dif_pos h1, Nat.mod_eq_of_lt h1]; rfl
  · rw [if_neg (by omega), decDigits, dif_neg h1]
theorem decD_val (u : Nat) : val (decD u) = u := by
  unfold decD
  split
  · rename_i h; rw [h]; rfl
  · exact dec_val u
theorem decD_digs (u : Nat) : Digs (decD u) := by
  unfold decD
  split
  · exact fun x hx => by cases hx
  · exact dec_digs u
theorem mul_l1 (L : List UInt8) (hL : L.length ≤ 900000) (R : ByteArray) (K : Nat) : ∀ (n k u : Nat) (h : List UInt8), u < 10 ^ n → u ≤ 1099511627776 → h.length + n ≤ 100 →
    (∀ k, K ≤ k → targumref4_Norm.f k false (txt (decD u ++ h ++ L)) = some R) → n + K + 1 ≤ k → targumref4_mulAdd.l1 k (bz L) (u : Int) (txt h) = some R
  | 0, k, u, h, hu, hu2, hh, hR, hk => by
    obtain ⟨k, rfl⟩ : ∃ m, k = m + 1 := ⟨k - 1, by omega⟩
    have hu0 : u = 0 := by rw [Nat.pow_zero] at hu; omega
    subst hu0
    simp only [targumref4_mulAdd.l1]
    rw [if_neg (by omega), bz_str, if_pos (by rw [txt_size, txt_size]; omega)]
    have e : txt h ++ txt L = txt (decD 0 ++ h ++ L) := by
      apply ext_list; rw [append_list, txt_list, txt_list, txt_list]; rfl
    rw [e, hR k (by omega)]
    rfl
  | n + 1, k, u, h, hu, hu2, hh, hR, hk => by
    obtain ⟨k, rfl⟩ : ∃ m, k = m + 1 := ⟨k - 1, by omega⟩
    simp only [targumref4_mulAdd.l1]
    by_cases h0 : u = 0
    · subst h0
      rw [if_neg (by omega), bz_str, if_pos (by rw [txt_size, txt_size]; omega)]
      have e : txt h ++ txt L = txt (decD 0 ++ h ++ L) := by
        apply ext_list; rw [append_list, txt_list, txt_list, txt_list]; rfl
      rw [e, hR k (by omega)]
      rfl
    · rw [if_pos (by omega), Int.tmod_eq_emod_of_nonneg (by omega), Int.tdiv_eq_ediv_of_nonneg (by omega), wrap_id (x := 48 + (u : Int) % 10) (by omega) (by omega), wrap_id (x := (u : Int) / 10) (by omega) (by omega)]
      simp only [Option.bind_some]
      have e1 : strOfNums [(48 + (u : Int) % 10) % 256] = txt [UInt8.ofNat (48 + u % 10)] := by
        apply ext_list
        rw [strOfNums_data, txt_list]
        simp only [List.map_cons, List.map_nil]
        congr 2
        omega
      rw [e1, if_pos (by rw [txt_size, txt_size]; simp only [List.length_singleton]; omega)]
      have e2 : txt [UInt8.ofNat (48 + u % 10)] ++ txt h = txt (UInt8.ofNat (48 + u % 10) :: h) := by
        apply ext_list; rw [append_list, txt_list, txt_list, txt_list]; rfl
      rw [e2, show (u : Int) / 10 = ((u / 10 : Nat) : Int) by omega]
      refine mul_l1 L hL R K n k (u / 10) (UInt8.ofNat (48 + u % 10) :: h) ?_ (by omega) (by simp only [List.length_cons]; omega) ?_ (by omega)
      · rw [Nat.pow_succ] at hu; omega
      · intro k hk
        have := hR k hk
        rw [decD_step (by omega), List.append_assoc (decD (u / 10)) _ h] at this
        exact this
theorem mul_l0 (l : List UInt8) (hd : Digs l) (hs : l.length ≤ 900000) (m : Int) (hm0 : 0 ≤ m) (hm1 : m ≤ 1099511627776) (R : ByteArray) (K : Nat) : ∀ (n k : Nat) (xs : List Int) (c : Int) (D : List UInt8), n ≤ l.length → xs.length = l.length → xs.drop n = bz D → 0 ≤ c → c ≤ 1099511627776 →
    (∀ k, K ≤ k → targumref4_mulAdd.l1 k (bz ((tim m (l.take n).reverse c).1 ++ D)) (tim m (l.take n).reverse c).2 ⟨#[]⟩ = some R) → n + K + 1 ≤ k → targumref4_mulAdd.l0 k (txt l) m xs c ((n : Int) - 1) = some R
  | 0, k, xs, c, D, hn, hx, hD, hc0, hc1, hR, hk => by
    obtain ⟨k, rfl⟩ : ∃ m, k = m + 1 := ⟨k - 1, by omega⟩
    simp only [targumref4_mulAdd.l0]
    rw [if_neg (by omega)]
    have := hR k (by omega)
    rw [List.drop_zero] at hD
    rw [hD]
    exact this
  | n + 1, k, xs, c, D, hn, hx, hD, hc0, hc1, hR, hk => by
    obtain ⟨k, rfl⟩ : ∃ m, k = m + 1 := ⟨k - 1, by omega⟩
    have hlt : n < l.length := by omega
    have hz := txt_size l
    have hdx : isDig l[n] := hd _ (List.getElem_mem hlt)
    simp only [targumref4_mulAdd.l0]
    rw [show ((n + 1 : Nat) : Int) - 1 = (n : Int) by omega, if_pos (by omega), if_pos (by omega), if_pos (by omega), if_pos (by omega), bt_at_ hlt]
    rw [take_rev hlt, tim] at hR
    obtain ⟨s0, s1, s2, s3⟩ := step_bound hdx hm0 hm1 hc0 hc1
    obtain ⟨h0, h1⟩ := hdx
    have hb : ((l[n].toNat : Int) - 48) % 256 = (l[n].toNat : Int) - 48 := by omega
    rw [hb]
    obtain ⟨P, hP⟩ : ∃ P, ((l[n].toNat : Int) - 48) * m = P := ⟨_, rfl⟩
    rw [hP] at s0 s1 s2 s3 hR ⊢
    rw [wrap_id (x := P) (by omega) (by omega), wrap_id (x := c + P) (by omega) (by omega), Int.tmod_eq_emod_of_nonneg (by omega), Int.tdiv_eq_ediv_of_nonneg (by omega), wrap_id (x := 48 + (c + P) % 10) (by omega) (by omega), wrap_id (x := (c + P) / 10) (by omega) (by omega), wrap_id (x := (n : Int) - 1) (by omega) (by omega), Int.toNat_natCast]
    refine mul_l0 l hd hs m hm0 hm1 R K n k _ _ (UInt8.ofNat (48 + (c + P) % 10).toNat :: D) (by omega) (by rw [List.length_set]; exact hx) ?_ s2 s3 ?_ (by omega)
    · rw [drop_set (by omega), bz_cons, hD, u8_dig (by omega) (by omega)]
      congr 1
      omega
    · intro k hk
      have := hR k hk
      rw [List.append_assoc] at this
      exact this
/-- the reference's product, and a number put to it -/
theorem rmulAdd_eq (l : List UInt8) (hd : Digs l) (hne : l ≠ []) (hs : l.length ≤ 900000) (m c : Int) (hm0 : 0 ≤ m) (hm1 : m ≤ 1099511627776) (hc0 : 0 ≤ c) (hc1 : c ≤ 1099511627776) (k : Nat) (hk : 2 * l.length + 60 ≤ k) :
    targumref4_mulAdd.f k (txt l) m c = some (num ((val l : Int) * m + c)) := by
  have hz := txt_size l
  have hC := tim_carry m hm0 hm1 l.reverse c (fun x hx => hd x (List.mem_reverse.1 hx)) hc0 hc1
  have hv := timesL_val m c hm0 hm1 hc0 hc1 l hd
  have hlen : (tim m l.reverse c).1.length = l.length := by rw [tim_length, List.length_reverse]
  unfold targumref4_mulAdd.f
  rw [if_pos (by omega), if_pos (by omega), wrap_id (by omega) (by omega), hz]
  obtain ⟨C, hCe⟩ : ∃ C : Nat, (tim m l.reverse c).2 = C := ⟨(tim m l.reverse c).2.toNat, by omega⟩
  refine mul_l0 l hd hs m hm0 hm1 _ (l.length + 40) l.length k _ c [] (Nat.le_refl _) (by rw [List.length_replicate]; omega) (by rw [List.drop_of_length_le (by rw [List.length_replicate]; omega)]; rfl) hc0 hc1 ?_ (by omega)
  rw [List.take_length, List.append_nil, hCe]
  intro k hk
  refine mul_l1 _ (by omega) _ (l.length + 20) 13 k C [] (by omega) (by omega) (by simp) ?_ (by omega)
  intro k hk
  rw [List.append_nil]
  have hD : Digs (decD C ++ (tim m l.reverse c).1) := (decD_digs C).append (tim_digs m _ c)
  have hl2 : (decD C).length ≤ 16 := by
    unfold decD
    split
    · simp
    · rw [decDigits_length]; exact nDigits_le 15 C (by omega)
  have hne2 : decD C ++ (tim m l.reverse c).1 ≠ [] := fun e => by
    have := (List.append_eq_nil_iff.1 e).2
    rw [this] at hlen
    exact hne (List.length_eq_zero_iff.1 hlen.symm)
  have := rNorm_eq false _ hD hne2 (by rw [List.length_append]; omega) k (by rw [List.length_append]; omega)
  rw [if_neg (by decide)] at this
  rw [this]
  congr 2
  rw [← hv]
  unfold timesL
  rw [hCe, Int.toNat_natCast, val_append, val_append, decD_val, dec_val]
/-! ### a number's text -/
theorem rText_l0 : ∀ (n k u : Nat) (h : List UInt8), u < 10 ^ (n + 1) → u ≤ 9223372036854775807 → h.length + n ≤ 100 → n + 1 ≤ k → targumref4_Text.l0 k (u : Int) (txt h) = some (txt (decDigits u ++ h))
  | 0, k, u, h, hu, hu2, hh, hk => by
    obtain ⟨k, rfl⟩ : ∃ m, k = m + 1 := ⟨k - 1, by omega⟩
    simp only [targumref4_Text.l0]
    rw [Nat.zero_add, Nat.pow_one] at hu
    rw [Int.tmod_eq_emod_of_nonneg (by omega), Int.tdiv_eq_ediv_of_nonneg (by omega), wrap_id (x := 48 + (u : Int) % 10) (by omega) (by omega), wrap_id (x := (u : Int) / 10) (by omega) (by omega)]
    simp only [Option.bind_some]
    have e1 : strOfNums [(48 + (u : Int) % 10) % 256] = txt [UInt8.ofNat (48 + u)] := by
      apply ext_list
      rw [strOfNums_data, txt_list]
      simp only [List.map_cons, List.map_nil]
      congr 2
      omega
    rw [e1, if_pos (by rw [txt_size, txt_size]; simp only [List.length_singleton]; omega), if_pos (by omega), decDigits, dif_pos hu]
    congr 1
  | n + 1, k, u, h, hu, hu2, hh, hk => by
    obtain ⟨k, rfl⟩ : ∃ m, k = m + 1 := ⟨k - 1, by omega⟩
    simp only [targumref4_Text.l0]
    rw [Int.tmod_eq_emod_of_nonneg (by omega), Int.tdiv_eq_ediv_of_nonneg (by omega), wrap_id (x := 48 + (u : Int) % 10) (by omega) (by omega), wrap_id (x := (u : Int) / 10) (by omega) (by omega)]
    simp only [Option.bind_some]
    have e1 : strOfNums [(48 + (u : Int) % 10) % 256] = txt [UInt8.ofNat (48 + u % 10)] := by
      apply ext_list
      rw [strOfNums_data, txt_list]
      simp only [List.map_cons, List.map_nil]
      congr 2
      omega
    have e2 : txt [UInt8.ofNat (48 + u % 10)] ++ txt h = txt (UInt8.ofNat (48 + u % 10) :: h) := by
      apply ext_list; rw [append_list, txt_list, txt_list, txt_list]; rfl
    rw [e1, if_pos (by rw [txt_size, txt_size]; simp only [List.length_singleton]; omega), e2]
    by_cases h1 : u < 10
    · rw [if_pos (by omega), decDigits, dif_pos h1, Nat.mod_eq_of_lt h1]; rfl
    · rw [if_neg (by omega), show (u : Int) / 10 = ((u / 10 : Nat) : Int) by omega, decDigits, dif_neg h1]
      rw [rText_l0 n k (u / 10) (UInt8.ofNat (48 + u % 10) :: h) (by rw [Nat.pow_succ] at hu; omega) (by omega) (by simp only [List.length_cons]; omega) (by omega), List.append_assoc]
      rfl
theorem rText_eq (u : Nat) (hu : u ≤ 9223372036854775807) (k : Nat) (hk : 20 ≤ k) : targumref4_Text.f k (u : Int) = some (txt (decDigits u)) := by
  have := rText_l0 18 k u [] (by omega) hu (by simp) (by omega)
  rw [List.append_nil] at this
  exact this
/-! ### which is less -/
theorem bytesLess_cmp : ∀ l m : List UInt8, (if Op.bytesLess l m = true then (-1 : Int) else if (l == m) = true then 0 else 1) = compareBytes l m
  | [], [] => rfl
  | [], y :: m => rfl
  | x :: l, [] => rfl
  | x :: l, y :: m => by
    have ih := bytesLess_cmp l m
    rw [compareBytes, ← ih]
    rw [show Op.bytesLess (x :: l) (y :: m) = (decide (x < y) || (x == y && Op.bytesLess l m)) from rfl]
    by_cases h : x < y
    · rw [if_pos h, decide_eq_true h]; rfl
    · rw [if_neg h, decide_eq_false h]
      by_cases h2 : y < x
      · rw [if_pos h2]
        have hne : (x == y) = false := beq_eq_false_iff_ne.2 (fun e => by rw [e] at h2; exact h (by rw [e]; exact h2))
        rw [hne, show (x :: l == y :: m) = (x == y && l == m) from rfl, hne]
        rfl
      · rw [if_neg h2]
        have he : x = y := by
          rw [UInt8.lt_iff_toNat_lt] at h h2
          exact UInt8.toNat_inj.1 (by omega)
        subst he
        rw [show (x :: l == x :: m) = (x == x && l == m) from rfl, beq_self_eq_true]
        simp only [Bool.false_or, Bool.true_and]
theorem rcompare_eq (u v : Nat) : targumref4_compare.f (txt (decDigits u)) (txt (decDigits v)) = some (cmpN u v) := by
  unfold targumref4_compare.f
  rw [txt_size, txt_size, txt_toList, txt_toList, bytesLess_cmp]
  congr 1
  by_cases h : (decDigits u).length = (decDigits v).length
  · rw [if_neg (by omega), if_neg (by omega), cmp_digits _ _ h (dec_digs u) (dec_digs v), dec_val, dec_val]
  · by_cases h2 : (decDigits u).length < (decDigits v).length
    · rw [if_pos h2, cmpN, if_pos (dec_len_lt h2)]
    · have := dec_len_lt (show (decDigits v).length < (decDigits u).length by omega)
      rw [if_neg h2, if_pos (by omega), cmpN, if_neg (by omega), if_neg (by omega)]
/-! ### differences -/
theorem less_l0 (a b : List UInt8) (ha : Digs a) (hb : Digs b) (hs : a.length ≤ 900000) (hs' : b.length ≤ 900000) (R : ByteArray) (K : Nat) : ∀ (n i k : Nat) (xs : List Int) (ow : Bool) (D : List UInt8), i + n = a.length → xs.length = a.length → xs.drop n = bz D →
    (∀ k, K ≤ k → targumref4_Norm.f k false (txt (les (a.take n).reverse (b.take (b.length - i)).reverse ow ++ D)) = some R) → n + K + 1 ≤ k → targumref4_less.l0 k (txt a) (txt b) xs (if ow then 1 else 0) (i : Int) = some R
  | 0, i, k, xs, ow, D, hi, hx, hD, hR, hk => by
    obtain ⟨k, rfl⟩ : ∃ m, k = m + 1 := ⟨k - 1, by omega⟩
    have hz := txt_size a
    simp only [targumref4_less.l0]
    rw [List.drop_zero] at hD
    rw [if_neg (by omega), hD, bz_str]
    have := hR k (by omega)
    rw [List.take_zero] at this
    simp only [List.reverse_nil, les, List.nil_append] at this
    rw [this]
    rfl
  | n + 1, i, k, xs, ow, D, hi, hx, hD, hR, hk => by
    obtain ⟨k, rfl⟩ : ∃ m, k = m + 1 := ⟨k - 1, by omega⟩
    have hz := txt_size a
    have hz' := txt_size b
    have hlt : n < a.length := by omega
    have hdx : isDig a[n] := ha _ (List.getElem_mem hlt)
    obtain ⟨d0, d1⟩ := hdx
    rw [take_rev hlt, les] at hR
    have hw := ow_eq ow
    have i1 : wrap64 ((txt a).size - 1 : Int) = (a.length : Int) - 1 := by rw [hz]; exact wrap_id (by omega) (by omega)
    have i2 : wrap64 ((a.length : Int) - 1 - (i : Int)) = (n : Int) := by rw [wrap_id (by omega) (by omega)]; omega
    simp only [targumref4_less.l0]
    rw [i1, i2, if_pos (by omega), if_pos (by omega), if_pos (by omega), bt_at_ hlt]
    have hmod : ((a[n].toNat : Int) - 48) % 256 = (a[n].toNat : Int) - 48 := by omega
    rw [hmod]
    obtain ⟨O, hO⟩ : ∃ O : Int, (if ow then (1 : Int) else 0) = O := ⟨_, rfl⟩
    rw [hO] at hw ⊢
    have tail : ∀ v : Int, 0 ≤ v → v ≤ 9 → ∀ ow' : Bool, (∀ k, K ≤ k → targumref4_Norm.f k false (txt (les (a.take n).reverse (b.take (b.length - (i + 1))).reverse ow' ++ [UInt8.ofNat (48 + v).toNat] ++ D)) = some R) →
        targumref4_less.l0 k (txt a) (txt b) (xs.set ((n : Int)).toNat ((wrap64 (48 + v)) % 256)) (if ow' then 1 else 0) (wrap64 ((i : Int) + 1)) = some R := by
      intro v v0 v1 ow' hR'
      rw [wrap_id (x := 48 + v) (by omega) (by omega), wrap_id (x := (i : Int) + 1) (by omega) (by omega), Int.toNat_natCast, show (i : Int) + 1 = ((i + 1 : Nat) : Int) by omega]
      refine less_l0 a b ha hb hs hs' R K n (i + 1) k _ ow' (UInt8.ofNat (48 + v).toNat :: D) (by omega) (by rw [List.length_set]; exact hx) ?_ ?_ (by omega)
      · rw [drop_set (by omega), bz_cons, hD, u8_dig (by omega) (by omega)]
        congr 1
        omega
      · intro k hk
        have := hR' k hk
        rw [List.append_assoc] at this
        exact this
    by_cases hib : i < b.length
    · have hlt' : b.length - (i + 1) < b.length := by omega
      have hdy : isDig b[b.length - (i + 1)] := hb _ (List.getElem_mem hlt')
      obtain ⟨e0, e1⟩ := hdy
      have hrev : (b.take (b.length - i)).reverse = b[b.length - (i + 1)] :: (b.take (b.length - (i + 1))).reverse := by
        rw [← take_rev hlt', show b.length - (i + 1) + 1 = b.length - i by omega]
      rw [hrev] at hR
      have j1 : wrap64 ((txt b).size - 1 : Int) = (b.length : Int) - 1 := by rw [hz']; exact wrap_id (by omega) (by omega)
      have j2 : wrap64 ((b.length : Int) - 1 - (i : Int)) = ((b.length - (i + 1) : Nat) : Int) := by rw [wrap_id (by omega) (by omega)]; omega
      rw [if_pos (by omega), j1, j2, if_pos (by omega), if_pos (by omega), bt_at_ hlt']
      have howe : owes (b[b.length - (i + 1)] :: (b.take (b.length - (i + 1))).reverse) ow = O + ((b[b.length - (i + 1)].toNat : Int) - 48) := by unfold owes; rw [hO]
      rw [howe] at hR
      obtain ⟨X, hX⟩ : ∃ X : Int, (a[n].toNat : Int) = X := ⟨_, rfl⟩
      obtain ⟨Y, hY⟩ : ∃ Y : Int, (b[b.length - (i + 1)].toNat : Int) = Y := ⟨_, rfl⟩
      rw [hX, hY] at hR
      rw [hX, hY, show (Y - 48) % 256 = Y - 48 by omega, wrap_id (x := X - 48 - O) (by omega) (by omega), wrap_id (x := X - 48 - O - (Y - 48)) (by omega) (by omega)]
      by_cases hlt2 : X < 48 + (O + (Y - 48))
      · rw [if_pos (by omega), if_pos (by omega), wrap_id (x := X - 48 - O - (Y - 48) + 10) (by omega) (by omega)]
        refine tail (X - 48 - O - (Y - 48) + 10) (by omega) (by omega) true ?_
        intro k hk
        have := hR k hk
        rw [if_pos hlt2] at this
        rw [show 48 + (X - 48 - O - (Y - 48) + 10) = X + 10 - (O + (Y - 48)) by omega]
        exact this
      · rw [if_neg (by omega), if_pos (by omega)]
        refine tail (X - 48 - O - (Y - 48)) (by omega) (by omega) false ?_
        intro k hk
        have := hR k hk
        rw [if_neg hlt2] at this
        rw [show 48 + (X - 48 - O - (Y - 48)) = X - (O + (Y - 48)) by omega]
        exact this
    · have hnil : (b.take (b.length - i)).reverse = [] := by rw [show b.length - i = 0 by omega]; rfl
      have hnil' : (b.take (b.length - (i + 1))).reverse = [] := by rw [show b.length - (i + 1) = 0 by omega]; rfl
      rw [hnil] at hR
      have howe : owes [] ow = O := by unfold owes; rw [hO]; simp
      rw [howe] at hR
      simp only [hnil'] at tail
      obtain ⟨X, hX⟩ : ∃ X : Int, (a[n].toNat : Int) = X := ⟨_, rfl⟩
      rw [hX] at hR
      rw [hX, if_neg (by omega), wrap_id (x := X - 48 - O) (by omega) (by omega)]
      by_cases hlt2 : X < 48 + O
      · rw [if_pos (by omega), if_pos (by omega), wrap_id (x := X - 48 - O + 10) (by omega) (by omega)]
        refine tail (X - 48 - O + 10) (by omega) (by omega) true ?_
        intro k hk
        have := hR k hk
        rw [if_pos hlt2] at this
        rw [show 48 + (X - 48 - O + 10) = X + 10 - O by omega]
        exact this
      · rw [if_neg (by omega), if_pos (by omega)]
        refine tail (X - 48 - O) (by omega) (by omega) false ?_
        intro k hk
        have := hR k hk
        rw [if_neg hlt2] at this
        rw [show 48 + (X - 48 - O) = X - O by omega]
        exact this
theorem rless_eq (u v : Nat) (h : v ≤ u) (hs : (decDigits u).length ≤ 900000) (hs' : (decDigits v).length ≤ 900000) (k : Nat) (hk : 2 * (decDigits u).length + 10 ≤ k) : targumref4_less.f k (txt (decDigits u)) (txt (decDigits v)) = some (num ((u : Int) - v)) := by
  have hz := txt_size (decDigits u)
  unfold targumref4_less.f
  rw [if_pos (by omega), if_pos (by omega)]
  have := less_l0 (decDigits u) (decDigits v) (dec_digs u) (dec_digs v) hs hs' (num ((u : Int) - v)) ((decDigits u).length + 5) (decDigits u).length 0 k (List.replicate ((txt (decDigits u)).size : Int).toNat 0) false [] (by omega) (by rw [List.length_replicate]; omega) (by rw [List.drop_of_length_le (by rw [List.length_replicate]; omega)]; rfl) ?_ (by omega)
  · exact this
  · intro k hk
    rw [List.take_length, Nat.sub_zero, List.take_length, List.append_nil]
    have hl : (les (decDigits u).reverse (decDigits v).reverse false).length = (decDigits u).length := by rw [les_length, List.length_reverse]
    have hp := dec_pos u
    have hv := lesL_val _ _ (dec_digs u) (dec_digs v) (by rw [dec_val, dec_val]; exact h)
    rw [dec_val, dec_val] at hv
    unfold lesL at hv
    have hdg := lesL_digs _ _ (dec_digs u) (dec_digs v)
    unfold lesL at hdg
    rw [rNorm_eq false _ hdg (fun e => by rw [e] at hl; simp at hl; omega) (by omega) k (by omega), if_neg (by decide), hv]
    congr 2
    omega
end Go.Proofs.YtkijneohhilboaaGreatDoor.RefBig
