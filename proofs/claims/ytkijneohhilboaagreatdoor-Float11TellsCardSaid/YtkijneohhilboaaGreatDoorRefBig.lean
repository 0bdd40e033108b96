/- The reference's whole numbers (targumref4) and layer 4's, of every text: digits, which texts are whole numbers, what digits say. No conditions but sizes. -/
import Derived.Test.YtkijneohhilboaaGreatDoorBigQ
import Derived.Test.YtkijneohhilboaaGreatDoorPTx9
namespace Go.Proofs.YtkijneohhilboaaGreatDoor.RefBig
set_option linter.unusedSimpArgs false
set_option linter.unusedVariables false
open Go.RowKit Go.Lib Go.Proofs.YtkijneohhilboaaGreatDoor.Room Go.Proofs.YtkijneohhilboaaGreatDoor.PT Go.Proofs.YtkijneohhilboaaGreatDoorW.PrintWords Go.Proofs.YtkijneohhilboaaGreatDoor.Aid Go.Proofs.YtkijneohhilboaaGreatDoor.Num Go.Proofs.YtkijneohhilboaaGreatDoor.BigFns Go.Proofs.YtkijneohhilboaaGreatDoor.BigQ
theorem of_list (s : ByteArray) : s = txt s.data.toList := ext_list rfl
theorem itoa_of {z : Int} (h : 0 ≤ z) : itoa z = decDigits z.natAbs := by
  obtain ⟨u, rfl⟩ : ∃ u : Nat, z = u := ⟨z.toNat, by omega⟩
  rw [itoa_nonneg, Int.natAbs_natCast]
theorem itoa_off {z : Int} (h : z < 0) : itoa z = 45 :: decDigits z.natAbs := by
  obtain ⟨u, rfl⟩ : ∃ u : Nat, z = -(u : Int) := ⟨z.natAbs, by omega⟩
  rw [itoa_neg u (by omega), Int.natAbs_neg, Int.natAbs_natCast]
/-! ### which texts are whole numbers -/
def Canon (d : List UInt8) : Prop := Digs d ∧ ∃ x r, d = x :: r ∧ x ≠ 48
theorem Canon.dec {d : List UInt8} (h : Canon d) : d = decDigits (val d) := canon _ _ rfl h.1 h.2
theorem Canon.pos {d : List UInt8} (h : Canon d) : 0 < val d := by
  rcases Nat.eq_zero_or_pos (val d) with e | e
  · have := h.dec
    rw [e, dec_zero] at this
    obtain ⟨x, r, e', hx⟩ := h.2
    rw [e'] at this
    exact absurd (List.cons.inj this).1 hx
  · exact e
theorem Canon.of {u : Nat} (h : 0 < u) : Canon (decDigits u) := ⟨dec_digs u, dec_head u h⟩
theorem itoa_zero : itoa 0 = [48] := by rw [show (0 : Int) = ((0 : Nat) : Int) from rfl, itoa_nonneg, dec_zero]
def IsNum (l : List UInt8) : Prop := ∃ z : Int, l = itoa z
theorem isNum_nat (u : Nat) : IsNum (decDigits u) := ⟨u, (itoa_nonneg u).symm⟩
theorem isNum_off {u : Nat} (h : 0 < u) : IsNum (45 :: decDigits u) := ⟨-(u : Int), (itoa_neg u h).symm⟩
theorem Canon.isNum {d : List UInt8} (h : Canon d) : IsNum d := by rw [h.dec]; exact isNum_nat _
theorem Canon.isNum_off {d : List UInt8} (h : Canon d) : IsNum (45 :: d) := by
  have e := h.dec
  rw [e]
  exact RefBig.isNum_off h.pos
theorem IsNum.cases {l : List UInt8} (h : IsNum l) : l = [48] ∨ Canon l ∨ ∃ d, l = 45 :: d ∧ Canon d := by
  obtain ⟨z, rfl⟩ := h
  by_cases h0 : z < 0
  · exact .inr (.inr ⟨_, itoa_off h0, Canon.of (by omega)⟩)
  · rw [itoa_of (by omega)]
    by_cases h1 : z = 0
    · left; rw [h1]; exact dec_zero
    · exact .inr (.inl (Canon.of (by omega)))
theorem num_or (s : ByteArray) : (∃ z, s = num z) ∨ ¬ IsNum s.data.toList := by
  by_cases h : IsNum s.data.toList
  · obtain ⟨z, hz⟩ := h
    left
    refine ⟨z, ?_⟩
    rw [of_list s, hz]
    rfl
  · exact .inr h
theorem num_list (z : Int) : (num z).data.toList = itoa z := rfl
theorem num_isNum (z : Int) : IsNum (num z).data.toList := ⟨z, rfl⟩
/-! ### rows of digits -/
def digB (l : List UInt8) : Bool := l.all fun x => decide (48 ≤ x.toNat ∧ x.toNat ≤ 57)
theorem digB_iff (l : List UInt8) : digB l = true ↔ Digs l := by
  unfold digB Digs
  rw [List.all_eq_true]
  exact ⟨fun h x hx => of_decide_eq_true (p := 48 ≤ x.toNat ∧ x.toNat ≤ 57) (h x hx), fun h x hx => decide_eq_true (p := 48 ≤ x.toNat ∧ x.toNat ≤ 57) (h x hx)⟩
theorem digB_cons (x : UInt8) (l : List UInt8) : digB (x :: l) = (decide (48 ≤ x.toNat ∧ x.toNat ≤ 57) && digB l) := rfl
/-- digits, one at least -/
def okD (l : List UInt8) : Bool := digB l && !l.isEmpty
theorem okD_iff (l : List UInt8) : okD l = true ↔ Digs l ∧ l ≠ [] := by
  unfold okD
  rw [Bool.and_eq_true, digB_iff]
  cases l <;> simp
theorem okD_no {l : List UInt8} (h : okD l = false) : ¬ (Digs l ∧ l ≠ []) := fun q => by rw [(okD_iff l).2 q] at h; cases h
theorem digits_any_l0 (L : List UInt8) (hs : L.length ≤ 1000000) : ∀ (d k i : Nat), i + d = L.length → d + 1 ≤ k → big_digits.l0 k (txt L) (txt L).size i = some (digB (L.drop i) && !L.isEmpty)
  | 0, k, i, hi, hk => by
    obtain ⟨k, rfl⟩ : ∃ m, k = m + 1 := ⟨k - 1, by omega⟩
    have hz := txt_size L
    simp only [big_digits.l0]
    rw [if_neg (by omega), txt_toList, List.drop_of_length_le (by omega)]
    cases L <;> rfl
  | d + 1, k, i, hi, hk => by
    obtain ⟨k, rfl⟩ : ∃ m, k = m + 1 := ⟨k - 1, by omega⟩
    have hz := txt_size L
    have hlt : i < L.length := by omega
    obtain ⟨x, hx, hdr⟩ := drop_cons hlt
    have hb : bt (txt L) (i : Int) = x.toNat := by rw [bt_nat, txt_list, hx]
    simp only [big_digits.l0]
    rw [if_pos (by omega), if_pos (by omega), if_pos (by omega), hb, hdr, digB_cons]
    by_cases h0 : x.toNat < 48
    · rw [if_pos (by omega), decide_eq_false (by omega)]; rfl
    · rw [if_neg (by omega)]
      by_cases h1 : 57 < x.toNat
      · rw [if_pos (by omega), decide_eq_false (by omega)]; rfl
      · rw [if_neg (by omega), decide_eq_true (by omega), wrap_id (by omega) (by omega)]
        have := digits_any_l0 L hs d k (i + 1) (by omega) (by omega)
        rw [show ((i + 1 : Nat) : Int) = (i : Int) + 1 by omega] at this
        exact this
theorem digits_any (L : List UInt8) (hs : L.length ≤ 1000000) (k : Nat) (hk : L.length + 1 ≤ k) : big_digits.f k (txt L) = some (okD L) := digits_any_l0 L hs L.length k 0 (by omega) hk
theorem IsDigit_eq (x : UInt8) : targumref4_IsDigit.f (x.toNat : Int) = some (decide (48 ≤ x.toNat ∧ x.toNat ≤ 57)) := by
  unfold targumref4_IsDigit.f
  by_cases h : 48 ≤ x.toNat
  · rw [if_pos (by omega)]
    congr 1
    rw [decide_eq_decide]
    omega
  · rw [if_neg (by omega), decide_eq_false (by omega)]
theorem rDigits_l0 (L : List UInt8) (hs : L.length ≤ 1000000) : ∀ (d k i : Nat), i + d = L.length → d + 1 ≤ k → targumref4_Digits.l0 k (txt L) i = some (digB (L.drop i) && !L.isEmpty)
  | 0, k, i, hi, hk => by
    obtain ⟨k, rfl⟩ : ∃ m, k = m + 1 := ⟨k - 1, by omega⟩
    have hz := txt_size L
    simp only [targumref4_Digits.l0]
    rw [if_neg (by omega), List.drop_of_length_le (by omega), hz]
    cases L with
    | nil => rfl
    | cons x r => rw [decide_eq_true (by simp)]; rfl
  | d + 1, k, i, hi, hk => by
    obtain ⟨k, rfl⟩ : ∃ m, k = m + 1 := ⟨k - 1, by omega⟩
    have hz := txt_size L
    have hlt : i < L.length := by omega
    obtain ⟨x, hx, hdr⟩ := drop_cons hlt
    have hb : bt (txt L) (i : Int) = x.toNat := by rw [bt_nat, txt_list, hx]
    simp only [targumref4_Digits.l0]
    rw [if_pos (by omega), if_pos (by omega), hb, hdr, digB_cons, IsDigit_eq]
    simp only [Option.bind_some]
    by_cases h0 : 48 ≤ x.toNat ∧ x.toNat ≤ 57
    · rw [decide_eq_true h0, if_pos rfl, wrap_id (by omega) (by omega)]
      have := rDigits_l0 L hs d k (i + 1) (by omega) (by omega)
      rw [show ((i + 1 : Nat) : Int) = (i : Int) + 1 by omega] at this
      exact this
    · rw [decide_eq_false h0, if_neg (by decide)]; rfl
theorem rDigits_any (L : List UInt8) (hs : L.length ≤ 1000000) (k : Nat) (hk : L.length + 1 ≤ k) : targumref4_Digits.f k (txt L) = some (okD L) := rDigits_l0 L hs L.length k 0 (by omega) hk
/-! ### whole numbers -/
theorem parts_nil : big_parts.f (txt []) = some (false, txt []) := by
  have h1 : (⟨#[45]⟩ : ByteArray).size = 1 := rfl
  unfold big_parts.f strings_CutPrefix.f stringslite_CutPrefix.f stringslite_HasPrefix.f
  rw [h1, txt_size]
  rfl
theorem bt_head (x : UInt8) (r : List UInt8) : bt (txt (x :: r)) 0 = (x.toNat : Int) := by
  rw [show (0 : Int) = ((0 : Nat) : Int) from rfl, bt_nat, txt_list]; rfl
theorem ne45 {x : UInt8} (h : x ≠ 45) : ¬ (x.toNat : Int) = 45 := fun e => h (UInt8.toNat_inj.1 (by have : (45 : UInt8).toNat = 45 := rfl; omega))
theorem ne48 {x : UInt8} (h : x ≠ 48) : ¬ (x.toNat : Int) = 48 := fun e => h (UInt8.toNat_inj.1 (by have : (48 : UInt8).toNat = 48 := rfl; omega))
theorem toNat_ne {x y : UInt8} (h : x ≠ y) : (x.toNat : Int) ≠ (y.toNat : Int) := fun e => h (UInt8.toNat_inj.1 (by omega))
/-- of a text without its sign: is it a number's? -/
theorem core_Good (neg : Bool) (d : List UInt8) (hs : d.length ≤ 1000000) (k : Nat) (hk : d.length + 1 ≤ k) (hno : ¬ IsNum (if neg then 45 :: d else d)) :
    ((big_digits.f k (txt d)).bind fun t108 => (if t108 = true then (if 0 < ((txt d).size : Int) then (if (bt (txt d) 0) = 48 then (if (txt d).toList = ([48] : List UInt8) then (some (!neg)) else (some false)) else (some true)) else (none)) else (some false))) = some false := by
  rw [digits_any d hs k hk]
  simp only [Option.bind_some]
  cases h : okD d with
  | false => rfl
  | true =>
    obtain ⟨hd, hne⟩ := (okD_iff d).1 h
    cases d with
    | nil => exact absurd rfl hne
    | cons y r =>
      rw [if_pos rfl, if_pos (by rw [txt_size]; exact Int.natCast_pos.2 (Nat.succ_pos _)), bt_head, txt_toList]
      by_cases hy : y = 48
      · subst hy
        rw [if_pos (show ((48 : UInt8).toNat : Int) = 48 from rfl)]
        by_cases hr : r = []
        · subst hr
          rw [if_pos rfl]
          cases neg
          · exact absurd ⟨0, itoa_zero.symm⟩ hno
          · rfl
        · rw [if_neg (by simp [hr])]
      · have hc : Canon (y :: r) := ⟨hd, y, r, rfl, hy⟩
        cases neg
        · exact absurd hc.isNum hno
        · exact absurd hc.isNum_off hno
theorem Good_no (l : List UInt8) (hs : l.length ≤ 1000000) (k : Nat) (hk : l.length + 1 ≤ k) (hno : ¬ IsNum l) : big_Good.f k (txt l) = some false := by
  unfold big_Good.f
  cases l with
  | nil =>
    rw [parts_nil]
    exact core_Good false [] (by simp) k (by simpa using hk) hno
  | cons x r =>
    have hl : (x :: r).length = r.length + 1 := rfl
    by_cases hx : x = 45
    · subst hx
      rw [parts_minus]
      exact core_Good true r (by omega) k (by omega) hno
    · rw [parts_plain x r hx]
      exact core_Good false (x :: r) (by omega) k (by omega) hno
theorem extract_one (x : UInt8) (r : List UInt8) : (txt (x :: r)).extract 1 (txt (x :: r)).size = txt r := by
  apply ext_list
  rw [extract_end, txt_list, txt_list]
  rfl
theorem rGood_core (d : List UInt8) (hs : d.length ≤ 1000000) (k : Nat) (hk : d.length + 1 ≤ k) : ∃ b, ((targumref4_Digits.f k (txt d)).bind fun t152 => (if t152 = true then (if 0 < ((txt d).size : Int) then (some ((bt (txt d) 0) != 48)) else (none)) else (some false))) = some b ∧ (b = true ↔ Canon d) := by
  rw [rDigits_any d hs k hk]
  simp only [Option.bind_some]
  cases h : okD d with
  | false =>
    refine ⟨false, rfl, ⟨fun q => (by cases q), fun q => absurd ⟨q.1, ?_⟩ (okD_no h)⟩⟩
    obtain ⟨x, r, e, _⟩ := q.2
    rw [e]; simp
  | true =>
    obtain ⟨hd, hne⟩ := (okD_iff d).1 h
    cases d with
    | nil => exact absurd rfl hne
    | cons y r =>
      refine ⟨((y.toNat : Int) != 48), ?_, ?_⟩
      · rw [if_pos rfl, if_pos (by rw [txt_size]; exact Int.natCast_pos.2 (Nat.succ_pos _)), bt_head]
      · rw [bne_iff_ne]
        constructor
        · intro q
          exact ⟨hd, y, r, rfl, fun e => q (by rw [e]; rfl)⟩
        · rintro ⟨_, x', r', e, hx⟩ q
          rw [(List.cons.inj e).1] at q
          exact toNat_ne hx q
theorem rGood_any (l : List UInt8) (hs : l.length ≤ 1000000) (k : Nat) (hk : l.length + 1 ≤ k) : ∃ b, targumref4_Good.f k (txt l) = some b ∧ (b = true ↔ IsNum l) := by
  unfold targumref4_Good.f
  rw [txt_toList]
  by_cases h0 : l = [48]
  · rw [if_pos h0]
    exact ⟨true, rfl, fun _ => (by rw [h0]; exact ⟨0, itoa_zero.symm⟩), fun _ => rfl⟩
  · rw [if_neg h0]
    have key : ∀ {d : List UInt8} {b : Bool}, (b = true ↔ Canon d) → l = d ∧ (∀ r, d ≠ 45 :: r) ∨ l = 45 :: d → (b = true ↔ IsNum l) := by
      intro d b hb hl
      rw [hb]
      constructor
      · intro q
        rcases hl with ⟨e, _⟩ | e
        · rw [e]; exact q.isNum
        · rw [e]; exact q.isNum_off
      · intro q
        rcases q.cases with e | e | ⟨d', e, hd'⟩
        · exact absurd e h0
        · rcases hl with ⟨e', _⟩ | e'
          · rw [← e']; exact e
          · have := e.1 45 (by rw [e']; simp)
            exact absurd this.1 (by decide)
        · rcases hl with ⟨e', hn⟩ | e'
          · exact absurd (e'.symm.trans e) (hn d')
          · rw [e'] at e
            rw [(List.cons.inj e).2]; exact hd'
    cases l with
    | nil =>
      rw [if_neg (by rw [txt_size]; simp)]
      obtain ⟨b, e, hb⟩ := rGood_core [] (by simp) k (by simpa using hk)
      exact ⟨b, e, key hb (.inl ⟨rfl, fun r q => by cases q⟩)⟩
    | cons x r =>
      have hz : ((txt (x :: r)).size : Int) = r.length + 1 := by rw [txt_size]; rfl
      have hl : (x :: r).length = r.length + 1 := rfl
      rw [if_pos (by omega), if_pos (by omega), bt_head]
      by_cases hx : x = 45
      · subst hx
        rw [if_pos (show ((45 : UInt8).toNat : Int) = 45 from rfl), if_pos (by omega), extract_one]
        obtain ⟨b, e, hb⟩ := rGood_core r (by omega) k (by omega)
        exact ⟨b, e, key hb (.inr rfl)⟩
      · rw [if_neg (ne45 hx)]
        obtain ⟨b, e, hb⟩ := rGood_core (x :: r) (by omega) k (by omega)
        rw [if_pos (by omega)] at e
        exact ⟨b, e, key hb (.inl ⟨rfl, fun r' q => hx (List.cons.inj q).1⟩)⟩
theorem rGood_num (z : Int) (hs : (itoa z).length ≤ 1000000) (k : Nat) (hk : (itoa z).length + 1 ≤ k) : targumref4_Good.f k (num z) = some true := by
  obtain ⟨b, e, hb⟩ := rGood_any (itoa z) hs k hk
  rw [hb.2 ⟨z, rfl⟩] at e
  exact e
theorem rGood_no (l : List UInt8) (hs : l.length ≤ 1000000) (k : Nat) (hk : l.length + 1 ≤ k) (hno : ¬ IsNum l) : targumref4_Good.f k (txt l) = some false := by
  obtain ⟨b, e, hb⟩ := rGood_any l hs k hk
  cases b
  · exact e
  · exact absurd (hb.1 rfl) hno
/-! ### what digits say -/
theorem Norm_no (neg : Bool) (l : List UInt8) (hs : l.length ≤ 1000000) (k : Nat) (hk : l.length + 1 ≤ k) (h : okD l = false) : big_Norm.f k neg (txt l) = some ⟨#[]⟩ := by
  unfold big_Norm.f
  rw [digits_any l hs k hk, h]
  rfl
theorem extract_drop (l : List UInt8) (i : Nat) : (txt l).extract i (txt l).size = txt (l.drop i) := by
  apply ext_list
  rw [extract_end, txt_list, txt_list]
theorem minus_txt (l : List UInt8) : (⟨#[45]⟩ : ByteArray) ++ txt l = txt (45 :: l) := by
  apply ext_list
  rw [append_list, txt_list, txt_list]
  rfl
theorem rNorm_end (neg : Bool) (l : List UInt8) (hs : l.length ≤ 1000000) (i : Nat) (hi : i ≤ l.length) (hd : l.drop i = [48] ∨ Canon (l.drop i)) :
    (if (0 : Int) ≤ (i : Int) then (if (i : Int) ≤ ((txt l).size : Int) then (if neg = true then (if ((txt l).extract ((i : Int) : Int).toNat (txt l).size).toList = ([48] : List UInt8) then (some ((txt l).extract ((i : Int) : Int).toNat (txt l).size)) else (if 1 + ((txt l).extract ((i : Int) : Int).toNat (txt l).size).size ≤ 9223372036854775807 then (some ((⟨#[45]⟩ : ByteArray) ++ ((txt l).extract ((i : Int) : Int).toNat (txt l).size))) else (none))) else (some ((txt l).extract ((i : Int) : Int).toNat (txt l).size))) else (none)) else (none))
      = some (num (if neg then -(val (l.drop i) : Int) else (val (l.drop i) : Int))) := by
  have hz := txt_size l
  rw [if_pos (by omega), if_pos (by omega), Int.toNat_natCast, extract_drop, txt_toList]
  rcases hd with e | e
  · rw [e]
    cases neg
    · rw [if_neg (by decide), if_neg (by decide), show ((val [48] : Nat) : Int) = 0 from rfl, ← num_zero]; rfl
    · rw [if_pos rfl, if_pos rfl, if_pos rfl, show -((val [48] : Nat) : Int) = 0 from rfl, ← num_zero]; rfl
  · have hv := e.pos
    have he := e.dec
    obtain ⟨V, hV⟩ : ∃ V, val (l.drop i) = V := ⟨_, rfl⟩
    rw [hV] at hv he ⊢
    have hlen : (l.drop i).length ≤ l.length := by rw [List.length_drop]; omega
    cases neg
    · rw [if_neg (by decide), if_neg (by decide), num_nat, ← he]
    · rw [if_pos rfl, if_pos rfl, if_neg, if_pos (by rw [txt_size]; omega), num_neg _ (by omega), minus_txt, ← he]
      intro q
      have h48 := e.2
      rw [q] at h48
      obtain ⟨x, r, e', hx⟩ := h48
      exact hx (List.cons.inj e').1.symm
theorem val_zero_cons (l : List UInt8) : val (48 :: l) = val l := by
  rw [show (48 :: l : List UInt8) = [48] ++ l from rfl, val_append, show val [48] = 0 from rfl, Nat.mul_zero, Nat.add_zero]
theorem rNorm_l0 (neg : Bool) (l : List UInt8) (hs : l.length ≤ 1000000) (hd : Digs l) : ∀ (d k i : Nat), i + d + 1 = l.length → d + 1 ≤ k → targumref4_Norm.l0 k neg (txt l) i = some (num (if neg then -(val (l.drop i) : Int) else (val (l.drop i) : Int)))
  | 0, k, i, hi, hk => by
    obtain ⟨k, rfl⟩ : ∃ m, k = m + 1 := ⟨k - 1, by omega⟩
    have hz := txt_size l
    obtain ⟨x, hx, hdr⟩ := drop_cons (show i < l.length by omega)
    rw [List.drop_of_length_le (show l.length ≤ i + 1 by omega)] at hdr
    have hdx := hd x (List.mem_of_mem_drop (by rw [hdr]; simp))
    simp only [targumref4_Norm.l0]
    rw [wrap_id (by omega) (by omega), if_neg (by omega)]
    refine rNorm_end neg l hs i (by omega) ?_
    rw [hdr]
    by_cases h : x = 48
    · left; rw [h]
    · right; exact ⟨digs_one hdx, x, [], rfl, h⟩
  | d + 1, k, i, hi, hk => by
    obtain ⟨k, rfl⟩ : ∃ m, k = m + 1 := ⟨k - 1, by omega⟩
    have hz := txt_size l
    obtain ⟨x, hx, hdr⟩ := drop_cons (show i < l.length by omega)
    have hb : bt (txt l) (i : Int) = x.toNat := by rw [bt_nat, txt_list, hx]
    simp only [targumref4_Norm.l0]
    rw [wrap_id (x := ((txt l).size : Int) - 1) (by omega) (by omega), if_pos (by omega), if_pos (by omega), if_pos (by omega), hb]
    by_cases h : x = 48
    · subst h
      rw [if_pos (show ((48 : UInt8).toNat : Int) = 48 from rfl), wrap_id (by omega) (by omega), hdr, val_zero_cons]
      have := rNorm_l0 neg l hs hd d k (i + 1) (by omega) (by omega)
      rw [show ((i + 1 : Nat) : Int) = (i : Int) + 1 by omega] at this
      exact this
    · rw [if_neg (ne48 h)]
      have := rNorm_end neg l hs i (by omega) (.inr ⟨fun y hy => hd y (List.mem_of_mem_drop hy), x, l.drop (i + 1), hdr, h⟩)
      rw [if_pos (by omega)] at this
      exact this
theorem rNorm_eq (neg : Bool) (l : List UInt8) (hd : Digs l) (hne : l ≠ []) (hs : l.length ≤ 1000000) (k : Nat) (hk : l.length + 1 ≤ k) : targumref4_Norm.f k neg (txt l) = some (num (if neg then -(val l : Int) else (val l : Int))) := by
  unfold targumref4_Norm.f
  rw [rDigits_any l hs k hk, (okD_iff l).2 ⟨hd, hne⟩]
  simp only [Option.bind_some, if_true]
  have hp := List.length_pos_iff.2 hne
  have := rNorm_l0 neg l hs hd (l.length - 1) k 0 (by omega) (by omega)
  exact this
theorem rNorm_no (neg : Bool) (l : List UInt8) (hs : l.length ≤ 1000000) (k : Nat) (hk : l.length + 1 ≤ k) (h : okD l = false) : targumref4_Norm.f k neg (txt l) = some ⟨#[]⟩ := by
  unfold targumref4_Norm.f
  rw [rDigits_any l hs k hk, h]
  rfl
end Go.Proofs.YtkijneohhilboaaGreatDoor.RefBig
