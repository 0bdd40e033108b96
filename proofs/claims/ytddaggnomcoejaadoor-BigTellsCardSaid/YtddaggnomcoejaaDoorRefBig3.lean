/- The reference's sums, orders, bases (targumref4) and layer 4's are the same, of every text. No conditions but sizes. -/
import Derived.Test.YtddaggnomcoejaaDoorRefBig2
import Derived.Test.YtddaggnomcoejaaDoorPRx7
import Derived.Test.YtddaggnomcoejaaDoorPRx6
import Derived.Test.YtddaggnomcoejaaDoorPRx5
namespace Go.Proofs.YtddaggnomcoejaaDoor.RefBig
set_option linter.unusedSimpArgs false
set_option linter.unusedVariables false
open Go.RowKit Go.Lib Go.Proofs.YtddaggnomcoejaaDoor.Room Go.Proofs.YtddaggnomcoejaaDoor.PR Go.Proofs.YtddaggnomcoejaaDoorW.PrintWords Go.Proofs.YtddaggnomcoejaaDoor.Aid Go.Proofs.YtddaggnomcoejaaDoor.Num Go.Proofs.YtddaggnomcoejaaDoor.BigFns Go.Proofs.YtddaggnomcoejaaDoor.BigQ
theorem Norm_num (neg : Bool) (u : Nat) (hs : (decDigits u).length ≤ 900000) (k : Nat) (hk : (decDigits u).length + 1 ≤ k) : targumref4_Norm.f k neg (num (u : Int)) = some (num (if neg then -(u : Int) else (u : Int))) := by
  have := rNorm_eq neg (decDigits u) (dec_digs u) (dec_ne u) (by omega) k hk
  rw [dec_val] at this
  rw [num_nat]
  exact this
theorem itoa_len (z : Int) : (itoa z).length ≤ (decDigits z.natAbs).length + 1 ∧ (decDigits z.natAbs).length ≤ (itoa z).length := by
  by_cases h : z < 0
  · rw [itoa_off h, List.length_cons]; omega
  · rw [itoa_of (by omega)]; omega
theorem num_size (z : Int) : (num z).size = (itoa z).length := txt_size _
theorem dec_len_add (u x : Nat) (hx : x ≤ 1099511627776) : (decDigits (u + x)).length ≤ (decDigits u).length + 16 := by
  have h1 := val_lt _ (dec_digs u)
  rw [dec_val] at h1
  rw [decDigits_length (u + x)]
  refine nDigits_le ((decDigits u).length + 15) _ ?_
  have h2 : 10 ^ ((decDigits u).length + 15 + 1) = 10 ^ (decDigits u).length * 10000000000000000 := by
    rw [show (decDigits u).length + 15 + 1 = (decDigits u).length + 16 by omega, Nat.pow_add]
  rw [h2]
  generalize 10 ^ (decDigits u).length = P at h1
  omega
theorem rAdd_j2 (neg down : Bool) (u v : Nat) (hv : v ≤ 1099511627776) (hs : (decDigits u).length ≤ 400000) (k : Nat) (hk : 3 * (decDigits u).length + 200 ≤ k) :
    targumref4_Add.j2 k (txt (decDigits u)) (v : Int) neg down = some (num ((if neg then -(u : Int) else (u : Int)) + (if down then -(v : Int) else (v : Int)))) := by
  obtain ⟨k, rfl⟩ : ∃ j, k = j + 1 := ⟨k - 1, by omega⟩
  have hvl : (decDigits v).length ≤ 16 := by rw [decDigits_length]; exact nDigits_le 15 v (by omega)
  simp only [targumref4_Add.j2]
  by_cases hnd : neg = down
  · subst hnd
    rw [if_pos (by simp), rmulAdd_eq _ (dec_digs u) (dec_ne u) (by omega) 1 v (by omega) (by omega) (by omega) (by omega) k (by omega), dec_val]
    simp only [Option.bind_some]
    have hl := dec_len_add u v hv
    rw [show (u : Int) * 1 + (v : Int) = ((u + v : Nat) : Int) by omega, Norm_num neg _ (by omega) k (by omega)]
    simp only [Option.bind_some]
    cases neg <;> simp <;> congr 2 <;> omega
  · have hb : ¬ ((neg == down) = true) := fun e => hnd (by simpa using e)
    rw [if_neg hb, rText_eq v (by omega) k (by omega)]
    simp only [Option.bind_some]
    rw [rcompare_eq]
    simp only [Option.bind_some]
    have hdn : down = !neg := by cases neg <;> cases down <;> simp at hnd ⊢
    subst hdn
    by_cases h1 : u < v
    · rw [show cmpN u v = -1 by unfold cmpN; rw [if_pos h1], if_pos (by decide), rless_eq v u (by omega) (by omega) (by omega) k (by omega)]
      simp only [Option.bind_some]
      have hdl : (decDigits (v - u)).length ≤ 16 := by rw [decDigits_length]; exact nDigits_le 15 _ (by omega)
      rw [show (v : Int) - (u : Int) = ((v - u : Nat) : Int) by omega, Norm_num (!neg) _ (by omega) k (by omega)]
      simp only [Option.bind_some]
      congr 2
      cases neg <;> simp only [Bool.not_true, Bool.not_false, Bool.false_eq_true, if_false, if_true, reduceIte] <;> omega
    · rw [if_neg (by unfold cmpN; rw [if_neg h1]; split <;> decide), rless_eq u v (by omega) (by omega) (by omega) k (by omega)]
      simp only [Option.bind_some]
      have hdl : (decDigits (u - v)).length ≤ (decDigits u).length := by
        rcases Nat.lt_or_ge (decDigits u).length (decDigits (u - v)).length with q | q
        · have := dec_len_lt q; omega
        · exact q
      rw [show (u : Int) - (v : Int) = ((u - v : Nat) : Int) by omega, Norm_num neg _ (by omega) k (by omega)]
      simp only [Option.bind_some]
      congr 2
      cases neg <;> simp only [Bool.not_true, Bool.not_false, Bool.false_eq_true, if_false, if_true, reduceIte] <;> omega
theorem rAdd_j1 (neg : Bool) (u : Nat) (n : Int) (hn0 : -1099511627776 ≤ n) (hn1 : n ≤ 1099511627776) (hs : (decDigits u).length ≤ 400000) (k : Nat) (hk : 3 * (decDigits u).length + 201 ≤ k) :
    targumref4_Add.j1 k (txt (decDigits u)) n neg (decide (n < 0)) = some (num ((if neg then -(u : Int) else (u : Int)) + n)) := by
  obtain ⟨k, rfl⟩ : ∃ j, k = j + 1 := ⟨k - 1, by omega⟩
  simp only [targumref4_Add.j1]
  by_cases h : n < 0
  · obtain ⟨v, rfl⟩ : ∃ v : Nat, n = -(v : Int) := ⟨n.natAbs, by omega⟩
    rw [decide_eq_true h, if_pos rfl, wrap_id (by omega) (by omega), Int.neg_neg, rAdd_j2 neg true u v (by omega) hs k (by omega), if_pos rfl]
  · obtain ⟨v, rfl⟩ : ∃ v : Nat, n = (v : Int) := ⟨n.toNat, by omega⟩
    rw [decide_eq_false h, if_neg (by decide), rAdd_j2 neg false u v (by omega) hs k (by omega)]
    rfl
theorem head45 (u : Nat) : ¬ bt (txt (decDigits u)) 0 = 45 := by
  obtain ⟨x, r, e, hx⟩ := dec_no45 u
  rw [e, bt_head]
  exact ne45 hx
theorem rAdd_eq (z n : Int) (hn0 : -1099511627776 ≤ n) (hn1 : n ≤ 1099511627776) (hs : (decDigits z.natAbs).length ≤ 300000) (k : Nat) (hk : 3 * (decDigits z.natAbs).length + 203 ≤ k) : targumref4_Add.f k (num z) n = some (num (z + n)) := by
  have hl := itoa_len z
  unfold targumref4_Add.f
  rw [rGood_num z (by omega) k (by omega)]
  simp only [Option.bind_some, if_true]
  rw [if_neg (by omega), decide_eq_false (by omega)]
  obtain ⟨k, rfl⟩ : ∃ j, k = j + 1 := ⟨k - 1, by omega⟩
  simp only [targumref4_Add.j0]
  have hp := dec_pos z.natAbs
  rw [if_neg (by decide), if_pos (by rw [num_size]; omega)]
  by_cases h : z < 0
  · have e : num z = txt (45 :: decDigits z.natAbs) := by unfold num; rw [itoa_off h]
    rw [e, bt_head, if_pos (show ((45 : UInt8).toNat : Int) = 45 from rfl), if_pos (by rw [txt_size, List.length_cons]; omega), extract_one, show (((45 : UInt8).toNat : Int) == 45) = true from rfl, rAdd_j1 true z.natAbs n hn0 hn1 (by omega) k (by omega), if_pos rfl]
    congr 2
    omega
  · have e : num z = txt (decDigits z.natAbs) := by unfold num; rw [itoa_of (by omega)]
    rw [e, if_neg (head45 _), beq_eq_false_iff_ne.2 (head45 _), rAdd_j1 false z.natAbs n hn0 hn1 (by omega) k (by omega), if_neg (by decide)]
    congr 2
    omega
theorem rMulAdd_eq (z m c : Int) (hz : 0 ≤ z) (hm0 : 0 ≤ m) (hm1 : m ≤ 1099511627776) (hc0 : 0 ≤ c) (hc1 : c ≤ 1099511627776) (hs : (decDigits z.natAbs).length ≤ 300000) (k : Nat) (hk : 3 * (decDigits z.natAbs).length + 203 ≤ k) : targumref4_MulAdd.f k (num z) m c = some (num (z * m + c)) := by
  have hl := itoa_len z
  unfold targumref4_MulAdd.f
  rw [rGood_num z (by omega) k (by omega)]
  simp only [Option.bind_some, if_true]
  have hp := dec_pos z.natAbs
  have e : num z = txt (decDigits z.natAbs) := by unfold num; rw [itoa_of (by omega)]
  rw [if_pos (by rw [num_size]; omega), e, if_neg (head45 _), if_neg (by omega), if_neg (by omega), if_neg (by omega), if_neg (by omega), rmulAdd_eq _ (dec_digs _) (dec_ne _) (by omega) m c hm0 hm1 hc0 hc1 k (by omega), dec_val]
  simp only [Option.bind_some]
  rw [show ((z.natAbs : Nat) : Int) = z by omega]
theorem rCompare_eq (x y : Int) (hx : (decDigits x.natAbs).length ≤ 400000) (hy : (decDigits y.natAbs).length ≤ 400000) (k : Nat) (hk : (decDigits x.natAbs).length + 70 ≤ k) (hk' : (decDigits y.natAbs).length + 70 ≤ k) : targumref4_Compare.f k (num x) (num y) = some (cmpZ x y) := by
  have hl := itoa_len x
  have hl' := itoa_len y
  unfold targumref4_Compare.f
  rw [rGood_num x (by omega) k (by omega)]
  simp only [Option.bind_some, if_true]
  rw [rGood_num y (by omega) k (by omega)]
  simp only [Option.bind_some]
  obtain ⟨k, rfl⟩ : ∃ j, k = j + 3 := ⟨k - 3, by omega⟩
  have hp := dec_pos x.natAbs
  have hp' := dec_pos y.natAbs
  simp only [targumref4_Compare.j0]
  rw [if_neg (by decide), if_pos (by rw [num_size]; omega), if_pos (by rw [num_size]; omega)]
  have ex : x < 0 → num x = txt (45 :: decDigits x.natAbs) := fun h => by unfold num; rw [itoa_off h]
  have ex' : ¬ x < 0 → num x = txt (decDigits x.natAbs) := fun h => by unfold num; rw [itoa_of (by omega)]
  have ey : y < 0 → num y = txt (45 :: decDigits y.natAbs) := fun h => by unfold num; rw [itoa_off h]
  have ey' : ¬ y < 0 → num y = txt (decDigits y.natAbs) := fun h => by unfold num; rw [itoa_of (by omega)]
  have b45 : ((45 : UInt8).toNat : Int) = 45 := rfl
  unfold cmpZ
  by_cases h : x < 0
  · by_cases h' : y < 0
    · rw [ex h, ey h', bt_head, bt_head, b45]
      simp only [if_true, targumref4_Compare.j1, targumref4_Compare.j2, beq_self_eq_true, Bool.not_true, Bool.false_eq_true, if_false]
      rw [if_pos (by rw [txt_size, List.length_cons]; omega), if_pos (by rw [txt_size, List.length_cons]; omega), extract_one, extract_one, rcompare_eq]
      simp only [Option.bind_some, cmpN]
      congr 1
      repeat' split
      all_goals first | rfl | omega
    · rw [ex h, ey' h', bt_head, b45, beq_eq_false_iff_ne.2 (head45 _)]
      simp only [if_true, targumref4_Compare.j1, targumref4_Compare.j2, beq_self_eq_true, Bool.not_false, Bool.false_eq_true, if_false]
      rw [if_pos (by omega)]
  · by_cases h' : y < 0
    · rw [ex' h, ey h', bt_head, b45, beq_eq_false_iff_ne.2 (head45 _), if_neg (head45 _)]
      simp only [if_true, targumref4_Compare.j1, targumref4_Compare.j2, beq_self_eq_true, Bool.not_false, Bool.false_eq_true, if_false]
      rw [if_neg (by omega), if_neg (by omega)]
    · rw [ex' h, ey' h', beq_eq_false_iff_ne.2 (head45 _), beq_eq_false_iff_ne.2 (head45 _), if_neg (head45 _)]
      simp only [targumref4_Compare.j1, targumref4_Compare.j2, Bool.false_eq_true, if_false]
      rw [rcompare_eq]
      simp only [Option.bind_some, cmpN]
      congr 1
      repeat' split
      all_goals first | rfl | omega
/-! ### what is refused -/
theorem Add_no (l : List UInt8) (n : Int) (hs : l.length ≤ 300000) (h : ¬ IsNum l ∨ n < -1099511627776 ∨ 1099511627776 < n) (k : Nat) (hk : l.length + 5 ≤ k) : big_Add.f k (txt l) n = some ⟨#[]⟩ := by
  have j : ∀ k : Nat, big_Add.j0 (k + 1) (txt l) n true = some ⟨#[]⟩ := fun k => by simp only [big_Add.j0, if_true]
  obtain ⟨k, rfl⟩ : ∃ j, k = j + 1 := ⟨k - 1, by omega⟩
  unfold big_Add.f
  rcases num_or (txt l) with ⟨z, hz⟩ | hno
  · have hz' : l = itoa z := txt_inj hz
    have hl := itoa_len z
    have hb : big_Good.f (k + 1) (txt l) = some true := by rw [hz]; rw [hz'] at hs hk; exact Good_num z (by omega) _ (by omega)
    rw [hb]
    simp only [Option.bind_some, if_true]
    have h' : n < -1099511627776 ∨ 1099511627776 < n := h.resolve_left (fun q => q ⟨z, hz'⟩)
    by_cases h1 : n > 1099511627776
    · rw [if_pos h1]; exact j k
    · rw [if_neg h1, decide_eq_true (by omega)]; exact j k
  · rw [Good_no l (by omega) (k + 1) (by omega) hno]
    exact j k
theorem rAdd_no (l : List UInt8) (n : Int) (hs : l.length ≤ 300000) (h : ¬ IsNum l ∨ n < -1099511627776 ∨ 1099511627776 < n) (k : Nat) (hk : l.length + 5 ≤ k) : targumref4_Add.f k (txt l) n = some ⟨#[]⟩ := by
  have j : ∀ k : Nat, targumref4_Add.j0 (k + 1) (txt l) n true = some ⟨#[]⟩ := fun k => by simp only [targumref4_Add.j0, if_true]
  obtain ⟨k, rfl⟩ : ∃ j, k = j + 1 := ⟨k - 1, by omega⟩
  unfold targumref4_Add.f
  rcases num_or (txt l) with ⟨z, hz⟩ | hno
  · have hz' : l = itoa z := txt_inj hz
    have hb : targumref4_Good.f (k + 1) (txt l) = some true := by rw [hz]; rw [hz'] at hs hk; exact rGood_num z (by omega) _ (by omega)
    rw [hb]
    simp only [Option.bind_some, if_true]
    have h' : n < -1099511627776 ∨ 1099511627776 < n := h.resolve_left (fun q => q ⟨z, hz'⟩)
    by_cases h1 : n < -1099511627776
    · rw [if_pos h1]; exact j k
    · rw [if_neg h1, decide_eq_true (by omega)]; exact j k
  · rw [rGood_no l (by omega) (k + 1) (by omega) hno]
    exact j k
/-- what a sum says of a text: the sum, or nothing -/
def addT (s : ByteArray) (n : Int) (r : ByteArray) : Prop := (∃ z, s = num z ∧ -1099511627776 ≤ n ∧ n ≤ 1099511627776 ∧ r = num (z + n)) ∨ ((¬ IsNum s.data.toList ∨ n < -1099511627776 ∨ 1099511627776 < n) ∧ r = ⟨#[]⟩)
theorem add_both (s : ByteArray) (n : Int) (hs : s.size ≤ 100000) (k : Nat) (hk : 3 * s.size + 300 ≤ k) : ∃ r, big_Add.f k s n = some r ∧ targumref4_Add.f k s n = some r ∧ addT s n r := by
  rcases num_or s with ⟨z, rfl⟩ | hno
  · have hl := itoa_len z
    rw [num_size] at hs hk
    by_cases hn : -1099511627776 ≤ n ∧ n ≤ 1099511627776
    · exact ⟨_, Add_eq z n hn.1 hn.2 (by omega) k (by omega), rAdd_eq z n hn.1 hn.2 (by omega) k (by omega), .inl ⟨z, rfl, hn.1, hn.2, rfl⟩⟩
    · have h' : n < -1099511627776 ∨ 1099511627776 < n := by omega
      exact ⟨_, Add_no (itoa z) n (by omega) (.inr h') k (by omega), rAdd_no (itoa z) n (by omega) (.inr h') k (by omega), .inr ⟨.inr h', rfl⟩⟩
  · have hz : s.data.toList.length = s.size := (Lib.size_eq s).symm
    have h1 := Add_no s.data.toList n (by omega) (.inl hno) k (by omega)
    have h2 := rAdd_no s.data.toList n (by omega) (.inl hno) k (by omega)
    rw [← of_list] at h1 h2
    exact ⟨_, h1, h2, .inr ⟨.inl hno, rfl⟩⟩
theorem good_both (s : ByteArray) (hs : s.size ≤ 100000) (k : Nat) (hk : s.size + 10 ≤ k) : ∃ b : Bool, big_Good.f k s = some b ∧ targumref4_Good.f k s = some b ∧ (b = true ↔ IsNum s.data.toList) := by
  rcases num_or s with ⟨z, rfl⟩ | hno
  · have hl := itoa_len z
    rw [num_size] at hs hk
    exact ⟨true, Good_num z (by omega) k (by omega), rGood_num z (by omega) k (by omega), fun _ => num_isNum z, fun _ => rfl⟩
  · have hz : s.data.toList.length = s.size := (Lib.size_eq s).symm
    have h1 := Good_no s.data.toList (by omega) k (by omega) hno
    have h2 := rGood_no s.data.toList (by omega) k (by omega) hno
    rw [← of_list] at h1 h2
    exact ⟨false, h1, h2, fun q => (by cases q), fun q => absurd q hno⟩
/-- what digits are as a number's text -/
def normT (neg : Bool) (s r : ByteArray) : Prop := (Digs s.data.toList ∧ s.data.toList ≠ [] ∧ r = num (if neg then -(val s.data.toList : Int) else (val s.data.toList : Int))) ∨ (okD s.data.toList = false ∧ r = ⟨#[]⟩)
theorem norm_both (neg : Bool) (s : ByteArray) (hs : s.size ≤ 100000) (k : Nat) (hk : s.size + 10 ≤ k) : ∃ r, big_Norm.f k neg s = some r ∧ targumref4_Norm.f k neg s = some r ∧ normT neg s r := by
  have hz : s.data.toList.length = s.size := (Lib.size_eq s).symm
  cases h : okD s.data.toList with
  | true =>
    obtain ⟨hd, hne⟩ := (okD_iff _).1 h
    have h1 := Norm_eq neg s.data.toList hd hne (by omega) k (by omega)
    have h2 := rNorm_eq neg s.data.toList hd hne (by omega) k (by omega)
    rw [← of_list] at h1 h2
    exact ⟨_, h1, h2, .inl ⟨hd, hne, rfl⟩⟩
  | false =>
    have h1 := Norm_no neg s.data.toList (by omega) k (by omega) h
    have h2 := rNorm_no neg s.data.toList (by omega) k (by omega) h
    rw [← of_list] at h1 h2
    exact ⟨_, h1, h2, .inr ⟨h, rfl⟩⟩
theorem compare_both (s t : ByteArray) (hs : s.size ≤ 100000) (ht : t.size ≤ 100000) (k : Nat) (hk : s.size + 100 ≤ k) (hk' : t.size + 100 ≤ k) : ∃ r, big_Compare.f k s t = some r ∧ targumref4_Compare.f k s t = some r := by
  obtain ⟨k, rfl⟩ : ∃ j, k = j + 1 := ⟨k - 1, by omega⟩
  obtain ⟨b, e1, e2, hb⟩ := good_both s hs (k + 1) (by omega)
  obtain ⟨c, e3, e4, hc⟩ := good_both t ht (k + 1) (by omega)
  have j : ∀ x, big_Compare.j0 (k + 1) s t x = big_Compare.j0 (k + 1) s t x := fun _ => rfl
  cases b with
  | false =>
    refine ⟨0, ?_, ?_⟩
    · unfold big_Compare.f
      rw [e1]
      simp only [Option.bind_some, Bool.false_eq_true, if_false, big_Compare.j0, if_true]
    · unfold targumref4_Compare.f
      rw [e2]
      simp only [Option.bind_some, Bool.false_eq_true, if_false, targumref4_Compare.j0, if_true]
  | true =>
    cases c with
    | false =>
      refine ⟨0, ?_, ?_⟩
      · unfold big_Compare.f
        rw [e1, e3]
        simp only [Option.bind_some, Bool.not_false, big_Compare.j0, if_true]
      · unfold targumref4_Compare.f
        rw [e2, e4]
        simp only [Option.bind_some, Bool.not_false, targumref4_Compare.j0, if_true]
    | true =>
      rcases num_or s with ⟨x, rfl⟩ | hno
      · rcases num_or t with ⟨y, rfl⟩ | hno'
        · have hl := itoa_len x
          have hl' := itoa_len y
          rw [num_size] at hs ht hk hk'
          exact ⟨_, Compare_eq x y (by omega) (by omega) _ (by omega) (by omega), rCompare_eq x y (by omega) (by omega) _ (by omega) (by omega)⟩
        · exact absurd (hc.1 rfl) hno'
      · exact absurd (hb.1 rfl) hno
theorem muladd_both (s : ByteArray) (m c : Int) (hs : s.size ≤ 100000) (k : Nat) (hk : 3 * s.size + 300 ≤ k) : ∃ r, big_MulAdd.f k s m c = some r ∧ targumref4_MulAdd.f k s m c = some r := by
  obtain ⟨b, e1, e2, hb⟩ := good_both s hs k (by omega)
  unfold big_MulAdd.f targumref4_MulAdd.f
  rw [e1, e2]
  simp only [Option.bind_some]
  cases b with
  | false => exact ⟨_, rfl, rfl⟩
  | true =>
    obtain ⟨z, hz⟩ : ∃ z, s = num z := (num_or s).resolve_right (fun q => q (hb.1 rfl))
    subst hz
    have hl := itoa_len z
    have hp := dec_pos z.natAbs
    rw [num_size] at hs hk
    have hsz : (0 : Int) < ((num z).size : Int) := by rw [num_size]; omega
    simp only [if_true, hsz]
    by_cases h : z < 0
    · have e : num z = txt (45 :: decDigits z.natAbs) := by unfold num; rw [itoa_off h]
      have h45 : bt (num z) 0 = 45 := by rw [e, bt_head]; rfl
      simp only [h45, if_true]
      exact ⟨_, rfl, rfl⟩
    · have e : num z = txt (decDigits z.natAbs) := by unfold num; rw [itoa_of (by omega)]
      have h45 : ¬ bt (num z) 0 = 45 := by rw [e]; exact head45 _
      simp only [h45, if_false]
      unfold big_step.f
      by_cases h1 : m < 0
      · have h1' : ¬ m ≥ 0 := by omega
        simp only [h1, h1', if_true, if_false, Option.bind_some, Bool.false_eq_true]
        exact ⟨_, rfl, rfl⟩
      · have h1' : m ≥ 0 := by omega
        by_cases h2 : m > 1099511627776
        · have h2' : decide (m ≤ 1099511627776) = false := decide_eq_false (by omega)
          simp only [h1, h1', h2, h2', if_true, if_false, Option.bind_some, Bool.false_eq_true]
          exact ⟨_, rfl, rfl⟩
        · have h2' : decide (m ≤ 1099511627776) = true := decide_eq_true (by omega)
          by_cases h3 : c < 0
          · have h3' : ¬ c ≥ 0 := by omega
            simp only [h1, h1', h2, h2', h3, h3', if_true, if_false, Option.bind_some, Bool.false_eq_true]
            exact ⟨_, rfl, rfl⟩
          · have h3' : c ≥ 0 := by omega
            by_cases h4 : c > 1099511627776
            · have h4' : decide (c ≤ 1099511627776) = false := decide_eq_false (by omega)
              simp only [h1, h1', h2, h2', h3, h3', h4, h4', if_true, if_false, Option.bind_some, Bool.false_eq_true]
              exact ⟨_, rfl, rfl⟩
            · have h4' : decide (c ≤ 1099511627776) = true := decide_eq_true (by omega)
              simp only [h1, h1', h2, h2', h3, h3', h4, h4', if_true, if_false, Option.bind_some, Bool.false_eq_true]
              rw [e, times_eq _ m c (by omega) (by omega) (by omega) (by omega) (by omega) k (by omega), rmulAdd_eq _ (dec_digs _) (dec_ne _) (by omega) m c (by omega) (by omega) (by omega) (by omega) k (by omega), dec_val]
              exact ⟨_, rfl, rfl⟩
/-! ### other bases -/
theorem Value_eq (x : UInt8) (k : Nat) (hk : 3 ≤ k) : ∃ v : Int, targumref4_Value.f k (x.toNat : Int) = some v ∧ ((digV x < 16 ∧ v = digV x) ∨ (digV x = 16 ∧ v = 99)) := by
  obtain ⟨k, rfl⟩ : ∃ j, k = j + 2 := ⟨k - 2, by omega⟩
  have hx : x.toNat < 256 := x.toNat_lt
  unfold targumref4_Value.f digV
  generalize x.toNat = n at hx
  by_cases h1 : 48 ≤ n ∧ n ≤ 57
  · rw [if_pos (by omega), decide_eq_true (by omega), if_pos h1]
    simp only [targumref4_Value.j0, if_true]
    exact ⟨_, rfl, .inl (by omega)⟩
  · rw [if_neg h1]
    have e : (if (n : Int) ≥ 48 then targumref4_Value.j0 (k + 2) n (decide ((n : Int) ≤ 57)) else targumref4_Value.j0 (k + 2) n false) = targumref4_Value.j0 (k + 2) n false := by
      split
      · rw [decide_eq_false (by omega)]
      · rfl
    rw [e]
    simp only [targumref4_Value.j0, Bool.false_eq_true, if_false]
    by_cases h2 : 97 ≤ n ∧ n ≤ 102
    · rw [if_pos (by omega), decide_eq_true (by omega), if_pos h2]
      simp only [targumref4_Value.j1, if_true]
      exact ⟨_, rfl, .inl (by omega)⟩
    · rw [if_neg h2]
      have e : (if (n : Int) ≥ 97 then targumref4_Value.j1 (k + 1) n (decide ((n : Int) ≤ 102)) else targumref4_Value.j1 (k + 1) n false) = targumref4_Value.j1 (k + 1) n false := by
        split
        · rw [decide_eq_false (by omega)]
        · rfl
      rw [e]
      simp only [targumref4_Value.j1, Bool.false_eq_true, if_false]
      by_cases h3 : 65 ≤ n ∧ n ≤ 70
      · rw [if_pos (by omega), if_pos (by omega), if_pos h3]
        exact ⟨_, rfl, .inl (by omega)⟩
      · rw [if_neg h3]
        split
        · split
          · omega
          · exact ⟨_, rfl, .inr ⟨rfl, rfl⟩⟩
        · exact ⟨_, rfl, .inr ⟨rfl, rfl⟩⟩
def goodB (B : Nat) (l : List UInt8) : Bool := l.all fun x => decide (digV x < B)
/-- a number's text of the digits, or nothing -/
def baseT (B : Nat) (l : List UInt8) : ByteArray := if goodB B l = true then num (bval B l : Nat) else ⟨#[]⟩
theorem bval_lim {B : Nat} (hB : B ≤ 16) {l : List UInt8} (h : goodB B l = true) (hl : l.length ≤ 100) : (decDigits (bval B l)).length ≤ 130 := by
  have h1 := bval_lt B l (fun x hx => of_decide_eq_true (p := digV x < B) (List.all_eq_true.1 h x hx))
  have h2 : B ^ l.length ≤ 16 ^ l.length := Nat.pow_le_pow_left hB _
  have h3 : 16 ^ l.length ≤ 16 ^ 100 := Nat.pow_le_pow_right (by decide) hl
  have h4 : (16 : Nat) ^ 100 ≤ 10 ^ (129 + 1) := by decide +kernel
  rw [decDigits_length]
  exact nDigits_le 129 _ (by omega)
theorem goodB_take {B : Nat} {l : List UInt8} {i : Nat} (hi : i < l.length) : goodB B (l.take (i + 1)) = (goodB B (l.take i) && decide (digV l[i] < B)) := by
  unfold goodB
  rw [List.take_succ_eq_append_getElem hi, List.all_append]
  simp
theorem goodB_take_all {B : Nat} {l : List UInt8} {i : Nat} (h : goodB B l = true) : goodB B (l.take i) = true :=
  List.all_eq_true.2 fun x hx => List.all_eq_true.1 h x (List.mem_of_mem_take hx)
theorem base_any_l0 (B : Nat) (hB2 : 2 ≤ B) (hB : B ≤ 16) (C : List UInt8) (hl : C.length ≤ 100) : ∀ (d r i : Nat), i + d = C.length → 600 + d ≤ r → goodB B (C.take i) = true →
    big_Base.l0 r (txt C) (B : Int) (num (bval B (C.take i) : Nat)) ((txt C).size : Int) (i : Int) = some (baseT B C)
  | 0, r, i, hi, hr, hg => by
    obtain ⟨r, rfl⟩ : ∃ q, r = q + 1 := ⟨r - 1, by omega⟩
    have hz := txt_size C
    rw [List.take_of_length_le (by omega)] at hg ⊢
    simp only [big_Base.l0]
    unfold baseT
    rw [if_neg (by omega), if_pos hg]
  | d + 1, r, i, hi, hr, hg => by
    obtain ⟨r, rfl⟩ : ∃ q, r = q + 1 := ⟨r - 1, by omega⟩
    have hz := txt_size C
    have hlt : i < C.length := by omega
    have hlen := bval_lim hB hg (by rw [List.length_take]; omega)
    simp only [big_Base.l0]
    rw [if_pos (by omega), if_pos (by omega), if_pos (by omega), bt_at_ hlt, digit_eq _ r (by omega)]
    simp only [Option.bind_some]
    by_cases hx : digV C[i] < B
    · rw [if_neg (by omega), num_nat, times_eq _ B (digV C[i]) (by omega) (by omega) (by omega) (by omega) (by omega) r (by omega)]
      simp only [Option.bind_some]
      rw [wrap_id (by omega) (by omega)]
      have := base_any_l0 B hB2 hB C hl d r (i + 1) (by omega) (by omega) (by rw [goodB_take hlt, hg, decide_eq_true hx]; rfl)
      have e1 : ((bval B (C.take (i + 1)) : Nat) : Int) = (bval B (C.take i) : Int) * (B : Int) + (digV C[i] : Int) := by
        rw [List.take_succ_eq_append_getElem hlt, bval_snoc]
        simp
      rw [e1] at this
      rw [show ((i : Int) + 1) = ((i + 1 : Nat) : Int) by omega]
      exact this
    · rw [if_pos (by omega)]
      unfold baseT
      rw [if_neg]
      intro q
      exact hx (of_decide_eq_true (p := digV C[i] < B) (List.all_eq_true.1 q _ (List.getElem_mem hlt)))
theorem rbase_any_l0 (B : Nat) (hB2 : 2 ≤ B) (hB : B ≤ 16) (C : List UInt8) (hl : C.length ≤ 100) : ∀ (d r i : Nat), i + d = C.length → 600 + d ≤ r → goodB B (C.take i) = true →
    targumref4_Base.l0 r (txt C) (B : Int) (num (bval B (C.take i) : Nat)) (i : Int) = some (baseT B C)
  | 0, r, i, hi, hr, hg => by
    obtain ⟨r, rfl⟩ : ∃ q, r = q + 1 := ⟨r - 1, by omega⟩
    have hz := txt_size C
    rw [List.take_of_length_le (by omega)] at hg ⊢
    simp only [targumref4_Base.l0]
    unfold baseT
    rw [if_neg (by omega), if_pos hg]
  | d + 1, r, i, hi, hr, hg => by
    obtain ⟨r, rfl⟩ : ∃ q, r = q + 1 := ⟨r - 1, by omega⟩
    have hz := txt_size C
    have hlt : i < C.length := by omega
    have hlen := bval_lim hB hg (by rw [List.length_take]; omega)
    simp only [targumref4_Base.l0]
    obtain ⟨v, hv, hv2⟩ := Value_eq C[i] r (by omega)
    rw [if_pos (by omega), if_pos (by omega), bt_at_ hlt, hv]
    simp only [Option.bind_some]
    by_cases hx : digV C[i] < B
    · have hve : v = digV C[i] := by omega
      rw [hve, if_neg (by omega), num_nat, rmulAdd_eq _ (dec_digs _) (dec_ne _) (by omega) B (digV C[i]) (by omega) (by omega) (by omega) (by omega) r (by omega), dec_val]
      simp only [Option.bind_some]
      rw [wrap_id (by omega) (by omega)]
      have := rbase_any_l0 B hB2 hB C hl d r (i + 1) (by omega) (by omega) (by rw [goodB_take hlt, hg, decide_eq_true hx]; rfl)
      have e1 : ((bval B (C.take (i + 1)) : Nat) : Int) = (bval B (C.take i) : Int) * (B : Int) + (digV C[i] : Int) := by
        rw [List.take_succ_eq_append_getElem hlt, bval_snoc]
        simp
      rw [e1] at this
      rw [show ((i : Int) + 1) = ((i + 1 : Nat) : Int) by omega]
      exact this
    · rw [if_pos (by omega)]
      unfold baseT
      rw [if_neg]
      intro q
      exact hx (of_decide_eq_true (p := digV C[i] < B) (List.all_eq_true.1 q _ (List.getElem_mem hlt)))
theorem Base_any (B : Nat) (hB : B = 2 ∨ B = 8 ∨ B = 16) (C : List UInt8) (hl : C.length ≤ 100) (k : Nat) (hk : 800 ≤ k) : big_Base.f k (txt C) (B : Int) = some (if C = [] then ⟨#[]⟩ else baseT B C) := by
  obtain ⟨k, rfl⟩ : ∃ q, k = q + 1 := ⟨k - 1, by omega⟩
  have J : big_Base.j0 (k + 1) (txt C) (B : Int) ((txt C).toList == ([] : List UInt8)) = some (if C = [] then ⟨#[]⟩ else baseT B C) := by
    rw [txt_toList]
    by_cases h : C = []
    · rw [if_pos h, beq_iff_eq.2 h]; simp only [big_Base.j0, if_true]
    · rw [if_neg h, beq_eq_false_iff_ne.2 h]
      simp only [big_Base.j0, Bool.false_eq_true, if_false]
      have := base_any_l0 B (by omega) (by omega) C hl C.length k 0 (by omega) (by omega) rfl
      rw [List.take_zero, show bval B [] = 0 from rfl] at this
      rw [num_zero]
      exact this
  unfold big_Base.f
  rcases hB with rfl | rfl | rfl
  · rw [if_pos (by decide)]; exact J
  · rw [if_neg (by decide), if_pos (by decide)]; exact J
  · rw [if_neg (by decide), if_neg (by decide), if_pos (by decide)]; exact J
theorem rBase_any (B : Nat) (hB : B = 2 ∨ B = 8 ∨ B = 16) (C : List UInt8) (hl : C.length ≤ 100) (k : Nat) (hk : 800 ≤ k) : targumref4_Base.f k (txt C) (B : Int) = some (if C = [] then ⟨#[]⟩ else baseT B C) := by
  obtain ⟨k, rfl⟩ : ∃ q, k = q + 1 := ⟨k - 1, by omega⟩
  have J : targumref4_Base.j0 (k + 1) (txt C) (B : Int) ((txt C).toList == ([] : List UInt8)) = some (if C = [] then ⟨#[]⟩ else baseT B C) := by
    rw [txt_toList]
    by_cases h : C = []
    · rw [if_pos h, beq_iff_eq.2 h]; simp only [targumref4_Base.j0, if_true]
    · rw [if_neg h, beq_eq_false_iff_ne.2 h]
      simp only [targumref4_Base.j0, Bool.false_eq_true, if_false]
      have := rbase_any_l0 B (by omega) (by omega) C hl C.length k 0 (by omega) (by omega) rfl
      rw [List.take_zero, show bval B [] = 0 from rfl] at this
      rw [num_zero]
      exact this
  unfold targumref4_Base.f
  rcases hB with rfl | rfl | rfl
  · rw [if_pos (by decide)]; exact J
  · rw [if_neg (by decide), if_pos (by decide)]; exact J
  · rw [if_neg (by decide), if_neg (by decide), if_pos (by decide)]; exact J
theorem base_both (s : ByteArray) (b : Int) (hs : s.size ≤ 100) (k : Nat) (hk : 800 ≤ k) : ∃ r, big_Base.f k s b = some r ∧ targumref4_Base.f k s b = some r := by
  have hz : s.data.toList.length = s.size := (Lib.size_eq s).symm
  by_cases h : b = 2 ∨ b = 8 ∨ b = 16
  · obtain ⟨B, rfl, hB⟩ : ∃ B : Nat, b = (B : Int) ∧ (B = 2 ∨ B = 8 ∨ B = 16) := ⟨b.toNat, by omega, by omega⟩
    have h1 := Base_any B hB s.data.toList (by omega) k hk
    have h2 := rBase_any B hB s.data.toList (by omega) k hk
    rw [← of_list] at h1 h2
    exact ⟨_, h1, h2⟩
  · obtain ⟨k, rfl⟩ : ∃ q, k = q + 1 := ⟨k - 1, by omega⟩
    refine ⟨⟨#[]⟩, ?_, ?_⟩
    · unfold big_Base.f
      rw [if_neg (by omega), if_neg (by omega), if_neg (by omega)]
      simp only [big_Base.j0, if_true]
    · unfold targumref4_Base.f
      rw [if_neg (by omega), if_neg (by omega), if_neg (by omega)]
      simp only [targumref4_Base.j0, if_true]
end Go.Proofs.YtddaggnomcoejaaDoor.RefBig
