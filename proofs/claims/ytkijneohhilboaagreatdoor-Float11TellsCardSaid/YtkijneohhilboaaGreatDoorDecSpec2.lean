/- Decimals: what is made of digits, what is printed: the program's layer 5 and the reference do the same. No conditions but sizes. -/
import Derived.Test.YtkijneohhilboaaGreatDoorDecSpec
namespace Go.Proofs.YtkijneohhilboaaGreatDoor.DecSpec
set_option linter.unusedSimpArgs false
set_option linter.unusedVariables false
open Go.RowKit Go.Lib Go.Proofs.YtkijneohhilboaaGreatDoor.Room Go.Proofs.YtkijneohhilboaaGreatDoor.PT Go.Proofs.YtkijneohhilboaaGreatDoorW.PrintWords Go.Proofs.YtkijneohhilboaaGreatDoor.Aid Go.Proofs.YtkijneohhilboaaGreatDoor.Num Go.Proofs.YtkijneohhilboaaGreatDoor.BigFns Go.Proofs.YtkijneohhilboaaGreatDoor.BigQ Go.Proofs.YtkijneohhilboaaGreatDoor.RefBig
theorem IsNum.cons {e : List UInt8} (h : IsNum e) : ∃ c r, e = c :: r := by
  rcases h.cases with q | q | ⟨d, q, _⟩
  · exact ⟨_, _, q⟩
  · obtain ⟨x, r, e', _⟩ := q.2; exact ⟨x, r, e'⟩
  · exact ⟨_, _, q⟩
def signL (neg : Bool) : List UInt8 := if neg then [45] else []
def plusL (e : List UInt8) : List UInt8 := if e.head? = some 45 then [] else [43]
def printL (K : Int) (neg : Bool) (d e : List UInt8) : List UInt8 := if K = 2 then [46, 110, 97, 110] else if K = 1 then signL neg ++ [46, 105, 110, 102] else signL neg ++ d ++ [46, 101] ++ plusL e ++ e
theorem app_txt (l m : List UInt8) : txt l ++ txt m = txt (l ++ m) := by apply ext_list; rw [append_list]; rfl
theorem arr_txt (l : List UInt8) : (⟨l.toArray⟩ : ByteArray) = txt l := rfl
theorem goodD.zero {K : Int} {neg : Bool} {d e : List UInt8} (h : goodD K neg d e) (h0 : K = 0) : Digs d ∧ d ≠ [] ∧ IsNum e := by
  rcases h with q | q | q | q
  · rw [q.2.1, q.2.2]; exact ⟨digs_one ⟨by decide, by decide⟩, by simp, ⟨0, itoa_zero.symm⟩⟩
  · exact ⟨q.2.1.1, q.2.1.2.1, q.2.2⟩
  · omega
  · omega
theorem goodD.kinds {K : Int} {neg : Bool} {d e : List UInt8} (h : goodD K neg d e) : K = 0 ∨ (K = 1 ∧ d = [] ∧ e = []) ∨ (K = 2 ∧ neg = false ∧ d = [] ∧ e = []) := by
  rcases h with q | q | q | q
  · exact .inl q.1
  · exact .inl q.1
  · exact .inr (.inl q)
  · exact .inr (.inr q)
abbrev D5 := Int × Bool × ByteArray × ByteArray × Bool
def zeroD : D5 := (0, false, ⟨#[]⟩, ⟨#[]⟩, false)
def makeN (neg : Bool) (all : List UInt8) (x : Int) : D5 :=
  if trimLeftS (trimRightS all [48]) [48] = [] then (0, neg, txt [48], txt [48], true) else (0, neg, txt (trimLeftS (trimRightS all [48]) [48]), num (x + ((all.length : Int) - ((trimRightS all [48]).length : Int))), true)
theorem trimR_len (l : List UInt8) : (trimRightS l [48]).length ≤ l.length := by
  obtain ⟨n, c, e, hc⟩ := splitR l
  rw [e, trimR_zs n c hc, List.length_append]; omega
theorem TrimRight_eq (l : List UInt8) (hs : l.length ≤ 1000000) : strings_TrimRight.f (txt l) (⟨#[48]⟩ : ByteArray) = some (txt (trimRightS l [48])) := by
  unfold strings_TrimRight.f
  rw [if_pos ⟨by decide, by decide, by rw [txt_size]; omega⟩]
  rfl
theorem TrimLeft_eq (l : List UInt8) (hs : l.length ≤ 1000000) : strings_TrimLeft.f (txt l) (⟨#[48]⟩ : ByteArray) = some (txt (trimLeftS l [48])) := by
  unfold strings_TrimLeft.f
  rw [if_pos ⟨by decide, by decide, by rw [txt_size]; omega⟩]
  rfl
theorem Make_yes (neg : Bool) (w f : List UInt8) (z : Int) (hw : w.length ≤ 10000) (hf : f.length ≤ 10000) (hz : (itoa z).length ≤ 10000) (hd : Digs (w ++ f)) (hne : w ++ f ≠ []) (k : Nat) (hk : 11000 ≤ k) :
    dec_Make.f k neg (txt w) (txt f) (num z) = some (makeN neg (w ++ f) (z - f.length)) := by
  obtain ⟨k, rfl⟩ : ∃ j, k = j + 1 := ⟨k - 1, by omega⟩
  have hil := itoa_len z
  have hal : (w ++ f).length = w.length + f.length := List.length_append
  have htl := trimR_len (w ++ f)
  unfold dec_Make.f
  rw [txt_size, txt_size, if_pos (by omega), app_txt, txt_toList, if_neg hne, dec_digits_eq _ (by omega), (digB_iff _).2 hd]
  simp only [Option.bind_some, if_true]
  rw [Good_num z (by omega) _ (by omega)]
  simp only [Option.bind_some, Bool.not_true, dec_Make.j0, Bool.false_eq_true, if_false]
  rw [TrimRight_eq _ (by omega)]
  simp only [Option.bind_some, txt_size]
  rw [wrap_id (x := ((w ++ f).length : Int) - ((trimRightS (w ++ f) [48]).length : Int)) (by omega) (by omega), wrap_id (by omega) (by omega), Add_eq z _ (by omega) (by omega) (by omega) k (by omega)]
  simp only [Option.bind_some]
  rw [TrimLeft_eq _ (by omega)]
  simp only [Option.bind_some, txt_toList]
  have hx : z + (((w ++ f).length : Int) - ((trimRightS (w ++ f) [48]).length : Int) - (f.length : Int)) = z - (f.length : Int) + (((w ++ f).length : Int) - ((trimRightS (w ++ f) [48]).length : Int)) := by omega
  rw [hx]
  unfold makeN
  split
  · rfl
  · rfl
theorem Make_no (neg : Bool) (w f e : List UInt8) (hw : w.length ≤ 10000) (hf : f.length ≤ 10000) (he : e.length ≤ 10000) (hno : ¬ (Digs (w ++ f) ∧ w ++ f ≠ [] ∧ IsNum e)) (k : Nat) (hk : 11000 ≤ k) :
    dec_Make.f k neg (txt w) (txt f) (txt e) = some zeroD := by
  obtain ⟨k, rfl⟩ : ∃ j, k = j + 1 := ⟨k - 1, by omega⟩
  have hal : (w ++ f).length = w.length + f.length := List.length_append
  have jt : ∀ s, dec_Make.j0 (k + 1) neg (txt f) (txt e) s true = some zeroD := fun s => by simp only [dec_Make.j0, if_true]; rfl
  unfold dec_Make.f
  rw [txt_size, txt_size, if_pos (by omega), app_txt, txt_toList]
  by_cases hn : w ++ f = []
  · rw [if_pos hn]; exact jt _
  · rw [if_neg hn, dec_digits_eq _ (by omega)]
    simp only [Option.bind_some]
    cases hb : digB (w ++ f) with
    | false => exact jt (txt (w ++ f))
    | true =>
      rw [if_pos rfl, Good_no e (by omega) (k + 1) (by omega) (fun q => hno ⟨(digB_iff _).1 hb, hn, q⟩)]
      exact jt (txt (w ++ f))
/-- the reference, the noughts ahead -/
theorem rMake_l1 (neg : Bool) (f : List UInt8) (z : Int) (hf : f.length ≤ 10000) (hz : (itoa z).length ≤ 10000) (c : List UInt8) (hc : HeadNo c) (hcl : c.length ≤ 30000) (cnt : Nat) (hcnt : cnt ≤ 30000) : ∀ (a k : Nat), a ≤ 30000 → a + 31000 ≤ k →
    targumref4_Make.l1 k neg (txt f) (num z) (txt (zs a ++ c)) cnt = some (if c = [] then (0, neg, txt [48], txt [48], true) else (0, neg, txt c, num (z + (cnt - f.length)), true))
  | 0, k, ha, hk => by
    obtain ⟨k, rfl⟩ : ∃ j, k = j + 1 := ⟨k - 1, by omega⟩
    have hil := itoa_len z
    simp only [targumref4_Make.l1]
    rw [show zs 0 ++ c = c from rfl, txt_toList, txt_size, txt_size]
    rcases hc with rfl | ⟨y, r, rfl, hy⟩
    · rw [if_neg (by simp)]; rfl
    · rw [if_pos (by rw [List.length_cons]; omega), if_pos (by rw [List.length_cons]; omega), bt_head, if_neg (ne48 hy), if_neg (by simp), wrap_id (by omega) (by omega), rAdd_eq z _ (by omega) (by omega) (by omega) k (by omega), if_neg (by simp)]
      rfl
  | a + 1, k, ha, hk => by
    obtain ⟨k, rfl⟩ : ∃ j, k = j + 1 := ⟨k - 1, by omega⟩
    simp only [targumref4_Make.l1]
    have hs : zs (a + 1) ++ c = 48 :: (zs a ++ c) := rfl
    rw [hs, extract_one, txt_size, bt_head, if_pos (by rw [List.length_cons]; omega), if_pos (by rw [List.length_cons]; omega), if_pos (show ((48 : UInt8).toNat : Int) = 48 from rfl), if_pos (by rw [List.length_cons]; omega)]
    exact rMake_l1 neg f z hf hz c hc hcl cnt hcnt a k (by omega) (by omega)
theorem extract_last (l : List UInt8) (y : UInt8) : (txt (l ++ [y])).extract 0 l.length = txt l := by
  apply ext_list
  rw [extract_take, txt_list, txt_list, List.take_left']
  rfl
theorem zs_succ (n : Nat) : zs (n + 1) = zs n ++ [48] := by unfold zs; rw [List.replicate_succ']
theorem rMake_l0 (neg : Bool) (f : List UInt8) (z : Int) (R : D5) (K : Nat) (t : List UInt8) (ht : LastNo t) (htl : t.length ≤ 30000) : ∀ (b k cnt : Nat), b ≤ 30000 → cnt + b ≤ 30000 → b + K + 2 ≤ k →
    (∀ k, K ≤ k → targumref4_Make.l1 k neg (txt f) (num z) (txt t) ((cnt + b : Nat) : Int) = some R) → targumref4_Make.l0 k neg (txt f) (num z) (txt (t ++ zs b)) cnt = some R
  | 0, k, cnt, hb, hc, hk, hR => by
    obtain ⟨k, rfl⟩ : ∃ j, k = j + 2 := ⟨k - 2, by omega⟩
    simp only [targumref4_Make.l0]
    rw [show t ++ zs 0 = t from List.append_nil t]
    have jj : targumref4_Make.j2 (k + 1) neg (txt f) (num z) (txt t) cnt = some R := by simp only [targumref4_Make.j2]; exact hR k (by omega)
    rcases ht with rfl | ⟨r, y, rfl, hy⟩
    · rw [if_neg (by rw [txt_size]; simp)]; exact jj
    · have hl : (r ++ [y]).length = r.length + 1 := by rw [List.length_append]; rfl
      rw [txt_size, wrap_id (by omega) (by omega), show ((r ++ [y]).length : Int) - 1 = (r.length : Int) by omega, bt_last, if_pos (by omega), if_pos (by omega), if_pos (by omega), if_neg (ne48 hy)]
      exact jj
  | b + 1, k, cnt, hb, hc, hk, hR => by
    obtain ⟨k, rfl⟩ : ∃ j, k = j + 1 := ⟨k - 1, by omega⟩
    simp only [targumref4_Make.l0]
    rw [zs_succ, ← List.append_assoc]
    have hl : (t ++ zs b ++ [48]).length = (t ++ zs b).length + 1 := by rw [List.length_append]; rfl
    have hl2 : (t ++ zs b).length = t.length + b := by rw [List.length_append, zs_length]
    have hw : wrap64 (((t ++ zs b ++ [48]).length : Int) - 1) = ((t ++ zs b).length : Int) := by rw [hl, wrap_id (by omega) (by omega)]; omega
    rw [txt_size, hw, bt_last, if_pos (by omega), if_pos (by omega), if_pos (by omega), if_pos (show ((48 : UInt8).toNat : Int) = 48 from rfl), if_pos (by omega), wrap_id (by omega) (by omega), Int.toNat_natCast, extract_last]
    rw [show (cnt : Int) + 1 = ((cnt + 1 : Nat) : Int) by omega]
    refine rMake_l0 neg f z R K t ht htl b k (cnt + 1) (by omega) (by omega) (by omega) ?_
    intro k hk
    have := hR k hk
    rw [show cnt + 1 + b = cnt + (b + 1) by omega]
    exact this
theorem makeN_split (neg : Bool) (l : List UInt8) (x : Int) : (∃ n, l = zs n ∧ makeN neg l x = (0, neg, txt [48], txt [48], true)) ∨ ∃ a c b, l = zs a ++ c ++ zs b ∧ HeadNo c ∧ LastNo c ∧ c ≠ [] ∧ makeN neg l x = (0, neg, txt c, num (x + b), true) := by
  rcases split3 l with ⟨n, rfl⟩ | ⟨a, c, b, rfl, h1, h2, h3⟩
  · left
    refine ⟨n, rfl, ?_⟩
    unfold makeN
    rw [trims_noughts, if_pos (show trimLeftS [] [48] = [] from rfl)]
  · right
    refine ⟨a, c, b, rfl, h1, h2, h3, ?_⟩
    obtain ⟨e1, e2⟩ := trims_core (a := a) (b := b) h1 h2 h3
    unfold makeN
    rw [e1, e2, if_neg h3]
    have : ((zs a ++ c ++ zs b).length : Int) - ((zs a ++ c).length : Int) = (b : Int) := by
      have e3 : (zs a ++ c ++ zs b).length = (zs a ++ c).length + b := by rw [List.length_append, zs_length]
      omega
    rw [this]
theorem rMake_yes (neg : Bool) (w f : List UInt8) (z : Int) (hw : w.length ≤ 10000) (hf : f.length ≤ 10000) (hz : (itoa z).length ≤ 10000) (hd : Digs (w ++ f)) (hne : w ++ f ≠ []) (k : Nat) (hk : 100000 ≤ k) :
    targumref4_Make.f k neg (txt w) (txt f) (num z) = some (makeN neg (w ++ f) (z - f.length)) := by
  obtain ⟨k, rfl⟩ : ∃ j, k = j + 1 := ⟨k - 1, by omega⟩
  have hil := itoa_len z
  have hal : (w ++ f).length = w.length + f.length := List.length_append
  unfold targumref4_Make.f
  rw [txt_size, txt_size, if_pos (by omega), app_txt, rDigits_any _ (by omega) _ (by omega), (okD_iff _).2 ⟨hd, hne⟩]
  simp only [Option.bind_some, if_true]
  rw [rGood_num z (by omega) _ (by omega)]
  simp only [Option.bind_some, Bool.not_true, targumref4_Make.j0, Bool.false_eq_true, if_false]
  rw [txt_size, txt_size, if_pos (by omega), app_txt]
  rcases makeN_split neg (w ++ f) (z - f.length) with ⟨n, e, hm⟩ | ⟨a, c, b, e, h1, h2, h3, hm⟩
  · rw [hm, e]
    have hn : n ≤ 20000 := by have := zs_length n; rw [← e] at this; omega
    have h := rMake_l0 neg f z (0, neg, txt [48], txt [48], true) 40000 [] (.inl rfl) (by simp) n k 0 (by omega) (by omega) (by omega) (fun k hk => by
      have := rMake_l1 neg f z hf hz [] (.inl rfl) (by simp) (0 + n) (by omega) 0 k (by omega) (by omega)
      rw [if_pos rfl] at this
      exact this)
    exact h
  · rw [hm, e]
    have hlen : a + c.length + b = w.length + f.length := by
      rw [← hal, e, List.length_append, List.length_append, zs_length, zs_length]
    have h := rMake_l0 neg f z (0, neg, txt c, num (z - f.length + b), true) 60000 (zs a ++ c) (LastNo.cons a h2 h3) (by rw [List.length_append, zs_length]; omega) b k 0 (by omega) (by omega) (by omega) (fun k hk => by
      have := rMake_l1 neg f z hf hz c h1 (by omega) (0 + b) (by omega) a k (by omega) (by omega)
      rw [if_neg h3] at this
      have e3 : z + (((0 + b : Nat) : Int) - (f.length : Int)) = z - (f.length : Int) + (b : Int) := by omega
      rw [this, e3])
    exact h
theorem rMake_no (neg : Bool) (w f e : List UInt8) (hw : w.length ≤ 10000) (hf : f.length ≤ 10000) (he : e.length ≤ 10000) (hno : ¬ (Digs (w ++ f) ∧ w ++ f ≠ [] ∧ IsNum e)) (k : Nat) (hk : 31000 ≤ k) :
    targumref4_Make.f k neg (txt w) (txt f) (txt e) = some zeroD := by
  obtain ⟨k, rfl⟩ : ∃ j, k = j + 1 := ⟨k - 1, by omega⟩
  have hal : (w ++ f).length = w.length + f.length := List.length_append
  have jt : targumref4_Make.j0 (k + 1) neg (txt w) (txt f) (txt e) true = some zeroD := by simp only [targumref4_Make.j0, if_true]; rfl
  unfold targumref4_Make.f
  rw [txt_size, txt_size, if_pos (by omega), app_txt, rDigits_any _ (by omega) _ (by omega)]
  simp only [Option.bind_some]
  cases hb : okD (w ++ f) with
  | false => exact jt
  | true =>
    obtain ⟨h1, h2⟩ := (okD_iff _).1 hb
    rw [if_pos rfl, rGood_no e (by omega) (k + 1) (by omega) (fun q => hno ⟨h1, h2, q⟩)]
    exact jt
/-- what is made of texts: by the program and by the reference -/
def makeT (neg : Bool) (w f e : ByteArray) (r : D5) : Prop :=
  (∃ z, Digs (w.data.toList ++ f.data.toList) ∧ w.data.toList ++ f.data.toList ≠ [] ∧ e = num z ∧ r = makeN neg (w.data.toList ++ f.data.toList) (z - f.size)) ∨
  (¬ (Digs (w.data.toList ++ f.data.toList) ∧ w.data.toList ++ f.data.toList ≠ [] ∧ IsNum e.data.toList) ∧ r = zeroD)
theorem make_both (neg : Bool) (w f e : ByteArray) (hw : w.size ≤ 10000) (hf : f.size ≤ 10000) (he : e.size ≤ 10000) (k : Nat) (hk : 100000 ≤ k) :
    ∃ r, dec_Make.f k neg w f e = some r ∧ targumref4_Make.f k neg w f e = some r ∧ makeT neg w f e r := by
  have hw' : w.data.toList.length = w.size := (Lib.size_eq w).symm
  have hf' : f.data.toList.length = f.size := (Lib.size_eq f).symm
  have he' : e.data.toList.length = e.size := (Lib.size_eq e).symm
  by_cases h : Digs (w.data.toList ++ f.data.toList) ∧ w.data.toList ++ f.data.toList ≠ [] ∧ IsNum e.data.toList
  · obtain ⟨h1, h2, z, hz⟩ := h
    have ez : e = num z := by rw [of_list e, hz]; rfl
    have a1 := Make_yes neg w.data.toList f.data.toList z (by omega) (by omega) (by rw [← hz]; omega) h1 h2 k (by omega)
    have a2 := rMake_yes neg w.data.toList f.data.toList z (by omega) (by omega) (by rw [← hz]; omega) h1 h2 k (by omega)
    rw [← of_list, ← of_list, ← ez, hf'] at a1 a2
    exact ⟨_, a1, a2, .inl ⟨z, h1, h2, ez, rfl⟩⟩
  · have a1 := Make_no neg w.data.toList f.data.toList e.data.toList (by omega) (by omega) (by omega) h k (by omega)
    have a2 := rMake_no neg w.data.toList f.data.toList e.data.toList (by omega) (by omega) (by omega) h k (by omega)
    rw [← of_list, ← of_list, ← of_list] at a1 a2
    exact ⟨_, a1, a2, .inr ⟨h, rfl⟩⟩
end Go.Proofs.YtkijneohhilboaaGreatDoor.DecSpec
