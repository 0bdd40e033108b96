/- Decimals: what is made of digits, what is printed: the program's layer 5 and the reference do the same. No conditions but sizes. -/
import Derived.Test.YtkijneohhilboaaDoorDecSpec
namespace Go.Proofs.YtkijneohhilboaaDoor.DecSpec
set_option linter.unusedSimpArgs false
set_option linter.unusedVariables false
open Go.RowKit Go.Lib Go.Proofs.YtkijneohhilboaaDoor.Room Go.Proofs.YtkijneohhilboaaDoor.PV Go.Proofs.YtkijneohhilboaaDoorW.PrintWords Go.Proofs.YtkijneohhilboaaDoor.Aid Go.Proofs.YtkijneohhilboaaDoor.Num Go.Proofs.YtkijneohhilboaaDoor.BigFns Go.Proofs.YtkijneohhilboaaDoor.BigQ Go.Proofs.YtkijneohhilboaaDoor.RefBig
theorem IsNum.cons {e : List UInt8} (h : IsNum e) : ∃ c r, e = c :: r := by
  rcases h.cases with q | q | ⟨d, q, _⟩
  · exact ⟨_, _, q⟩
  · obtain ⟨x, r, e', _⟩ := q.2; exact ⟨x, r, e'⟩
  · exact ⟨_, _, q⟩
def signL (neg : Bool) : List UInt8 := if neg then [45] else []
def plusL (e : List UInt8) : List UInt8 := if e.head? = some 45 then [] else [43]
def printL (K : Int) (neg : Bool) (d e : List UInt8) : List UInt8 := if K = 2 then [46, 110, 97, 110] else if K = 1 then signL neg ++ [46, 105, 110, 102] else signL neg ++ d ++ [46, 101] ++ plusL e ++ e
theorem app_txt (l m : List UInt8) : txt l ++ txt m = txt (l ++ m) := by apply ext_list; rw [append_list]; rfl
theorem arr_txt (l : List UInt8) : (⟨l.toArray⟩ : ByteArray) = txt l := rfl
theorem goodD.zero {K : Int} {neg : Bool} {d e : List UInt8} (h : goodD K neg d e) (h0 : K = 0) : Digs d ∧ d ≠ [] ∧ IsNum e := by
  rcases h with q | q | q | q
  · rw [q.2.1, q.2.2]; exact ⟨digs_one ⟨by decide, by decide⟩, by simp, ⟨0, itoa_zero.symm⟩⟩
  · exact ⟨q.2.1.1, q.2.1.2.1, q.2.2⟩
  · omega
  · omega
theorem goodD.kinds {K : Int} {neg : Bool} {d e : List UInt8} (h : goodD K neg d e) : K = 0 ∨ (K = 1 ∧ d = [] ∧ e = []) ∨ (K = 2 ∧ neg = false ∧ d = [] ∧ e = []) := by
  rcases h with q | q | q | q
  · exact .inl q.1
  · exact .inl q.1
  · exact .inr (.inl q)
  · exact .inr (.inr q)
abbrev D5 := Int × Bool × ByteArray × ByteArray × Bool
def zeroD : D5 := (0, false, ⟨#[]⟩, ⟨#[]⟩, false)
def makeN (neg : Bool) (all : List UInt8) (x : Int) : D5 :=
  if trimLeftS (trimRightS all [48]) [48] = [] then (0, neg, txt [48], txt [48], true) else (0, neg, txt (trimLeftS (trimRightS all [48]) [48]), num (x + ((all.length : Int) - ((trimRightS all [48]).length : Int))), true)
theorem trimR_len (l : List UInt8) : (trimRightS l [48]).length ≤ l.length := by
  obtain ⟨n, c, e, hc⟩ := splitR l
  rw [e, trimR_zs n c hc, List.length_append]; omega
theorem TrimRight_eq (l : List UInt8) (hs : l.length ≤ 1000000) : strings_TrimRight.f (txt l) (⟨#[48]⟩ : ByteArray) = some (txt (trimRightS l [48])) := by
  unfold strings_TrimRight.f
  rw [if_pos ⟨by decide, by decide, by rw [txt_size]; omega⟩]
  rfl
theorem TrimLeft_eq (l : List UInt8) (hs : l.length ≤ 1000000) : strings_TrimLeft.f (txt l) (⟨#[48]⟩ : ByteArray) = some (txt (trimLeftS l [48])) := by
  unfold strings_TrimLeft.f
  rw [if_pos ⟨by decide, by decide, by rw [txt_size]; omega⟩]
  rfl
theorem Make_yes (neg : Bool) (w f : List UInt8) (z : Int) (hw : w.length ≤ 10000) (hf : f.length ≤ 10000) (hz : (itoa z).length ≤ 10000) (hd : Digs (w ++ f)) (hne : w ++ f ≠ []) (k : Nat) (hk : 11000 ≤ k) :
    dec_Make.f k neg (txt w) (txt f) (num z) = some (makeN neg (w ++ f) (z - f.length)) := by
  obtain ⟨k, rfl⟩ : ∃ j, k = j + 1 := ⟨k - 1, by omega⟩
  have hil := itoa_len z
  have hal : (w ++ f).length = w.length + f.length := List.length_append
  have htl := trimR_len (w ++ f)
  unfold dec_Make.f
  rw [txt_size, txt_size, if_pos (by omega), app_txt, txt_toList, if_neg hne, dec_digits_eq _ (by omega), (digB_iff _).2 hd]
  simp only [Option.bind_some, if_true]
  rw [Good_num z (by omega) _ (by omega)]
  simp only [Option.bind_some, Bool.not_true, dec_Make.j0, Bool.false_eq_true, if_false]
  rw [TrimRight_eq _ (by omega)]
  simp only [Option.bind_some, txt_size]
  rw [wrap_id (x := ((w ++ f).length : Int) - ((trimRightS (w ++ f) [48]).length : Int)) (by omega) (by omega), wrap_id (by omega) (by omega), Add_eq z _ (by omega) (by omega) (by omega) k (by omega)]
  simp only [Option.bind_some]
  rw [TrimLeft_eq _ (by omega)]
  simp only [Option.bind_some, txt_toList]
  have hx : z + (((w ++ f).length : Int) - ((trimRightS (w ++ f) [48]).length : Int) - (f.length : Int)) = z - (f.length : Int) + (((w ++ f).length : Int) - ((trimRightS (w ++ f) [48]).length : Int)) := by omega
  rw [hx]
  unfold makeN
  split
  · rfl
  · rfl
theorem Make_no (neg : Bool) (w f e : List UInt8) (hw : w.length ≤ 10000) (hf : f.length ≤ 10000) (he : e.length ≤ 10000) (hno : ¬ (Digs (w ++ f) ∧ w ++ f ≠ [] ∧ IsNum e)) (k : Nat) (hk : 11000 ≤ k) :
    dec_Make.f k neg (txt w) (txt f) (txt e) = some zeroD := by
  obtain ⟨k, rfl⟩ : ∃ j, k = j + 1 := ⟨k - 1, by omega⟩
  have hal : (w ++ f).length = w.length + f.length := List.length_append
  have jt : ∀ s, dec_Make.j0 (k + 1) neg (txt f) (txt e) s true = some zeroD := fun s => by simp only [dec_Make.j0, if_true]; rfl
  unfold dec_Make.f
  rw [txt_size, txt_size, if_pos (by omega), app_txt, txt_toList]
  by_cases hn : w ++ f = []
  · rw [if_pos hn]; exact jt _
  · rw [if_neg hn, dec_digits_eq _ (by omega)]
    simp only [Option.bind_some]
    cases hb : digB (w ++ f) with
    | false => exact jt (txt (w ++ f))
    | true =>
      rw [if_pos rfl, Good_no e (by omega) (k + 1) (by omega) (fun q => hno ⟨(digB_iff _).1 hb, hn, q⟩)]
      exact jt (txt (w ++ f))
theorem extract_last (l : List UInt8) (y : UInt8) : (txt (l ++ [y])).extract 0 l.length = txt l := by
  apply ext_list
  rw [extract_take, txt_list, txt_list, List.take_left']
  rfl
theorem zs_succ (n : Nat) : zs (n + 1) = zs n ++ [48] := by unfold zs; rw [List.replicate_succ']
theorem makeN_split (neg : Bool) (l : List UInt8) (x : Int) : (∃ n, l = zs n ∧ makeN neg l x = (0, neg, txt [48], txt [48], true)) ∨ ∃ a c b, l = zs a ++ c ++ zs b ∧ HeadNo c ∧ LastNo c ∧ c ≠ [] ∧ makeN neg l x = (0, neg, txt c, num (x + b), true) := by
  rcases split3 l with ⟨n, rfl⟩ | ⟨a, c, b, rfl, h1, h2, h3⟩
  · left
    refine ⟨n, rfl, ?_⟩
    unfold makeN
    rw [trims_noughts, if_pos (show trimLeftS [] [48] = [] from rfl)]
  · right
    refine ⟨a, c, b, rfl, h1, h2, h3, ?_⟩
    obtain ⟨e1, e2⟩ := trims_core (a := a) (b := b) h1 h2 h3
    unfold makeN
    rw [e1, e2, if_neg h3]
    have : ((zs a ++ c ++ zs b).length : Int) - ((zs a ++ c).length : Int) = (b : Int) := by
      have e3 : (zs a ++ c ++ zs b).length = (zs a ++ c).length + b := by rw [List.length_append, zs_length]
      omega
    rw [this]
/-- what is made of texts: by the program and by the reference -/
def makeT (neg : Bool) (w f e : ByteArray) (r : D5) : Prop :=
  (∃ z, Digs (w.data.toList ++ f.data.toList) ∧ w.data.toList ++ f.data.toList ≠ [] ∧ e = num z ∧ r = makeN neg (w.data.toList ++ f.data.toList) (z - f.size)) ∨
  (¬ (Digs (w.data.toList ++ f.data.toList) ∧ w.data.toList ++ f.data.toList ≠ [] ∧ IsNum e.data.toList) ∧ r = zeroD)
end Go.Proofs.YtkijneohhilboaaDoor.DecSpec
