/- Decimals of the new schema: num12.Float and the reference's Float12 compute float12. No conditions but sizes. -/
import Derived.Test.YtbjlcipamdgnjaaDoorNumSpec
namespace Go.Proofs.YtbjlcipamdgnjaaDoor.NumSpec
set_option linter.unusedSimpArgs false
set_option linter.unusedVariables false
open Go.RowKit Go.Lib Go.Proofs.YtbjlcipamdgnjaaDoor.Room Go.Proofs.YtbjlcipamdgnjaaDoor.PN Go.Proofs.YtbjlcipamdgnjaaDoorW.PrintWords Go.Proofs.YtbjlcipamdgnjaaDoor.Aid Go.Proofs.YtbjlcipamdgnjaaDoor.Num Go.Proofs.YtbjlcipamdgnjaaDoor.BigFns Go.Proofs.YtbjlcipamdgnjaaDoor.BigQ Go.Proofs.YtbjlcipamdgnjaaDoor.RefBig Go.Proofs.YtbjlcipamdgnjaaDoor.DecSpec

theorem sv_len (l : List UInt8) (h : Digs (sg l).2) : (itoa (sv l)).length ≤ l.length + 2 := by
  have h1 := sg_len l
  have h2 := dec_len_val _ h
  have h3 := itoa_len (sv l)
  have : (sv l).natAbs = val (sg l).2 := by unfold sv; split <;> omega
  rw [this] at h3
  omega
theorem eta5 (o : Option D5) : (o.bind fun b => (some (b.1, b.2.1, b.2.2.1, b.2.2.2.1, b.2.2.2.2))) = o := by cases o <;> rfl

/-! ### what the program makes of a whole, a fraction and what stands behind them -/
def expF (k : Nat) (neg : Bool) (w f t : ByteArray) : Option D5 := if 1 ≤ (t.size : Int) then ((num12_signed.f (t.extract 1 t.size)).bind fun b => ((big_Norm.f k (b.1.toList == ([45] : List UInt8)) b.2).bind fun z => (if z.toList = ([] : List UInt8) then (some (0, false, (⟨#[]⟩ : ByteArray), (⟨#[]⟩ : ByteArray), false)) else ((dec_Make.f k neg w f z).bind fun c => (some (c.1, c.2.1, c.2.2.1, c.2.2.2.1, c.2.2.2.2)))))) else (none)
def finF (k : Nat) (neg : Bool) (w f t : ByteArray) : Option D5 := if w.size + f.size ≤ 9223372036854775807 then (if (w ++ f).toList = ([] : List UInt8) then (some (0, false, (⟨#[]⟩ : ByteArray), (⟨#[]⟩ : ByteArray), false)) else (if t.toList = ([] : List UInt8) then ((dec_Make.f k neg w f (⟨#[48]⟩ : ByteArray)).bind fun c => (some (c.1, c.2.1, c.2.2.1, c.2.2.2.1, c.2.2.2.2))) else (if 0 < (t.size : Int) then (if (bt t 0) = 101 then expF k neg w f t else (if (bt t 0) = 69 then expF k neg w f t else (some (0, false, (⟨#[]⟩ : ByteArray), (⟨#[]⟩ : ByteArray), false)))) else (none)))) else (none)
theorem expF_eq (neg : Bool) (w f : List UInt8) (x : UInt8) (r : List UInt8) (hw : w.length ≤ 1000) (hf : f.length ≤ 1000) (hr : r.length ≤ 1000) (hd : Digs (w ++ f)) (hne : w ++ f ≠ []) (k : Nat) (hk : 11000 ≤ k) :
    expF k neg (txt w) (txt f) (txt (x :: r)) = some (if okD (sg r).2 = true then makeN neg (w ++ f) (sv r - f.length) else zeroD) := by
  have hsg := sg_len r
  unfold expF
  rw [extract_one, txt_size, if_pos (by rw [List.length_cons]; omega), signed_eq]
  simp only [Option.bind_some]
  rw [norm_sg r (by omega) k (by omega)]
  simp only [Option.bind_some]
  unfold normS
  cases h : okD (sg r).2 with
  | true =>
    have hl := sv_len r ((okD_iff _).1 h).1
    rw [if_pos rfl, if_pos rfl, if_neg (num_ne _), eta5, Make_yes neg w f (sv r) (by omega) (by omega) (by omega) hd hne k hk]
  | false =>
    rw [if_neg Bool.false_ne_true, if_neg Bool.false_ne_true, if_pos (show (⟨#[]⟩ : ByteArray).toList = [] from txt_toList [])]
    rfl
theorem finF_eq (neg : Bool) (w f t : List UInt8) (hw : w.length ≤ 1000) (hf : f.length ≤ 1000) (ht : t.length ≤ 1000) (hd : Digs (w ++ f)) (k : Nat) (hk : 11000 ≤ k) :
    finF k neg (txt w) (txt f) (txt t) = some (fin neg w f t) := by
  unfold finF fin
  rw [txt_size, txt_size, if_pos (by omega), app_txt, txt_toList]
  by_cases hne : w ++ f = []
  · rw [if_pos hne]
    cases expo t with
    | none => rfl
    | some z => dsimp only; rw [if_pos hne]; rfl
  · rw [if_neg hne]
    cases t with
    | nil =>
      have := Make_yes neg w f 0 (by omega) (by omega) (by rw [itoa_zero]; simp) hd hne k hk
      rw [txt_toList, if_pos rfl, num_zero, eta5, this]
      show _ = some (if w ++ f = [] then zeroD else makeN neg (w ++ f) (0 - f.length))
      rw [if_neg hne]
    | cons x r =>
      have hr : r.length ≤ 1000 := by rw [List.length_cons] at ht; omega
      have E := expF_eq neg w f x r hw hf hr hd hne k hk
      rw [txt_toList, if_neg (by simp), bt_head, txt_size, if_pos (by rw [List.length_cons]; omega), E]
      show _ = some (match (if (x = 101 ∨ x = 69) ∧ okD (sg r).2 = true then some (sv r) else none) with | none => zeroD | some z => if w ++ f = [] then zeroD else makeN neg (w ++ f) (z - f.length))
      by_cases h1 : x = 101
      · rw [if_pos (show (x.toNat : Int) = 101 by rw [h1]; rfl)]
        cases h : okD (sg r).2 with
        | true => rw [if_pos rfl, if_pos ⟨.inl h1, rfl⟩]; dsimp only; rw [if_neg hne]
        | false => rw [if_neg (by simp), if_neg (by simp)]
      · rw [if_neg (show ¬ (x.toNat : Int) = 101 from nez (n := 101) (by omega) h1)]
        by_cases h2 : x = 69
        · rw [if_pos (show (x.toNat : Int) = 69 by rw [h2]; rfl)]
          cases h : okD (sg r).2 with
          | true => rw [if_pos rfl, if_pos ⟨.inr h2, rfl⟩]; dsimp only; rw [if_neg hne]
          | false => rw [if_neg (by simp), if_neg (by simp)]
        · rw [if_neg (show ¬ (x.toNat : Int) = 69 from nez (n := 69) (by omega) h2), if_neg (by simp [h1, h2])]
          rfl
def dotB : List UInt8 → Bool
  | [] => false
  | x :: _ => x == 46
theorem hasDot (l : List UInt8) : strings_HasPrefix.f (txt l) (⟨#[46]⟩ : ByteArray) = some (dotB l) := by
  have hp : ∀ n, ((txt l).extract 0 n).toList = l.take n := fun n => by rw [Lib.toList_data, extract_take, txt_list]
  rw [show (⟨#[46]⟩ : ByteArray) = txt [46] from rfl]
  unfold strings_HasPrefix.f stringslite_HasPrefix.f
  rw [txt_size, txt_size, show ([46] : List UInt8).length = 1 from rfl]
  cases l with
  | nil => rfl
  | cons x r =>
    have h : ((x :: r).length : Int) ≥ ((1 : Nat) : Int) := by rw [List.length_cons]; omega
    have e : ((1 : Nat) : Int).toNat = 1 := rfl
    simp only [h, if_true, e, hp, txt_toList]
    rw [if_pos (by omega)]
    simp only [Option.bind_some]
    congr 1
    show ([x] == [46]) = (x == 46)
    rw [Bool.eq_iff_iff, beq_iff_eq, beq_iff_eq]
    simp
theorem dw_len (l : List UInt8) : (l.dropWhile isD).length ≤ l.length := by have := tw_len l; omega
theorem tw_le (l : List UInt8) : (l.takeWhile isD).length ≤ l.length := by have := tw_len l; omega
theorem Float_eq (l : List UInt8) (hs : l.length ≤ 100) (k : Nat) (hk : 11000 ≤ k) : num12_Float.f k (txt l) = some (float12 l) := by
  have hsg := sg_len l
  have hF : num12_Float.f k (txt l) = (num12_signed.f (txt l)).bind fun b => (num12_word.f k b.1 b.2).bind fun c => (if c.2.2.2.2 = true then (some (c.1, c.2.1, c.2.2.1, c.2.2.2.1, true)) else ((num12_Int.f k (txt l)).bind fun d => (if d.2 = true then (some (0, false, (⟨#[]⟩ : ByteArray), (⟨#[]⟩ : ByteArray), false)) else ((num12_digits.f b.2).bind fun e => ((strings_HasPrefix.f e.2 (⟨#[46]⟩ : ByteArray)).bind fun t => (if t = true then (if 1 ≤ (e.2.size : Int) then ((num12_digits.f (e.2.extract 1 e.2.size)).bind fun g => finF k (b.1.toList == ([45] : List UInt8)) e.1 g.1 g.2) else (none)) else finF k (b.1.toList == ([45] : List UInt8)) e.1 ⟨#[]⟩ e.2)))))) := rfl
  rw [hF, signed_eq]
  simp only [Option.bind_some]
  rw [word_eq _ _ k (by omega)]
  simp only [Option.bind_some]
  unfold float12
  cases h1 : (wordD (sg l).1 (sg l).2).2.2.2.2 with
  | true =>
    rw [if_pos rfl, if_pos rfl, ← h1]
  | false =>
    rw [if_neg Bool.false_ne_true, if_neg Bool.false_ne_true, Int_eq l hs k (by omega)]
    simp only [Option.bind_some]
    by_cases h2 : (int12 l).toList = []
    · rw [show ((int12 l).toList != ([] : List UInt8)) = false from by rw [h2]; rfl, if_neg Bool.false_ne_true, if_neg (by simpa using h2), digits_cut _ (by omega)]
      simp only [Option.bind_some]
      rw [hasDot]
      simp only [Option.bind_some]
      have hd := dw_len (sg l).2
      have hw := tw_le (sg l).2
      have dw := tw_digs (sg l).2
      unfold flo
      rw [txt_toList]
      generalize (sg l).2.dropWhile isD = R at hd
      generalize (sg l).2.takeWhile isD = W at hw dw
      cases R with
      | nil =>
        rw [show dotB [] = false from rfl, if_neg Bool.false_ne_true]
        exact finF_eq _ W [] [] (by omega) (by simp) (by simp) (by rw [List.append_nil]; exact dw) k hk
      | cons x q =>
        unfold frac
        dsimp only
        by_cases hx : x = 46
        · have hq : q.length ≤ 100 := by rw [List.length_cons] at hd; omega
          have a1 := dw_len q
          have a2 := tw_le q
          rw [show dotB (x :: q) = true from beq_iff_eq.2 hx, if_pos rfl, if_pos hx, txt_size, if_pos (by rw [List.length_cons]; omega), ← txt_size (x :: q), extract_one, digits_cut q (by omega)]
          exact finF_eq _ W _ _ (by omega) (by omega) (by omega) (dw.append (tw_digs q)) k hk
        · rw [show dotB (x :: q) = false from beq_eq_false_iff_ne.2 hx, if_neg Bool.false_ne_true, if_neg hx]
          exact finF_eq _ W [] (x :: q) (by omega) (by simp) (by omega) (by rw [List.append_nil]; exact dw) k hk
    · rw [show ((int12 l).toList != ([] : List UInt8)) = true from bne_iff_ne.2 h2, if_pos rfl, if_pos h2]
      rfl
/-- a word is no whole number -/
theorem word_int (l : List UInt8) (h : infW (sg l).2 = true ∨ nanW (sg l).2 = true) : int12 l = ⟨#[]⟩ := by
  have hr : ∃ r, (sg l).2 = 46 :: r := by
    unfold infW nanW at h
    simp only [Bool.or_eq_true, beq_iff_eq] at h
    rcases h with ((h | h) | h) | ((h | h) | h) <;> exact ⟨_, h⟩
  obtain ⟨r, hr⟩ := hr
  have hok : okD (sg l).2 = false := by rw [hr]; rfl
  have ha := sg_app l
  have hs : (sg l).1 = [] ∨ (sg l).1 = [43] ∨ (sg l).1 = [45] := by
    cases l with
    | nil => exact .inl rfl
    | cons x r =>
      unfold sg; dsimp only
      by_cases h1 : x = 43
      · rw [if_pos (.inl h1), h1]; exact .inr (.inl rfl)
      · by_cases h2 : x = 45
        · rw [if_pos (.inr h2), h2]; exact .inr (.inr rfl)
        · rw [if_neg (by simp [h1, h2])]; exact .inl rfl
  unfold int12 normS
  rw [hok, if_neg Bool.false_ne_true]
  have ht : ∀ y, l.take 2 ≠ [48, y] := fun y q => by
    rw [← ha, hr] at q
    rcases hs with e | e | e <;> rw [e] at q <;> simp at q
  rw [if_neg (ht _), if_neg (ht _)]
end Go.Proofs.YtbjlcipamdgnjaaDoor.NumSpec
