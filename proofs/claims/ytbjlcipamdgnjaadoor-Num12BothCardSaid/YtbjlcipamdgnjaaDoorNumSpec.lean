/- Numbers of the new schema, on byte lists: what num12 computes. No conditions but sizes. -/
import Derived.Test.YtbjlcipamdgnjaaDoorSigns
import Derived.Test.YtbjlcipamdgnjaaDoorPNx2
import Derived.Test.YtbjlcipamdgnjaaDoorPNx3
import Derived.Test.YtbjlcipamdgnjaaDoorPNx5
namespace Go.Proofs.YtbjlcipamdgnjaaDoor.NumSpec
set_option linter.unusedSimpArgs false
set_option linter.unusedVariables false
open Go.RowKit Go.Lib Go.Proofs.YtbjlcipamdgnjaaDoor.Room Go.Proofs.YtbjlcipamdgnjaaDoor.PN Go.Proofs.YtbjlcipamdgnjaaDoorW.PrintWords Go.Proofs.YtbjlcipamdgnjaaDoor.Aid Go.Proofs.YtbjlcipamdgnjaaDoor.Num Go.Proofs.YtbjlcipamdgnjaaDoor.BigFns Go.Proofs.YtbjlcipamdgnjaaDoor.BigQ Go.Proofs.YtbjlcipamdgnjaaDoor.RefBig Go.Proofs.YtbjlcipamdgnjaaDoor.DecSpec

theorem signed_eq (l : List UInt8) : num12_signed.f (txt l) = some (txt (sg l).1, txt (sg l).2) := by
  cases l with
  | nil => unfold num12_signed.f; rw [txt_toList, if_pos rfl]; rfl
  | cons x r =>
    have hl : (1 : Int) ≤ ((x :: r).length : Int) := by rw [List.length_cons]; omega
    unfold num12_signed.f
    rw [txt_toList, if_neg (by simp), bt_head, take_one, extract_one, txt_size, if_pos (by omega)]
    by_cases h1 : x = 43
    · rw [h1, if_pos (show ((43 : UInt8).toNat : Int) = 43 from rfl), if_pos (show (0 : Nat) ≤ 1 by decide), if_pos (h1 ▸ hl)]; rfl
    · rw [if_neg (ne43 h1)]
      by_cases h2 : x = 45
      · rw [h2, if_pos (show ((45 : UInt8).toNat : Int) = 45 from rfl), if_pos (show (0 : Nat) ≤ 1 by decide), if_pos (h2 ▸ hl)]; rfl
      · rw [if_neg (ne45 h2)]
        have : sg (x :: r) = ([], x :: r) := by unfold sg; dsimp only; rw [if_neg (by simp [h1, h2])]
        rw [this]; rfl

def normS (l : List UInt8) : ByteArray := if okD (sg l).2 = true then num (sv l) else ⟨#[]⟩
theorem norm_sg (l : List UInt8) (hs : l.length ≤ 1000000) (k : Nat) (hk : l.length + 1 ≤ k) : big_Norm.f k ((txt (sg l).1).toList == ([45] : List UInt8)) (txt (sg l).2) = some (normS l) := by
  have := sg_len l
  rw [beq_txt, Norm_any _ _ (by omega) k (by omega)]
  rfl

/-! ### whole numbers -/
def int12 (l : List UInt8) : ByteArray :=
  if l.take 2 = [48, 111] then (if l.drop 2 = [] then ⟨#[]⟩ else baseT 8 (l.drop 2)) else
  if l.take 2 = [48, 120] then (if l.drop 2 = [] then ⟨#[]⟩ else baseT 16 (l.drop 2)) else normS l
theorem Int_eq (l : List UInt8) (hs : l.length ≤ 100) (k : Nat) (hk : 800 ≤ k) : num12_Int.f k (txt l) = some (int12 l, ((int12 l).toList != ([] : List UInt8))) := by
  unfold num12_Int.f
  rw [signed_eq]
  simp only [Option.bind_some]
  rw [hasPrefix2]
  simp only [Option.bind_some]
  unfold int12
  by_cases h1 : l.take 2 = [48, 111]
  · have hl : 2 ≤ l.length := by have := congrArg List.length h1; rw [List.length_take] at this; simp at this; omega
    rw [decide_eq_true h1, if_pos rfl, if_pos h1, txt_size, if_pos (by omega), ← txt_size l, extract_drop]
    have := Base_any 8 (by omega) (l.drop 2) (by rw [List.length_drop]; omega) k hk
    rw [show ((8 : Nat) : Int) = 8 from rfl] at this
    rw [this]; rfl
  · rw [decide_eq_false h1, if_neg (by simp), if_neg h1, hasPrefix2]
    simp only [Option.bind_some]
    by_cases h2 : l.take 2 = [48, 120]
    · have hl : 2 ≤ l.length := by have := congrArg List.length h2; rw [List.length_take] at this; simp at this; omega
      rw [decide_eq_true h2, if_pos rfl, if_pos h2, txt_size, if_pos (by omega), ← txt_size l, extract_drop]
      have := Base_any 16 (by omega) (l.drop 2) (by rw [List.length_drop]; omega) k hk
      rw [show ((16 : Nat) : Int) = 16 from rfl] at this
      rw [this]; rfl
    · rw [decide_eq_false h2, if_neg (by simp), if_neg h2, norm_sg l (by omega) k (by omega)]
      rfl

/-! ### decimals -/
theorem word_eq (s r : List UInt8) (k : Nat) (hk : 5 ≤ k) : num12_word.f k (txt s) (txt r) = some (wordD s r) := by
  obtain ⟨k, rfl⟩ : ∃ j, k = j + 1 := ⟨k - 1, by omega⟩
  unfold num12_word.f
  rw [txt_toList, three_beqs r _ _ _ (fun b => num12_word.j0 (k + 1) (txt s) (txt r) b)]
  show num12_word.j0 (k + 1) (txt s) (txt r) (infW r) = _
  simp only [num12_word.j0, txt_toList]
  rw [three_ifs r [46, 110, 97, 110] [46, 78, 97, 78] [46, 78, 65, 78]]
  show (if infW r = true then _ else if nanW r = true then _ else _) = _
  unfold wordD
  cases infW r with
  | true => rfl
  | false =>
    cases nanW r with
    | true => rfl
    | false => rfl
theorem digits_cut (l : List UInt8) (hs : l.length ≤ 1000000) : num12_digits.f (txt l) = some (txt (l.takeWhile isD), txt (l.dropWhile isD)) := by
  have ht : strings_TrimLeft.f (txt l) (⟨#[48, 49, 50, 51, 52, 53, 54, 55, 56, 57]⟩ : ByteArray) = some (txt (l.dropWhile isD)) := by
    unfold strings_TrimLeft.f
    rw [if_pos ⟨by decide, by decide, by rw [txt_size]; omega⟩]
    show some (txt (trimLeftS l ten)) = _
    unfold trimLeftS
    congr 2
    apply congrArg (fun p => List.dropWhile p l)
    funext x
    exact ten_contains x
  have hl := tw_len l
  unfold num12_digits.f
  rw [ht]
  simp only [Option.bind_some, txt_size]
  rw [wrap_id (by omega) (by omega), if_pos (by omega), if_pos (by omega), show ((l.length : Int) - ((l.dropWhile isD).length : Int)).toNat = (l.takeWhile isD).length by omega]
  congr 2
  apply ext_list
  rw [extract_take, txt_list, txt_list, take_tw]
/-- an exponent behind a decimal -/
def expo (t : List UInt8) : Option Int := match t with
  | [] => some 0
  | x :: r => if (x = 101 ∨ x = 69) ∧ okD (sg r).2 = true then some (sv r) else none
def fin (neg : Bool) (w f t : List UInt8) : D5 := match expo t with
  | none => zeroD
  | some z => if w ++ f = [] then zeroD else makeN neg (w ++ f) (z - f.length)
def frac (l : List UInt8) : List UInt8 × List UInt8 := match l with
  | [] => ([], [])
  | x :: q => if x = 46 then (q.takeWhile isD, q.dropWhile isD) else ([], x :: q)
def flo (neg : Bool) (l : List UInt8) : D5 := fin neg (l.takeWhile isD) (frac (l.dropWhile isD)).1 (frac (l.dropWhile isD)).2
def float12 (l : List UInt8) : D5 :=
  if (wordD (sg l).1 (sg l).2).2.2.2.2 = true then wordD (sg l).1 (sg l).2 else
  if (int12 l).toList ≠ [] then zeroD else flo ((sg l).1 == [45]) (sg l).2
end Go.Proofs.YtbjlcipamdgnjaaDoor.NumSpec
