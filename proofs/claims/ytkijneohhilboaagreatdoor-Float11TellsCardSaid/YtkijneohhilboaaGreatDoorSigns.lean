/- Signs ahead of numbers' texts, on byte lists: what the chapters 6 to 8 share. No conditions but sizes. -/
import Derived.Test.YtkijneohhilboaaGreatDoorDecSpec2
import Derived.Test.YtkijneohhilboaaGreatDoorRefBase
import Derived.Test.YtkijneohhilboaaGreatDoorPTx12
import Derived.Test.YtkijneohhilboaaGreatDoorPTx13
namespace Go.Proofs.YtkijneohhilboaaGreatDoor.NumSpec
set_option linter.unusedSimpArgs false
set_option linter.unusedVariables false
open Go.RowKit Go.Lib Go.Proofs.YtkijneohhilboaaGreatDoor.Room Go.Proofs.YtkijneohhilboaaGreatDoor.PT Go.Proofs.YtkijneohhilboaaGreatDoorW.PrintWords Go.Proofs.YtkijneohhilboaaGreatDoor.Aid Go.Proofs.YtkijneohhilboaaGreatDoor.Num Go.Proofs.YtkijneohhilboaaGreatDoor.BigFns Go.Proofs.YtkijneohhilboaaGreatDoor.BigQ Go.Proofs.YtkijneohhilboaaGreatDoor.RefBig Go.Proofs.YtkijneohhilboaaGreatDoor.DecSpec
/-- a sign ahead, what stands behind it -/
def sg (l : List UInt8) : List UInt8 × List UInt8 := match l with | [] => ([], []) | x :: r => if x = 43 ∨ x = 45 then ([x], r) else ([], x :: r)
theorem sg_len (l : List UInt8) : (sg l).2.length ≤ l.length := by
  cases l with
  | nil => exact Nat.le_refl _
  | cons x r => unfold sg; dsimp only; split <;> simp
theorem sg_app (l : List UInt8) : (sg l).1 ++ (sg l).2 = l := by
  cases l with
  | nil => rfl
  | cons x r => unfold sg; dsimp only; split <;> rfl
theorem take_one (x : UInt8) (r : List UInt8) : (txt (x :: r)).extract 0 1 = txt [x] := by
  apply ext_list; rw [extract_take, txt_list, txt_list]; rfl
theorem ne43 {x : UInt8} (h : x ≠ 43) : ¬ (x.toNat : Int) = 43 := fun e => h (UInt8.toNat_inj.1 (by have : (43 : UInt8).toNat = 43 := rfl; omega))
theorem nez {x : UInt8} {n : Nat} (hn : n < 256) (h : x ≠ UInt8.ofNat n) : ¬ (x.toNat : Int) = (n : Int) := fun e => h (UInt8.toNat_inj.1 (by rw [UInt8.toNat_ofNat']; omega))
/-- a whole number of a sign and digits -/
def sv (l : List UInt8) : Int := if ((sg l).1 == [45]) = true then -(val (sg l).2 : Int) else (val (sg l).2 : Int)
theorem num_ne (z : Int) : (num z).toList ≠ [] := by
  unfold num; rw [txt_toList]
  rcases Int.lt_or_le z 0 with h | h
  · rw [itoa_off h]; simp
  · rw [itoa_of h]
    have := (dec_head z.natAbs)
    intro e
    have hl := dec_pos z.natAbs
    rw [e] at hl; simp at hl
theorem Norm_any (neg : Bool) (l : List UInt8) (hs : l.length ≤ 1000000) (k : Nat) (hk : l.length + 1 ≤ k) : big_Norm.f k neg (txt l) = some (if okD l = true then num (if neg = true then -(val l : Int) else (val l : Int)) else ⟨#[]⟩) := by
  cases h : okD l with
  | true =>
    obtain ⟨h1, h2⟩ := (okD_iff _).1 h
    rw [if_pos rfl, Norm_eq neg l h1 h2 hs k hk]
  | false => rw [if_neg (by simp), Norm_no neg l hs k hk h]
theorem rNorm_any (neg : Bool) (l : List UInt8) (hs : l.length ≤ 1000000) (k : Nat) (hk : l.length + 1 ≤ k) : targumref4_Norm.f k neg (txt l) = some (if okD l = true then num (if neg = true then -(val l : Int) else (val l : Int)) else ⟨#[]⟩) := by
  cases h : okD l with
  | true =>
    obtain ⟨h1, h2⟩ := (okD_iff _).1 h
    rw [if_pos rfl, rNorm_eq neg l h1 h2 hs k hk]
  | false => rw [if_neg (by simp), rNorm_no neg l hs k hk h]
theorem beq_txt (l m : List UInt8) : ((txt l).toList == m) = (l == m) := by rw [txt_toList]
theorem ne48' {x : UInt8} (h : x ≠ 48) : ¬ (x.toNat : Int) = 48 := fun e => h (UInt8.toNat_inj.1 (by have : (48 : UInt8).toNat = 48 := rfl; omega))
theorem bt_one (x y : UInt8) (r : List UInt8) : bt (txt (x :: y :: r)) 1 = (y.toNat : Int) := by
  rw [bt_ba, txt_list]; rfl
theorem rsign_eq (l : List UInt8) : targumref6_sign.f (txt l) = some (txt (sg l).2, ((sg l).1 == [45])) := by
  unfold targumref6_sign.f
  cases l with
  | nil => rw [txt_size, if_neg (by simp)]; rfl
  | cons x r =>
    have hl : (1 : Int) ≤ ((x :: r).length : Int) := by rw [List.length_cons]; omega
    rw [bt_head, extract_one, txt_size, if_pos (by omega), if_pos (by omega)]
    by_cases h1 : x = 43
    · rw [h1, if_pos (show ((43 : UInt8).toNat : Int) = 43 from rfl), if_pos (h1 ▸ hl)]; rfl
    · rw [if_neg (ne43 h1)]
      by_cases h2 : x = 45
      · rw [h2, if_pos (show ((45 : UInt8).toNat : Int) = 45 from rfl), if_pos (h2 ▸ hl)]; rfl
      · rw [if_neg (ne45 h2)]
        have : sg (x :: r) = ([], x :: r) := by unfold sg; dsimp only; rw [if_neg (by simp [h1, h2])]
        rw [this]; rfl
theorem okD_sg_no {x : UInt8} {r : List UInt8} (h : x ≠ 43) (h' : x ≠ 45) : (sg (x :: r)).2 = x :: r := by
  unfold sg; dsimp only; rw [if_neg (by simp [h, h'])]
theorem dec_len_val (l : List UInt8) (h : Digs l) : (decDigits (val l)).length ≤ l.length + 1 := by
  rw [decDigits_length]
  refine nDigits_le l.length _ (Nat.lt_of_lt_of_le (val_lt l h) (Nat.pow_le_pow_right (by decide) (by omega)))
theorem sg_digs {l : List UInt8} (h : Digs l) : sg l = ([], l) := by
  cases l with
  | nil => rfl
  | cons x r =>
    have hx := h x List.mem_cons_self
    unfold sg; dsimp only
    rw [if_neg]
    rintro (e | e) <;> (subst e; exact absurd hx.1 (by decide))
theorem sg_sign {x : UInt8} (h : x = 43 ∨ x = 45) (r : List UInt8) : sg (x :: r) = ([x], r) := by
  unfold sg; dsimp only; rw [if_pos h]
theorem nil_toList : (⟨#[]⟩ : ByteArray).toList = ([] : List UInt8) := txt_toList []
def isD (x : UInt8) : Bool := decide (48 ≤ x.toNat ∧ x.toNat ≤ 57)
def infW (l : List UInt8) : Bool := l == [46, 105, 110, 102] || l == [46, 73, 110, 102] || l == [46, 73, 78, 70]
def nanW (l : List UInt8) : Bool := l == [46, 110, 97, 110] || l == [46, 78, 97, 78] || l == [46, 78, 65, 78]
/-- the words: infinite, no number -/
def wordD (s r : List UInt8) : D5 :=
  if infW r = true then (1, (s == [45]), ⟨#[]⟩, ⟨#[]⟩, true) else
  if nanW r = true then (2, false, ⟨#[]⟩, ⟨#[]⟩, (s == [])) else zeroD
theorem three_ifs {α : Type} (r a b c : List UInt8) (x y : α) : (if r = a then x else if r = b then x else if r = c then x else y) = if (r == a || r == b || r == c) = true then x else y := by
  by_cases h1 : r = a
  · rw [if_pos h1, if_pos (by rw [beq_iff_eq.2 h1]; rfl)]
  · rw [if_neg h1, beq_eq_false_iff_ne.2 h1]
    by_cases h2 : r = b
    · rw [if_pos h2, if_pos (by rw [beq_iff_eq.2 h2]; rfl)]
    · rw [if_neg h2, beq_eq_false_iff_ne.2 h2]
      by_cases h3 : r = c
      · rw [if_pos h3, if_pos (by rw [beq_iff_eq.2 h3]; rfl)]
      · rw [if_neg h3, beq_eq_false_iff_ne.2 h3, if_neg (by decide)]
theorem three_beqs {α : Type} (r a b c : List UInt8) (g : Bool → α) : (if r = a then g (r == a) else if r = b then g (r == b) else g (r == c)) = g (r == a || r == b || r == c) := by
  by_cases h1 : r = a
  · rw [if_pos h1, beq_iff_eq.2 h1]; rfl
  · rw [if_neg h1, beq_eq_false_iff_ne.2 h1]
    by_cases h2 : r = b
    · rw [if_pos h2, beq_iff_eq.2 h2]; rfl
    · rw [if_neg h2, beq_eq_false_iff_ne.2 h2]; rfl
theorem tw_len (l : List UInt8) : (l.takeWhile isD).length + (l.dropWhile isD).length = l.length := by
  rw [← List.length_append, List.takeWhile_append_dropWhile]
theorem take_tw (l : List UInt8) : l.take (l.takeWhile isD).length = l.takeWhile isD := by
  conv => lhs; rw [← List.takeWhile_append_dropWhile (p := isD) (l := l)]
  rw [show (List.takeWhile isD (List.takeWhile isD l ++ List.dropWhile isD l)) = l.takeWhile isD by rw [List.takeWhile_append_dropWhile]]
  exact List.take_left' rfl
theorem drop_tw (l : List UInt8) : l.drop (l.takeWhile isD).length = l.dropWhile isD := by
  conv => lhs; rw [← List.takeWhile_append_dropWhile (p := isD) (l := l)]
  rw [show (List.takeWhile isD (List.takeWhile isD l ++ List.dropWhile isD l)) = l.takeWhile isD by rw [List.takeWhile_append_dropWhile]]
  exact List.drop_left' rfl
theorem tw_digs (l : List UInt8) : Digs (l.takeWhile isD) := by
  intro x hx
  have := List.all_eq_true.1 (List.all_takeWhile (p := isD) (l := l)) x hx
  exact of_decide_eq_true (p := 48 ≤ x.toNat ∧ x.toNat ≤ 57) this
theorem rodd_eq (l : List UInt8) (neg sgd : Bool) (k : Nat) (hk : 5 ≤ k) : targumref6_odd.f k (txt l) neg sgd = some (if infW l = true then (1, neg, ⟨#[]⟩, ⟨#[]⟩, true) else if nanW l = true then (if sgd = true then zeroD else (2, false, ⟨#[]⟩, ⟨#[]⟩, true)) else zeroD) := by
  obtain ⟨k, rfl⟩ : ∃ j, k = j + 2 := ⟨k - 2, by omega⟩
  unfold targumref6_odd.f
  rw [txt_toList, three_beqs l _ _ _ (fun b => targumref6_odd.j0 (k + 1 + 1) neg sgd (txt l) b)]
  show targumref6_odd.j0 (k + 1 + 1) neg sgd (txt l) (infW l) = _
  simp only [targumref6_odd.j0, txt_toList]
  rw [three_beqs l _ _ _ (fun b => targumref6_odd.j1 (k + 1) sgd b)]
  show (if infW l = true then _ else targumref6_odd.j1 (k + 1) sgd (nanW l)) = _
  simp only [targumref6_odd.j1]
  cases infW l with
  | true => rfl
  | false =>
    cases nanW l with
    | true => cases sgd <;> rfl
    | false => rfl
end Go.Proofs.YtkijneohhilboaaGreatDoor.NumSpec
