/- Numbers of the new schema, on byte lists: the reference's side, and num12.Float. No conditions but sizes. -/
import Derived.Test.YtbjlcipamdgnjaaDoorNumSpec
import Derived.Test.YtbjlcipamdgnjaaDoorPNx7
import Derived.Test.YtbjlcipamdgnjaaDoorPNx10
import Derived.Test.YtbjlcipamdgnjaaDoorPNx11
import Derived.Test.YtbjlcipamdgnjaaDoorPNx12
namespace Go.Proofs.YtbjlcipamdgnjaaDoor.NumSpec
set_option linter.unusedSimpArgs false
set_option linter.unusedVariables false
open Go.RowKit Go.Lib Go.Proofs.YtbjlcipamdgnjaaDoor.Room Go.Proofs.YtbjlcipamdgnjaaDoor.PN Go.Proofs.YtbjlcipamdgnjaaDoorW.PrintWords Go.Proofs.YtbjlcipamdgnjaaDoor.Aid Go.Proofs.YtbjlcipamdgnjaaDoor.Num Go.Proofs.YtbjlcipamdgnjaaDoor.BigFns Go.Proofs.YtbjlcipamdgnjaaDoor.BigQ Go.Proofs.YtbjlcipamdgnjaaDoor.RefBig Go.Proofs.YtbjlcipamdgnjaaDoor.DecSpec

theorem rsign_eq (l : List UInt8) : targumref6_sign.f (txt l) = some (txt (sg l).2, ((sg l).1 == [45])) := by
  unfold targumref6_sign.f
  cases l with
  | nil => rw [txt_size, if_neg (by simp)]; rfl
  | cons x r =>
    have hl : (1 : Int) ≤ ((x :: r).length : Int) := by rw [List.length_cons]; omega
    rw [bt_head, extract_one, txt_size, if_pos (by omega), if_pos (by omega)]
    by_cases h1 : x = 43
    · rw [h1, if_pos (show ((43 : UInt8).toNat : Int) = 43 from rfl), if_pos (h1 ▸ hl)]; rfl
    · rw [if_neg (ne43 h1)]
      by_cases h2 : x = 45
      · rw [h2, if_pos (show ((45 : UInt8).toNat : Int) = 45 from rfl), if_pos (h2 ▸ hl)]; rfl
      · rw [if_neg (ne45 h2)]
        have : sg (x :: r) = ([], x :: r) := by unfold sg; dsimp only; rw [if_neg (by simp [h1, h2])]
        rw [this]; rfl
theorem rNorm_any (neg : Bool) (l : List UInt8) (hs : l.length ≤ 1000000) (k : Nat) (hk : l.length + 1 ≤ k) : targumref4_Norm.f k neg (txt l) = some (if okD l = true then num (if neg = true then -(val l : Int) else (val l : Int)) else ⟨#[]⟩) := by
  cases h : okD l with
  | true =>
    obtain ⟨h1, h2⟩ := (okD_iff _).1 h
    rw [if_pos rfl, rNorm_eq neg l h1 h2 hs k hk]
  | false => rw [if_neg (by simp), rNorm_no neg l hs k hk h]
theorem ne48' {x : UInt8} (h : x ≠ 48) : ¬ (x.toNat : Int) = 48 := fun e => h (UInt8.toNat_inj.1 (by have : (48 : UInt8).toNat = 48 := rfl; omega))
theorem bt_one (x y : UInt8) (r : List UInt8) : bt (txt (x :: y :: r)) 1 = (y.toNat : Int) := by
  rw [bt_ba, txt_list]; rfl
theorem rInt_j0_no (l : List UInt8) (hs : l.length ≤ 100) (k : Nat) (hk : 800 ≤ k) : targumref6_Int12.j0 (k + 1) (txt l) false = some (normS l, ((normS l).toList != ([] : List UInt8))) := by
  have := sg_len l
  simp only [targumref6_Int12.j0, Bool.false_eq_true, if_false]
  rw [rsign_eq]
  simp only [Option.bind_some]
  rw [rNorm_any _ _ (by omega) k (by omega)]
  rfl
theorem okD_sg_no {x : UInt8} {r : List UInt8} (h : x ≠ 43) (h' : x ≠ 45) : (sg (x :: r)).2 = x :: r := by
  unfold sg; dsimp only; rw [if_neg (by simp [h, h'])]
theorem rInt_eq (l : List UInt8) (hs : l.length ≤ 100) (k : Nat) (hk : 900 ≤ k) : targumref6_Int12.f k (txt l) = some (int12 l, ((int12 l).toList != ([] : List UInt8))) := by
  obtain ⟨k, rfl⟩ : ∃ j, k = j + 1 := ⟨k - 1, by omega⟩
  unfold targumref6_Int12.f
  have J := rInt_j0_no l hs k (by omega)
  rw [txt_size]
  match l, hs, J with
  | [], hs, J => rw [if_neg (by simp), J]; rfl
  | [x], hs, J =>
    rw [if_neg (by simp), J]
    unfold int12
    rw [if_neg (by simp), if_neg (by simp)]
  | [x, y], hs, J =>
    rw [if_neg (by simp), J]
    unfold int12
    by_cases h1 : List.take 2 [x, y] = [48, 111]
    · have e : [x, y] = [48, 111] := h1
      rw [if_pos h1, e]
      rfl
    · rw [if_neg h1]
      by_cases h2 : List.take 2 [x, y] = [48, 120]
      · have e : [x, y] = [48, 120] := h2
        rw [if_pos h2, e]
        rfl
      · rw [if_neg h2]
  | x :: y :: z :: r, hs, J =>
    have hl : (2 : Int) < ((x :: y :: z :: r).length : Int) := by simp only [List.length_cons]; omega
    have hd : ¬ (z :: r = []) := by simp
    rw [if_pos (show ((x :: y :: z :: r).length : Int) > 2 from hl), if_pos (by omega), bt_head, bt_one]
    unfold int12
    rw [show (x :: y :: z :: r).take 2 = [x, y] from rfl, show (x :: y :: z :: r).drop 2 = z :: r from rfl, if_neg hd, if_neg hd]
    by_cases h0 : x = 48
    · rw [h0, if_pos (show ((48 : UInt8).toNat : Int) = 48 from rfl), if_pos (by simp only [List.length_cons]; omega)]
      by_cases h1 : y = 111
      · rw [h1, if_pos (show ((111 : UInt8).toNat : Int) = 111 from rfl), if_pos (show ([48, 111] : List UInt8) = [48, 111] from rfl)]
        simp only [targumref6_Int12.j0, if_true]
        rw [bt_one, txt_size, if_pos (by simp only [List.length_cons]; omega), if_neg (by decide), if_pos (by simp only [List.length_cons]; omega), ← txt_size (48 :: 111 :: z :: r), extract_drop]
        have := rBase_any 8 (by omega) (z :: r) (by simp only [List.length_cons] at hs ⊢; omega) k (by omega)
        rw [if_neg hd] at this
        rw [show (48 :: 111 :: z :: r).drop 2 = z :: r from rfl, show (8 : Int) = ((8 : Nat) : Int) from rfl, this]
        rfl
      · rw [if_neg (show ¬ (y.toNat : Int) = 111 from nez (n := 111) (by omega) h1)]
        by_cases h2 : y = 120
        · rw [h2, if_neg (show ¬ ([48, 120] : List UInt8) = [48, 111] by decide), if_pos (show ([48, 120] : List UInt8) = [48, 120] from rfl), show (((120 : UInt8).toNat : Int) == 120) = true from rfl]
          simp only [targumref6_Int12.j0, if_true]
          rw [bt_one, txt_size, if_pos (by simp only [List.length_cons]; omega), if_pos (by decide), if_pos (by simp only [List.length_cons]; omega), ← txt_size (48 :: 120 :: z :: r), extract_drop]
          have := rBase_any 16 (by omega) (z :: r) (by simp only [List.length_cons] at hs ⊢; omega) k (by omega)
          rw [if_neg hd] at this
          rw [show (48 :: 120 :: z :: r).drop 2 = z :: r from rfl, show (16 : Int) = ((16 : Nat) : Int) from rfl, this]
          rfl
        · rw [if_neg (by simp [h1]), if_neg (by simp [h2]), show ((y.toNat : Int) == 120) = false from beq_eq_false_iff_ne.2 (nez (n := 120) (by omega) h2), ← h0, J]
    · rw [if_neg (ne48' h0), if_neg (by simp [h0]), if_neg (by simp [h0]), J]

/-! ### the words -/
theorem rodd_eq (l : List UInt8) (neg sgd : Bool) (k : Nat) (hk : 5 ≤ k) : targumref6_odd.f k (txt l) neg sgd = some (if infW l = true then (1, neg, ⟨#[]⟩, ⟨#[]⟩, true) else if nanW l = true then (if sgd = true then zeroD else (2, false, ⟨#[]⟩, ⟨#[]⟩, true)) else zeroD) := by
  obtain ⟨k, rfl⟩ : ∃ j, k = j + 2 := ⟨k - 2, by omega⟩
  unfold targumref6_odd.f
  rw [txt_toList, three_beqs l _ _ _ (fun b => targumref6_odd.j0 (k + 1 + 1) neg sgd (txt l) b)]
  show targumref6_odd.j0 (k + 1 + 1) neg sgd (txt l) (infW l) = _
  simp only [targumref6_odd.j0, txt_toList]
  rw [three_beqs l _ _ _ (fun b => targumref6_odd.j1 (k + 1) sgd b)]
  show (if infW l = true then _ else targumref6_odd.j1 (k + 1) sgd (nanW l)) = _
  simp only [targumref6_odd.j1]
  cases infW l with
  | true => rfl
  | false =>
    cases nanW l with
    | true => cases sgd <;> rfl
    | false => rfl
/-! ### the exponent -/
theorem rtail_eq (t : List UInt8) (hs : t.length ≤ 1000) (k : Nat) (hk : 2000 ≤ k) : targumref6_tail.f k (txt t) true = some (match expo t with | some z => (num z, true) | none => ((⟨#[]⟩ : ByteArray), false)) := by
  obtain ⟨k, rfl⟩ : ∃ j, k = j + 1 := ⟨k - 1, by omega⟩
  cases t with
  | nil => unfold targumref6_tail.f; rw [txt_toList, if_pos rfl, num_zero]; rfl
  | cons x r =>
    have hl : (1 : Int) ≤ ((x :: r).length : Int) := by rw [List.length_cons]; omega
    have hr : r.length ≤ 1000 := by rw [List.length_cons] at hs; omega
    have hsg := sg_len r
    have J : targumref6_tail.j0 (k + 1) (txt (x :: r)) true false = some (if okD (sg r).2 = true then (num (sv r), true) else ((⟨#[]⟩ : ByteArray), false)) := by
      have hb : ((targumref4_Digits.f k (txt (sg r).2)).bind fun t273 => (if t273 = true then ((targumref4_Norm.f k ((sg r).1 == [45]) (txt (sg r).2)).bind fun t274 => (some (t274, true))) else (some ((⟨#[]⟩ : ByteArray), false)))) = some (if okD (sg r).2 = true then (num (sv r), true) else ((⟨#[]⟩ : ByteArray), false)) := by
        rw [rDigits_any _ (by omega) k (by omega)]
        simp only [Option.bind_some]
        cases h : okD (sg r).2 with
        | true =>
          rw [if_pos rfl, if_pos rfl, rNorm_any _ _ (by omega) k (by omega), h]
          rfl
        | false => rfl
      simp only [targumref6_tail.j0, Bool.false_eq_true, if_false, if_true]
      rw [txt_size, if_pos hl, ← txt_size (x :: r), extract_one, rsign_eq]
      simp only [Option.bind_some]
      rw [hb]
      exact ite_self _
    have Jt : ∀ b, b = true → targumref6_tail.j0 (k + 1) (txt (x :: r)) true b = some ((⟨#[]⟩ : ByteArray), false) := fun b hb => by
      simp only [targumref6_tail.j0, hb, if_true]
    unfold targumref6_tail.f
    rw [txt_toList, if_neg (by simp), bt_head, txt_size, if_pos (by omega)]
    show _ = some (match (if (x = 101 ∨ x = 69) ∧ okD (sg r).2 = true then some (sv r) else none) with | some z => (num z, true) | none => ((⟨#[]⟩ : ByteArray), false))
    by_cases h1 : x = 101
    · rw [if_pos (show (x.toNat : Int) = 101 by rw [h1]; rfl), J]
      cases h : okD (sg r).2 with
      | true => rw [if_pos rfl, if_pos ⟨.inl h1, rfl⟩]
      | false => rw [if_neg (by simp), if_neg (by simp)]
    · rw [if_neg (show ¬ (x.toNat : Int) = 101 from nez (n := 101) (by omega) h1)]
      by_cases h2 : x = 69
      · have hb : ((x.toNat : Int) != 69) = false := by rw [h2]; rfl
        rw [hb, J]
        cases h : okD (sg r).2 with
        | true => rw [if_pos rfl, if_pos ⟨.inr h2, rfl⟩]
        | false => rw [if_neg (by simp), if_neg (by simp)]
      · have hb : ((x.toNat : Int) != 69) = true := bne_iff_ne.2 (nez (n := 69) (by omega) h2)
        rw [Jt _ hb, if_neg (by simp [h1, h2])]
end Go.Proofs.YtbjlcipamdgnjaaDoor.NumSpec
