/- The reference's products, differences, sums, orders (targumref4): the numbers that they say. No conditions but sizes. -/
import Derived.Test.YtkijneohhilboaaDoorRefBig
namespace Go.Proofs.YtkijneohhilboaaDoor.RefBig
set_option linter.unusedSimpArgs false
set_option linter.unusedVariables false
open Go.RowKit Go.Lib Go.Proofs.YtkijneohhilboaaDoor.Room Go.Proofs.YtkijneohhilboaaDoor.PV Go.Proofs.YtkijneohhilboaaDoorW.PrintWords Go.Proofs.YtkijneohhilboaaDoor.Aid Go.Proofs.YtkijneohhilboaaDoor.Num Go.Proofs.YtkijneohhilboaaDoor.BigFns Go.Proofs.YtkijneohhilboaaDoor.BigQ
/-- bytes as numbers -/
def bz (l : List UInt8) : List Int := l.map fun b => (b.toNat : Int)
theorem bz_str (l : List UInt8) : strOfNums (bz l) = txt l := by
  apply ext_list
  rw [strOfNums_data, txt_list]
  unfold bz
  rw [List.map_map]
  refine (List.map_congr_left fun b _ => ?_).trans (List.map_id l)
  exact UInt8.toNat_inj.1 (by show (UInt8.ofNat (b.toNat : Int).toNat).toNat = b.toNat; rw [UInt8.toNat_ofNat']; have := b.toNat_lt; omega)
theorem bz_cons (x : UInt8) (l : List UInt8) : bz (x :: l) = (x.toNat : Int) :: bz l := rfl
theorem drop_set {l : List Int} {n : Nat} (h : n < l.length) (v : Int) : (l.set n v).drop n = v :: l.drop (n + 1) := by
  rw [List.drop_eq_getElem_cons (by rw [List.length_set]; exact h), List.getElem_set_self, List.drop_set_of_lt (by omega)]
theorem take_rev {l : List UInt8} {n : Nat} (h : n < l.length) : (l.take (n + 1)).reverse = l[n] :: (l.take n).reverse := by
  rw [List.take_succ_eq_append_getElem h, List.reverse_append]; rfl
theorem bt_at_ {l : List UInt8} {n : Nat} (h : n < l.length) : bt (txt l) (n : Int) = ((l[n]).toNat : Int) := by
  rw [bt_nat, txt_list]
  unfold ba
  rw [List.getD_eq_getElem?_getD, List.getElem?_eq_getElem h]
  rfl
theorem u8_dig {z : Int} (h0 : 0 ≤ z) (h1 : z < 256) : ((UInt8.ofNat z.toNat).toNat : Int) = z := by
  rw [UInt8.toNat_ofNat']; omega
/-! ### one digit ahead of another: a number's numeral -/
def decD (u : Nat) : List UInt8 := if u = 0 then [] else decDigits u
theorem decD_step {u : Nat} (h : 0 < u) : decD u = decD (u / 10) ++ [UInt8.ofNat (48 + u % 10)] := by
  unfold decD
  rw [if_neg (by omega)]
  by_cases h1 : u < 10
  · rw [if_pos (by omega), decDigits, dif_pos h1, Nat.mod_eq_of_lt h1]; rfl
  · rw [if_neg (by omega), decDigits, dif_neg h1]
theorem decD_val (u : Nat) : val (decD u) = u := by
  unfold decD
  split
  · rename_i h; rw [h]; rfl
  · exact dec_val u
theorem decD_digs (u : Nat) : Digs (decD u) := by
  unfold decD
  split
  · exact fun x hx => by cases hx
  · exact dec_digs u
/-! ### a number's text -/
/-! ### which is less -/
theorem bytesLess_cmp : ∀ l m : List UInt8, (if Op.bytesLess l m = true then (-1 : Int) else if (l == m) = true then 0 else 1) = compareBytes l m
  | [], [] => rfl
  | [], y :: m => rfl
  | x :: l, [] => rfl
  | x :: l, y :: m => by
    have ih := bytesLess_cmp l m
    rw [compareBytes, ← ih]
    rw [show Op.bytesLess (x :: l) (y :: m) = (decide (x < y) || (x == y && Op.bytesLess l m)) from rfl]
    by_cases h : x < y
    · rw [if_pos h, decide_eq_true h]; rfl
    · rw [if_neg h, decide_eq_false h]
      by_cases h2 : y < x
      · rw [if_pos h2]
        have hne : (x == y) = false := beq_eq_false_iff_ne.2 (fun e => by rw [e] at h2; exact h (by rw [e]; exact h2))
        rw [hne, show (x :: l == y :: m) = (x == y && l == m) from rfl, hne]
        rfl
      · rw [if_neg h2]
        have he : x = y := by
          rw [UInt8.lt_iff_toNat_lt] at h h2
          exact UInt8.toNat_inj.1 (by omega)
        subst he
        rw [show (x :: l == x :: m) = (x == x && l == m) from rfl, beq_self_eq_true]
        simp only [Bool.false_or, Bool.true_and]
/-! ### differences -/
end Go.Proofs.YtkijneohhilboaaDoor.RefBig
