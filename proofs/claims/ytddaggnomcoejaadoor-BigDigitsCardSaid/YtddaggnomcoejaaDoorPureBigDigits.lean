/- The pure law BigDigits: a number is built of its digits, one by one, by tens; its bits, by twos. No conditions. -/
import Derived.Test.YtddaggnomcoejaaDoorBigBase
import Derived.Test.YtddaggnomcoejaaDoorPQx4
namespace Go.Proofs.YtddaggnomcoejaaDoor.Pure
set_option linter.unusedSimpArgs false
set_option linter.unusedVariables false
open Go.RowKit Go.Lib Go.Proofs.YtddaggnomcoejaaDoor.Room Go.Proofs.YtddaggnomcoejaaDoor.PQ Go.Proofs.YtddaggnomcoejaaDoorW.PrintWords Go.Proofs.YtddaggnomcoejaaDoor.Aid Go.Proofs.YtddaggnomcoejaaDoor.Num Go.Proofs.YtddaggnomcoejaaDoor.BigFns Go.Proofs.YtddaggnomcoejaaDoor.BigQ
/-- the bits that the law takes of digits -/
def bitsL (l : List UInt8) : List UInt8 := l.map fun x => UInt8.ofNat (48 + dv x % 2)
theorem bitsL_ok (l : List UInt8) : ∀ x ∈ bitsL l, 48 ≤ x.toNat ∧ x.toNat ≤ 49 := fun x hx => by
  obtain ⟨y, _, rfl⟩ := List.mem_map.1 hx
  rw [UInt8.toNat_ofNat']; omega
theorem bitsL_take (l : List UInt8) (i : Nat) (h : i < l.length) : bitsL (l.take (i + 1)) = bitsL (l.take i) ++ [UInt8.ofNat (48 + dv l[i] % 2)] := by
  unfold bitsL
  rw [List.take_succ_eq_append_getElem h, List.map_append]
  rfl
theorem digits_l0' (D : List UInt8) (hD : Digs D) (hne : D ≠ []) (hl : D.length ≤ 60) (Q : Nat) (hQ : Q = 10 ^ (99 + 1)) : ∀ (d r i : Nat), i + d = D.length → 1000 + d ≤ r →
    targumlaw4_BigDigits.l0 r (txt D) (num (val (D.take i) : Nat)) (num (bval 2 (bitsL (D.take i)) : Nat)) (txt (bitsL (D.take i))) (i : Int) = some true
  | 0, r, i, hi, hr => by
    obtain ⟨r, rfl⟩ : ∃ q, r = q + 1 := ⟨r - 1, by omega⟩
    have hz := txt_size D
    have hP : val D < 10 ^ 60 := Nat.lt_of_lt_of_le (val_lt D hD) (Nat.pow_le_pow_right (by decide) hl)
    have hB : bval 2 (bitsL D) < 2 ^ 60 := by
      have := bval_lt 2 (bitsL D) (fun x hx => by have := bitsL_ok D x hx; unfold digV; rw [if_pos (by omega)]; omega)
      refine Nat.lt_of_lt_of_le this (Nat.pow_le_pow_right (by decide) ?_)
      unfold bitsL; rw [List.length_map]; exact hl
    have hbl : (bitsL D).length = D.length := by unfold bitsL; rw [List.length_map]
    have hPQ : (10 : Nat) ^ 60 ≤ Q := by rw [hQ]; decide
    have hPB : (2 : Nat) ^ 60 ≤ Q := by rw [hQ]; decide
    simp only [targumlaw4_BigDigits.l0]
    rw [if_neg (by omega), List.take_of_length_le (by omega), Norm_eq false D hD hne (by omega) r (by omega), if_neg (by decide)]
    simp only [Option.bind_some]
    have hBq := Base_eq 2 (by decide) (bitsL D) (fun e => by rw [e] at hbl; simp at hbl; exact hne (List.length_eq_zero_iff.1 hbl.symm)) (by omega) (fun x hx => by have := bitsL_ok D x hx; unfold digV; rw [if_pos (by omega)]; omega) r (by omega)
    rw [show ((2 : Nat) : Int) = 2 from rfl] at hBq
    rw [if_pos True.intro, hBq]
    simp only [Option.bind_some]
    rw [if_pos True.intro, Good_num _ (Nat.le_trans (len_le (by rw [Int.natAbs_natCast, ← hQ]; omega)) (by decide)) r (Nat.le_trans (Nat.add_le_add_right (len_le (by rw [Int.natAbs_natCast, ← hQ]; omega)) 1) (by omega))]
    simp only [Option.bind_some, if_true]
    rw [Good_num _ (Nat.le_trans (len_le (by rw [Int.natAbs_natCast, ← hQ]; omega)) (by decide)) r (Nat.le_trans (Nat.add_le_add_right (len_le (by rw [Int.natAbs_natCast, ← hQ]; omega)) 1) (by omega))]
    rfl
  | d + 1, r, i, hi, hr => by
    obtain ⟨r, rfl⟩ : ∃ q, r = q + 1 := ⟨r - 1, by omega⟩
    have hz := txt_size D
    have hlt : i < D.length := by omega
    obtain ⟨x, hxe, hdr⟩ := drop_cons hlt
    have hxi : D[i] = x := by rw [List.drop_eq_getElem_cons hlt] at hdr; exact (List.cons.inj hdr).1
    have hdx := hD x (List.mem_of_mem_drop (by rw [hdr]; exact List.mem_cons_self))
    obtain ⟨hx0, hx1⟩ := hdx
    have hdv : (x.toNat : Int) - 48 = (dv x : Int) := by unfold dv; omega
    have h9 : dv x < 10 := by unfold dv; omega
    have hb : (bt (txt D) (i : Int) - 48) % 256 = (dv x : Int) := by
      rw [bt_nat, txt_list, ← hxe, hdv]
      omega
    have hsub : Digs (D.take i) := fun y hy => hD y (List.mem_of_mem_take hy)
    have hP : val (D.take i) < 10 ^ 60 := Nat.lt_of_lt_of_le (val_lt _ hsub) (Nat.pow_le_pow_right (by decide) (by rw [List.length_take]; omega))
    have hB : bval 2 (bitsL (D.take i)) < 2 ^ 60 := by
      have := bval_lt 2 (bitsL (D.take i)) (fun x hx => by have := bitsL_ok _ x hx; unfold digV; rw [if_pos (by omega)]; omega)
      refine Nat.lt_of_lt_of_le this (Nat.pow_le_pow_right (by decide) ?_)
      unfold bitsL; rw [List.length_map, List.length_take]; omega
    have hPQ : (10 : Nat) ^ 60 ≤ Q := by rw [hQ]; decide
    have hPB : (2 : Nat) ^ 60 ≤ Q := by rw [hQ]; decide
    simp only [targumlaw4_BigDigits.l0]
    rw [if_pos (by omega), if_pos (by omega), hb, MulQ hQ (by omega) (by rw [Int.natAbs_natCast]; omega) (by omega) (by omega) (by omega) (by omega) (by omega)]
    simp only [Option.bind_some]
    rw [MulQ hQ (by omega) (by rw [Int.natAbs_natCast]; omega) (by omega) (by omega) (by omega) (by omega) (by omega)]
    simp only [Option.bind_some]
    rw [if_pos (by rw [txt_size, strOfNums_size]; simp [bitsL]; omega), wrap_id (by omega) (by omega)]
    have := digits_l0' D hD hne hl Q hQ d r (i + 1) (by omega) (by omega)
    have e1 : (val (D.take (i + 1)) : Int) = (val (D.take i) : Int) * 10 + (dv x : Int) := by
      rw [List.take_succ_eq_append_getElem hlt, val_snoc, hxi]; omega
    have e2 : bitsL (D.take (i + 1)) = bitsL (D.take i) ++ [UInt8.ofNat (48 + dv x % 2)] := by rw [bitsL_take D i hlt, hxi]
    have e3 : (bval 2 (bitsL (D.take (i + 1))) : Int) = (bval 2 (bitsL (D.take i)) : Int) * 2 + (dv x : Int) % 2 := by
      rw [e2, bval_snoc]
      have e : (UInt8.ofNat (48 + dv x % 2)).toNat = 48 + dv x % 2 := by rw [UInt8.toNat_ofNat']; omega
      unfold digV
      rw [e, if_pos (by omega)]
      omega
    have e4 : txt (bitsL (D.take i)) ++ strOfNums [48 + (dv x : Int) % 2] = txt (bitsL (D.take (i + 1))) := by
      apply ext_list
      rw [append_list, txt_list, txt_list, e2, strOfNums_data]
      rw [List.map_cons, List.map_nil, show (48 + (dv x : Int) % 2).toNat = 48 + dv x % 2 by omega]
    rw [e1, e3] at this
    rw [e4, show ((i : Int) + 1) = ((i + 1 : Nat) : Int) by omega]
    exact this
theorem BigDigits : targumlaw4_BigDigits.Pure := by
  intro s _
  refine ⟨2000, ?_⟩
  unfold targumlaw4_BigDigits.f
  rw [known4 _ (by decide)]
  simp only [Option.bind_some, if_true]
  have J1 : targumlaw4_BigDigits.j0 2000 s true = some true := by
    show targumlaw4_BigDigits.j0 (1999 + 1) s true = some true
    simp only [targumlaw4_BigDigits.j0, if_true]
  by_cases hs1 : (s.size : Int) < 1
  · rw [if_pos hs1]; exact J1
  · rw [if_neg hs1]
    by_cases hs2 : (s.size : Int) > 60
    · rw [decide_eq_true hs2]; exact J1
    · rw [decide_eq_false hs2]
      show targumlaw4_BigDigits.j0 (1999 + 1) s false = some true
      simp only [targumlaw4_BigDigits.j0]
      rw [if_neg (by decide), digits4 s (by omega) _ (by omega)]
      simp only [Option.bind_some]
      have hdl := digL_length s.data.toList
      rw [← Lib.size_eq] at hdl
      have := digits_l0' (digL s.data.toList) (digL_digs _) (fun e => by rw [e] at hdl; simp at hdl; omega) (by omega) _ rfl (digL s.data.toList).length 1999 0 (by omega) (by omega)
      rw [List.take_zero, show bitsL [] = [] from rfl] at this
      rw [num_zero]
      exact this
end Go.Proofs.YtddaggnomcoejaaDoor.Pure
