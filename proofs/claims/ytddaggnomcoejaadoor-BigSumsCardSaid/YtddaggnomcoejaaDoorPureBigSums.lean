/- The pure law BigSums: what is put to a number and taken away again leaves it; two steps are one. No conditions. -/
import Derived.Test.YtddaggnomcoejaaDoorBigFns
import Derived.Test.YtddaggnomcoejaaDoorPQx4
namespace Go.Proofs.YtddaggnomcoejaaDoor.Pure
set_option linter.unusedSimpArgs false
set_option linter.unusedVariables false
open Go.RowKit Go.Lib Go.Proofs.YtddaggnomcoejaaDoor.Room Go.Proofs.YtddaggnomcoejaaDoor.PQ Go.Proofs.YtddaggnomcoejaaDoorW.PrintWords Go.Proofs.YtddaggnomcoejaaDoor.Aid Go.Proofs.YtddaggnomcoejaaDoor.Num Go.Proofs.YtddaggnomcoejaaDoor.BigFns
theorem num_zero : (⟨#[48]⟩ : ByteArray) = num 0 := by
  apply ext_list
  rw [show (0 : Int) = ((0 : Nat) : Int) from rfl, num_nat, txt_list, dec_zero]
theorem len_le {z : Int} (h : z.natAbs < 10 ^ (99 + 1)) : (decDigits z.natAbs).length ≤ 100 := by
  rw [decDigits_length]; exact nDigits_le 99 _ h
theorem AddQ {Q : Nat} (hQ : Q = 10 ^ (99 + 1)) {z n : Int} (hz : z.natAbs < Q) (h0 : -1099511627776 ≤ n) (h1 : n ≤ 1099511627776) {k : Nat} (hk : 300 ≤ k) : big_Add.f k (num z) n = some (num (z + n)) := by
  subst hQ
  have := len_le hz
  exact Add_eq z n h0 h1 (by omega) k (by omega)
theorem CmpQ {Q : Nat} (hQ : Q = 10 ^ (99 + 1)) {x y : Int} (hx : x.natAbs < Q) (hy : y.natAbs < Q) {k : Nat} (hk : 300 ≤ k) : big_Compare.f k (num x) (num y) = some (cmpZ x y) := by
  subst hQ
  have := len_le hx
  have := len_le hy
  exact Compare_eq x y (by omega) (by omega) k (by omega) (by omega)
theorem BigSums : targumlaw4_BigSums.Pure := by
  intro s neg n m _ hn hm
  have hn' : (decide (IntKind.i32.min ≤ n) && decide (n ≤ IntKind.i32.max)) = true := hn
  have hm' : (decide (IntKind.i32.min ≤ m) && decide (m ≤ IntKind.i32.max)) = true := hm
  rw [Bool.and_eq_true, decide_eq_true_eq, decide_eq_true_eq] at hn' hm'
  have n0 : (-2147483648 : Int) ≤ n := hn'.1
  have n1 : n ≤ (2147483647 : Int) := hn'.2
  have m0 : (-2147483648 : Int) ≤ m := hm'.1
  have m1 : m ≤ (2147483647 : Int) := hm'.2
  refine ⟨2000, ?_⟩
  unfold targumlaw4_BigSums.f
  rw [known4 _ (by decide)]
  simp only [Option.bind_some, if_true]
  have J1 : targumlaw4_BigSums.j0 2000 s neg n m true = some true := by
    show targumlaw4_BigSums.j0 (1999 + 1) s neg n m true = some true
    simp only [targumlaw4_BigSums.j0, if_true]
  by_cases hs1 : (s.size : Int) < 1
  · rw [if_pos hs1]; exact J1
  · rw [if_neg hs1]
    by_cases hs2 : (s.size : Int) > 60
    · rw [decide_eq_true hs2]; exact J1
    · rw [decide_eq_false hs2]
      show targumlaw4_BigSums.j0 (1999 + 1) s neg n m false = some true
      simp only [targumlaw4_BigSums.j0]
      have hdl := digL_length s.data.toList
      rw [← Lib.size_eq] at hdl
      rw [if_neg (by decide), digits4 s (by omega) _ (by omega)]
      simp only [Option.bind_some]
      rw [Norm_eq neg _ (digL_digs _) (fun e => by rw [e] at hdl; simp at hdl; omega) (by omega) _ (by omega)]
      simp only [Option.bind_some]
      have hv := val_lt _ (digL_digs s.data.toList)
      have hP : val (digL s.data.toList) < 10 ^ 60 := Nat.lt_of_lt_of_le hv (Nat.pow_le_pow_right (by decide) (by omega))
      obtain ⟨Q, hQ⟩ : ∃ Q : Nat, Q = 10 ^ (99 + 1) := ⟨_, rfl⟩
      have hPQ : (10 : Nat) ^ 60 + 100000000000000 ≤ Q := by rw [hQ]; decide
      obtain ⟨A, hA⟩ : ∃ A : Int, (if neg then -(val (digL s.data.toList) : Int) else (val (digL s.data.toList) : Int)) = A := ⟨_, rfl⟩
      have hAs : A.natAbs < 10 ^ 60 := by rw [← hA]; cases neg <;> simp <;> exact hP
      rw [hA]
      generalize (10 : Nat) ^ 60 = P at hPQ hAs
      clear hA hP hv
      rw [wrap_id (x := n) (by omega) (by omega), wrap_id (x := m) (by omega) (by omega), wrap_id (x := -n) (by omega) (by omega), wrap_id (x := n + m) (by omega) (by omega), num_zero]
      rw [AddQ hQ (by omega) (by omega) (by omega) (by decide)]
      simp only [Option.bind_some]
      rw [AddQ hQ (by omega) (by omega) (by omega) (by decide)]
      simp only [Option.bind_some]
      rw [if_pos (by rw [show A + n + -n = A by omega]), AddQ hQ (by omega) (by omega) (by omega) (by decide)]
      simp only [Option.bind_some]
      rw [AddQ hQ (by omega) (by omega) (by omega) (by decide)]
      simp only [Option.bind_some]
      rw [if_pos (by rw [show A + n + m = A + (n + m) by omega]), AddQ hQ (by omega) (by omega) (by omega) (by decide)]
      simp only [Option.bind_some]
      rw [if_pos (by rw [Int.add_zero]), AddQ hQ (by omega) (by omega) (by omega) (by decide)]
      simp only [Option.bind_some]
      rw [CmpQ hQ (by omega) (by omega) (by decide)]
      simp only [Option.bind_some]
      rw [if_pos (by unfold cmpZ; rw [if_neg (by omega), if_neg (by omega)]), AddQ hQ (by omega) (by omega) (by omega) (by decide)]
      simp only [Option.bind_some]
      rw [CmpQ hQ (by omega) (by omega) (by decide)]
      simp only [Option.bind_some]
      rw [if_pos (by unfold cmpZ; rw [if_neg (by omega), if_neg (by omega)]), AddQ hQ (z := A) (n := m) (by omega) (by omega) (by omega) (by decide)]
      simp only [Option.bind_some]
      rw [CmpQ hQ (by omega) (by omega) (by decide)]
      simp only [Option.bind_some]
      rw [AddQ hQ (z := 0) (n := n) (by rw [hQ]; decide) (by omega) (by omega) (by decide)]
      simp only [Option.bind_some]
      rw [AddQ hQ (z := 0) (n := m) (by rw [hQ]; decide) (by omega) (by omega) (by decide)]
      simp only [Option.bind_some]
      rw [CmpQ hQ (by omega) (by omega) (by decide)]
      simp only [Option.bind_some]
      congr 1
      rw [beq_iff_eq]
      unfold cmpZ
      repeat' split
      all_goals first | rfl | omega
end Go.Proofs.YtddaggnomcoejaaDoor.Pure
