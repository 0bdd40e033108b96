/- The pure law BigTimes: a product is as many sums; a product of a sum is the sum of both. No conditions. -/
import Derived.Test.YtddaggnomcoejaaDoorBigQ
import Derived.Test.YtddaggnomcoejaaDoorPQx5
namespace Go.Proofs.YtddaggnomcoejaaDoor.Pure
set_option linter.unusedSimpArgs false
set_option linter.unusedVariables false
open Go.RowKit Go.Lib Go.Proofs.YtddaggnomcoejaaDoor.Room Go.Proofs.YtddaggnomcoejaaDoor.PQ Go.Proofs.YtddaggnomcoejaaDoorW.PrintWords Go.Proofs.YtddaggnomcoejaaDoor.Aid Go.Proofs.YtddaggnomcoejaaDoor.Num Go.Proofs.YtddaggnomcoejaaDoor.BigFns Go.Proofs.YtddaggnomcoejaaDoor.BigQ
theorem times_l0 (Q P : Nat) (hQ : Q = 10 ^ (99 + 1)) (hPQ : P * 256 + 100000000000000 ≤ Q) (A m k j : Int) (hA0 : 0 ≤ A) (hA : A.natAbs < P) (m0 : 0 ≤ m) (m1 : m ≤ 255) (k0 : 0 ≤ k) (k1 : k ≤ 4294967295) (j0 : 0 ≤ j) (j1 : j ≤ 4294967295) (M : Nat) (hM : Int.tmod m 20 = M) (hM20 : M < 20) :
    ∀ (d r i : Nat), i + d = M → 400 + d ≤ r → targumlaw4_BigTimes.l0 r m k j (num A) (num (k + (i : Int) * j)) (num j) (i : Int) = some true
  | 0, r, i, hi, hr => by
    obtain ⟨r, rfl⟩ : ∃ q, r = q + 1 := ⟨r - 1, by omega⟩
    have hMj : 0 ≤ (M : Int) * j ∧ (M : Int) * j ≤ 85899345900 := by
      have h1 : 0 ≤ (M : Int) * j := Int.mul_nonneg (by omega) j0
      have h2 : (M : Int) * j ≤ 20 * j := Int.mul_le_mul_of_nonneg_right (by omega) j0
      omega
    have hjm : 0 ≤ j * m ∧ j * m ≤ 1095216660225 := by
      have h1 : 0 ≤ j * m := Int.mul_nonneg j0 m0
      have h2 : j * m ≤ j * 255 := Int.mul_le_mul_of_nonneg_left m1 j0
      omega
    have hAm : 0 ≤ A * m ∧ A * m ≤ A * 255 := ⟨Int.mul_nonneg hA0 m0, Int.mul_le_mul_of_nonneg_left m1 hA0⟩
    have hjM : j * (M : Int) = (M : Int) * j := Int.mul_comm _ _
    have hd1 : (A + j) * m = A * m + j * m := Int.add_mul _ _ _
    have hi' : (i : Int) = (M : Int) := by omega
    simp only [targumlaw4_BigTimes.l0]
    rw [hM, wrap_id (x := (M : Int)) (by omega) (by omega), if_neg (by omega), wrap_id (x := j) (by omega) (by omega), wrap_id (x := k) (by omega) (by omega), wrap_id (x := m) (by omega) (by omega), wrap_id (x := j * m) (by omega) (by omega), num_zero, hi']
    rw [AddQ hQ (by omega) (by omega) (by omega) (by omega)]
    simp only [Option.bind_some]
    rw [MulQ hQ j0 (by omega) (by omega) (by omega) k0 (by omega) (by omega)]
    simp only [Option.bind_some]
    rw [if_pos (by rw [hjM, Int.add_comm]), MulQ hQ (by omega) (by omega) m0 (by omega) k0 (by omega) (by omega)]
    simp only [Option.bind_some]
    rw [MulQ hQ hA0 (by omega) m0 (by omega) k0 (by omega) (by omega)]
    simp only [Option.bind_some]
    rw [AddQ hQ (by omega) (by omega) (by omega) (by omega)]
    simp only [Option.bind_some]
    rw [if_pos (by rw [show (A + j) * m + k = A * m + k + j * m by omega]), MulQ hQ hA0 (by omega) (by omega) (by omega) (by omega) (by omega) (by omega)]
    simp only [Option.bind_some]
    rw [if_pos (by rw [show A * 1 + 0 = A by omega]), MulQ hQ hA0 (by omega) (by omega) (by omega) k0 (by omega) (by omega)]
    simp only [Option.bind_some]
    rw [AddQ hQ (by omega) (by omega) (by omega) (by omega)]
    simp only [Option.bind_some]
    rw [show A * 0 + k = 0 + k by omega, beq_self_eq_true]
  | d + 1, r, i, hi, hr => by
    obtain ⟨r, rfl⟩ : ∃ q, r = q + 1 := ⟨r - 1, by omega⟩
    have hij : 0 ≤ (i : Int) * j ∧ (i : Int) * j ≤ 85899345900 := by
      have h1 : 0 ≤ (i : Int) * j := Int.mul_nonneg (by omega) j0
      have h2 : (i : Int) * j ≤ 20 * j := Int.mul_le_mul_of_nonneg_right (by omega) j0
      omega
    simp only [targumlaw4_BigTimes.l0]
    rw [hM, wrap_id (x := (M : Int)) (by omega) (by omega), if_pos (by omega), wrap_id (x := j) (by omega) (by omega), AddQ hQ (by omega) (by omega) (by omega) (by omega)]
    simp only [Option.bind_some]
    rw [wrap_id (x := (i : Int) + 1) (by omega) (by omega)]
    have := times_l0 Q P hQ hPQ A m k j hA0 hA m0 m1 k0 k1 j0 j1 M hM hM20 d r (i + 1) (by omega) (by omega)
    rw [show ((i + 1 : Nat) : Int) = (i : Int) + 1 by omega, Int.add_mul, Int.one_mul, ← Int.add_assoc] at this
    exact this
theorem BigTimes : targumlaw4_BigTimes.Pure := by
  intro s m k j _ hm hk hj
  have hm' : (decide (IntKind.u8.min ≤ m) && decide (m ≤ IntKind.u8.max)) = true := hm
  have hk' : (decide (IntKind.u32.min ≤ k) && decide (k ≤ IntKind.u32.max)) = true := hk
  have hj' : (decide (IntKind.u32.min ≤ j) && decide (j ≤ IntKind.u32.max)) = true := hj
  rw [Bool.and_eq_true, decide_eq_true_eq, decide_eq_true_eq] at hm' hk' hj'
  have m0 : (0 : Int) ≤ m := hm'.1
  have m1 : m ≤ (255 : Int) := hm'.2
  have k0 : (0 : Int) ≤ k := hk'.1
  have k1 : k ≤ (4294967295 : Int) := hk'.2
  have j0 : (0 : Int) ≤ j := hj'.1
  have j1 : j ≤ (4294967295 : Int) := hj'.2
  refine ⟨2000, ?_⟩
  unfold targumlaw4_BigTimes.f
  rw [known4 _ (by decide)]
  simp only [Option.bind_some, if_true]
  have J1 : targumlaw4_BigTimes.j0 2000 s m k j true = some true := by
    show targumlaw4_BigTimes.j0 (1999 + 1) s m k j true = some true
    simp only [targumlaw4_BigTimes.j0, if_true]
  by_cases hs1 : (s.size : Int) < 1
  · rw [if_pos hs1]; exact J1
  · rw [if_neg hs1]
    by_cases hs2 : (s.size : Int) > 40
    · rw [decide_eq_true hs2]; exact J1
    · rw [decide_eq_false hs2]
      show targumlaw4_BigTimes.j0 (1999 + 1) s m k j false = some true
      simp only [targumlaw4_BigTimes.j0]
      obtain ⟨Q, hQ⟩ : ∃ Q : Nat, Q = 10 ^ (99 + 1) := ⟨_, rfl⟩
      have hPQ : (10 : Nat) ^ 40 * 256 + 100000000000000 ≤ Q := by rw [hQ]; decide
      have hP := val_small s 40 (by omega)
      generalize hPP : (10 : Nat) ^ 40 = P at hPQ hP
      rw [if_neg (by decide), digits4 s (by omega) _ (by omega)]
      simp only [Option.bind_some]
      rw [NormQ false s (by omega) (by omega) (by decide), if_neg (by decide)]
      simp only [Option.bind_some]
      rw [wrap_id (x := k) (by omega) (by omega), wrap_id (x := j) (by omega) (by omega), num_zero, AddQ hQ (z := 0) (n := k) (by rw [hQ]; decide) (by omega) (by omega) (by decide)]
      simp only [Option.bind_some]
      rw [AddQ hQ (z := 0) (n := j) (by rw [hQ]; decide) (by omega) (by omega) (by decide)]
      simp only [Option.bind_some]
      have t0 : 0 ≤ Int.tmod m 20 := Int.tmod_nonneg _ m0
      have t1 : Int.tmod m 20 < 20 := Int.tmod_lt_of_pos _ (by decide)
      obtain ⟨M, hM⟩ : ∃ M : Nat, Int.tmod m 20 = M := ⟨(Int.tmod m 20).toNat, by omega⟩
      have := times_l0 Q P hQ hPQ (val (digL s.data.toList)) m k j (by omega) (by rw [Int.natAbs_natCast]; exact hP) m0 m1 k0 k1 j0 j1 M hM (by omega) M 1999 0 (by omega) (by omega)
      rw [show ((0 : Nat) : Int) = 0 from rfl, Int.zero_mul, Int.add_zero] at this
      rw [Int.zero_add, Int.zero_add]
      exact this
end Go.Proofs.YtddaggnomcoejaaDoor.Pure
