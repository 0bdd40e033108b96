/- The reference's May and Check. No conditions but sizes. -/
import Derived.Test.YtmpdggphhhljhaaDoorBrkFns
import Derived.Test.YtmpdggphhhljhaaDoorPCx7
namespace Go.Proofs.YtmpdggphhhljhaaDoor.RefChk
set_option linter.unusedSimpArgs false
set_option linter.unusedVariables false
open Go.RowKit Go.Proofs.YtmpdggphhhljhaaDoor.PC Go.Proofs.YtmpdggphhhljhaaDoorW.PrintWords Go.Proofs.YtmpdggphhhljhaaDoor.Aid Go.Proofs.YtmpdggphhhljhaaDoor.BrkFns
theorem RefMay_eq (k : Nat) (hk : 9 ≤ k) (s : ByteArray) (hs : s.size ≤ 140737488351232) (i : Int) :
    targumref1_May.f k s i = some (if 0 ≤ i ∧ i < s.size then (mayW (s.data.toList.drop i.toNat) : Int) else 0) := by
  unfold targumref1_May.f
  rw [Next_eq k hk s hs i]
  obtain ⟨k, rfl⟩ : ∃ m, k = m + 1 := ⟨k - 1, by omega⟩
  have all : ∀ c w : Nat, (if (c : Int) = 9 then targumref1_May.j0 (k + 1) c w true else if (c : Int) = 10 then targumref1_May.j0 (k + 1) c w true else if (c : Int) = 13 then targumref1_May.j0 (k + 1) c w true
      else if (c : Int) ≥ 32 then (if (c : Int) ≤ 126 then targumref1_May.j0 (k + 1) c w true else targumref1_May.j0 (k + 1) c w ((c : Int) == 133)) else targumref1_May.j0 (k + 1) c w ((c : Int) == 133)) = some (if mayS c = true then (w : Int) else 0) := fun c w => by
    have yes : targumref1_May.j0 (k + 1) c w true = some (w : Int) := by simp [targumref1_May.j0]
    have no : ∀ b : Bool, targumref1_May.j0 (k + 1) c w b = some (if b = true ∨ (160 ≤ c ∧ c ≤ 65533 ∧ c ≠ 65279) ∨ 65536 ≤ c then (w : Int) else 0) := fun b => by
      simp only [targumref1_May.j0]
      cases b <;> simp only [Bool.false_eq_true, if_false, if_true, true_or, false_or]
      repeat' split
      all_goals first | rfl | (exfalso; omega)
    rw [yes, no]
    unfold mayS
    simp only [decide_eq_true_eq, beq_iff_eq]
    repeat' split
    all_goals first | rfl | (exfalso; omega)
  by_cases h : 0 ≤ i ∧ i < s.size
  · rw [if_pos h, if_pos h]
    simp only [Option.bind_some]
    rw [all]
    unfold mayW
    split <;> rfl
  · rw [if_neg h, if_neg h]
    simp only [Option.bind_some]
    have := all 0 0
    simpa using this

theorem RefCheck_l0 (s : ByteArray) (hs : s.size ≤ 140737488351232) : ∀ (d k : Nat) (i : Nat), i ≤ s.size → s.size - i = d → d + 10 ≤ k →
    targumref1_Check.l0 k s i = some (chkF d (s.data.toList.drop i) i) := by
  intro d
  induction d using Nat.strongRecOn with
  | _ d ih =>
    intro k i hi hd hk
    obtain ⟨k, rfl⟩ : ∃ m, k = m + 1 := ⟨k - 1, by omega⟩
    simp only [targumref1_Check.l0]
    cases d with
    | zero => rw [if_neg (by omega)]; rfl
    | succ d =>
      have hne : s.data.toList.drop i ≠ [] := by
        intro e
        have := congrArg List.length e
        rw [List.length_drop, ← Lib.size_eq] at this
        simp at this
        omega
      rw [if_pos (by omega), RefMay_eq k (by omega) s hs, if_pos ⟨by omega, by omega⟩]
      simp only [Option.bind_some, Int.toNat_natCast, chkF, if_neg hne]
      by_cases hw : mayW (s.data.toList.drop i) = 0
      · rw [if_pos hw, if_pos (by omega)]
      · have hle := mayW_le (s.data.toList.drop i)
        rw [List.length_drop, ← Lib.size_eq] at hle
        rw [if_neg hw, if_neg (by omega), wrap_id (by omega) (by omega)]
        have := ih (d + 1 - mayW (s.data.toList.drop i)) (by omega) k (i + mayW (s.data.toList.drop i)) (by omega) (by omega) (by omega)
        rw [show ((i : Int) + (mayW (s.data.toList.drop i) : Int)) = ((i + mayW (s.data.toList.drop i) : Nat) : Int) by omega, this, List.drop_drop]
        congr 1
        exact chkF_enough _ _ _ _ (by rw [List.length_drop, ← Lib.size_eq]; omega) (by rw [List.length_drop, ← Lib.size_eq]; omega)
theorem RefCheck_eq (s : ByteArray) (hs : s.size ≤ 140737488351232) (k : Nat) (hk : s.size + 10 ≤ k) : targumref1_Check.f k s = some (chk s.data.toList) := by
  unfold targumref1_Check.f
  have := RefCheck_l0 s hs s.size k 0 (by omega) (by omega) hk
  rw [show (0 : Int) = ((0 : Nat) : Int) from rfl, this, List.drop_zero]
  unfold chk
  rw [← Lib.size_eq]
  rfl

end Go.Proofs.YtmpdggphhhljhaaDoor.RefChk
