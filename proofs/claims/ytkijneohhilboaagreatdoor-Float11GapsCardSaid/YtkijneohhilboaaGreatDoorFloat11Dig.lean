/- The digits that the laws of chapter 7 make of a seed. No conditions but sizes. -/
import Derived.Test.YtkijneohhilboaaGreatDoorFloat11Law
import Derived.Test.YtkijneohhilboaaGreatDoorPKx9
namespace Go.Proofs.YtkijneohhilboaaGreatDoor.FloatSpec
set_option linter.unusedSimpArgs false
set_option linter.unusedVariables false
open Go.RowKit Go.Lib Go.Proofs.YtkijneohhilboaaGreatDoor.Room Go.Proofs.YtkijneohhilboaaGreatDoor.PK Go.Proofs.YtkijneohhilboaaGreatDoorW.PrintWords Go.Proofs.YtkijneohhilboaaGreatDoor.Aid Go.Proofs.YtkijneohhilboaaGreatDoor.Num Go.Proofs.YtkijneohhilboaaGreatDoor.BigFns Go.Proofs.YtkijneohhilboaaGreatDoor.BigQ Go.Proofs.YtkijneohhilboaaGreatDoor.RefBig Go.Proofs.YtkijneohhilboaaGreatDoor.DecSpec Go.Proofs.YtkijneohhilboaaGreatDoor.NumSpec Go.Proofs.YtkijneohhilboaaGreatDoor.IntSpec Go.Proofs.YtkijneohhilboaaGreatDoor.FSix
theorem digits7_l0 (s : ByteArray) (hs : s.size ≤ 1000000) : ∀ (d k i : Nat) (xs : List Int), i + d = s.size → xs.length = s.size → (∀ j < i, xs[j]? = some (48 + ((ba s.data.toList j) % 10))) → d + 1 ≤ k →
    targumlaw7_digits.l0 k s xs i = some (txt (digL s.data.toList))
  | 0, k, i, xs, hi, hl, hx, hk => by
    obtain ⟨k, rfl⟩ : ∃ m, k = m + 1 := ⟨k - 1, by omega⟩
    simp only [targumlaw7_digits.l0]
    rw [if_neg (by omega)]
    congr 1
    apply ext_list
    rw [strOfNums_data, txt_list]
    apply List.ext_getElem?
    intro j
    unfold digL
    rw [List.getElem?_map, List.getElem?_map]
    by_cases hj : j < i
    · have hjl : j < s.data.toList.length := by rw [← Lib.size_eq]; omega
      rw [hx j hj, List.getElem?_eq_getElem hjl]
      simp only [Option.map_some, Option.some.injEq]
      have : ba s.data.toList j = ((s.data.toList[j]).toNat : Int) := by unfold ba; rw [List.getD_eq_getElem?_getD, List.getElem?_eq_getElem hjl]; rfl
      rw [this]
      congr 1
    · rw [List.getElem?_eq_none (by omega), List.getElem?_eq_none (by rw [← Lib.size_eq]; omega)]
      rfl
  | d + 1, k, i, xs, hi, hl, hx, hk => by
    obtain ⟨k, rfl⟩ : ∃ m, k = m + 1 := ⟨k - 1, by omega⟩
    have hr := ba_range s.data.toList i
    simp only [targumlaw7_digits.l0]
    rw [if_pos (by omega), if_pos (by omega), if_pos (by omega), wrap_id (by omega) (by omega), bt_nat, Int.tmod_eq_emod_of_nonneg hr.1, show (48 + ba s.data.toList i % 10) % 256 = 48 + ba s.data.toList i % 10 by omega, Int.toNat_natCast]
    have := digits7_l0 s hs d k (i + 1) (xs.set i (48 + ba s.data.toList i % 10)) (by omega) (by rw [List.length_set]; exact hl) (fun j hj => by
      by_cases e : j = i
      · subst e
        rw [List.getElem?_set_self (by omega)]
      · rw [List.getElem?_set_ne (by omega)]
        exact hx j (by omega)) (by omega)
    rw [show ((i + 1 : Nat) : Int) = (i : Int) + 1 by omega] at this
    exact this
theorem digits7 (s : ByteArray) (hs : s.size ≤ 1000000) (k : Nat) (hk : s.size + 1 ≤ k) : targumlaw7_digits.f k s = some (txt (digL s.data.toList)) := by
  unfold targumlaw7_digits.f
  rw [if_pos (by omega), if_pos (by omega)]
  exact digits7_l0 s hs s.size k 0 _ (by omega) (by rw [List.length_replicate]; omega) (fun j hj => absurd hj (by omega)) hk
end Go.Proofs.YtkijneohhilboaaGreatDoor.FloatSpec
