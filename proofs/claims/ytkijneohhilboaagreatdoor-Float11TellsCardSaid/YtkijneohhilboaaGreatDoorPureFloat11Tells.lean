/- The pure law Float11Tells: of every text and row of signs both say the same decimal and form. No conditions. -/
import Derived.Test.YtkijneohhilboaaGreatDoorFloat11Law
import Derived.Test.YtkijneohhilboaaGreatDoorPTx17
namespace Go.Proofs.YtkijneohhilboaaGreatDoor.Pure
set_option linter.unusedSimpArgs false
set_option linter.unusedVariables false
open Go.RowKit Go.Lib Go.Proofs.YtkijneohhilboaaGreatDoor.Room Go.Proofs.YtkijneohhilboaaGreatDoor.PT Go.Proofs.YtkijneohhilboaaGreatDoorW.PrintWords Go.Proofs.YtkijneohhilboaaGreatDoor.Aid Go.Proofs.YtkijneohhilboaaGreatDoor.Num Go.Proofs.YtkijneohhilboaaGreatDoor.BigFns Go.Proofs.YtkijneohhilboaaGreatDoor.BigQ Go.Proofs.YtkijneohhilboaaGreatDoor.RefBig Go.Proofs.YtkijneohhilboaaGreatDoor.DecSpec Go.Proofs.YtkijneohhilboaaGreatDoor.NumSpec Go.Proofs.YtkijneohhilboaaGreatDoor.IntSpec Go.Proofs.YtkijneohhilboaaGreatDoor.FSix Go.Proofs.YtkijneohhilboaaGreatDoor.FloatSpec
theorem tells_l1 (B : Nat) (hB : 120000 ≤ B) (X : List ByteArray) (hX : ∀ x ∈ X, x.size ≤ 90) (hl : X.length ≤ 100) : ∀ (d i : Nat), i + d = X.length → targumlaw7_Float11Tells.l1 (B + d + 1) X (X.length : Int) (i : Int) = some true
  | 0, i, hi => by
    simp only [targumlaw7_Float11Tells.l1]
    rw [if_neg (by omega)]
  | d + 1, i, hi => by
    have hlt : i < X.length := by omega
    have he : rdOf ByteArray.empty X (i : Int) = X[i] := by
      unfold rdOf
      rw [Int.toNat_natCast, List.getD_eq_getElem?_getD, List.getElem?_eq_getElem hlt]; rfl
    have hs := hX X[i] (List.getElem_mem hlt)
    simp only [targumlaw7_Float11Tells.l1]
    rw [if_pos (by omega), if_pos (by omega), if_pos (by omega), he]
    generalize X[i] = x at hs
    obtain ⟨l, rfl⟩ : ∃ l, x = txt l := ⟨x.data.toList, (ext_list (by rw [txt_list])).symm⟩
    rw [txt_size] at hs
    rw [Of11_eq l (by omega) _ (by omega), Float11_eq l hs _ (by omega), Is11_eq l (by omega) _ (by omega), Form11_eq l (by omega) _ (by omega)]
    have e1 : (ofD (float11 l)).1 = (float11 l).1 ∧ (ofD (float11 l)).2.1 = (float11 l).2.1 ∧ (ofD (float11 l)).2.2.1 = (float11 l).2.2.1 ∧ (ofD (float11 l)).2.2.2.1 = (float11 l).2.2.2.1 ∧ (ofD (float11 l)).2.2.2.2 = decide ((float11 l).2.2.2.2 > 0) := ⟨rfl, rfl, rfl, rfl, rfl⟩
    obtain ⟨f1, f2, f3, f4, f5⟩ := e1
    simp only [Option.bind_some, f1, f2, f3, f4, f5, beq_self_eq_true, Bool.not_true, Bool.or_false, bne_self_eq_false, Bool.false_eq_true, if_false, if_true]
    rw [wrap_id (by omega) (by omega)]
    have := tells_l1 B hB X hX hl d (i + 1) (by omega)
    rw [show (((i + 1 : Nat)) : Int) = (i : Int) + 1 by omega] at this
    exact this
theorem tells_l0 (B : Nat) (hB : 120000 ≤ B) (s : ByteArray) (L : List Int) (hs : s.size ≤ 60) (hL : L.length ≤ 40) (hw : ∀ x ∈ L, 0 ≤ x ∧ x ≤ 255) : ∀ (d i : Nat) (t : ByteArray), i + d = L.length → t.size ≤ i → targumlaw7_Float11Tells.l0 (B + 8 + d + 1) s L t (i : Int) = some true
  | 0, i, t, hi, ht => by
    simp only [targumlaw7_Float11Tells.l0]
    rw [if_neg (by omega), if_pos (by omega), if_pos (by omega), if_pos (by omega), if_pos (by omega)]
    simp only [Option.bind_some]
    have sz : ∀ a b : ByteArray, (a ++ b).size = a.size + b.size := fun a b => ByteArray.size_append
    refine tells_l1 (B + 0) (by omega) _ ?_ (by simp only [List.length_cons, List.length_nil]; omega) 7 0 rfl
    intro x hx
    simp only [List.mem_cons, List.not_mem_nil, or_false] at hx
    rcases hx with rfl | rfl | rfl | rfl | rfl | rfl | rfl <;> first | omega | (rw [sz]; show 2 + _ ≤ 90; omega) | (rw [sz]; show 1 + _ ≤ 90; omega) | (rw [sz]; show 4 + _ ≤ 90; omega) | (rw [sz]; show 5 + _ ≤ 90; omega)
  | d + 1, i, t, hi, ht => by
    have hlt : i < L.length := by omega
    have he : rd L (i : Int) = L[i] := by
      unfold rd
      rw [Int.toNat_natCast, List.getD_eq_getElem?_getD, List.getElem?_eq_getElem hlt]; rfl
    have hr := hw L[i] (List.getElem_mem hlt)
    simp only [targumlaw7_Float11Tells.l0]
    rw [if_pos (by omega), if_pos (by omega), he]
    generalize L[i] = x at hr
    rw [wrap_id (x := x) (by omega) (by omega)]
    obtain ⟨m, hm⟩ : ∃ m, Int.tmod x 25 = m := ⟨_, rfl⟩
    have m0 : 0 ≤ m ∧ m < 25 := by rw [← hm, Int.tmod_eq_emod_of_nonneg hr.1]; omega
    rw [hm, wrap_id (x := m + 1) (by omega) (by omega), if_pos (by omega), if_pos (by omega), if_pos (by omega), wrap_id (by omega) (by omega)]
    have hz : ∀ z : ByteArray, (z.extract m.toNat (m + 1).toNat).size ≤ 1 := fun z => by rw [ByteArray.size_extract]; omega
    have hz := hz (⟨#[48, 49, 50, 51, 52, 53, 54, 55, 56, 57, 95, 58, 46, 101, 43, 45, 69, 46, 97, 73, 78, 70, 105, 110, 102]⟩ : ByteArray)
    generalize ((⟨#[48, 49, 50, 51, 52, 53, 54, 55, 56, 57, 95, 58, 46, 101, 43, 45, 69, 46, 97, 73, 78, 70, 105, 110, 102]⟩ : ByteArray).extract m.toNat (m + 1).toNat) = Z at hz
    rw [if_pos (by omega)]
    have := tells_l0 B hB s L hs hL hw d (i + 1) (t ++ Z) (by omega) (by rw [ByteArray.size_append]; omega)
    rw [show (((i + 1 : Nat)) : Int) = (i : Int) + 1 by omega] at this
    exact this
theorem Float11Tells : targumlaw7_Float11Tells.Pure := by
  intro s L hs0 hL0 hL1 hw
  have hw : ∀ x ∈ L, 0 ≤ x ∧ x ≤ 255 := fun x hx => by
    have : (decide (IntKind.u8.min ≤ x) && decide (x ≤ IntKind.u8.max)) = true := hw x hx
    rw [Bool.and_eq_true, decide_eq_true_iff, decide_eq_true_iff] at this
    have a : IntKind.u8.min = 0 := rfl
    have b : IntKind.u8.max = 255 := rfl
    omega
  obtain ⟨B, hB⟩ : ∃ B, B = 120000 := ⟨_, rfl⟩
  refine ⟨B + 8 + L.length + 2, ?_⟩
  have hk := known7 (B + 8 + L.length + 2) (by omega)
  unfold targumlaw7_Float11Tells.f
  rw [hk, Option.bind_some, if_pos rfl]
  have J1 : ∀ k, targumlaw7_Float11Tells.j0 (k + 1) s L true = some true := fun k => by simp only [targumlaw7_Float11Tells.j0, if_true]
  by_cases h1 : (s.size : Int) > 60
  · rw [if_pos h1]; exact J1 _
  · rw [if_neg h1]
    by_cases h2 : (L.length : Int) > 40
    · rw [decide_eq_true h2]; exact J1 _
    · rw [decide_eq_false h2]
      have h3 : (L.length : Int) ≤ 40 := by omega
      have h4 : (s.size : Int) ≤ 60 := by omega
      have := tells_l0 B (by omega) s L (by omega) (by omega) hw L.length 0 (⟨#[]⟩ : ByteArray) (by omega) (Nat.le_refl 0)
      show targumlaw7_Float11Tells.j0 (B + 8 + L.length + 1 + 1) s L false = some true
      simp only [targumlaw7_Float11Tells.j0, Bool.false_eq_true, if_false]
      exact this
end Go.Proofs.YtkijneohhilboaaGreatDoor.Pure
