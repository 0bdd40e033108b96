/- The encoding that bytes are in: layer 1's answer. No conditions but bytes. -/
import Derived.Test.YtmpdggphhhljhaaDoorUtfSpec5
namespace Go.Proofs.YtmpdggphhhljhaaDoor.UtfSpec
set_option linter.unusedSimpArgs false
set_option linter.unusedVariables false
open Go.RowKit Go.Proofs.YtmpdggphhhljhaaDoor.PC Go.Proofs.YtmpdggphhhljhaaDoorW.PrintWords Go.Proofs.YtmpdggphhhljhaaDoor.Aid Go.Proofs.YtmpdggphhhljhaaDoor.BrkFns
theorem u8_beq (a b : Int) (ha : 0 ≤ a ∧ a ≤ 255) (hb : 0 ≤ b ∧ b ≤ 255) : (UInt8.ofNat a.toNat == UInt8.ofNat b.toNat) = (a == b) := by
  rw [Bool.eq_iff_iff, beq_iff_eq, beq_iff_eq]
  constructor
  · intro e
    have := congrArg UInt8.toNat e
    rw [UInt8.toNat_ofNat', UInt8.toNat_ofNat'] at this
    omega
  · rintro rfl; rfl
theorem pfx : ∀ p l : List Int, isB p → isB l → Lib.hasPrefix (Lib.bytesOf l) (Lib.bytesOf p) = p.isPrefixOf l
  | [], l, _, _ => by
    show List.isPrefixOf [] _ = List.isPrefixOf [] _
    rw [List.isPrefixOf_nil_left, List.isPrefixOf_nil_left]
  | a :: p, [], _, _ => rfl
  | a :: p, b :: l, hp, hl => by
    have ih := pfx p l hp.tail hl.tail
    show ((UInt8.ofNat a.toNat == UInt8.ofNat b.toNat) && (Lib.bytesOf p).isPrefixOf (Lib.bytesOf l)) = ((a == b) && p.isPrefixOf l)
    rw [u8_beq a b hp.head hl.head]
    congr 1
theorem sized_few (l : List Int) (n at_ : Nat) (h : l.length < n) : utf_Detect.sizedB l n at_ = false := by
  unfold utf_Detect.sizedB
  rw [decide_eq_false (by omega)]; rfl
theorem sized4 (x y z u : Int) (r : List Int) (at_ : Nat) : utf_Detect.sizedB (x :: y :: z :: u :: r) 4 at_ = (((x != 0) == (0 == at_)) && (((y != 0) == (1 == at_)) && (((z != 0) == (2 == at_)) && (((u != 0) == (3 == at_)) && true)))) := by
  unfold utf_Detect.sizedB
  rw [decide_eq_true (by simp only [List.length_cons]; omega), Bool.true_and]
  rfl
theorem sized2 (x y : Int) (r : List Int) (at_ : Nat) : utf_Detect.sizedB (x :: y :: r) 2 at_ = (((x != 0) == (0 == at_)) && (((y != 0) == (1 == at_)) && true)) := by
  unfold utf_Detect.sizedB
  rw [decide_eq_true (by simp only [List.length_cons]; omega), Bool.true_and]
  rfl
theorem isB_lit {l : List Int} (h : l.all (fun x => decide (0 ≤ x ∧ x ≤ 255)) = true) : isB l := fun x hx => of_decide_eq_true (List.all_eq_true.1 h x hx)
theorem det_eq (l : List Int) (h : isB l) : utf_Detect.det l = dd (atI l 0) (atI l 1) (atI l 2) (atI l 3) := by
  unfold utf_Detect.det
  rw [pfx _ _ (isB_lit (l := [0, 0, 254, 255]) rfl) h, pfx _ _ (isB_lit (l := [255, 254, 0, 0]) rfl) h, pfx _ _ (isB_lit (l := [254, 255]) rfl) h, pfx _ _ (isB_lit (l := [255, 254]) rfl) h, pfx _ _ (isB_lit (l := [239, 187, 191]) rfl) h]
  unfold utf_Detect.dB dd d0 d1 d2 d3 d4 d5 d6 d7
  match l, h with
  | [], h =>
    rw [sized_few _ 4 _ (by simp), sized_few _ 4 _ (by simp), sized_few _ 2 _ (by simp), sized_few _ 2 _ (by simp)]
    rfl
  | [x], h =>
    rw [sized_few _ 4 _ (by simp), sized_few _ 4 _ (by simp), sized_few _ 2 _ (by simp), sized_few _ 2 _ (by simp)]
    show _ = if x = 0 ∧ (-1 : Int) = 0 ∧ (-1 : Int) = 254 ∧ (-1 : Int) = 255 then _ else _
    simp [List.isPrefixOf, atI]
  | [x, y], h =>
    have hx := h.head; have hy := h.tail.head
    rw [sized_few _ 4 _ (by simp), sized_few _ 4 _ (by simp), sized2, sized2]
    have p0 : ([0, 0, 254, 255] : List Int).isPrefixOf [x, y] = false := by simp [List.isPrefixOf]
    have p1 : ([255, 254, 0, 0] : List Int).isPrefixOf [x, y] = false := by simp [List.isPrefixOf]
    have p2 : ([239, 187, 191] : List Int).isPrefixOf [x, y] = false := by simp [List.isPrefixOf]
    rw [p0, p1, p2]
    have a0 : atI [x, y] 0 = x := rfl
    have a1 : atI [x, y] 1 = y := rfl
    have a2 : atI [x, y] 2 = -1 := rfl
    have a3 : atI [x, y] 3 = -1 := rfl
    rw [a0, a1, a2, a3]
    simp only [List.isPrefixOf, Bool.and_true, Bool.and_eq_true, beq_iff_eq, Bool.false_eq_true, if_false]
    have e1 : ((x != 0) = (0 == 1) ∧ (y != 0) = (1 == 1)) ↔ (x = 0 ∧ y > 0) := by
      rw [show ((0 : Nat) == 1) = false from rfl, show ((1 : Nat) == 1) = true from rfl, bne_eq_false_iff_eq, bne_iff_ne]; omega
    have e2 : ((x != 0) = (0 == 0) ∧ (y != 0) = (1 == 0)) ↔ (x > 0 ∧ y = 0) := by
      rw [show ((0 : Nat) == 0) = true from rfl, show ((1 : Nat) == 0) = false from rfl, bne_eq_false_iff_eq, bne_iff_ne]; omega
    have e3 : (254 = x ∧ 255 = y) ↔ (x = 254 ∧ y = 255) := by omega
    have e4 : (255 = x ∧ 254 = y) ↔ (x = 255 ∧ y = 254) := by omega
    simp only [e1, e2, e3, e4, show ¬ ((-1 : Int) = 254) by omega, show ¬ ((-1 : Int) = 0) by omega, show ¬ ((-1 : Int) = 191) by omega, show ¬ ((-1 : Int) > 0) by omega, and_false, false_and, if_false]
  | [x, y, z], h =>
    have hx := h.head; have hy := h.tail.head; have hz := h.tail.tail.head
    rw [sized_few _ 4 _ (by simp), sized_few _ 4 _ (by simp), sized2, sized2]
    have p0 : ([0, 0, 254, 255] : List Int).isPrefixOf [x, y, z] = false := by simp [List.isPrefixOf]
    have p1 : ([255, 254, 0, 0] : List Int).isPrefixOf [x, y, z] = false := by simp [List.isPrefixOf]
    rw [p0, p1]
    have a0 : atI [x, y, z] 0 = x := rfl
    have a1 : atI [x, y, z] 1 = y := rfl
    have a2 : atI [x, y, z] 2 = z := rfl
    have a3 : atI [x, y, z] 3 = -1 := rfl
    rw [a0, a1, a2, a3]
    simp only [List.isPrefixOf, Bool.and_true, Bool.and_eq_true, beq_iff_eq, Bool.false_eq_true, if_false]
    have e1 : ((x != 0) = (0 == 1) ∧ (y != 0) = (1 == 1)) ↔ (x = 0 ∧ y > 0) := by
      rw [show ((0 : Nat) == 1) = false from rfl, show ((1 : Nat) == 1) = true from rfl, bne_eq_false_iff_eq, bne_iff_ne]; omega
    have e2 : ((x != 0) = (0 == 0) ∧ (y != 0) = (1 == 0)) ↔ (x > 0 ∧ y = 0) := by
      rw [show ((0 : Nat) == 0) = true from rfl, show ((1 : Nat) == 0) = false from rfl, bne_eq_false_iff_eq, bne_iff_ne]; omega
    have e3 : (254 = x ∧ 255 = y) ↔ (x = 254 ∧ y = 255) := by omega
    have e4 : (255 = x ∧ 254 = y) ↔ (x = 255 ∧ y = 254) := by omega
    have e5 : (239 = x ∧ 187 = y ∧ 191 = z) ↔ (x = 239 ∧ y = 187 ∧ z = 191) := by omega
    simp only [e1, e2, e3, e4, e5, show ¬ ((-1 : Int) = 255) by omega, show ¬ ((-1 : Int) = 0) by omega, show ¬ ((-1 : Int) > 0) by omega, and_false, false_and, if_false]
  | x :: y :: z :: u :: r, h =>
    have hx := h.head; have hy := h.tail.head; have hz := h.tail.tail.head; have hu := h.tail.tail.tail.head
    rw [sized4, sized4, sized2, sized2]
    have a0 : atI (x :: y :: z :: u :: r) 0 = x := rfl
    have a1 : atI (x :: y :: z :: u :: r) 1 = y := rfl
    have a2 : atI (x :: y :: z :: u :: r) 2 = z := rfl
    have a3 : atI (x :: y :: z :: u :: r) 3 = u := rfl
    rw [a0, a1, a2, a3]
    simp only [List.isPrefixOf, Bool.and_true, Bool.and_eq_true, beq_iff_eq]
    have e1 : ((x != 0) = (0 == 1) ∧ (y != 0) = (1 == 1)) ↔ (x = 0 ∧ y > 0) := by
      rw [show ((0 : Nat) == 1) = false from rfl, show ((1 : Nat) == 1) = true from rfl, bne_eq_false_iff_eq, bne_iff_ne]; omega
    have e2 : ((x != 0) = (0 == 0) ∧ (y != 0) = (1 == 0)) ↔ (x > 0 ∧ y = 0) := by
      rw [show ((0 : Nat) == 0) = true from rfl, show ((1 : Nat) == 0) = false from rfl, bne_eq_false_iff_eq, bne_iff_ne]; omega
    have e3 : (254 = x ∧ 255 = y) ↔ (x = 254 ∧ y = 255) := by omega
    have e4 : (255 = x ∧ 254 = y) ↔ (x = 255 ∧ y = 254) := by omega
    have e5 : (239 = x ∧ 187 = y ∧ 191 = z) ↔ (x = 239 ∧ y = 187 ∧ z = 191) := by omega
    have e6 : ((x != 0) = (0 == 3) ∧ (y != 0) = (1 == 3) ∧ (z != 0) = (2 == 3) ∧ (u != 0) = (3 == 3)) ↔ (x = 0 ∧ y = 0 ∧ z = 0 ∧ u > 0) := by
      rw [show ((0 : Nat) == 3) = false from rfl, show ((1 : Nat) == 3) = false from rfl, show ((2 : Nat) == 3) = false from rfl, show ((3 : Nat) == 3) = true from rfl, bne_eq_false_iff_eq, bne_eq_false_iff_eq, bne_eq_false_iff_eq, bne_iff_ne]; omega
    have e7 : ((x != 0) = (0 == 0) ∧ (y != 0) = (1 == 0) ∧ (z != 0) = (2 == 0) ∧ (u != 0) = (3 == 0)) ↔ (x > 0 ∧ y = 0 ∧ z = 0 ∧ u = 0) := by
      rw [show ((0 : Nat) == 0) = true from rfl, show ((1 : Nat) == 0) = false from rfl, show ((2 : Nat) == 0) = false from rfl, show ((3 : Nat) == 0) = false from rfl, bne_eq_false_iff_eq, bne_eq_false_iff_eq, bne_eq_false_iff_eq, bne_iff_ne]; omega
    have e8 : (0 = x ∧ 0 = y ∧ 254 = z ∧ 255 = u) ↔ (x = 0 ∧ y = 0 ∧ z = 254 ∧ u = 255) := by omega
    have e9 : (255 = x ∧ 254 = y ∧ 0 = z ∧ 0 = u) ↔ (x = 255 ∧ y = 254 ∧ z = 0 ∧ u = 0) := by omega
    simp only [e1, e2, e3, e4, e5, e6, e7, e8, e9]
theorem Detect_eq (k : Nat) (hk : 6 ≤ k) (l : List Int) (h : isB l) : utf_Detect.f k l = some (dd (atI l 0) (atI l 1) (atI l 2) (atI l 3)) := by
  unfold utf_Detect.f
  rw [if_pos hk, det_eq l h]
end Go.Proofs.YtmpdggphhhljhaaDoor.UtfSpec
